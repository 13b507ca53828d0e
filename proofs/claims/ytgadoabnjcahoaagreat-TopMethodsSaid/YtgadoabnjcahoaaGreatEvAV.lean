/- An evaluator of the program's code over typed values, and what its operations promise. -/
import Derived.Tactics
import Derived.KernelRfl
import Derived.Laws.CopyRow
import Derived.Laws.Cells
import Derived.Laws.AppendOwn
import Derived.Laws.StructEq
import Derived.ChangeKeysEq
set_option exponentiation.threshold 2000
namespace Go.Ev
set_option linter.unusedVariables false

/-- Codes of the Go types that the evaluator knows. -/
inductive Ty where
  | int (k : IntKind)
  | bool
  | str
  | pair (a b : Ty)
  | one (a : Ty)
  | arr (n : Nat) (e : Ty)
  | sl (e : Ty)
  /-- A row of which slices are written in place: an object alone. -/
  | vec (e : Ty)
  /-- A slice of the row n, from its beginning on: a loop's variable alone. -/
  | hdl (n : Nat) (e : Ty)

@[reducible] def Ty.den : Ty → Type
  | .int _ => Int
  | .bool => Bool
  | .str => ByteArray
  | .pair a b => a.den × b.den
  | .one a => a.den
  | .arr _ e => List e.den
  | .sl e => List e.den
  | .vec e => List e.den
  | .hdl _ _ => Int × Int

def kindNo : IntKind → Nat
  | .i8 => 0 | .i16 => 1 | .i32 => 2 | .i64 => 3 | .u8 => 4 | .u16 => 5 | .u32 => 6 | .u64 => 7

def Ty.beq : Ty → Ty → Bool
  | .int j, .int k => Nat.beq (kindNo j) (kindNo k)
  | .bool, .bool => true
  | .str, .str => true
  | .pair a b, .pair c d => Ty.beq a c && Ty.beq b d
  | .one a, .one b => Ty.beq a b
  | .arr n a, .arr m b => Nat.beq n m && Ty.beq a b
  | .sl a, .sl b => Ty.beq a b
  | .vec a, .vec b => Ty.beq a b
  | .hdl n a, .hdl m b => Nat.beq n m && Ty.beq a b
  | _, _ => false

theorem kindNo_inj {j k : IntKind} (h : kindNo j = kindNo k) : j = k := by
  cases j <;> cases k <;> simp [kindNo] at h <;> rfl

theorem Ty.eq_of_beq : {a b : Ty} → Ty.beq a b = true → a = b
  | .int j, .int k, h => by rw [kindNo_inj (Nat.eq_of_beq_eq_true h)]
  | .bool, .bool, _ => rfl
  | .str, .str, _ => rfl
  | .pair a b, .pair c d, h => by
    simp only [Ty.beq, Bool.and_eq_true] at h
    rw [Ty.eq_of_beq h.1, Ty.eq_of_beq h.2]
  | .one a, .one b, h => by rw [Ty.eq_of_beq (a := a) (b := b) h]
  | .arr n a, .arr m b, h => by
    simp only [Ty.beq, Bool.and_eq_true] at h
    rw [Nat.eq_of_beq_eq_true h.1, Ty.eq_of_beq h.2]
  | .sl a, .sl b, h => by rw [Ty.eq_of_beq (a := a) (b := b) h]
  | .vec a, .vec b, h => by rw [Ty.eq_of_beq (a := a) (b := b) h]
  | .hdl n a, .hdl m b, h => by
    simp only [Ty.beq, Bool.and_eq_true] at h
    rw [Nat.eq_of_beq_eq_true h.1, Ty.eq_of_beq h.2]
  | .int _, .bool, h | .int _, .str, h | .int _, .pair _ _, h | .int _, .one _, h | .int _, .arr _ _, h | .int _, .sl _, h | .int _, .vec _, h | .int _, .hdl _ _, h
  | .bool, .int _, h | .bool, .str, h | .bool, .pair _ _, h | .bool, .one _, h | .bool, .arr _ _, h | .bool, .sl _, h | .bool, .vec _, h | .bool, .hdl _ _, h
  | .str, .int _, h | .str, .bool, h | .str, .pair _ _, h | .str, .one _, h | .str, .arr _ _, h | .str, .sl _, h | .str, .vec _, h | .str, .hdl _ _, h
  | .pair _ _, .int _, h | .pair _ _, .bool, h | .pair _ _, .str, h | .pair _ _, .one _, h | .pair _ _, .arr _ _, h | .pair _ _, .sl _, h | .pair _ _, .vec _, h | .pair _ _, .hdl _ _, h
  | .one _, .int _, h | .one _, .bool, h | .one _, .str, h | .one _, .pair _ _, h | .one _, .arr _ _, h | .one _, .sl _, h | .one _, .vec _, h | .one _, .hdl _ _, h
  | .arr _ _, .int _, h | .arr _ _, .bool, h | .arr _ _, .str, h | .arr _ _, .pair _ _, h | .arr _ _, .one _, h | .arr _ _, .sl _, h | .arr _ _, .vec _, h | .arr _ _, .hdl _ _, h
  | .sl _, .int _, h | .sl _, .bool, h | .sl _, .str, h | .sl _, .pair _ _, h | .sl _, .one _, h | .sl _, .arr _ _, h | .sl _, .vec _, h | .sl _, .hdl _ _, h
  | .vec _, .int _, h | .vec _, .bool, h | .vec _, .str, h | .vec _, .pair _ _, h | .vec _, .one _, h | .vec _, .arr _ _, h | .vec _, .sl _, h | .vec _, .hdl _ _, h
  | .hdl _ _, .int _, h | .hdl _ _, .bool, h | .hdl _ _, .str, h | .hdl _ _, .pair _ _, h | .hdl _ _, .one _, h | .hdl _ _, .arr _ _, h | .hdl _ _, .sl _, h | .hdl _ _, .vec _, h => by
    simp [Ty.beq] at h

def Ty.size : Ty → Nat
  | .pair a b => a.size + b.size
  | .one a => a.size
  | .arr n e => n * e.size
  | _ => 1

def Ty.agg : Ty → Bool
  | .pair _ _ | .one _ | .arr _ _ => true
  | _ => false

def Ty.dflt : (τ : Ty) → τ.den
  | .int _ => (0 : Int)
  | .bool => false
  | .str => ByteArray.empty
  | .pair a b => (a.dflt, b.dflt)
  | .one a => a.dflt
  | .arr n e => List.replicate n e.dflt
  | .sl _ => []
  | .vec _ => []
  | .hdl _ _ => ((0 : Int), (0 : Int))

def Ty.isVec : Ty → Bool
  | .vec _ => true
  | _ => false

/-- A value with its code. -/
structure TV where
  ty : Ty
  x : ty.den

def TV.as (τ : Ty) (t : TV) : Option τ.den :=
  if h : Ty.beq t.ty τ = true then some (Ty.eq_of_beq h ▸ t.x) else none

inductive Step where
  | fst
  | snd
  | at (i : Int)
  | sub (lo m : Nat)

abbrev Path := List Step

/-- The part of a value at a path. -/
def get : (τ : Ty) → τ.den → Path → Option TV
  | τ, x, [] => some ⟨τ, x⟩
  | .pair a _, x, .fst :: p => get a x.1 p
  | .pair _ b, x, .snd :: p => get b x.2 p
  | .one a, x, .fst :: p => get a x p
  | .arr _ e, l, .at i :: p => get e (l.getD i.toNat e.dflt) p
  | .arr n e, l, .sub lo m :: p => if Nat.ble (lo + m) n then get (.arr m e) ((l.drop lo).take m) p else none
  | _, _, _ => none

/-- The value with another part at a path. -/
def put : (τ : Ty) → τ.den → Path → TV → Option τ.den
  | τ, _, [], t => t.as τ
  | .pair a _, x, .fst :: p, t => match put a x.1 p t with
    | some y => some (y, x.2)
    | none => none
  | .pair _ b, x, .snd :: p, t => match put b x.2 p t with
    | some y => some (x.1, y)
    | none => none
  | .one a, x, .fst :: p, t => put a x p t
  | .arr _ e, l, .at i :: p, t => match put e (l.getD i.toNat e.dflt) p t with
    | some y => some (l.set i.toNat y)
    | none => none
  | _, _, _, _ => none

def tyAt : Ty → Path → Option Ty
  | τ, [] => some τ
  | .pair a _, .fst :: p => tyAt a p
  | .pair _ b, .snd :: p => tyAt b p
  | .one a, .fst :: p => tyAt a p
  | .arr _ e, .at _ :: p => tyAt e p
  | .arr n e, .sub lo m :: p => if Nat.ble (lo + m) n then tyAt (.arr m e) p else none
  | _, _ => none

/-- The steps to field i of a struct of n fields. -/
def fieldSteps : Nat → Nat → Path
  | 1, 0 => [.fst]
  | 2, 0 => [.fst]
  | 2, 1 => [.snd]
  | n + 3, 0 => [.fst]
  | n + 3, i + 1 => .snd :: fieldSteps (n + 2) i
  | _, _ => []

inductive SV where
  | tv (t : TV)
  | ptr (n : Nat) (τ : Ty) (p : Path)
  | sptr (t : TV)
  | osl (n : Nat) (τ : Ty) (p : Path) (lo hi : Int)
  /-- The first hi elements of the row n; m: its room, if it is not below 0. -/
  | vsl (n : Nat) (e : Ty) (hi m : Int)
  | vptr (n : Nat) (e : Ty) (i : Int) (p : Path)
  | fn (f : FuncId) (first caps : List SV)
  | tup (l : List SV)
  | nilsl
  | nilfn
  | nilp
  | undef

def SV.as (τ : Ty) : SV → Option τ.den
  | .tv t => t.as τ
  | .nilsl => match τ with
    | .sl _ => some []
    | _ => none
  | _ => none

/-- A loop's variable: a typed value, or a slice of a row. -/
def SV.asT : (τ : Ty) → SV → Option τ.den
  | .hdl n e, v => match v with
    | .vsl n' e' hi m => bif Nat.beq n n' && Ty.beq e e' then some (hi, m) else none
    | _ => none
  | τ, v => v.as τ

def mkSV : (τ : Ty) → τ.den → SV
  | .hdl n e, x => .vsl n e x.1 x.2
  | τ, x => .tv ⟨τ, x⟩

structure St where
  tt : List (Nat × SV)
  tl : List (Nat × SV)
  ot : List (Nat × TV)
  ol : List (Nat × TV)
  /-- Slices that may be appended to in place: the tmp, its element's type, and how many cells an element has. -/
  gr : List (Nat × (Nat × Nat)) := []

def lk {α : Type} (t : Nat) : List (Nat × α) → Option α
  | [] => none
  | (u, x) :: r => bif Nat.beq t u then some x else lk t r

def St.tmp (st : St) (t : Nat) : Option SV :=
  match lk t st.tt with
  | some v => some v
  | none => lk t st.tl

def St.obj (st : St) (n : Nat) : Option TV :=
  match lk n st.ot with
  | some v => some v
  | none => lk n st.ol

def constSV : Value → Option SV
  | .int k n => some (.tv ⟨.int k, n⟩)
  | .bool b => some (.tv ⟨.bool, b⟩)
  | .string s => some (.tv ⟨.str, s⟩)
  | .slice none 0 0 => some .nilsl
  | .nilFunc => some .nilfn
  | .pointer none => some .nilp
  | _ => none

def St.val (st : St) : Operand → Option SV
  | .tmp t => st.tmp t
  | .const v => constSV v
  | .func f => some (.fn f [] [])
  | .global _ => none

inductive Arg where
  | val (t : TV)
  | ref (t : TV)

abbrev Spec := List Arg → (R : Type) → (List TV → List TV → Option R) → Option R

inductive Ex where
  | normal
  | ret
  | exit (id : Nat)

structure LoopAnn where
  keepT : List Nat
  keepO : List Nat
  varT : List (Nat × Ty)
  varO : List (Nat × Ty)
  outs : List Ex
  gr : List (Nat × (Nat × Nat)) := []

structure Env where
  elts : List (Nat × (Nat × (Nat × Nat))) := []
  /-- Appends to nil that make a row (1), or that are done one by one (2). -/
  vecs : List (Nat × Nat) := []
  tab : List (Nat × (Ty × Nat))
  fns : List (Nat × Spec)
  bodies : List (Nat × Func)
  loops : List (Nat × List (Nat × LoopAnn))   -- function number, first region of the body
  joins : List (Nat × List (Nat × LoopAnn))   -- function number, tmp of the condition
  fts : List Nat := []   -- function types

def Env.lkF {α : Type 1} (t : Nat) : List (Nat × α) → Option α
  | [] => none
  | (u, x) :: r => bif Nat.beq t u then some x else Env.lkF t r

def Env.ty (E : Env) (T : Nat) : Option (Ty × Nat) := lk T E.tab

abbrev K (R : Type) := SV → List (Nat × TV) → List Nat → Option R   -- the result, objects written, objects read

def arith (op : BinOp) (k : IntKind) (x y : Int) (R : Type) (kk : SV → Option R) : Option R :=
  match op with
  | .add => kk (.tv ⟨.int k, k.wrap (x + y)⟩)
  | .sub => kk (.tv ⟨.int k, k.wrap (x - y)⟩)
  | .mul => kk (.tv ⟨.int k, k.wrap (x * y)⟩)
  | .quo => bif decide (y = 0) then none else kk (.tv ⟨.int k, k.wrap (x.tdiv y)⟩)
  | .rem => bif decide (y = 0) then none else kk (.tv ⟨.int k, x.tmod y⟩)
  | .and => kk (.tv ⟨.int k, k.wrap ((BitVec.ofInt k.bits x &&& BitVec.ofInt k.bits y).toNat : Int)⟩)
  | .or => kk (.tv ⟨.int k, k.wrap ((BitVec.ofInt k.bits x ||| BitVec.ofInt k.bits y).toNat : Int)⟩)
  | .xor => kk (.tv ⟨.int k, k.wrap ((BitVec.ofInt k.bits x ^^^ BitVec.ofInt k.bits y).toNat : Int)⟩)
  | .andNot => kk (.tv ⟨.int k, k.wrap ((BitVec.ofInt k.bits x &&& ~~~ BitVec.ofInt k.bits y).toNat : Int)⟩)
  | .eql => kk (.tv ⟨.bool, x == y⟩)
  | .neq => kk (.tv ⟨.bool, x != y⟩)
  | .lss => kk (.tv ⟨.bool, decide (x < y)⟩)
  | .leq => kk (.tv ⟨.bool, decide (x ≤ y)⟩)
  | .gtr => kk (.tv ⟨.bool, decide (x > y)⟩)
  | .geq => kk (.tv ⟨.bool, decide (x ≥ y)⟩)
  | _ => none

def shiftS (op : BinOp) (k : IntKind) (x y : Int) (R : Type) (kk : SV → Option R) : Option R :=
  match op with
  | .shl => bif decide (y < 0) then none else kk (.tv ⟨.int k, k.wrap (x * 2 ^ (min y.toNat k.bits))⟩)
  | .shr => bif decide (y < 0) then none else kk (.tv ⟨.int k, x.fdiv (2 ^ (min y.toNat k.bits))⟩)
  | _ => none

/-- Equality of values of one code. -/
def eqv : (τ : Ty) → τ.den → τ.den → Bool
  | .int _, x, y => (x : Int) == y
  | .bool, x, y => x == y
  | .str, x, y => x == y
  | .pair a b, x, y => eqv a x.1 y.1 && eqv b x.2 y.2
  | .one a, x, y => eqv a x y
  | .arr _ e, x, y => List.isEqv x y (eqv e)
  | .sl _, _, _ => false
  | .vec _, _, _ => false
  | .hdl _ _, _, _ => false

def Ty.height : Ty → Nat
  | .pair a b => a.height + b.height + 1
  | .one a => a.height + 1
  | .arr _ e => e.height + 1
  | _ => 0

def Ty.eqOk : Ty → Bool
  | .int _ | .bool | .str => true
  | .pair a b => a.eqOk && b.eqOk
  | .one a => a.eqOk
  | .arr _ e => e.eqOk
  | .sl _ => false
  | .vec _ => false
  | .hdl _ _ => false

def strOp (op : BinOp) (x y : ByteArray) (R : Type) (kk : SV → Option R) : Option R :=
  match op with
  | .eql => kk (.tv ⟨.bool, x == y⟩)
  | .neq => kk (.tv ⟨.bool, x != y⟩)
  | _ => none

def nilEq (E : Env) (op : BinOp) (T : Nat) (b : Bool) (R : Type) (kk : SV → Option R) : Option R :=
  bif E.fts.any (Nat.beq T) then (match op with
    | .eql => kk (.tv ⟨.bool, b⟩)
    | .neq => kk (.tv ⟨.bool, !b⟩)
    | _ => none) else none

def binS (E : Env) (op : BinOp) (T : Nat) (a b : SV) (R : Type) (kk : SV → Option R) : Option R :=
  match a, b with
  | .tv ⟨.int k, x⟩, .tv ⟨.int k', y⟩ => match op with
    | .shl => shiftS .shl k x y R kk
    | .shr => shiftS .shr k x y R kk
    | op => bif Nat.beq (kindNo k) (kindNo k') then arith op k x y R kk else none
  | .tv ⟨.str, x⟩, .tv ⟨.str, y⟩ => strOp op x y R kk
  | .tv ⟨τ, x⟩, .tv t => match op with
    | .eql => match E.ty T with
      | some (σ, _) => bif σ.eqOk && Nat.blt σ.height 9999 && Ty.beq τ σ then (match t.as τ with
        | some y => kk (.tv ⟨.bool, eqv τ x y⟩)
        | none => none) else none
      | none => none
    | .neq => match E.ty T with
      | some (σ, _) => bif σ.eqOk && Nat.blt σ.height 9999 && Ty.beq τ σ then (match t.as τ with
        | some y => kk (.tv ⟨.bool, !eqv τ x y⟩)
        | none => none) else none
      | none => none
    | _ => none
  | .fn _ _ _, .nilfn => nilEq E op T false R kk
  | .nilfn, .nilfn => nilEq E op T true R kk
  | _, _ => none

def unS (op : UnOp) (a : SV) (R : Type) (kk : SV → Option R) : Option R :=
  match op, a with
  | .neg, .tv ⟨.int k, x⟩ => kk (.tv ⟨.int k, k.wrap (0 - x)⟩)
  | .not, .tv ⟨.bool, b⟩ => kk (.tv ⟨.bool, !b⟩)
  | .xor, .tv ⟨.int k, x⟩ => kk (.tv ⟨.int k, k.wrap ((BitVec.ofInt k.bits (if k.signed then -1 else k.max) ^^^ BitVec.ofInt k.bits x).toNat : Int)⟩)
  | _, _ => none

/-- The path leads to a value of this code. -/
def pathIs (σ : Ty) (p : Path) (τ : Ty) : Bool :=
  match tyAt σ p with
  | some τ' => Ty.beq τ' τ
  | none => false

def fieldOK (σ : Ty) (p : Path) (τ : Ty) (n i : Nat) : Bool :=
  pathIs σ p τ && (match tyAt τ (fieldSteps n i) with | some _ => true | none => false)

def optVal (st : St) (d : Int) : Option Operand → Option Int
  | none => some d
  | some o => match st.val o with
    | some (.tv ⟨.int _, l⟩) => some l
    | _ => none

def inb (i : Int) (n : Nat) : Bool := decide (0 ≤ i ∧ i < (n : Int))

def partPath (τ : Ty) (n i : Nat) : Option Path :=
  match τ with
  | .arr m _ => bif Nat.blt i m then some [.at (i : Int)] else none
  | _ => bif Nat.blt i n then some (fieldSteps n i) else none

def buildS (st : St) (n : Nat) (τ : Ty) : τ.den → List (Nat × Operand) → Option τ.den
  | x, [] => some x
  | x, (i, o) :: r => match partPath τ n i with
    | some p => match tyAt τ p with
      | some e => match st.val o with
        | some v => match v.as e with
          | some z => match put τ x p ⟨e, z⟩ with
            | some y => buildS st n τ y r
            | none => none
          | none => none
        | none => none
      | none => none
    | none => none

/-- Elements of a slice literal, in order of their places. -/
def litS (st : St) (e : Ty) : List (Nat × Operand) → Nat → Option (List e.den)
  | [], _ => some []
  | (i, o) :: r, j => bif Nat.beq i j then (match st.val o with
      | some v => match v.as e with
        | some x => match litS st e r (j + 1) with
          | some l => some (x :: l)
          | none => none
        | none => none
      | none => none) else none

def vals (st : St) : List Operand → Option (List SV)
  | [] => some []
  | o :: r => match st.val o with
    | some v => match vals st r with
      | some l => some (v :: l)
      | none => none
    | none => none

/-- Arguments of a contract, and the objects that are passed by reference. -/
def toArgs (st : St) : List SV → Option (List Arg × List Nat)
  | [] => some ([], [])
  | .tv t :: r => match toArgs st r with
    | some (l, ns) => some (.val t :: l, ns)
    | none => none
  | .ptr n _ [] :: r => match st.obj n with
    | some t => match toArgs st r with
      | some (l, ns) => bif ns.any (Nat.beq n) then none else some (.ref t :: l, n :: ns)
      | none => none
    | none => none
  | _ :: _ => none

def packRes : List TV → SV
  | [t] => .tv t
  | l => .tup (l.map .tv)

def zipO : List Nat → List TV → List (Nat × TV)
  | n :: ns, t :: ts => (n, t) :: zipO ns ts
  | _, _ => []

abbrev Inl := (off : Nat) → FuncId → List SV → List (Nat × TV) → (R : Type) → (SV → List (Nat × TV) → Option R) → Option R

mutual
def SV.names : SV → List Nat
  | .ptr n _ _ => [n]
  | .osl n _ _ _ _ => [n]
  | .vsl n _ _ _ => [n]
  | .vptr n _ _ _ => [n]
  | .fn _ first caps => namesL first ++ namesL caps
  | .tup l => namesL l
  | _ => []
def namesL : List SV → List Nat
  | [] => []
  | v :: r => v.names ++ namesL r
end

def subObjs (st : St) : List Nat → List (Nat × TV) → Option (List (Nat × TV))
  | [], acc => some acc
  | n :: r, acc => match lk n acc with
    | some _ => subObjs st r acc
    | none => match st.obj n with
      | some t => subObjs st r ((n, t) :: acc)
      | none => none

/-- What comes back beside the objects that were handed on is new. -/
def newOK (st : St) (os os' : List (Nat × TV)) : Bool :=
  os'.all fun x => match lk x.1 os with
    | some _ => true
    | none => match st.obj x.1 with
      | some _ => false
      | none => true

def callS (E : Env) (inl : Inl) (off : Nat) (st : St) (f : FuncId) (svs : List SV) (R : Type) (k : K R) : Option R :=
  match Env.lkF f E.fns with
  | some spec => match toArgs st svs with
    | some (args, ns) => spec args R (fun res refs => bif Nat.beq refs.length ns.length then k (packRes res) (zipO ns refs) ns else none)
    | none => none
  | none => match subObjs st (namesL svs) [] with
    | some os => inl off f svs os R (fun v os' => bif newOK st os os' then k v os' (os.map (·.1)) else none)
    | none => none

def lenS : Option (Ty × Nat) → SV → Option Int
  | some (.sl _, _), .tv ⟨.sl _, l⟩ => some (l.length : Int)
  | some (.str, _), .tv ⟨.str, s⟩ => some (s.size : Int)
  | some (.sl _, _), .nilsl => some 0
  | some (.sl _, _), .vsl _ _ hi _ => some hi
  | _, _ => none

def appLim : Nat := 140737488355328

/-- The elements of a slice, and the object that it lies in. -/
def rowS (st : St) (τ : Ty) (v : SV) : Option (List τ.den × List Nat) :=
  match v with
  | .osl n σ p lo hi => match st.obj n with
    | some ⟨σ', x⟩ => bif Ty.beq σ' σ then (match get σ' x p with
      | some ⟨.arr _ e, a⟩ => match (TV.mk (.sl e) a).as (.sl τ) with
        | some l => some ((l.drop lo.toNat).take (hi - lo).toNat, [n])
        | none => none
      | _ => none) else none
    | none => none
  | v => match v.as (.sl τ) with
    | some l => some (l, [])
    | none => none

/-- A list of which a part is written over. -/
def copyL {α : Type} (a xs : List α) (lo hi : Int) : List α := a.take lo.toNat ++ (xs.take (hi - lo).toNat ++ a.drop (lo.toNat + min xs.length (hi - lo).toNat))

/-- How an append to nil is to be done. -/
def vecMode (E : Env) (d : Nat) : Nat := match lk d E.vecs with
  | some m => m
  | none => 0

def evOp (E : Env) (inl : Inl) (off : Nat) (st : St) (o : Oper) (R : Type) (k : K R) : Option R :=
  match o.op with
  | .move x | .assign x => match st.val x with
    | some v => k v [] []
    | none => none
  | .pick c a b => match st.val c with
    | some (.tv ⟨.bool, c⟩) => bif c then (match st.val a with
        | some v => k v [] []
        | none => none) else (match st.val b with
        | some v => k v [] []
        | none => none)
    | _ => none
  | .alloc T => match o.dst, E.ty T with
    | some d, some (τ, _) => match st.obj (off + d) with
      | none => k (.ptr (off + d) τ []) [(off + d, ⟨τ, τ.dflt⟩)] []
      | some _ => none
    | _, _ => none
  | .box T x => match o.dst, E.ty T, st.val x with
    | some d, some (τ, _), some v => match st.obj (off + d), v.as τ with
      | none, some x => k (.ptr (off + d) τ []) [(off + d, ⟨τ, x⟩)] []
      | _, _ => none
    | _, _, _ => none
  | .build T ps => match E.ty T with
    | some (τ, n) => bif τ.agg then (match buildS st n τ τ.dflt ps.toList with
      | some x => k (.tv ⟨τ, x⟩) [] []
      | none => none) else none
    | none => none
  | .buildSlice T n ps => match E.ty T with
    | some (.sl e, _) => match litS st e ps.toList 0 with
      | some l => bif Nat.beq l.length n && Nat.ble (n * e.size) 16777216 then k (.tv ⟨.sl e, l⟩) [] [] else none
      | none => none
    | _ => none
  | .load T a => match E.ty T with
    | some (τ, _) => match st.val a with
      | some (.ptr n σ p) => match st.obj n with
        | some ⟨σ', x⟩ => bif Ty.beq σ σ' && !σ'.isVec then (match get σ' x p with
          | some t => bif Ty.beq t.ty τ then k (.tv t) [] [n] else none
          | none => none) else none
        | none => none
      | some (.vptr n e i p) => match st.obj n with
        | some ⟨.vec e', l⟩ => bif Ty.beq e e' then (bif inb i l.length then (match get e' (l.getD i.toNat e'.dflt) p with
          | some t => bif Ty.beq t.ty τ then k (.tv t) [] [n] else none
          | none => none) else none) else none
        | _ => none
      | some (.sptr t) => bif Ty.beq t.ty τ then k (.tv t) [] [] else none
      | _ => none
    | none => none
  | .store T a x => match E.ty T with
    | some (τ, _) => match st.val a with
      | some (.ptr n σ p) => match st.obj n with
        | some ⟨σ', y⟩ => bif Ty.beq σ σ' && !σ'.isVec then (match st.val x with
          | some v => match v.as τ with
            | some z => match put σ' y p ⟨τ, z⟩ with
              | some y' => k .undef [(n, ⟨σ', y'⟩)] [n]
              | none => none
            | none => none
          | none => none) else none
        | none => none
      | some (.vptr n e i p) => match st.obj n with
        | some ⟨.vec e', l⟩ => bif Ty.beq e e' then (bif inb i l.length then (match st.val x with
          | some v => match v.as τ with
            | some z => match put e' (l.getD i.toNat e'.dflt) p ⟨τ, z⟩ with
              | some y' => k .undef [(n, ⟨.vec e', l.set i.toNat y'⟩)] [n]
              | none => none
            | none => none
          | none => none) else none) else none
        | _ => none
      | _ => none
    | none => none
  | .nilCheck x => match st.val x with
    | some (.ptr n τ p) => k (.ptr n τ p) [] []
    | some (.sptr t) => k (.sptr t) [] []
    | some (.fn f l m) => k (.fn f l m) [] []
    | some (.vptr n e i p) => k (.vptr n e i p) [] []
    | _ => none
  | .binOp op T x y _ => match st.val x, st.val y with
    | some a, some b => binS E op T a b R (fun v => k v [] [])
    | _, _ => none
  | .unOp op _ x => match st.val x with
    | some a => unS op a R (fun v => k v [] [])
    | none => none
  | .convert s d x => match E.ty s, E.ty d, st.val x with
    | some (.int _, _), some (.int j, _), some (.tv ⟨.int _, n⟩) => k (.tv ⟨.int j, j.wrap n⟩) [] []
    | some (.str, _), some (.str, _), some (.tv ⟨.str, n⟩) => k (.tv ⟨.str, n⟩) [] []
    | _, _, _ => none
  | .fieldAddr T x i => match E.ty T with
    | some (τ, n) => bif Nat.blt i n then (match st.val x with
      | some (.ptr m σ p) => bif fieldOK σ p τ n i then k (.ptr m σ (p ++ fieldSteps n i)) [] [] else none
      | some (.sptr ⟨σ, y⟩) => bif Ty.beq σ τ then (match get σ y (fieldSteps n i) with
        | some t => k (.sptr t) [] []
        | none => none) else none
      | some (.vptr m e j p) => bif fieldOK e p τ n i then k (.vptr m e j (p ++ fieldSteps n i)) [] [] else none
      | _ => none) else none
    | none => none
  | .field T x i => match E.ty T with
    | some (τ, n) => bif Nat.blt i n then (match st.val x with
      | some (.tv ⟨σ, y⟩) => bif Ty.beq σ τ then (match get σ y (fieldSteps n i) with
        | some t => k (.tv t) [] []
        | none => none) else none
      | _ => none) else none
    | none => none
  | .indexAddr T x i => match E.ty T with
    | some (.arr n e, _) => match st.val x, st.val i with
      | some (.ptr m σ p), some (.tv ⟨.int _, j⟩) => bif pathIs σ p (.arr n e) then (bif inb j n then k (.ptr m σ (p ++ [.at j])) [] [] else none) else none
      | _, _ => none
    | some (.sl e, _) => match st.val x, st.val i with
      | some (.tv ⟨.sl e', l⟩), some (.tv ⟨.int _, j⟩) => bif Ty.beq e e' then (bif inb j l.length then k (.sptr ⟨e', l.getD j.toNat e'.dflt⟩) [] [] else none) else none
      | some (.vsl n e' hi _), some (.tv ⟨.int _, j⟩) => bif Ty.beq e e' then (bif decide (0 ≤ j ∧ j < hi) then k (.vptr n e' j []) [] [] else none) else none
      | _, _ => none
    | _ => none
  | .index T x i => match E.ty T with
    | some (.arr n e, _) => match st.val x, st.val i with
      | some (.tv ⟨.arr m e', l⟩), some (.tv ⟨.int _, j⟩) =>
        bif Ty.beq e e' && Nat.beq n m then (bif inb j n then k (.tv ⟨e', l.getD j.toNat e'.dflt⟩) [] [] else none) else none
      | _, _ => none
    | some (.str, _) => match st.val x, st.val i with
      | some (.tv ⟨.str, s⟩), some (.tv ⟨.int _, j⟩) => bif inb j s.size then k (.tv ⟨.int .u8, ((s.data.toList.getD j.toNat 0).toNat : Int)⟩) [] [] else none
      | _, _ => none
    | _ => none
  | .slice T x lo hi none => match E.ty T with
    | some (.arr n e, _) => match st.val x, optVal st 0 lo, optVal st (n : Int) hi with
      | some (.ptr m σ p), some l, some h => bif pathIs σ p (.arr n e) then (bif decide (0 ≤ l ∧ l ≤ h ∧ h ≤ (n : Int)) then k (.osl m σ p l h) [] [] else none) else none
      | _, _, _ => none
    | some (.sl e, _) => match st.val x with
      | some (.tv ⟨.sl e', s⟩) => match optVal st 0 lo, optVal st (s.length : Int) hi with
        | some l, some h => bif Ty.beq e e' then (bif decide (0 ≤ l ∧ l ≤ h ∧ h ≤ (s.length : Int)) then k (.tv ⟨.sl e', (s.take h.toNat).drop l.toNat⟩) [] [] else none) else none
        | _, _ => none
      | _ => none
    | _ => none
  | .slice T x lo (some hh) (some mx) => match E.ty T with
    | some (.sl e, _) => match st.val x with
      | some (.vsl n e' h0 m0) => match optVal st 0 lo, optVal st h0 (some hh), optVal st 0 (some mx) with
        | some l, some h, some m => bif Ty.beq e e' then (bif decide (l = 0 ∧ 0 ≤ h ∧ h ≤ m ∧ m ≤ h0) then k (.vsl n e' h m) [] [] else none) else none
        | _, _, _ => none
      | _ => none
    | _ => none
  | .sliceToArrayPointer T x => match E.ty T with
    | some (.arr n e, _) => match st.val x with
      | some (.osl m σ p l h) => match tyAt σ p with
        | some (.arr m' e') => bif Ty.beq e e' && Nat.blt 0 n && Nat.ble (l.toNat + n) m' then (bif decide ((n : Int) ≤ h - l) then k (.ptr m σ (p ++ [.sub l.toNat n])) [] [] else none) else none
        | _ => none
      | _ => none
    | _ => none
  | .extract x i => match st.val x with
    | some (.tup l) => match l[i]? with
      | some v => k v [] []
      | none => none
    | _ => none
  | .makeFunc (.func f) first caps => match vals st first.toList, vals st caps.toList with
    | some m, some l => k (.fn f m l) [] []
    | _, _ => none
  | .call c => match c.callee with
    | .value g => match st.val g, vals st c.args.toList with
      | some (.fn f first caps), some l => callS E inl ((off + (match o.dst with | some d => d | none => 0) + 1) * 1024) st f (first ++ (l ++ caps)) R k
      | _, _ => none
    | .builtin .len => match c.argTypes.toList, vals st c.args.toList with
      | [T], some [v] => match lenS (E.ty T) v with
        | some n => k (.tv ⟨.int .i64, n⟩) [] []
        | none => none
      | _, _ => none
    | .builtin .append => match o.dst, c.argTypes.toList, c.args.toList with
      | some d, [T, T'], [s, x] => match lk T E.elts, E.ty T, st.val s, st.val x with
        | some q, some (.sl τ, _), some .nilsl, some vx => match vecMode E (off + d) with
          | 1 => match vx.as (.sl τ) with
            | some xs => bif Nat.beq T T' && Nat.beq τ.size q.2.1 then (bif xs.isEmpty || !(Nat.ble (xs.length * q.2.2) appLim) then none else (match st.obj (off + d) with
              | none => k (.vsl (off + d) τ (xs.length : Int) (-1)) [(off + d, ⟨.vec τ, xs⟩)] []
              | some _ => none)) else none
            | none => none
          | _ => match rowS st τ vx with
            | some xr => bif Nat.beq T T' && Nat.beq τ.size q.2.1 then (bif Nat.ble (xr.1.length * q.2.2) appLim then k (.tv ⟨.sl τ, xr.1⟩) [] xr.2 else none) else none
            | none => none
        | some q, some (.sl τ, _), some (.vsl n e hi m), some vx => match vx.as (.sl τ), st.obj n with
          | some xs, some t => match t.as (.vec τ) with
            | some l => bif Nat.beq T T' && (Nat.beq τ.size q.2.1 && Ty.beq e τ) then (bif xs.isEmpty || !(decide (hi + (xs.length : Int) ≤ m ∧ m ≤ (l.length : Int))) then none else
              k (.vsl n e (hi + (xs.length : Int)) m) [(n, ⟨.vec τ, copyL l xs hi (hi + (xs.length : Int))⟩)] [n]) else none
            | none => none
          | _, _ => none
        | _, _, _, _ => none
      | _, _, _ => none
    | .builtin .copy => match c.argTypes.toList, c.args.toList with
      | [T, _], [d, x] => match E.ty T, st.val d, st.val x with
        | some (.sl τ, _), some (.osl n σ [] lo hi), some vx => match st.obj n with
          | some ⟨.arr m e, a⟩ => bif Ty.beq e τ && Ty.beq σ (.arr m e) then (match vx.as (.sl e) with
            | some xs => k (.tv ⟨.int .i64, ((min xs.length (hi - lo).toNat : Nat) : Int)⟩) [(n, ⟨.arr m e, copyL a xs lo hi⟩)] [n]
            | none => none) else none
          | _ => none
        | _, _, _ => none
      | _, _ => none
    | .builtin .min => match vals st c.args.toList with
      | some [.tv ⟨.int j, x⟩, .tv ⟨.int j', y⟩] => bif Nat.beq (kindNo j) (kindNo j') then k (.tv ⟨.int j, min x y⟩) [] [] else none
      | _ => none
    | .builtin .max => match vals st c.args.toList with
      | some [.tv ⟨.int j, x⟩, .tv ⟨.int j', y⟩] => bif Nat.beq (kindNo j) (kindNo j') then k (.tv ⟨.int j, max x y⟩) [] [] else none
      | _ => none
    | _ => none
  | _ => none

structure FP where
  rt : List Nat
  wt : List Nat
  ro : List Nat
  wo : List Nat

def opTmps : List Operand → List Nat
  | [] => []
  | .tmp t :: r => t :: opTmps r
  | _ :: r => opTmps r

def St.set (st : St) (d : Option Nat) (v : SV) (os : List (Nat × TV)) : St :=
  { st with tt := (match d with | some t => (t, v) :: st.tt | none => st.tt), ot := os ++ st.ot }

def guardT (all : List Oper) (o : Oper) : Option Nat :=
  match o.guard with
  | some (j, _) => match all[j]? with
    | some g => g.dst
    | none => none
  | none => none

def fpOf (o : Oper) (g : Option Nat) (ro wo : List Nat) : FP :=
  { rt := (match g with | some t => t :: opTmps o.op.operands.toList | none => opTmps o.op.operands.toList),
    wt := o.dst.toList, ro, wo }

def dstOK (nt : Nat) : Option Nat → Bool
  | none => true
  | some d => Nat.blt d nt

def evOps (E : Env) (inl : Inl) (off nt : Nat) (all : List Oper) (R : Type) (k : St → List FP → Option R) : List Oper → St → List FP → Option R
  | [], st, fps => k st fps
  | o :: rest, st, fps => bif !dstOK nt o.dst then none else
    match o.guard with
    | none => evOp E inl off st o R (fun v os ro => evOps E inl off nt all R k rest (st.set o.dst v os) (fpOf o none ro (os.map (·.1)) :: fps))
    | some (_, want) => match guardT all o with
      | none => none
      | some t => match st.tmp t with
        | some (.tv ⟨.bool, b⟩) =>
          bif b then
            (bif want then
              evOp E inl off (st.set (some t) (.tv ⟨.bool, true⟩) []) o R (fun v os ro => evOps E inl off nt all R k rest ((st.set (some t) (.tv ⟨.bool, true⟩) []).set o.dst v os) (fpOf o (some t) ro (os.map (·.1)) :: fps))
             else evOps E inl off nt all R k rest ((st.set (some t) (.tv ⟨.bool, true⟩) []).set o.dst .undef []) (fpOf o (some t) [] [] :: fps))
          else
            (bif want then evOps E inl off nt all R k rest ((st.set (some t) (.tv ⟨.bool, false⟩) []).set o.dst .undef []) (fpOf o (some t) [] [] :: fps)
             else evOp E inl off (st.set (some t) (.tv ⟨.bool, false⟩) []) o R (fun v os ro => evOps E inl off nt all R k rest ((st.set (some t) (.tv ⟨.bool, false⟩) []).set o.dst v os) (fpOf o (some t) ro (os.map (·.1)) :: fps)))
        | some .undef => evOps E inl off nt all R k rest (st.set o.dst .undef []) (fpOf o (some t) [] [] :: fps)
        | _ => none

/-! ### Appending -/
def isApp (o : Oper) : Bool := match o.op with
  | .call c => match c.callee with
    | .builtin .append => true
    | _ => false
  | _ => false

def noTok (t : Nat) (gr : List (Nat × (Nat × Nat))) : List (Nat × (Nat × Nat)) := gr.filter fun q => !Nat.beq q.1 t

def tokOf (st : St) : Operand → Option (Nat × (Nat × Nat))
  | .tmp u => st.gr.find? fun q => Nat.beq q.1 u
  | _ => none

def isNilV : SV → Bool
  | .nilsl => true
  | _ => false

def tokHas (st : St) (s : Operand) (q : Nat × (Nat × Nat)) : Bool := match tokOf st s with
  | some t => Nat.beq t.2.1 q.1 && Nat.beq t.2.2 q.2.1
  | none => false

/-- An append: its slice, what is appended, the element's type and cells, and whether it may be done. -/
def appOf (E : Env) (st : St) (o : Oper) : Option ((τ : Ty) × (List τ.den × List τ.den × (Nat × (Nat × Nat)) × Operand)) :=
  match o.op with
  | .call c => match c.callee with
    | .builtin .append => match c.argTypes.toList, c.args.toList with
      | [T, T'], [s, x] => match lk T E.elts, E.ty T with
        | some q, some (.sl τ, _) => match st.val s, st.val x with
          | some vs, some vx => match vs.as (.sl τ), vx.as (.sl τ) with
            | some l, some xs => bif Nat.beq T T' && (Nat.beq τ.size q.2.1 && (isNilV vs || tokHas st s q)) then some ⟨τ, (l, xs, q, s)⟩ else none
            | _, _ => none
          | _, _ => none
        | _, _ => none
      | _, _ => none
    | _ => none
  | _ => none

/-- A move of what may be appended to in place. -/
def tokMove (st : St) (o : Oper) : Option ((Nat × (Nat × Nat)) × SV) :=
  match o.op with
  | .move x => match tokOf st x, st.val x with
    | some q, some v => some (q, v)
    | _, _ => none
  | .assign x => match tokOf st x, st.val x with
    | some q, some v => some (q, v)
    | _, _ => none
  | _ => none

def srcTok : Operand → List (Nat × (Nat × Nat)) → List (Nat × (Nat × Nat))
  | .tmp u, gr => noTok u gr
  | _, gr => gr

/-- An append that makes a row, or is into a row. -/
def vecApp (E : Env) (off : Nat) (st : St) (o : Oper) : Bool := match o.op with
  | .call c => match c.callee with
    | .builtin .append => (match o.dst with
      | some d => !(Nat.beq (vecMode E (off + d)) 0)
      | none => false) || (match c.args.toList with
      | s :: _ => (match st.val s with
        | some (.vsl _ _ _ _) => true
        | _ => false)
      | [] => false)
    | _ => false
  | _ => false

noncomputable def evOpsG (E : Env) (inl : Inl) (off nt : Nat) (R : Type) (k : St → Option R) : List Oper → St → Option R
  | [], st => k st
  | o :: rest, st => bif !dstOK nt o.dst then none else match o.guard with
    | some _ => none
    | none => match o.dst with
      | none => evOp E inl off st o R (fun v os _ => evOpsG E inl off nt R k rest (st.set none v os))
      | some d => match tokMove st o with
        | some qv => evOpsG E inl off nt R k rest { st.set (some d) qv.2 [] with gr := (d, qv.1.2) :: noTok d (noTok qv.1.1 st.gr) }
        | none => bif isApp o && !vecApp E off st o then (match appOf E st o with
          | some ⟨τ, (l, xs, q, s)⟩ => bif xs.isEmpty || !Nat.ble ((l.length + xs.length) * q.2.2) appLim then none else
              evOpsG E inl off nt R k rest { st.set (some d) (.tv ⟨.sl τ, l ++ xs⟩) [] with gr := (d, (q.1, q.2.1)) :: noTok d (srcTok s st.gr) }
          | none => none) else
          evOp E inl off { st with gr := noTok d st.gr } o R (fun v os _ => evOpsG E inl off nt R k rest ({ st with gr := noTok d st.gr }.set (some d) v os))

/-- Tokens when those of 'gd' are gone and 'ga' have come. -/
def gapp (gd : List Nat) (ga gr : List (Nat × (Nat × Nat))) : List (Nat × (Nat × Nat)) := ga ++ gr.filter fun q => !gd.any (Nat.beq q.1)

def isTokApp (st : St) (o : Oper) : Bool := match o.op with
  | .call c => match c.callee with
    | .builtin .append => match c.args.toList with
      | [s, _] => (tokOf st s).isSome
      | _ => false
    | _ => false
  | _ => false

/-- A region that is carried out in whatever order, with appends in it. -/
noncomputable def evOpsT (E : Env) (inl : Inl) (off nt : Nat) (R : Type) (k : St → List FP → Option R) : List Oper → St → List FP → Option R
  | [], st, fps => k st fps
  | o :: rest, st, fps => bif !dstOK nt o.dst then none else match o.guard with
    | some _ => none
    | none => match o.dst with
      | none => evOp E inl off st o R (fun v os ro => evOpsT E inl off nt R k rest { st.set none v os with gr := gapp [] [] st.gr } (fpOf o none ro (os.map (·.1)) :: fps))
      | some d => match tokMove st o with
        | some qv => evOpsT E inl off nt R k rest { st.set (some d) qv.2 [] with gr := gapp [d, qv.1.1] [(d, qv.1.2)] st.gr } ({ rt := opTmps o.op.operands.toList, wt := [d, qv.1.1], ro := [], wo := [] } :: fps)
        | none => bif isTokApp st o then (match appOf E st o with
          | some ⟨τ, (l, xs, q, s)⟩ => bif xs.isEmpty || !Nat.ble ((l.length + xs.length) * q.2.2) appLim then none else
              evOpsT E inl off nt R k rest { st.set (some d) (.tv ⟨.sl τ, l ++ xs⟩) [] with gr := gapp (d :: opTmps [s]) [(d, (q.1, q.2.1))] st.gr } ({ rt := opTmps o.op.operands.toList, wt := d :: opTmps [s], ro := [], wo := [] } :: fps)
          | none => none) else
          evOp E inl off st o R (fun v os ro => evOpsT E inl off nt R k rest { st.set (some d) v os with gr := gapp [d] [] st.gr } (fpOf o none ro (os.map (·.1)) :: fps))

def meets (a b : List Nat) : Bool := a.any fun x => b.any (Nat.beq x)

def clash (a b : FP) : Bool :=
  meets a.wt (b.rt ++ b.wt) || meets a.rt b.wt || meets a.wo (b.ro ++ b.wo) || meets a.ro b.wo

/-- All of a that b lacks, ahead of b. -/
def uni : List Nat → List Nat → List Nat
  | [], b => b
  | x :: a, b => bif b.any (Nat.beq x) then uni a b else x :: uni a b

/-- Ancestors of operation n by the edges that bind in every order ('acc': footprint and ancestors of the earlier ones, the newest first). -/
def ancOf (acc : List (FP × List Nat)) (n : Nat) : List Edge → List Nat
  | [] => []
  | e :: r => bif Region.binds .any e && Nat.blt e.on n then
      (bif (ancOf acc n r).any (Nat.beq e.on) then ancOf acc n r else match acc[n - 1 - e.on]? with
      | some x => e.on :: uni x.2 (ancOf acc n r)
      | none => e.on :: ancOf acc n r) else ancOf acc n r

/-- Operation n clashes with no earlier one that is not its ancestor. -/
def freeOne (f : FP) (anc : List Nat) : List (FP × List Nat) → Nat → Bool
  | [], _ => true
  | g :: r, n => (anc.any (Nat.beq (n - 1)) || !clash g.1 f) && freeOne f anc r (n - 1)

def edgesOK (o : Oper) (n : Nat) : Bool := o.after.toList.all fun e => !Region.binds .any e || Nat.blt e.on n

def freeGo : List Oper → List FP → Nat → List (FP × List Nat) → Bool
  | o :: os, f :: fs, n, acc => edgesOK o n && freeOne f (ancOf acc n o.after.toList) acc n && freeGo os fs (n + 1) ((f, ancOf acc n o.after.toList) :: acc)
  | [], [], _, _ => true
  | _, _, _, _ => false

def firstRegion : Code → Nat
  | .region id _ _ => id
  | .seq a _ => firstRegion a
  | .block _ b => firstRegion b
  | .loop b => firstRegion b
  | .scope b => firstRegion b
  | _ => 0

inductive Next (S : Type) where
  | more (s : S)
  | out (e : Nat) (s : S)

def iter {S : Type} (body : S → Option (Next S)) : Nat → S → Option (Nat × S)
  | 0, _ => none
  | n + 1, s => match body s with
    | some (.more s') => iter body n s'
    | some (.out e s') => some (e, s')
    | none => none

open Classical in
/-- The loop: what it comes to if it ends; 'none' if it does not, or a round has no meaning. -/
noncomputable def loopD {S : Type} (body : S → Option (Next S)) (s : S) : Option (Nat × S) :=
  if h : ∃ r n, iter body n s = some r then some (Classical.choose h) else none

def denL : List (Nat × Ty) → Type
  | [] => Unit
  | [(_, τ)] => τ.den
  | (_, τ) :: r => τ.den × denL r

def getT (st : St) : (l : List (Nat × Ty)) → Option (denL l)
  | [] => some ()
  | [(t, τ)] => match st.tmp t with
    | some v => v.asT τ
    | none => none
  | (t, τ) :: b :: r => match st.tmp t with
    | some v => match v.asT τ with
      | some x => match getT st (b :: r) with
        | some y => some (x, y)
        | none => none
      | none => none
    | none => none

def getO (st : St) : (l : List (Nat × Ty)) → Option (denL l)
  | [] => some ()
  | [(t, τ)] => match st.obj t with
    | some v => v.as τ
    | none => none
  | (t, τ) :: b :: r => match st.obj t with
    | some v => match v.as τ with
      | some x => match getO st (b :: r) with
        | some y => some (x, y)
        | none => none
      | none => none
    | none => none

def putT : (l : List (Nat × Ty)) → denL l → List (Nat × SV)
  | [], _ => []
  | [(t, τ)], x => [(t, mkSV τ x)]
  | (t, τ) :: b :: r, x => (t, mkSV τ x.1) :: putT (b :: r) x.2

def putO : (l : List (Nat × Ty)) → denL l → List (Nat × TV)
  | [], _ => []
  | [(t, τ)], x => [(t, ⟨τ, x⟩)]
  | (t, τ) :: b :: r, x => (t, ⟨τ, x.1⟩) :: putO (b :: r) x.2

def keep {α R : Type} (f : Nat → Option α) (k : List (Nat × α) → Option R) : List Nat → List (Nat × α) → Option R
  | [], acc => k acc
  | t :: r, acc => match f t with
    | some v => keep f k r ((t, v) :: acc)
    | none => none

/-- The rows that a loop's variables lie in are objects of the loop. -/
def hdlOK (l : List (Nat × Ty)) (ns : List Nat) : Bool := l.all fun x => match x.2 with
  | .hdl n _ => ns.any (Nat.beq n)
  | _ => true
def namesOK (l : List (Nat × SV)) (ns : List Nat) : Bool := l.all fun x => x.2.names.all fun n => ns.any (Nat.beq n)
def keysIn {α : Type} (l : List (Nat × α)) (ks : List Nat) : Bool := l.all fun x => ks.any (Nat.beq x.1)
def keysOff {α : Type} (l : List (Nat × α)) (ks : List Nat) : Bool := l.all fun x => !ks.any (Nat.beq x.1)

def exEq : Ex → Ex → Bool
  | .normal, .normal => true
  | .ret, .ret => true
  | .exit i, .exit j => Nat.beq i j
  | _, _ => false

def exNo (e : Ex) : List Ex → Nat → Option Nat
  | [], _ => none
  | x :: r, n => bif exEq x e then some n else exNo e r (n + 1)

def disp {R : Type} (k : Ex → Option R) : List Ex → Nat → Option R
  | [], _ => none
  | [e], _ => k e
  | e :: r, n => bif Nat.beq n 0 then k e else disp k r (n - 1)

def denA (a : LoopAnn) : Type := denL a.varT × denL a.varO

def loopAnn (E : Env) (fno id : Nat) : Option LoopAnn :=
  match lk fno E.loops with
  | some l => lk id l
  | none => none

def joinAnn (E : Env) (fno : Nat) : Operand → Option LoopAnn
  | .tmp t => match lk fno E.joins with
    | some l => lk t l
    | none => none
  | _ => none

def ks (l : List (Nat × Ty)) : List Nat := l.map (·.1)

def trip (a b : Nat × (Nat × Nat)) : Bool := Nat.beq a.1 b.1 && (Nat.beq a.2.1 b.2.1 && Nat.beq a.2.2 b.2.2)

def isNil (st : St) (t : Nat) : Bool := match st.tmp t with
  | some .nilsl => true
  | _ => false

/-- What a loop's head wants to append to in place may be. -/
def grOK (A : LoopAnn) (st : St) : Bool := A.gr.all fun q => st.gr.any (trip q) || isNil st q.1

def writes (t : Nat) (o : Oper) : Bool := match o.dst with
  | some d => Nat.beq d t
  | none => false

/-- Tokens of what no operation of a region writes. -/
def dropG (ops : List Oper) (gr : List (Nat × (Nat × Nat))) : List (Nat × (Nat × Nat)) :=
  gr.filter fun q => !(ops.any (writes q.1))

def endRound (A : LoopAnn) (e : Ex) (st' : St) : Option (Next (denA A)) :=
  bif keysOff st'.tt A.keepT && (keysOff st'.ot A.keepO && grOK A st') then
    (match getT st' A.varT, getO st' A.varO with
    | some yt, some yo => match e with
      | .normal => some (.more (yt, yo))
      | e => match exNo e A.outs 0 with
        | some n => some (.out n (yt, yo))
        | none => none
    | _, _ => none)
  else none

def endJoin (A : LoopAnn) (e : Ex) (st' : St) : Option (Nat × denA A) :=
  bif keysOff st'.tt A.keepT && keysOff st'.ot A.keepO then
    (match getT st' A.varT, getO st' A.varO with
    | some yt, some yo => match exNo e A.outs 0 with
      | some n => some (n, (yt, yo))
      | none => none
    | _, _ => none)
  else none

/-- The entries of l whose keys m has. -/
def above {α β : Type} (m : List (Nat × β)) : List (Nat × α) → List (Nat × α)
  | [] => []
  | (t, v) :: r => match lk t m with
    | some _ => (t, v) :: above m r
    | none => above m r

noncomputable def evCode (E : Env) (inl : Inl) (off fno nt : Nat) : Code → St → (R : Type) → (Ex → St → Option R) → Option R
  | .skip, st, _, k => k .normal st
  | .region _ ops draw, st, R, k => bif !draw && ops.toList.any isApp then evOpsG E inl off nt R (fun st' => k .normal st') ops.toList st else bif draw && ops.toList.any isApp then
      evOpsT E inl off nt R (fun st' fps => bif freeGo ops.toList fps.reverse 0 [] then k .normal st' else none) ops.toList st [] else
    evOps E inl off nt ops.toList R (fun st' fps =>
      bif !draw || freeGo ops.toList fps.reverse 0 [] then k .normal st' else none) ops.toList { st with gr := dropG ops.toList st.gr } []
  | .seq a b, st, R, k => evCode E inl off fno nt a st R (fun e st' => match e with
    | .normal => evCode E inl off fno nt b st' R k
    | e => k e st')
  | .cond c a b, st, R, k => match st.val c with
    | some (.tv ⟨.bool, x⟩) => match joinAnn E fno c with
      | none => bif x then evCode E inl off fno nt a st R k else evCode E inl off fno nt b st R k
      | some A => bif !A.gr.isEmpty then none else
        bif keysIn st.tl (A.keepT ++ ks A.varT) && keysIn st.ol (A.keepO ++ ks A.varO) && keysIn st.ot (A.keepO ++ ks A.varO) then
          keep st.tmp (fun kt => keep st.obj (fun ko => bif !(namesOK kt (A.keepO ++ ks A.varO) && hdlOK A.varT (A.keepO ++ ks A.varO)) then none else
            (bif x then evCode E inl off fno nt a { tt := [], tl := st.tt ++ st.tl, ot := [], ol := st.ot ++ st.ol } (Nat × denA A) (endJoin A)
             else evCode E inl off fno nt b { tt := [], tl := st.tt ++ st.tl, ot := [], ol := st.ot ++ st.ol } (Nat × denA A) (endJoin A)).bind (fun r =>
              disp (fun e => k e { tt := putT A.varT r.2.1 ++ above st.tt kt, tl := st.tl, ot := putO A.varO r.2.2 ++ above st.ot ko, ol := st.ol, gr := A.gr }) A.outs r.1)) A.keepO []) A.keepT []
        else none
    | _ => none
  | .block id b, st, R, k => evCode E inl off fno nt b st R (fun e st' => match e with
    | .exit j => bif Nat.beq j id then k .normal st' else k (.exit j) st'
    | e => k e st')
  | .scope b, st, R, k => evCode E inl off fno nt b st R k
  | .exit id, st, _, k => k (.exit id) st
  | .ret, st, _, k => k .ret st
  | .label _, st, _, k => k .normal st
  | .loop b, st, R, k => match loopAnn E fno (firstRegion b) with
    | none => none
    | some A => bif !grOK A st then none else
      bif keysIn st.tl (A.keepT ++ ks A.varT) && keysIn st.ol (A.keepO ++ ks A.varO) && keysIn st.ot (A.keepO ++ ks A.varO) then
        keep st.tmp (fun kt => keep st.obj (fun ko => bif !(namesOK kt (A.keepO ++ ks A.varO) && hdlOK A.varT (A.keepO ++ ks A.varO)) then none else
          match getT st A.varT, getO st A.varO with
          | some xt, some xo =>
            (loopD (S := denA A) (fun s =>
              evCode E inl off fno nt b { tt := putT A.varT s.1, tl := kt, ot := putO A.varO s.2, ol := ko, gr := A.gr } (Next (denA A)) (endRound A)) (xt, xo)).bind (fun r =>
              disp (fun e => k e { tt := putT A.varT r.2.1 ++ above st.tt kt, tl := st.tl, ot := putO A.varO r.2.2 ++ above st.ot ko, ol := st.ol, gr := A.gr }) A.outs r.1)
          | _, _ => none) A.keepO []) A.keepT []
      else none
  | _, _, _, _ => none

def initT : Nat → List SV → List (Nat × SV)
  | _, [] => []
  | n, v :: r => (n, v) :: initT (n + 1) r

def collect (E : Env) (st : St) : List ResultVar → Option (List SV)
  | [] => some []
  | .tmp t :: r => match st.tmp t with
    | some v => match collect E st r with
      | some l => some (v :: l)
      | none => none
    | none => none
  | .cell a T :: r => match E.ty T with
    | some (τ, _) => match st.tmp a with
      | some (.ptr n σ p) => match st.obj n with
        | some ⟨σ', x⟩ => bif Ty.beq σ σ' then (match get σ' x p with
          | some t => bif Ty.beq t.ty τ then (match collect E st r with
            | some l => some (.tv t :: l)
            | none => none) else none
          | none => none) else none
        | none => none
      | _ => none
    | none => none

def pack1 : List SV → SV
  | [v] => v
  | l => .tup l

def isVsl : SV → Bool
  | .vsl _ _ _ _ => true
  | _ => false

/-- A slice of a row comes back as a slice that nobody writes to any more. -/
def frz (objs : List (Nat × TV)) (st : St) : SV → Option SV
  | .vsl n e hi _ => match lk n objs with
    | some _ => none
    | none => match st.obj n with
      | some t => match t.as (.vec e) with
        | some l => bif decide (0 ≤ hi ∧ hi ≤ (l.length : Int)) then some (.tv ⟨.sl e, l.take hi.toNat⟩) else none
        | none => none
      | none => none
  | v => some v

def frzL (objs : List (Nat × TV)) (st : St) : List SV → Option (List SV)
  | [] => some []
  | v :: r => match frz objs st v with
    | some u => match frzL objs st r with
      | some l => some (u :: l)
      | none => none
    | none => none

/-- The same, step by step. -/
def frzC (objs : List (Nat × TV)) (st : St) (R : Type) : List SV → (List SV → Option R) → Option R
  | [], k => k []
  | .vsl n e hi _ :: r, k => match lk n objs with
    | some _ => none
    | none => match st.obj n with
      | some t => match t.as (.vec e) with
        | some l => bif decide (0 ≤ hi ∧ hi ≤ (l.length : Int)) then frzC objs st R r (fun l' => k (.tv ⟨.sl e, l.take hi.toNat⟩ :: l')) else none
        | none => none
      | none => none
  | v :: r, k => frzC objs st R r (fun l' => k (v :: l'))

/-- The objects that stay when the slices of rows that come back are given away. -/
def lessO (l : List SV) (os : List (Nat × TV)) : List (Nat × TV) := os.filter fun x => !(l.any fun v => isVsl v && v.names.any (Nat.beq x.1))

def frzSt (l : List SV) (st : St) : St := { tt := [], tl := [], ot := lessO l (st.ot ++ st.ol), ol := [] }

/-- No name is given away. -/
def noFz (l : List SV) (ns : List Nat) : Bool := ns.all fun n => !(l.any fun v => isVsl v && v.names.any (Nat.beq n))

noncomputable def evFn (E : Env) (inl : Inl) (off fno : Nat) (fn : Func) (svs : List SV) (objs : List (Nat × TV)) (R : Type) (k : List SV → St → Option R) : Option R :=
  match fn.body with
  | some c => evCode E inl off fno fn.ntmps c { tt := initT 0 svs, tl := [], ot := objs, ol := [] } R (fun e st => match e with
    | .exit _ => none
    | _ => match collect E st fn.results.toList with
      | some l => bif l.any isVsl then frzC objs st R l (fun l' => bif noFz l (namesL l') then k l' (frzSt l st) else none) else k l st
      | none => none)
  | none => none

noncomputable def inlN (E : Env) : Nat → Inl
  | 0 => fun _ _ _ _ _ _ => none
  | n + 1 => fun off f svs objs R k => match lk f E.bodies with
    | some fn => evFn E (inlN E n) off f fn svs objs R (fun l st => keep st.obj (fun os => k (pack1 l) os) (objs.map (·.1) ++ namesL l) [])
    | none => none

/-! ### Functions: parameters (0: by value, 1: by reference), results -/
abbrev Sg := List (Nat × Ty)

def argS : Nat → (l : Sg) → denL l → List SV
  | _, [], _ => []
  | n, [(0, τ)], x => [.tv ⟨τ, x⟩]
  | n, [(_ + 1, τ)], _ => [.ptr n τ []]
  | n, (0, τ) :: b :: r, x => .tv ⟨τ, x.1⟩ :: argS (n + 1) (b :: r) x.2
  | n, (_ + 1, τ) :: b :: r, x => .ptr n τ [] :: argS (n + 1) (b :: r) x.2

def argO : Nat → (l : Sg) → denL l → List (Nat × TV)
  | _, [], _ => []
  | _, [(0, _)], _ => []
  | n, [(_ + 1, τ)], x => [(n, ⟨τ, x⟩)]
  | n, (0, _) :: b :: r, x => argO (n + 1) (b :: r) x.2
  | n, (_ + 1, τ) :: b :: r, x => (n, ⟨τ, x.1⟩) :: argO (n + 1) (b :: r) x.2

/-- The names of the parameters by reference, with their types. -/
def refN : Nat → Sg → List (Nat × Ty)
  | _, [] => []
  | n, (0, _) :: r => refN (n + 1) r
  | n, (_ + 1, τ) :: r => (n, τ) :: refN (n + 1) r

def decL : (l : Sg) → List SV → Option (denL l)
  | [], vs => match vs with
    | [] => some ()
    | _ :: _ => none
  | [(_, τ)], vs => match vs with
    | [v] => v.as τ
    | _ => none
  | (_, τ) :: b :: r, vs => match vs with
    | [] => none
    | v :: vs => match v.as τ with
      | some x => match decL (b :: r) vs with
        | some y => some (x, y)
        | none => none
      | none => none

def denR (res refs : Sg) : Type :=
  match refs, res with
  | [], _ => denL res
  | r :: rs, [] => denL (r :: rs)
  | r :: rs, b :: bs => denL (b :: bs) × denL (r :: rs)

def mkR : (res refs : Sg) → denL res → denL refs → denR res refs
  | _, [], x, _ => x
  | [], _ :: _, _, y => y
  | _ :: _, _ :: _, x, y => (x, y)

def res1 : (res refs : Sg) → denR res refs → denL res
  | _, [], x => x
  | [], _ :: _, _ => ()
  | _ :: _, _ :: _, x => x.1

def res2 : (res refs : Sg) → denR res refs → denL refs
  | _, [], _ => ()
  | [], _ :: _, x => x
  | _ :: _, _ :: _, x => x.2

def encL : (l : Sg) → denL l → List TV
  | [], _ => []
  | [(_, τ)], x => [⟨τ, x⟩]
  | (_, τ) :: b :: r, x => ⟨τ, x.1⟩ :: encL (b :: r) x.2

def decArg (n : Nat) (τ : Ty) : Arg → Option τ.den
  | .val t => match n with
    | 0 => t.as τ
    | _ + 1 => none
  | .ref t => match n with
    | 0 => none
    | _ + 1 => t.as τ

def decArgs : (l : Sg) → List Arg → Option (denL l)
  | [], vs => match vs with
    | [] => some ()
    | _ :: _ => none
  | [(n, τ)], vs => match vs with
    | [v] => decArg n τ v
    | _ => none
  | (n, τ) :: b :: r, vs => match vs with
    | [] => none
    | v :: vs => match decArg n τ v with
      | some x => match decArgs (b :: r) vs with
        | some y => some (x, y)
        | none => none
      | none => none

/-- What the evaluator hands back of a whole function. -/
def decR (as res : Sg) (l : List SV) (st : St) : Option (denR res (refN 0 as)) :=
  match decL res l, getO st (refN 0 as) with
  | some x, some y => some (mkR res (refN 0 as) x y)
  | _, _ => none

/-- The contract of a function: 'F' of its arguments. -/
def mkSpec (as res : Sg) (F : denL as → Option (denR res (refN 0 as))) : Spec := fun args R k =>
  match decArgs as args with
  | some p => (F p).bind (fun r => k (encL res (res1 res (refN 0 as) r)) (encL (refN 0 as) (res2 res (refN 0 as) r)))
  | none => none

end Go.Ev

namespace Go.Ev
set_option linter.unusedVariables false

def RepL {α : Type} (R : α → List Value → Prop) : List α → List Value → Prop
  | [], cs => cs = []
  | x :: l, cs => ∃ c d, cs = c ++ d ∧ R x c ∧ RepL R l d

abbrev Stab := Nat → Nat → Prop

/-- The cells of block b from off on hold 'ds', and are stable. -/
def Lies (S : Stab) (w : World) (b off : Nat) (ds : List Value) : Prop :=
  ∀ i v, ds[i]? = some v → S b (off + i) ∧ w.cell? ⟨b, off + i, none⟩ = some v

def Rep (S : Stab) (w : World) : (τ : Ty) → τ.den → List Value → Prop
  | .int k, n, cs => cs = [.int k n]
  | .bool, b, cs => cs = [.bool b]
  | .str, s, cs => cs = [.string s]
  | .pair a b, x, cs => ∃ c d, cs = c ++ d ∧ Rep S w a x.1 c ∧ Rep S w b x.2 d
  | .one a, x, cs => Rep S w a x cs
  | .arr n e, l, cs => l.length = n ∧ RepL (Rep S w e) l cs
  | .sl e, l, cs => ∃ a cap, cs = [.slice a l.length cap] ∧ l.length ≤ cap ∧
      (l = [] ∨ ∃ b off ds, a = some ⟨b, off, none⟩ ∧ RepL (Rep S w e) l ds ∧ Lies S w b off ds)
  | .vec _, l, cs => l = [] ∧ cs = [.bool false]
  | .hdl _ _, x, cs => x = ((0 : Int), (0 : Int)) ∧ cs = [.bool false]

theorem RepL.length {α : Type} {R : α → List Value → Prop} {sz : Nat} (hR : ∀ x c, R x c → c.length = sz) : ∀ {l : List α} {cs}, RepL R l cs → cs.length = l.length * sz
  | [], cs, h => by subst h; simp
  | x :: l, cs, ⟨c, d, e, hx, hl⟩ => by
    subst e; rw [List.length_append, hR _ _ hx, RepL.length hR hl, List.length_cons, Nat.succ_mul]; omega

theorem Rep.length {S : Stab} {w : World} : ∀ (τ : Ty) {x : τ.den} {cs : List Value}, Rep S w τ x cs → cs.length = τ.size
  | .int _, _, _, h => by simp only [Rep] at h; subst h; rfl
  | .bool, _, _, h => by simp only [Rep] at h; subst h; rfl
  | .str, _, _, h => by simp only [Rep] at h; subst h; rfl
  | .pair a b, x, cs, h => by
    obtain ⟨c, d, e, ha, hb⟩ := h
    subst e; rw [List.length_append, Rep.length a ha, Rep.length b hb]; rfl
  | .one a, x, cs, h => by
    simp only [Rep] at h
    exact Rep.length a h
  | .arr n e, l, cs, h => by
    obtain ⟨hn, hl⟩ := h
    rw [RepL.length (fun x c => Rep.length e) hl, hn]; rfl
  | .sl e, l, cs, h => by obtain ⟨a, cap, h, _⟩ := h; subst h; rfl
  | .vec _, _, _, h => by rw [h.2]; rfl
  | .hdl _ _, _, _, h => by rw [h.2]; rfl

structure Le (S : Stab) (w : World) (S' : Stab) (w' : World) : Prop where
  mono : ∀ b i, S b i → S' b i
  cell : ∀ b i v, S b i → w.cell? ⟨b, i, none⟩ = some v → w'.cell? ⟨b, i, none⟩ = some v

theorem Le.refl (S : Stab) (w : World) : Le S w S w := ⟨fun _ _ h => h, fun _ _ _ _ h => h⟩
theorem Le.trans {S S' S'' : Stab} {w w' w'' : World} (h : Le S w S' w') (k : Le S' w' S'' w'') : Le S w S'' w'' :=
  ⟨fun b i s => k.mono b i (h.mono b i s), fun b i v s e => k.cell b i v (h.mono b i s) (h.cell b i v s e)⟩

theorem Lies.le {S S' : Stab} {w w' : World} {b off : Nat} {ds : List Value} (h : Lies S w b off ds) (k : Le S w S' w') : Lies S' w' b off ds :=
  fun i v e => let ⟨s, c⟩ := h i v e; ⟨k.mono _ _ s, k.cell _ _ _ s c⟩

theorem RepL.imp {α : Type} {R R' : α → List Value → Prop} (hR : ∀ x c, R x c → R' x c) : ∀ {l : List α} {cs}, RepL R l cs → RepL R' l cs
  | [], _, h => h
  | _ :: _, _, ⟨c, d, e, hx, hl⟩ => ⟨c, d, e, hR _ _ hx, RepL.imp hR hl⟩

theorem Rep.le {S S' : Stab} {w w' : World} (k : Le S w S' w') : ∀ (τ : Ty) {x : τ.den} {cs : List Value}, Rep S w τ x cs → Rep S' w' τ x cs
  | .int _, _, _, h => h
  | .bool, _, _, h => h
  | .str, _, _, h => h
  | .pair a b, _, _, ⟨c, d, e, ha, hb⟩ => ⟨c, d, e, Rep.le k a ha, Rep.le k b hb⟩
  | .one a, _, _, h => Rep.le k a h
  | .arr n e, _, _, ⟨hn, hl⟩ => ⟨hn, hl.imp fun _ _ => Rep.le k e⟩
  | .sl e, _, _, ⟨a, cap, h1, h2, h3⟩ => ⟨a, cap, h1, h2, h3.imp id fun ⟨b, off, ds, g1, g2, g3⟩ => ⟨b, off, ds, g1, g2.imp fun _ _ => Rep.le k e, g3.le k⟩⟩
  | .vec _, _, _, h => h
  | .hdl _ _, _, _, h => h

theorem RepL.one {α : Type} {R : α → List Value → Prop} (hR : ∀ x c, R x c → ∀ v ∈ c, v.oneCell' = true) : ∀ {l : List α} {cs}, RepL R l cs → ∀ v ∈ cs, v.oneCell' = true
  | [], cs, h => by subst h; simp
  | x :: l, cs, ⟨c, d, e, hx, hl⟩ => by
    subst e; intro v hv
    rcases List.mem_append.1 hv with h | h
    · exact hR _ _ hx v h
    · exact RepL.one hR hl v h

theorem Rep.one {S : Stab} {w : World} : ∀ (τ : Ty) {x : τ.den} {cs : List Value}, Rep S w τ x cs → ∀ v ∈ cs, v.oneCell' = true
  | .int _, _, _, h => by simp only [Rep] at h; subst h; simp [Value.oneCell']
  | .bool, _, _, h => by simp only [Rep] at h; subst h; simp [Value.oneCell']
  | .str, _, _, h => by simp only [Rep] at h; subst h; simp [Value.oneCell']
  | .pair a b, x, cs, h => by
    obtain ⟨c, d, e, ha, hb⟩ := h
    subst e; intro v hv
    rcases List.mem_append.1 hv with h | h
    · exact Rep.one a ha v h
    · exact Rep.one b hb v h
  | .one a, x, cs, h => by
    simp only [Rep] at h
    exact Rep.one a h
  | .arr n e, l, cs, h => RepL.one (fun x c => Rep.one e) h.2
  | .sl e, l, cs, h => by obtain ⟨a, cap, h, _⟩ := h; subst h; simp [Value.oneCell']
  | .vec _, _, _, h => by rw [h.2]; simp [Value.oneCell']
  | .hdl _ _, _, _, h => by rw [h.2]; simp [Value.oneCell']

def Ty.pack (τ : Ty) (cs : List Value) : Value := if τ.agg then .agg cs.toArray else cs.headD undef

theorem Rep.single {S : Stab} {w : World} {τ : Ty} (ha : τ.agg = false) {x : τ.den} {cs : List Value} (h : Rep S w τ x cs) : ∃ v, cs = [v] ∧ v.oneCell' = true := by
  have hl := Rep.length τ h
  have h1 := Rep.one τ h
  cases τ <;> simp [Ty.agg] at ha <;> (simp only [Ty.size] at hl; obtain ⟨v, rfl⟩ := List.length_eq_one_iff.1 hl; exact ⟨v, rfl, h1 v (by simp)⟩)

theorem Rep.pack_cells {S : Stab} {w : World} {τ : Ty} {x : τ.den} {cs : List Value} (h : Rep S w τ x cs) : (τ.pack cs).cells = cs.toArray := by
  unfold Ty.pack
  by_cases ha : τ.agg = true
  · rw [if_pos ha]; rfl
  · rw [if_neg ha]
    obtain ⟨v, rfl, h1⟩ := h.single (by simpa using ha)
    cases v <;> simp [Value.oneCell'] at h1 <;> rfl

/-! ### Zero values -/
def Ty.zeros : Ty → List Value
  | .int k => [.int k 0]
  | .bool => [.bool false]
  | .str => [.string ByteArray.empty]
  | .pair a b => a.zeros ++ b.zeros
  | .one a => a.zeros
  | .arr n e => (List.replicate n e.zeros).flatten
  | .sl _ => [.slice none 0 0]
  | .vec _ => [.bool false]
  | .hdl _ _ => [.bool false]

theorem RepL.replicate {α : Type} {R : α → List Value → Prop} {x : α} {c : List Value} (h : R x c) : ∀ n, RepL R (List.replicate n x) (List.replicate n c).flatten
  | 0 => rfl
  | n + 1 => ⟨c, _, rfl, h, RepL.replicate h n⟩

theorem Rep.dflt (S : Stab) (w : World) : ∀ τ : Ty, Rep S w τ τ.dflt τ.zeros
  | .int _ => rfl
  | .bool => rfl
  | .str => rfl
  | .pair a b => ⟨_, _, rfl, Rep.dflt S w a, Rep.dflt S w b⟩
  | .one a => Rep.dflt S w a
  | .arr n e => ⟨by simp [Ty.dflt], RepL.replicate (Rep.dflt S w e) n⟩
  | .sl e => ⟨none, 0, rfl, Nat.le_refl _, .inl rfl⟩
  | .vec _ => ⟨rfl, rfl⟩
  | .hdl _ _ => ⟨rfl, rfl⟩

/-! ### Paths -/
def off : Ty → Path → Nat
  | .pair a _, .fst :: p => off a p
  | .pair a b, .snd :: p => a.size + off b p
  | .one a, .fst :: p => off a p
  | .arr _ e, .at i :: p => i.toNat * e.size + off e p
  | .arr _ e, .sub lo m :: p => lo * e.size + off (.arr m e) p
  | _, _ => 0

/-- The indexes on a path are in range. -/
def okPath : Ty → Path → Prop
  | _, [] => True
  | .pair a _, .fst :: p => okPath a p
  | .pair _ b, .snd :: p => okPath b p
  | .one a, .fst :: p => okPath a p
  | .arr n e, .at i :: p => (0 ≤ i ∧ i < (n : Int)) ∧ okPath e p
  | .arr n e, .sub lo m :: p => lo + m ≤ n ∧ okPath (.arr m e) p
  | _, _ => False

theorem RepL.get {α : Type} {R : α → List Value → Prop} {sz : Nat} (hR : ∀ x c, R x c → c.length = sz) : ∀ {l : List α} {cs}, RepL R l cs → ∀ i x, l[i]? = some x → R x ((cs.drop (i * sz)).take sz)
  | [], _, _, i, x, e => by simp at e
  | y :: l, cs, ⟨c, d, e, hx, hl⟩, 0, x, ex => by
    simp at ex; subst ex; subst e
    have := hR _ _ hx
    simpa [← this] using hx
  | y :: l, cs, ⟨c, d, e, hx, hl⟩, i + 1, x, ex => by
    subst e
    have h1 := hR _ _ hx
    have := RepL.get hR hl i x (by simpa using ex)
    rw [Nat.succ_mul, Nat.add_comm, ← h1, ← List.drop_drop, List.drop_left, h1]
    exact this

theorem RepL.append {α : Type} {R : α → List Value → Prop} : ∀ {l : List α} {cs} {l' cs'}, RepL R l cs → RepL R l' cs' → RepL R (l ++ l') (cs ++ cs')
  | [], _, _, _, h, h' => by subst h; exact h'
  | x :: l, _, l', cs', ⟨c, d, e, hx, hl⟩, h' => by subst e; exact ⟨c, d ++ cs', by simp, hx, hl.append h'⟩

theorem RepL.split {α : Type} {R : α → List Value → Prop} {sz : Nat} (hR : ∀ x c, R x c → c.length = sz) : ∀ {l : List α} {cs}, RepL R l cs → ∀ n, RepL R (l.take n) (cs.take (n * sz)) ∧ RepL R (l.drop n) (cs.drop (n * sz))
  | [], cs, h, n => by subst h; simp [RepL]
  | x :: l, cs, h, 0 => by simpa [RepL] using h
  | x :: l, cs, ⟨c, d, e, hx, hl⟩, n + 1 => by
    subst e
    have h1 := hR _ _ hx
    obtain ⟨g1, g2⟩ := hl.split hR n
    have e1 : (c ++ d).take ((n + 1) * sz) = c ++ d.take (n * sz) := by
      rw [Nat.succ_mul, Nat.add_comm, ← h1, List.take_length_add_append]
    have e2 : (c ++ d).drop ((n + 1) * sz) = d.drop (n * sz) := by
      rw [Nat.succ_mul, Nat.add_comm, ← h1, ← List.drop_drop, List.drop_left]
    rw [e1, e2]
    exact ⟨⟨c, _, rfl, hx, g1⟩, by simpa using g2⟩

theorem RepL.set {α : Type} {R : α → List Value → Prop} {sz : Nat} (hR : ∀ x c, R x c → c.length = sz) : ∀ {l : List α} {cs}, RepL R l cs → ∀ i y d, i < l.length → R y d → RepL R (l.set i y) (cs.take (i * sz) ++ d ++ cs.drop (i * sz + sz))
  | [], _, _, _, _, _, hi, _ => by simp at hi
  | x :: l, cs, ⟨c, e, he, hx, hl⟩, 0, y, d, _, hy => by
    subst he
    have h1 := hR _ _ hx
    rw [← h1]
    simp only [Nat.zero_mul, List.take_zero, List.nil_append, Nat.zero_add, List.drop_left, List.set_cons_zero]
    exact ⟨d, e, rfl, hy, hl⟩
  | x :: l, cs, ⟨c, e, he, hx, hl⟩, i + 1, y, d, hi, hy => by
    subst he
    have h1 := hR _ _ hx
    have := RepL.set hR hl i y d (by simpa using hi) hy
    have e1 : (c ++ e).take ((i + 1) * sz) = c ++ e.take (i * sz) := by
      rw [Nat.succ_mul, Nat.add_comm, ← h1, List.take_length_add_append]
    have e2 : (c ++ e).drop ((i + 1) * sz + sz) = e.drop (i * sz + sz) := by
      rw [Nat.succ_mul, show i * sz + sz + sz = sz + (i * sz + sz) by omega, ← h1, ← List.drop_drop, List.drop_left]
    rw [e1, e2, List.set_cons_succ]
    exact ⟨c, _, by simp, hx, this⟩

/-- The part at a path lies where the path leads. -/
theorem Rep.get {S : Stab} {w : World} : ∀ (p : Path) (τ : Ty) {x : τ.den} {cs : List Value} {t : TV}, Rep S w τ x cs → Ev.get τ x p = some t → okPath τ p →
    Rep S w t.ty t.x ((cs.drop (off τ p)).take t.ty.size) ∧ off τ p + t.ty.size ≤ cs.length := by
  intro p
  induction p with
  | nil =>
    intro τ x cs t h g _
    simp only [Ev.get, Option.some.injEq] at g
    subst g
    have := Rep.length τ h
    have e : off τ [] = 0 := by cases τ <;> rfl
    simp only [e, List.drop_zero]
    exact ⟨by rw [← this, List.take_length]; exact h, by omega⟩
  | cons s p ih =>
    intro τ x cs t h g ok
    cases τ with
    | pair a b =>
      obtain ⟨c, d, e, ha, hb⟩ := h
      have la := Rep.length a ha
      subst e
      cases s with
      | fst =>
        obtain ⟨r, l⟩ := ih a ha g ok
        refine ⟨?_, by simp only [off, List.length_append]; omega⟩
        simp only [off]
        rw [List.drop_append_of_le_length (by omega), List.take_append_of_le_length (by simp; omega)]
        exact r
      | snd =>
        obtain ⟨r, l⟩ := ih b hb g ok
        refine ⟨?_, by simp only [off, List.length_append]; omega⟩
        simp only [off]
        rw [← la, ← List.drop_drop, List.drop_left]
        exact r
      | «at» i => simp [Ev.get] at g
      | sub lo m => simp [Ev.get] at g
    | one a =>
      cases s with
      | fst => exact ih a h g ok
      | snd => simp [Ev.get] at g
      | «at» i => simp [Ev.get] at g
      | sub lo m => simp [Ev.get] at g
    | arr n e =>
      obtain ⟨hn, hl⟩ := h
      have hR : ∀ (x : e.den) c, Rep S w e x c → c.length = e.size := fun x c => Rep.length e
      have hlen := RepL.length hR hl
      cases s with
      | «at» i =>
        obtain ⟨⟨i0, i1⟩, ok⟩ := ok
        have hi : i.toNat < x.length := by omega
        have hx := hl.get hR i.toNat _ (List.getElem?_eq_getElem hi)
        have hd : x.getD i.toNat e.dflt = x[i.toNat] := by simp [List.getD, hi]
        simp only [Ev.get] at g
        rw [hd] at g
        obtain ⟨r, l⟩ := ih e hx g ok
        have hle : (i.toNat + 1) * e.size ≤ x.length * e.size := Nat.mul_le_mul_right _ hi
        rw [Nat.succ_mul] at hle
        simp only [List.length_take, List.length_drop] at l
        refine ⟨?_, by simp only [off]; omega⟩
        simp only [off]
        rw [List.drop_take, List.drop_drop, List.take_take, Nat.min_eq_left (by omega)] at r
        exact r
      | sub lo m =>
        obtain ⟨hm, ok⟩ := ok
        simp only [Ev.get] at g
        rw [if_pos (Nat.ble_eq_true_of_le hm)] at g
        have h2 := ((hl.split hR lo).2.split hR m).1
        have : Rep S w (.arr m e) ((x.drop lo).take m) ((cs.drop (lo * e.size)).take (m * e.size)) := ⟨by simp; omega, h2⟩
        obtain ⟨r, l⟩ := ih (.arr m e) this g ok
        have hle : (lo + m) * e.size ≤ x.length * e.size := Nat.mul_le_mul_right _ (by omega)
        rw [Nat.add_mul] at hle
        simp only [List.length_take, List.length_drop] at l
        refine ⟨?_, by simp only [off]; omega⟩
        simp only [off]
        rw [List.drop_take, List.drop_drop, List.take_take, Nat.min_eq_left (by omega)] at r
        exact r
      | fst => simp [Ev.get] at g
      | snd => simp [Ev.get] at g
    | int k => cases s <;> simp [Ev.get] at g
    | bool => cases s <;> simp [Ev.get] at g
    | str => cases s <;> simp [Ev.get] at g
    | sl e => cases s <;> simp [Ev.get] at g
    | vec e => cases s <;> simp [Ev.get] at g
    | hdl n e => cases s <;> simp [Ev.get] at g

theorem TV.as_some {τ : Ty} {t : TV} {x : τ.den} (h : t.as τ = some x) : t = ⟨τ, x⟩ := by
  obtain ⟨σ, y⟩ := t
  unfold TV.as at h
  split at h
  · rename_i hb
    have e : σ = τ := Ty.eq_of_beq hb
    subst e
    simp at h
    subst h; rfl
  · simp at h

/-- A part of the value replaced. -/
theorem Rep.put {S : Stab} {w : World} : ∀ (p : Path) (τ : Ty) {x y : τ.den} {cs ds : List Value} {t : TV}, Rep S w τ x cs → Ev.put τ x p t = some y → okPath τ p → Rep S w t.ty t.x ds →
    Rep S w τ y (cs.take (off τ p) ++ ds ++ cs.drop (off τ p + ds.length)) ∧ off τ p + ds.length ≤ cs.length := by
  intro p
  induction p with
  | nil =>
    intro τ x y cs ds t h g _ hd
    have e : off τ [] = 0 := by cases τ <;> rfl
    have g' : t.as τ = some y := by cases τ <;> exact g
    have := TV.as_some g'
    subst this
    have l1 := Rep.length τ h
    have l2 := Rep.length τ hd
    rw [e]
    refine ⟨?_, by omega⟩
    rw [show 0 + ds.length = cs.length by omega]
    simpa using hd
  | cons s p ih =>
    intro τ x y cs ds t h g ok hd
    cases τ with
    | pair a b =>
      obtain ⟨c, d, e, ha, hb⟩ := h
      have la := Rep.length a ha
      subst e
      cases s with
      | fst =>
        simp only [Ev.put] at g
        split at g
        · rename_i y' g'
          simp only [Option.some.injEq] at g; subst g
          obtain ⟨r, l⟩ := ih a ha g' ok hd
          refine ⟨?_, by simp only [off, List.length_append]; omega⟩
          refine ⟨c.take (off a p) ++ ds ++ c.drop (off a p + ds.length), d, ?_, r, hb⟩
          simp only [off]
          rw [List.take_append_of_le_length (by omega), List.drop_append_of_le_length (by omega)]
          simp
        · simp at g
      | snd =>
        simp only [Ev.put] at g
        split at g
        · rename_i y' g'
          simp only [Option.some.injEq] at g; subst g
          obtain ⟨r, l⟩ := ih b hb g' ok hd
          refine ⟨?_, by simp only [off, List.length_append]; omega⟩
          refine ⟨c, d.take (off b p) ++ ds ++ d.drop (off b p + ds.length), ?_, ha, r⟩
          simp only [off]
          rw [← la, List.take_length_add_append, Nat.add_assoc, ← List.drop_drop, List.drop_left]
          simp
        · simp at g
      | «at» i => simp [Ev.put] at g
      | sub lo m => simp [Ev.put] at g
    | one a =>
      cases s with
      | fst => exact ih a h g ok hd
      | snd => simp [Ev.put] at g
      | «at» i => simp [Ev.put] at g
      | sub lo m => simp [Ev.put] at g
    | arr n e =>
      obtain ⟨hn, hl⟩ := h
      have hR : ∀ (x : e.den) c, Rep S w e x c → c.length = e.size := fun x c => Rep.length e
      have hlen := RepL.length hR hl
      cases s with
      | «at» i =>
        obtain ⟨⟨i0, i1⟩, ok⟩ := ok
        have hi : i.toNat < x.length := by omega
        have hx := hl.get hR i.toNat _ (List.getElem?_eq_getElem hi)
        have hdd : x.getD i.toNat e.dflt = x[i.toNat] := by simp [List.getD, hi]
        simp only [Ev.put] at g
        rw [hdd] at g
        split at g
        · rename_i y' g'
          simp only [Option.some.injEq] at g; subst g
          obtain ⟨r, l⟩ := ih e hx g' ok hd
          have hle : (i.toNat + 1) * e.size ≤ x.length * e.size := Nat.mul_le_mul_right _ hi
          rw [Nat.succ_mul] at hle
          simp only [List.length_take, List.length_drop] at l
          have hset := hl.set hR i.toNat y' _ hi r
          refine ⟨⟨by simpa using hn, ?_⟩, by simp only [off]; omega⟩
          simp only [off]
          have hsame : cs.take (i.toNat * e.size + off e p) ++ ds ++ cs.drop (i.toNat * e.size + off e p + ds.length) = cs.take (i.toNat * e.size) ++ (((cs.drop (i.toNat * e.size)).take e.size).take (off e p) ++ ds ++ ((cs.drop (i.toNat * e.size)).take e.size).drop (off e p + ds.length)) ++ cs.drop (i.toNat * e.size + e.size) := ?_
          · rw [hsame]; exact hset
          generalize i.toNat * e.size = q at *
          generalize off e p = o at *
          have e1 : cs.take (q + o) = cs.take q ++ ((cs.drop q).take e.size).take o := by
            rw [List.take_take, Nat.min_eq_left (by omega), ← List.take_add]
          have e2 : cs.drop (q + o + ds.length) = ((cs.drop q).take e.size).drop (o + ds.length) ++ cs.drop (q + e.size) := by
            rw [List.drop_take, List.drop_drop, ← Nat.add_assoc]
            conv => lhs; rw [← List.take_append_drop (e.size - (o + ds.length)) (cs.drop (q + o + ds.length))]
            rw [List.drop_drop, show q + o + ds.length + (e.size - (o + ds.length)) = q + e.size by omega]
          rw [e1, e2]
          simp
        · simp at g
      | sub lo m => simp [Ev.put] at g
      | fst => simp [Ev.put] at g
      | snd => simp [Ev.put] at g
    | int k => cases s <;> simp [Ev.put] at g
    | bool => cases s <;> simp [Ev.put] at g
    | str => cases s <;> simp [Ev.put] at g
    | sl e => cases s <;> simp [Ev.put] at g
    | vec e => cases s <;> simp [Ev.put] at g
    | hdl n e => cases s <;> simp [Ev.put] at g

theorem get_tyAt : ∀ (p : Path) (τ : Ty) (x : τ.den) (t : TV), get τ x p = some t → tyAt τ p = some t.ty := by
  intro p
  induction p with
  | nil => intro τ x t g; simp only [get, Option.some.injEq] at g; subst g; cases τ <;> rfl
  | cons s p ih =>
    intro τ x t g
    cases τ <;> cases s <;> simp only [get] at g <;> first
      | exact ih _ _ _ g
      | (exfalso; simp at g; done)
      | (split at g
         · rename_i hb; simp only [tyAt, hb, if_true]; exact ih _ _ _ g
         · simp at g)

theorem off_append : ∀ (p : Path) (τ σ : Ty) (q : Path), tyAt τ p = some σ → off τ (p ++ q) = off τ p + off σ q := by
  intro p
  induction p with
  | nil => intro τ σ q h; have : τ = σ := by cases τ <;> (simp only [tyAt, Option.some.injEq] at h; exact h)
           subst this; have e : off τ [] = 0 := by cases τ <;> rfl
           simp [e]
  | cons s p ih =>
    intro τ σ q h
    cases τ <;> cases s <;> simp only [tyAt] at h <;> first
      | (exfalso; simp at h; done)
      | (simp only [List.cons_append, off]; rw [ih _ _ q h]; try omega)
      | (split at h
         · simp only [List.cons_append, off]; rw [ih _ _ q h]; omega
         · simp at h)

theorem okPath_append : ∀ (p : Path) (τ σ : Ty) (q : Path), tyAt τ p = some σ → okPath τ p → okPath σ q → okPath τ (p ++ q) := by
  intro p
  induction p with
  | nil => intro τ σ q h _ k; have : τ = σ := by cases τ <;> (simp only [tyAt, Option.some.injEq] at h; exact h)
           subst this; exact k
  | cons s p ih =>
    intro τ σ q h ok k
    cases τ <;> cases s <;> simp only [tyAt] at h <;> first
      | (exfalso; simp at h; done)
      | exact ih _ _ q h ok k
      | exact ⟨ok.1, ih _ _ q h ok.2 k⟩
      | (split at h
         · exact ⟨ok.1, ih _ _ q h ok.2 k⟩
         · simp at h)

end Go.Ev

namespace Go.Ev
set_option linter.unusedVariables false

mutual
def SVRel (ρ : Nat → Nat) (S : Stab) (w : World) : SV → Value → Prop
  | .tv t, v => ∃ cs, Rep S w t.ty t.x cs ∧ v = t.ty.pack cs
  | .ptr n τ p, v => okPath τ p ∧ v = .pointer (some ⟨ρ n, off τ p, none⟩)
  | .sptr t, v => ∃ b o cs, v = .pointer (some ⟨b, o, none⟩) ∧ Rep S w t.ty t.x cs ∧ Lies S w b o cs
  | .osl n τ p lo hi, v => ∃ m e o cap, tyAt τ p = some (.arr m e) ∧ okPath τ p ∧ 0 ≤ lo ∧ lo ≤ hi ∧ hi ≤ (m : Int) ∧
      (lo < (m : Int) → o = off τ p + lo.toNat * e.size) ∧ v = .slice (some ⟨ρ n, o, none⟩) (hi - lo).toNat cap
  | .vsl n e hi m, v => ∃ cap : Nat, v = .slice (some ⟨ρ n, 0, none⟩) hi.toNat cap ∧ 0 ≤ hi ∧ hi ≤ (cap : Int) ∧ (0 ≤ m → (cap : Int) = m)
  | .vptr n e i p, v => 0 ≤ i ∧ okPath e p ∧ v = .pointer (some ⟨ρ n, i.toNat * e.size + off e p, none⟩)
  | .fn f first caps, v => ∃ us vs, v = .func (.func f) (List.toArray us) (List.toArray vs) ∧ SVRelL ρ S w first us ∧ SVRelL ρ S w caps vs
  | .tup l, v => ∃ vs, v = .tuple (List.toArray vs) ∧ SVRelL ρ S w l vs
  | .nilsl, v => v = .slice none 0 0
  | .nilfn, v => v = .nilFunc
  | .nilp, v => v = .pointer none
  | .undef, v => v = undef
def SVRelL (ρ : Nat → Nat) (S : Stab) (w : World) : List SV → List Value → Prop
  | [], vs => vs = []
  | a :: l, vs => ∃ v r, vs = v :: r ∧ SVRel ρ S w a v ∧ SVRelL ρ S w l r
end

def ObjRel (S : Stab) (w : World) (b : Nat) : TV → Prop
  | ⟨.vec e, l⟩ => ∃ cs rest T, RepL (Rep S w e) l cs ∧ w.heap[b]? = some (.cells (cs ++ rest).toArray T (0, 0)) ∧ ∀ i, ¬ S b i
  | t => ∃ cs T, Rep S w t.ty t.x cs ∧ w.heap[b]? = some (.cells cs.toArray T (0, 0)) ∧ ∀ i, ¬ S b i

theorem ObjRel.plain {S : Stab} {w : World} {b : Nat} {t : TV} (h : ObjRel S w b t) (hv : t.ty.isVec = false) : ∃ cs T, Rep S w t.ty t.x cs ∧ w.heap[b]? = some (.cells cs.toArray T (0, 0)) ∧ ∀ i, ¬ S b i := by
  obtain ⟨τ, x⟩ := t
  cases τ <;> first | exact h | simp [Ty.isVec] at hv

theorem ObjRel.of {S : Stab} {w : World} {b : Nat} {t : TV} {cs : List Value} {T : Nat} (h1 : Rep S w t.ty t.x cs) (h2 : w.heap[b]? = some (.cells cs.toArray T (0, 0))) (h3 : ∀ i, ¬ S b i) : ObjRel S w b t := by
  obtain ⟨τ, x⟩ := t
  cases τ <;> first
    | exact ⟨cs, T, h1, h2, h3⟩
    | (obtain ⟨e1, e2⟩ := h1
       refine ⟨[], [.bool false], T, ?_, ?_, h3⟩
       · simp only at e1; rw [e1]; rfl
       · rw [h2, e2]; rfl)

theorem ObjRel.heap {S : Stab} {w : World} {b : Nat} {t : TV} (h : ObjRel S w b t) : ∃ cs T, w.heap[b]? = some (.cells (List.toArray cs) T (0, 0)) ∧ ∀ i, ¬ S b i := by
  obtain ⟨τ, x⟩ := t
  cases τ <;> first
    | (obtain ⟨cs, T, _, h2, h3⟩ := h; exact ⟨cs, T, h2, h3⟩)
    | (obtain ⟨cs, rest, T, _, h2, h3⟩ := h; exact ⟨_, T, h2, h3⟩)

def St.D (st : St) (n : Nat) : Prop := (st.obj n).isSome = true

/-- The room behind a slice is nobody's. -/
def Room (B : Nat) (D : Nat → Prop) (ρ : Nat → Nat) (S : Stab) (w : World) (T sz : Nat) (x : Value) : Prop :=
  x = .slice none 0 0 ∨ ∃ g n cap cur, x = .slice (some ⟨g, 0, none⟩) n cap ∧ B ≤ g ∧ w.heap[g]? = some (.cells cur T (0, 0)) ∧ n ≤ cap ∧ cap ≤ maxLen ∧ cur.size = cap * sz ∧
    (∀ i, n * sz ≤ i → ¬ S g i) ∧ ∀ m, D m → ρ m ≠ g

structure Rel (nt B : Nat) (ρ : Nat → Nat) (S : Stab) (st : St) (a : Act) (w : World) : Prop where
  tmp : ∀ t v, st.tmp t = some v → SVRel ρ S w v (a.tmps.getD t undef)
  obj : ∀ n t, st.obj n = some t → ObjRel S w (ρ n) t
  inj : ∀ n m, st.D n → st.D m → ρ n = ρ m → n = m
  names : ∀ t v n, st.tmp t = some v → n ∈ v.names → st.D n
  dfr : a.defers = []
  sz : nt ≤ a.tmps.size
  sb : ∀ b i, S b i → b < w.heap.size
  room : ∀ q, q ∈ st.gr → Room B st.D ρ S w q.2.1 q.2.2 (a.tmps.getD q.1 undef)
  apart : ∀ q q', q ∈ st.gr → q' ∈ st.gr → q.1 ≠ q'.1 → (a.tmps.getD q.1 undef).ownBlock = none ∨ (a.tmps.getD q.1 undef).ownBlock ≠ (a.tmps.getD q'.1 undef).ownBlock
  hB : B ≤ w.heap.size

/-- As it stands ahead of an operation that writes d. -/
structure RelO (nt B : Nat) (d : Option Nat) (ρ : Nat → Nat) (S : Stab) (st : St) (a : Act) (w : World) : Prop extends Rel nt B ρ S st a w where
  hg : ∀ q, q ∈ st.gr → d ≠ some q.1

/-- From one point of a run to a later one: what is new, and that of what was there only the objects may have turned. -/
structure Ext (ρ : Nat → Nat) (S : Stab) (D : Nat → Prop) (w : World) (ρ' : Nat → Nat) (S' : Stab) (D' : Nat → Prop) (w' : World) : Prop where
  dom : ∀ n, D n → D' n
  same : ∀ n, D n → ρ' n = ρ n
  fresh : ∀ n, D' n → ¬ D n → w.heap.size ≤ ρ' n
  mono : ∀ b i, S b i → S' b i
  new : ∀ b i, S' b i → S b i ∨ w.heap.size ≤ b
  size : w.heap.size ≤ w'.heap.size
  frame : ∀ b, b < w.heap.size → (∀ n, D n → ρ n ≠ b) → w'.heap[b]? = w.heap[b]?
  os : w'.os = w.os
  tape : w'.tape = w.tape
  output : w'.output = w.output

/-- The same of a whole run of a function that began when the heap had size B: blocks from B on that are no objects may have turned, but for what is stable. -/
structure ExtB (B : Nat) (ρ : Nat → Nat) (S : Stab) (D : Nat → Prop) (w : World) (ρ' : Nat → Nat) (S' : Stab) (D' : Nat → Prop) (w' : World) : Prop where
  dom : ∀ n, D n → D' n
  same : ∀ n, D n → ρ' n = ρ n
  fresh : ∀ n, D' n → ¬ D n → B ≤ ρ' n
  mono : ∀ b i, S b i → S' b i
  new : ∀ b i, S' b i → S b i ∨ B ≤ b
  size : w.heap.size ≤ w'.heap.size
  frame : ∀ b, b < B → (∀ n, D n → ρ n ≠ b) → w'.heap[b]? = w.heap[b]?
  cell : ∀ b i v, S b i → w.cell? ⟨b, i, none⟩ = some v → w'.cell? ⟨b, i, none⟩ = some v
  os : w'.os = w.os
  tape : w'.tape = w.tape
  output : w'.output = w.output

theorem ExtB.refl (B : Nat) (ρ : Nat → Nat) (S : Stab) (D : Nat → Prop) (w : World) : ExtB B ρ S D w ρ S D w :=
  ⟨fun _ h => h, fun _ _ => rfl, fun _ h k => absurd h k, fun _ _ h => h, fun _ _ h => .inl h, Nat.le_refl _, fun _ _ _ => rfl, fun _ _ _ _ h => h, rfl, rfl, rfl⟩

theorem ExtB.trans {B : Nat} {ρ ρ' ρ'' : Nat → Nat} {S S' S'' : Stab} {D D' D'' : Nat → Prop} {w w' w'' : World} (h : ExtB B ρ S D w ρ' S' D' w') (k : ExtB B ρ' S' D' w' ρ'' S'' D'' w'') : ExtB B ρ S D w ρ'' S'' D'' w'' where
  dom n d := k.dom n (h.dom n d)
  same n d := (k.same n (h.dom n d)).trans (h.same n d)
  fresh n d nd := by
    by_cases hd : D' n
    · rw [k.same n hd]; exact h.fresh n hd nd
    · exact k.fresh n d hd
  mono b i s := k.mono b i (h.mono b i s)
  new b i s := (k.new b i s).elim (fun s' => h.new b i s') .inr
  size := Nat.le_trans h.size k.size
  frame b hb hn := by
    rw [k.frame b hb ?_, h.frame b hb hn]
    intro n d
    by_cases hd : D n
    · rw [h.same n hd]; exact hn n hd
    · have := h.fresh n d hd; omega
  cell b i v s e := k.cell b i v (h.mono b i s) (h.cell b i v s e)
  os := k.os.trans h.os
  tape := k.tape.trans h.tape
  output := k.output.trans h.output

theorem ExtB.congr {B : Nat} {ρ ρ' : Nat → Nat} {S S' : Stab} {D D' E E' : Nat → Prop} {w w' : World} (h : ExtB B ρ S D w ρ' S' D' w') (e : ∀ n, D n ↔ E n) (e' : ∀ n, D' n ↔ E' n) : ExtB B ρ S E w ρ' S' E' w' where
  dom n d := (e' n).1 (h.dom n ((e n).2 d))
  same n d := h.same n ((e n).2 d)
  fresh n d nd := h.fresh n ((e' n).2 d) (fun x => nd ((e n).1 x))
  mono := h.mono
  new := h.new
  size := h.size
  frame b hb hn := h.frame b hb (fun n d => hn n ((e n).1 d))
  cell := h.cell
  os := h.os
  tape := h.tape
  output := h.output

theorem Ext.refl (ρ : Nat → Nat) (S : Stab) (D : Nat → Prop) (w : World) : Ext ρ S D w ρ S D w :=
  ⟨fun _ h => h, fun _ _ => rfl, fun _ h k => absurd h k, fun _ _ h => h, fun _ _ h => .inl h, Nat.le_refl _, fun _ _ _ => rfl, rfl, rfl, rfl⟩

theorem Ext.trans {ρ ρ' ρ'' : Nat → Nat} {S S' S'' : Stab} {D D' D'' : Nat → Prop} {w w' w'' : World} (h : Ext ρ S D w ρ' S' D' w') (k : Ext ρ' S' D' w' ρ'' S'' D'' w'') : Ext ρ S D w ρ'' S'' D'' w'' where
  dom n d := k.dom n (h.dom n d)
  same n d := (k.same n (h.dom n d)).trans (h.same n d)
  fresh n d nd := by
    by_cases hd : D' n
    · rw [k.same n hd]; exact h.fresh n hd nd
    · exact Nat.le_trans h.size (k.fresh n d hd)
  mono b i s := k.mono b i (h.mono b i s)
  new b i s := (k.new b i s).elim (fun s' => h.new b i s') (fun l => .inr (Nat.le_trans h.size l))
  size := Nat.le_trans h.size k.size
  frame b hb hn := by
    rw [k.frame b (Nat.lt_of_lt_of_le hb h.size) ?_, h.frame b hb hn]
    intro n d
    by_cases hd : D n
    · rw [h.same n hd]; exact hn n hd
    · have := h.fresh n d hd; omega
  os := k.os.trans h.os
  tape := k.tape.trans h.tape
  output := k.output.trans h.output

theorem Ext.congr {ρ ρ' : Nat → Nat} {S S' : Stab} {D D' E E' : Nat → Prop} {w w' : World} (h : Ext ρ S D w ρ' S' D' w') (e : ∀ n, D n ↔ E n) (e' : ∀ n, D' n ↔ E' n) : Ext ρ S E w ρ' S' E' w' where
  dom n d := (e' n).1 (h.dom n ((e n).2 d))
  same n d := h.same n ((e n).2 d)
  fresh n d nd := h.fresh n ((e' n).2 d) (fun x => nd ((e n).1 x))
  mono := h.mono
  new := h.new
  size := h.size
  frame b hb hn := h.frame b hb (fun n d => hn n ((e n).1 d))
  os := h.os
  tape := h.tape
  output := h.output

theorem cell?_of_heap {w w' : World} {b i : Nat} (h : w'.heap[b]? = w.heap[b]?) : w'.cell? ⟨b, i, none⟩ = w.cell? ⟨b, i, none⟩ := by
  simp only [World.cell?, h]

theorem Ext.le {ρ ρ' : Nat → Nat} {S S' : Stab} {D D' : Nat → Prop} {w w' : World} (h : Ext ρ S D w ρ' S' D' w') (hs : ∀ n, D n → ∀ i, ¬ S (ρ n) i) (sb : ∀ b i, S b i → b < w.heap.size) : Le S w S' w' :=
  ⟨h.mono, fun b i v s e => by
    rw [cell?_of_heap (h.frame b (sb b i s) fun n d e' => hs n d i (e' ▸ s))]; exact e⟩

theorem Room.congr {B : Nat} {D D' : Nat → Prop} {ρ : Nat → Nat} {S : Stab} {w : World} {T sz : Nat} {x : Value} (h : Room B D ρ S w T sz x) (e : ∀ m, D' m → D m) : Room B D' ρ S w T sz x := by
  rcases h with h | ⟨g, n, cap, cur, h1, h2, h3, h4, h5, h6, h7, h8⟩
  · exact .inl h
  · exact .inr ⟨g, n, cap, cur, h1, h2, h3, h4, h5, h6, h7, fun m dm => h8 m (e m dm)⟩

theorem Room.ext {B : Nat} {D D' : Nat → Prop} {ρ ρ' : Nat → Nat} {S S' : Stab} {w w' : World} {T sz : Nat} {x : Value} (h : Room B D ρ S w T sz x) (e : Ext ρ S D w ρ' S' D' w') : Room B D' ρ' S' w' T sz x := by
  rcases h with h | ⟨g, n, cap, cur, h1, h2, h3, h4, h5, h6, h7, h8⟩
  · exact .inl h
  · have hlt : g < w.heap.size := (Array.getElem?_eq_some_iff.1 h3).1
    refine .inr ⟨g, n, cap, cur, h1, h2, (e.frame g hlt h8).trans h3, h4, h5, h6, fun i hi s => ?_, fun m dm => ?_⟩
    · rcases e.new g i s with s | s
      · exact h7 i hi s
      · omega
    · by_cases hd : D m
      · rw [e.same m hd]; exact h8 m hd
      · have := e.fresh m dm hd; omega

theorem Rel.off {nt B : Nat} {ρ : Nat → Nat} {S : Stab} {st : St} {a : Act} {w : World} (h : Rel nt B ρ S st a w) : ∀ n, st.D n → ∀ i, ¬ S (ρ n) i := by
  intro n d i
  obtain ⟨t, ht⟩ := Option.isSome_iff_exists.1 d
  obtain ⟨_, _, _, k⟩ := (h.obj n t ht).heap
  exact k i

theorem Rel.le {nt B : Nat} {ρ ρ' : Nat → Nat} {S S' : Stab} {st : St} {D' : Nat → Prop} {a : Act} {w w' : World} (h : Rel nt B ρ S st a w) (e : Ext ρ S st.D w ρ' S' D' w') : Le S w S' w' := e.le h.off h.sb

mutual
theorem SVRel.le {ρ ρ' : Nat → Nat} {S S' : Stab} {w w' : World} (k : Le S w S' w') : ∀ (v : SV) (x : Value), (∀ n, n ∈ v.names → ρ' n = ρ n) → SVRel ρ S w v x → SVRel ρ' S' w' v x
  | .tv t, x, _, ⟨cs, r, e⟩ => ⟨cs, r.le k t.ty, e⟩
  | .ptr n τ p, x, hn, ⟨ok, e⟩ => ⟨ok, by rw [hn n (by simp [SV.names])]; exact e⟩
  | .sptr t, x, _, ⟨b, o, cs, e, r, l⟩ => ⟨b, o, cs, e, r.le k t.ty, l.le k⟩
  | .osl n τ p lo hi, x, hn, ⟨m, e, o, cap, h1, h2, h3, h4, h5, h6, h7⟩ => ⟨m, e, o, cap, h1, h2, h3, h4, h5, h6, by rw [hn n (by simp [SV.names])]; exact h7⟩
  | .vsl n e hi m, x, hn, ⟨cap, h1, h2⟩ => ⟨cap, by rw [hn n (by simp [SV.names])]; exact h1, h2⟩
  | .vptr n e i p, x, hn, ⟨h1, h2, h3⟩ => ⟨h1, h2, by rw [hn n (by simp [SV.names])]; exact h3⟩
  | .fn f first caps, x, hn, ⟨us, vs, e, q, r⟩ => ⟨us, vs, e, SVRelL.le k first us (fun n h => hn n (by simp [SV.names, h])) q, SVRelL.le k caps vs (fun n h => hn n (by simp [SV.names, h])) r⟩
  | .tup l, x, hn, ⟨vs, e, r⟩ => ⟨vs, e, SVRelL.le k l vs (fun n h => hn n (by simpa [SV.names] using h)) r⟩
  | .nilsl, x, _, h => h
  | .nilfn, x, _, h => h
  | .nilp, x, _, h => h
  | .undef, x, _, h => h
theorem SVRelL.le {ρ ρ' : Nat → Nat} {S S' : Stab} {w w' : World} (k : Le S w S' w') : ∀ (l : List SV) (vs : List Value), (∀ n, n ∈ namesL l → ρ' n = ρ n) → SVRelL ρ S w l vs → SVRelL ρ' S' w' l vs
  | [], vs, _, h => h
  | v :: l, vs, hn, ⟨x, r, e, hx, hr⟩ => ⟨x, r, e, SVRel.le k v x (fun n h => hn n (by simp [namesL, h])) hx, SVRelL.le k l r (fun n h => hn n (by simp [namesL, h])) hr⟩
end

theorem ObjRel.le {S S' : Stab} {w w' : World} {b : Nat} {t : TV} (k : Le S w S' w') (hb : w'.heap[b]? = w.heap[b]?) (hs : ∀ i, ¬ S' b i) (h : ObjRel S w b t) : ObjRel S' w' b t := by
  obtain ⟨τ, x⟩ := t
  cases τ <;> first
    | (obtain ⟨cs, T, r, e, _⟩ := h; exact ⟨cs, T, r.le k _, hb.trans e, hs⟩)
    | (obtain ⟨cs, rest, T, r, e, _⟩ := h; exact ⟨cs, rest, T, r.imp fun _ _ h => h.le k _, hb.trans e, hs⟩)

theorem ObjRel.lt {S : Stab} {w : World} {b : Nat} {t : TV} (h : ObjRel S w b t) : b < w.heap.size := by
  obtain ⟨_, _, e, _⟩ := h.heap
  rcases Nat.lt_or_ge b w.heap.size with h | h
  · exact h
  · simp [Array.getElem?_eq_none h] at e

/-! ### Look-ups -/
theorem lk_cons_same {α : Type} (t : Nat) (x : α) (l : List (Nat × α)) : lk t ((t, x) :: l) = some x := by simp [lk, Nat.beq_refl]
theorem lk_cons_ne {α : Type} {t u : Nat} (x : α) (l : List (Nat × α)) (h : t ≠ u) : lk t ((u, x) :: l) = lk t l := by
  have : Nat.beq t u = false := by
    cases hb : Nat.beq t u with
    | false => rfl
    | true => exact absurd (Nat.eq_of_beq_eq_true hb) h
  simp [lk, this]
theorem lk_append {α : Type} (t : Nat) : ∀ (l m : List (Nat × α)), lk t (l ++ m) = (match lk t l with | some v => some v | none => lk t m)
  | [], m => rfl
  | (u, x) :: l, m => by
    by_cases h : t = u
    · subst h; simp [lk_cons_same]
    · rw [List.cons_append, lk_cons_ne _ _ h, lk_cons_ne _ _ h, lk_append t l m]
theorem lk_mem {α : Type} {t : Nat} {x : α} : ∀ {l : List (Nat × α)}, lk t l = some x → (t, x) ∈ l
  | (u, y) :: l, h => by
    by_cases e : t = u
    · subst e; rw [lk_cons_same] at h; simp at h; subst h; simp
    · rw [lk_cons_ne _ _ e] at h; simp [lk_mem h]
theorem lk_none_of {α : Type} {t : Nat} : ∀ {l : List (Nat × α)}, (∀ x, (t, x) ∉ l) → lk t l = none
  | [], _ => rfl
  | (u, y) :: l, h => by
    by_cases e : t = u
    · subst e; exact absurd (by simp) (h y)
    · rw [lk_cons_ne _ _ e]; exact lk_none_of fun x hx => h x (by simp [hx])

theorem St.tmp_set (st : St) (d : Option Nat) (v : SV) (os : List (Nat × TV)) (t : Nat) : (st.set d v os).tmp t = if d = some t then some v else st.tmp t := by
  unfold St.set St.tmp
  cases d with
  | none => simp
  | some d =>
    by_cases h : t = d
    · subst h; simp [lk_cons_same]
    · have : ¬ (some d = some t) := by simp; omega
      simp only [this, if_false, lk_cons_ne v st.tt h]

theorem St.obj_set (st : St) (d : Option Nat) (v : SV) (os : List (Nat × TV)) (n : Nat) : (st.set d v os).obj n = match lk n os with | some t => some t | none => st.obj n := by
  unfold St.set St.obj
  simp only [lk_append]
  cases lk n os <;> rfl

/-- Two states with the same look-ups. -/
structure Eqv (s t : St) : Prop where
  tmp : ∀ i, s.tmp i = t.tmp i
  obj : ∀ n, s.obj n = t.obj n
  gr : ∀ q, q ∈ s.gr ↔ q ∈ t.gr

theorem Eqv.refl (s : St) : Eqv s s := ⟨fun _ => rfl, fun _ => rfl, fun _ => Iff.rfl⟩
theorem Eqv.symm {s t : St} (h : Eqv s t) : Eqv t s := ⟨fun i => (h.tmp i).symm, fun n => (h.obj n).symm, fun q => (h.gr q).symm⟩
theorem Eqv.trans {s t u : St} (h : Eqv s t) (k : Eqv t u) : Eqv s u := ⟨fun i => (h.tmp i).trans (k.tmp i), fun n => (h.obj n).trans (k.obj n), fun q => (h.gr q).trans (k.gr q)⟩
theorem Eqv.D {s t : St} (h : Eqv s t) (n : Nat) : s.D n ↔ t.D n := by unfold St.D; rw [h.obj n]
theorem Eqv.set {s t : St} (h : Eqv s t) (d : Option Nat) (v : SV) (os : List (Nat × TV)) : Eqv (s.set d v os) (t.set d v os) :=
  ⟨fun i => by rw [St.tmp_set, St.tmp_set, h.tmp], fun n => by rw [St.obj_set, St.obj_set, h.obj], h.gr⟩

theorem Rel.eqv {nt B : Nat} {ρ : Nat → Nat} {S : Stab} {s t : St} {a : Act} {w : World} (h : Rel nt B ρ S s a w) (e : Eqv s t) : Rel nt B ρ S t a w where
  tmp i v hv := h.tmp i v ((e.tmp i).trans hv)
  obj n x hx := h.obj n x ((e.obj n).trans hx)
  inj n m dn dm := h.inj n m ((e.D n).2 dn) ((e.D m).2 dm)
  names i v n hv hn := (e.D n).1 (h.names i v n ((e.tmp i).trans hv) hn)
  dfr := h.dfr
  sz := h.sz
  sb := h.sb
  room q hq := (h.room q ((e.gr q).2 hq)).congr fun m => (e.D m).2
  apart q q' hq hq' := h.apart q q' ((e.gr q).2 hq) ((e.gr q').2 hq')
  hB := h.hB

/-- THE STEP: the result of an operation is written, and some objects are. -/
theorem Rel.step {nt B : Nat} {ρ ρ' : Nat → Nat} {S S' : Stab} {st : St} {a : Act} {w w' : World} {d : Option Nat} {v : SV} {os : List (Nat × TV)} {x : Value}
    (h : Rel nt B ρ S st a w) (hgr : ∀ q, q ∈ st.gr → d ≠ some q.1) (hd : dstOK nt d = true) (e : Ext ρ S st.D w ρ' S' (st.set d v os).D w') (hv : SVRel ρ' S' w' v x) (hn : ∀ n, n ∈ v.names → (st.set d v os).D n)
    (ho : ∀ n t, lk n os = some t → ObjRel S' w' (ρ' n) t)
    (hk : ∀ n, st.D n → lk n os = none → w'.heap[ρ n]? = w.heap[ρ n]? ∧ ∀ i, ¬ S' (ρ n) i)
    (hi : ∀ n m, (st.set d v os).D n → (st.set d v os).D m → ρ' n = ρ' m → n = m)
    (sb : ∀ b i, S' b i → b < w'.heap.size) : Rel nt B ρ' S' (st.set d v os) (a.put d x) w' := by
  have le := h.le e
  have put : ∀ t, d ≠ some t → (a.put d x).tmps.getD t undef = a.tmps.getD t undef := fun t ht => by
    cases d with
    | none => rfl
    | some d =>
      have : d ≠ t := fun e => ht (by rw [e])
      simp [Act.put, Array.getElem?_setIfInBounds_ne this]
  refine ⟨?_, ?_, hi, ?_, ?_, ?_, sb, fun q hq => ?_, fun q q' hq hq' hne => ?_, Nat.le_trans h.hB e.size⟩
  · intro t u hu
    rw [St.tmp_set] at hu
    by_cases hdt : d = some t
    · rw [if_pos hdt] at hu
      simp only [Option.some.injEq] at hu; subst hu
      subst hdt
      have : t < a.tmps.size := by
        simp only [dstOK, Nat.blt_eq] at hd
        have := h.sz; omega
      have e1 : (a.put (some t) x).tmps.getD t undef = x := by simp [Act.put, Array.getD, this]
      rw [e1]; exact hv
    · rw [if_neg hdt] at hu
      have e1 : (a.put d x).tmps.getD t undef = a.tmps.getD t undef := by
        cases d with
        | none => rfl
        | some d =>
          have : d ≠ t := fun e => hdt (by rw [e])
          simp [Act.put, Array.getElem?_setIfInBounds_ne this]
      rw [e1]
      exact SVRel.le le u _ (fun n hn => e.same n (h.names t u n hu hn)) (h.tmp t u hu)
  · intro n t ht
    rw [St.obj_set] at ht
    cases hl : lk n os with
    | some t' => rw [hl] at ht; simp only [Option.some.injEq] at ht; subst ht; exact ho n _ hl
    | none =>
      rw [hl] at ht
      have dn : st.D n := by unfold St.D; rw [show st.obj n = some t from ht]; rfl
      obtain ⟨k1, k2⟩ := hk n dn hl
      rw [e.same n dn]
      exact (h.obj n t ht).le le k1 k2
  · intro t u n hu hnn
    rw [St.tmp_set] at hu
    by_cases hdt : d = some t
    · rw [if_pos hdt] at hu
      simp only [Option.some.injEq] at hu; subst hu
      exact hn n hnn
    · rw [if_neg hdt] at hu
      exact e.dom n (h.names t u n hu hnn)
  · cases d <;> exact h.dfr
  · have := h.sz
    cases d <;> simpa [Act.put] using this
  · rw [put q.1 (hgr q hq)]
    exact (h.room q hq).ext e
  · rw [put q.1 (hgr q hq), put q'.1 (hgr q' hq')]
    exact h.apart q q' hq hq' hne

/-- A step that turns nothing in memory. -/
theorem Rel.pure {nt B : Nat} {ρ : Nat → Nat} {S : Stab} {st : St} {a : Act} {w : World} {d : Option Nat} {v : SV} {x : Value}
    (h : Rel nt B ρ S st a w) (hgr : ∀ q, q ∈ st.gr → d ≠ some q.1) (hd : dstOK nt d = true) (hv : SVRel ρ S w v x) (hn : ∀ n, n ∈ v.names → st.D n) : Rel nt B ρ S (st.set d v []) (a.put d x) w := by
  have hD : ∀ n, (st.set d v []).D n ↔ st.D n := fun n => by unfold St.D; rw [St.obj_set]; rfl
  refine h.step hgr hd ((Ext.refl ρ S st.D w).congr (fun _ => Iff.rfl) (fun n => (hD n).symm)) hv (fun n k => (hD n).2 (hn n k)) (fun n t e => by simp [lk] at e) (fun n dn _ => ⟨rfl, h.off n dn⟩)
    (fun n m dn dm => h.inj n m ((hD n).1 dn) ((hD m).1 dm)) h.sb

theorem RelO.step {nt B : Nat} {ρ ρ' : Nat → Nat} {S S' : Stab} {st : St} {a : Act} {w w' : World} {d : Option Nat} {v : SV} {os : List (Nat × TV)} {x : Value}
    (h : RelO nt B d ρ S st a w) (hd : dstOK nt d = true) (e : Ext ρ S st.D w ρ' S' (st.set d v os).D w') (hv : SVRel ρ' S' w' v x) (hn : ∀ n, n ∈ v.names → (st.set d v os).D n)
    (ho : ∀ n t, lk n os = some t → ObjRel S' w' (ρ' n) t)
    (hk : ∀ n, st.D n → lk n os = none → w'.heap[ρ n]? = w.heap[ρ n]? ∧ ∀ i, ¬ S' (ρ n) i)
    (hi : ∀ n m, (st.set d v os).D n → (st.set d v os).D m → ρ' n = ρ' m → n = m)
    (sb : ∀ b i, S' b i → b < w'.heap.size) : Rel nt B ρ' S' (st.set d v os) (a.put d x) w' := h.toRel.step h.hg hd e hv hn ho hk hi sb

theorem RelO.pure {nt B : Nat} {ρ : Nat → Nat} {S : Stab} {st : St} {a : Act} {w : World} {d : Option Nat} {v : SV} {x : Value}
    (h : RelO nt B d ρ S st a w) (hd : dstOK nt d = true) (hv : SVRel ρ S w v x) (hn : ∀ n, n ∈ v.names → st.D n) : Rel nt B ρ S (st.set d v []) (a.put d x) w := h.toRel.pure h.hg hd hv hn

/-- A step's report, as one of the whole run. -/
theorem RelO.up {nt B : Nat} {ρ ρ' : Nat → Nat} {S S' : Stab} {st : St} {a : Act} {w w' : World} {d : Option Nat} {D' : Nat → Prop} (h : RelO nt B d ρ S st a w) (e : Ext ρ S st.D w ρ' S' D' w') : ExtB B ρ S st.D w ρ' S' D' w' :=
  have hB := h.hB
  ⟨e.dom, e.same, fun n dn nd => Nat.le_trans hB (e.fresh n dn nd), e.mono, fun b i s => (e.new b i s).imp id fun l => Nat.le_trans hB l, e.size, fun b hb hn => e.frame b (Nat.lt_of_lt_of_le hb hB) hn,
    (h.toRel.le e).cell, e.os, e.tape, e.output⟩

/-! ### Operands -/
theorem constSV_rel {ρ : Nat → Nat} {S : Stab} {w : World} {v : Value} {sv : SV} (h : constSV v = some sv) : SVRel ρ S w sv v ∧ sv.names = [] := by
  unfold constSV at h
  split at h <;> simp only [Option.some.injEq, reduceCtorEq] at h
  all_goals subst h
  · exact ⟨⟨_, rfl, rfl⟩, rfl⟩
  · exact ⟨⟨_, rfl, rfl⟩, rfl⟩
  · exact ⟨⟨_, rfl, rfl⟩, rfl⟩
  · exact ⟨rfl, rfl⟩
  · exact ⟨rfl, rfl⟩
  · exact ⟨rfl, rfl⟩

theorem Rel.val {nt B : Nat} {ρ : Nat → Nat} {S : Stab} {st : St} {a : Act} {w : World} (h : Rel nt B ρ S st a w) {x : Operand} {v : SV} (hv : st.val x = some v) :
    SVRel ρ S w v (a.eval x) ∧ ∀ n, n ∈ v.names → st.D n := by
  cases x with
  | tmp t => exact ⟨h.tmp t v hv, fun n hn => h.names t v n hv hn⟩
  | const c =>
    obtain ⟨r, e⟩ := constSV_rel (ρ := ρ) (S := S) (w := w) hv
    exact ⟨r, fun n hn => by rw [e] at hn; simp at hn⟩
  | global g => simp [St.val] at hv
  | func f =>
    simp only [St.val, Option.some.injEq] at hv
    subst hv
    exact ⟨⟨[], [], rfl, rfl, rfl⟩, fun n hn => by simp [SV.names, namesL] at hn⟩

theorem Rel.vals {nt B : Nat} {ρ : Nat → Nat} {S : Stab} {st : St} {a : Act} {w : World} (h : Rel nt B ρ S st a w) : ∀ {xs : List Operand} {l : List SV}, Ev.vals st xs = some l →
    SVRelL ρ S w l (xs.map a.eval) ∧ ∀ n, n ∈ namesL l → st.D n
  | [], l, e => by simp only [Ev.vals, Option.some.injEq] at e; subst e; exact ⟨rfl, fun n hn => by simp [namesL] at hn⟩
  | x :: xs, l, e => by
    simp only [Ev.vals] at e
    split at e
    · rename_i v hv
      split at e
      · rename_i l' hl
        simp only [Option.some.injEq] at e; subst e
        obtain ⟨r1, n1⟩ := h.val hv
        obtain ⟨r2, n2⟩ := h.vals hl
        refine ⟨⟨_, _, rfl, r1, r2⟩, fun n hn => ?_⟩
        simp only [namesL, List.mem_append] at hn
        exact hn.elim (n1 n) (n2 n)
      · simp at e
    · simp at e

theorem SV.as_rel {ρ : Nat → Nat} {S : Stab} {w : World} {τ : Ty} {v : SV} {x : τ.den} {y : Value} (e : v.as τ = some x) (h : SVRel ρ S w v y) : ∃ cs, Rep S w τ x cs ∧ y = τ.pack cs := by
  cases v with
  | tv t =>
    have := TV.as_some (show t.as τ = some x from e)
    subst this
    exact h
  | nilsl =>
    simp only [SV.as] at e
    split at e
    · simp only [Option.some.injEq] at e; subst e
      exact ⟨_, ⟨none, 0, rfl, Nat.le_refl _, .inl rfl⟩, h⟩
    · simp at e
  | _ => simp [SV.as] at e

theorem SV.asT_rel {ρ : Nat → Nat} {S : Stab} {w : World} {τ : Ty} {v : SV} {x : τ.den} {y : Value} (e : v.asT τ = some x) (h : SVRel ρ S w v y) : SVRel ρ S w (mkSV τ x) y ∧ ∀ n, n ∈ (mkSV τ x).names → n ∈ v.names := by
  cases τ with
  | hdl n e' =>
    simp only [SV.asT] at e
    split at e
    · rename_i n' e'' hi m
      cases hb : Nat.beq n n' && Ty.beq e' e'' with
      | false => rw [hb] at e; simp at e
      | true =>
        rw [hb] at e
        simp only [cond_true, Option.some.injEq] at e
        rw [Bool.and_eq_true] at hb
        have e1 := Nat.eq_of_beq_eq_true hb.1
        have e2 := Ty.eq_of_beq hb.2
        subst e1; subst e2; subst e
        exact ⟨h, fun _ h => h⟩
    · simp at e
  | _ =>
    obtain ⟨cs, q1, q2⟩ := SV.as_rel (show v.as _ = some x from e) h
    exact ⟨⟨cs, q1, q2⟩, fun n hn => by simp [mkSV, SV.names] at hn⟩

/-! ### What an operation promises -/
def Post (nt B : Nat) (ρ : Nat → Nat) (S : Stab) (st st' : St) (w : World) : Act → World → Prop := fun a' w' => ∃ ρ' S', Rel nt B ρ' S' st' a' w' ∧ ExtB B ρ S st.D w ρ' S' st'.D w'

def OpSem (P : Program) (nt : Nat) (o : Oper) (st : St) (v : SV) (os : List (Nat × TV)) (ro : List Nat) : Prop :=
  ∀ st' : St, (∀ t, t ∈ opTmps o.op.operands.toList → st'.tmp t = st.tmp t) → (∀ n, n ∈ ro → st'.obj n = st.obj n) → (∀ n, n ∈ os.map (·.1) → st'.obj n = st.obj n) →
    ∀ B ρ S a w, RelO nt B o.dst ρ S st' a w → ∀ Q, o.wp P a w (Post nt B ρ S st' (st'.set o.dst v os) w) Q

theorem wp_value {P : Program} {o : Oper} {a : Act} {w w' : World} {K : Act → World → Prop} {Q : Exit → Act → World → Prop} {v : Value}
    (h : (execOp a.eval o).run P w = .ok (.value v) w') (hk : K (a.put o.dst v) w') : o.wp P a w K Q := by
  simp only [Oper.wp, h, Oper.upon]; exact hk

/-- An operation that turns nothing in memory. -/
theorem OpSem.pure {P : Program} {nt : Nat} {o : Oper} {st : St} {v : SV} {ro : List Nat} (hd : dstOK nt o.dst = true)
    (h : ∀ st' : St, (∀ t, t ∈ opTmps o.op.operands.toList → st'.tmp t = st.tmp t) → (∀ n, n ∈ ro → st'.obj n = st.obj n) → ∀ B ρ S a w, Rel nt B ρ S st' a w →
      ∃ x, (execOp a.eval o).run P w = .ok (.value x) w ∧ SVRel ρ S w v x ∧ ∀ n, n ∈ v.names → st'.D n) : OpSem P nt o st v [] ro := by
  intro st' h1 h2 h3 B ρ S a w r Q
  obtain ⟨x, e, hv, hn⟩ := h st' h1 h2 B ρ S a w r.toRel
  refine wp_value e ⟨ρ, S, r.pure hd hv hn, ?_⟩
  exact (ExtB.refl B ρ S st'.D w).congr (fun _ => Iff.rfl) (fun n => by unfold St.D; rw [St.obj_set]; rfl)

theorem mem_opTmps {x : Nat} : ∀ {l : List Operand}, .tmp x ∈ l → x ∈ opTmps l
  | .tmp y :: l, h => by
    rcases List.mem_cons.1 h with h | h
    · injection h with h; subst h; simp [opTmps]
    · simp [opTmps, mem_opTmps h]
  | .const _ :: l, h | .global _ :: l, h | .func _ :: l, h => by
    rcases List.mem_cons.1 h with h | h
    · simp at h
    · simp only [opTmps]; exact mem_opTmps h

theorem val_agree {st st' : St} {l : List Operand} (h : ∀ t, t ∈ opTmps l → st'.tmp t = st.tmp t) {x : Operand} (hx : x ∈ l) : st'.val x = st.val x := by
  cases x with
  | tmp t => exact h t (mem_opTmps hx)
  | _ => rfl

theorem vals_agree {st st' : St} {l : List Operand} (h : ∀ t, t ∈ opTmps l → st'.tmp t = st.tmp t) : ∀ {xs : List Operand}, (∀ x ∈ xs, x ∈ l) → vals st' xs = vals st xs
  | [], _ => rfl
  | x :: xs, k => by simp only [vals]; rw [val_agree h (k x (by simp)), vals_agree h fun y hy => k y (by simp [hy])]

/-! ### Types of the program -/
def mkS : List Ty → Ty
  | [] => .bool
  | [a] => .one a
  | [a, b] => .pair a b
  | a :: b :: r => .pair a (mkS (b :: r))

def tabTys (tab : List (Nat × (Ty × Nat))) : List Field → Option (List Ty)
  | [] => some []
  | f :: r => match lk f.type tab with
    | some (τ, _) => match tabTys tab r with
      | some l => some (τ :: l)
      | none => none
    | none => none

def offsOK : Nat → List Ty → List Field → Bool
  | _, [], [] => true
  | o, τ :: r, f :: fs => Nat.beq f.offset o && !Nat.beq τ.size 0 && offsOK (o + τ.size) r fs
  | _, _, _ => false

def descOK (tab : List (Nat × (Ty × Nat))) : Option TypeDesc → Ty → Nat → Bool
  | some (.int k), .int k', _ => Nat.beq (kindNo k) (kindNo k')
  | some .bool, .bool, _ => true
  | some .string, .str, _ => true
  | some (.array m E), .arr m' e, _ => Nat.beq m m' && Nat.ble 2 m && (match lk E tab with | some (e', _) => Ty.beq e e' && !Nat.beq e.size 0 | none => false)
  | some (.slice E), .sl e, _ => match lk E tab with | some (e', _) => Ty.beq e e' && !Nat.beq e.size 0 | none => false
  | some (.struct fs), τ, n => match tabTys tab fs.toList with
    | some es => Ty.beq τ (mkS es) && Nat.beq es.length n && !Nat.beq n 0 && offsOK 0 es fs.toList
    | none => false
  | _, _, _ => false

structure TyOK (P : Program) (tab : List (Nat × (Ty × Nat))) (T : Nat) (τ : Ty) (n : Nat) : Prop where
  info : (P.info? T).map (fun i => (i.size, i.zero)) = some (τ.size, some (τ.pack τ.zeros))
  desc : descOK tab (P.underlying T) τ n = true

def TabOK (P : Program) (tab : List (Nat × (Ty × Nat))) : Prop := ∀ T τ n, lk T tab = some (τ, n) → TyOK P tab T τ n

section types
variable {P : Program} {tab : List (Nat × (Ty × Nat))} {T n : Nat} {τ : Ty}

theorem TyOK.size (h : TyOK P tab T τ n) (w : World) : (sizeOf T).run P w = .ok τ.size w := by
  have := h.info
  cases hi : P.info? T with
  | none => simp [hi] at this
  | some i => simp [hi] at this; simp [sizeOf, typeInfo, hi, this.1]

theorem TyOK.zero (h : TyOK P tab T τ n) (w : World) : (zeroValue T).run P w = .ok (τ.pack τ.zeros) w := by
  have := h.info
  cases hi : P.info? T with
  | none => simp [hi] at this
  | some i => simp [hi] at this; simp [zeroValue, typeInfo, hi, this.2]

theorem TyOK.und (h : TyOK P tab T τ n) : ∃ d, P.underlying T = some d ∧ descOK tab (some d) τ n = true := by
  have := h.desc
  cases hu : P.underlying T with
  | none => rw [hu] at this; simp [descOK] at this
  | some d => exact ⟨d, rfl, hu ▸ this⟩

theorem descOK_struct {fs : Array Field} (h : descOK tab (some (.struct fs)) τ n = true) : ∃ es, tabTys tab fs.toList = some es ∧ τ = mkS es ∧ es.length = n ∧ n ≠ 0 ∧ offsOK 0 es fs.toList = true := by
  simp only [descOK] at h
  split at h
  · rename_i es he
    simp only [Bool.and_eq_true, Bool.not_eq_true'] at h
    refine ⟨es, he, Ty.eq_of_beq h.1.1.1, Nat.eq_of_beq_eq_true h.1.1.2, ?_, h.2⟩
    intro e; subst e; simp at h
  · simp at h

theorem mkS_agg : ∀ {es : List Ty}, es ≠ [] → (mkS es).agg = true
  | [_], _ => rfl
  | [_, _], _ => rfl
  | _ :: _ :: _ :: _, _ => rfl

theorem TyOK.agg (h : TyOK P tab T τ n) (w : World) : (isAgg T).run P w = .ok τ.agg w := by
  obtain ⟨d, hu, hd⟩ := h.und
  unfold isAgg
  simp only [Sem.run_bind, run_underlying hu, Result.andThen_ok]
  cases d with
  | struct fs =>
    obtain ⟨es, _, e, hl, hn, _⟩ := descOK_struct hd
    rw [e, mkS_agg (by intro h; subst h; simp at hl; omega)]
    simp [Sem.run_pure]
  | _ => cases τ <;> simp [descOK] at hd <;> simp [Sem.run_pure, Ty.agg]
end types

end Go.Ev

namespace Go.Ev
set_option linter.unusedVariables false

def ArgRel (S : Stab) (w : World) : List Arg → List Value → List Nat → Prop
  | [], vs, rs => vs = [] ∧ rs = []
  | .val t :: as, vs, rs => ∃ v r, vs = v :: r ∧ (∃ cs, Rep S w t.ty t.x cs ∧ v = t.ty.pack cs) ∧ ArgRel S w as r rs
  | .ref t :: as, vs, rs => ∃ b r q, vs = .pointer (some ⟨b, 0, none⟩) :: r ∧ rs = b :: q ∧ ObjRel S w b t ∧ ArgRel S w as r q

def RefsRel (S : Stab) (w : World) : List TV → List Nat → Prop
  | [], rs => rs = []
  | t :: l, rs => ∃ b q, rs = b :: q ∧ ObjRel S w b t ∧ RefsRel S w l q

def nth (rs : List Nat) (i : Nat) : Nat := rs.getD i 0
def below (rs : List Nat) (i : Nat) : Prop := i < rs.length

def CallOK (P : Program) (f : FuncId) (args : List Arg) (res refs : List TV) : Prop :=
  ∀ S w vals rs, ArgRel S w args vals rs → rs.Nodup → (∀ b i, S b i → b < w.heap.size) →
    Calls P f (List.toArray vals) w fun e w' => ∃ v S', e = .returned v ∧ SVRel (nth rs) S' w' (packRes res) v ∧ RefsRel S' w' refs rs ∧
      Ext (nth rs) S (below rs) w (nth rs) S' (below rs) w' ∧ (∀ b i, S' b i → b < w'.heap.size) ∧ (∀ b, b ∈ rs → ∀ i, ¬ S' b i)

def Goes (P : Program) (f : FuncId) : Prop := ∀ args w, (callFunc f args).run P w = .ok (.enter f args) w

theorem Goes.of {P : Program} {f : FuncId} (h : (P.funcs[f]?).map (fun fn => fn.name == "runtime.NumGoroutine" || fn.body.isNone) = some false) : Goes P f := by
  intro args w
  cases hf : P.funcs[f]? with
  | none => simp [hf] at h
  | some fn =>
    simp only [hf, Option.map_some, Option.some.injEq, Bool.or_eq_false_iff] at h
    have h1 : ¬ (fn.name = "runtime.NumGoroutine") := by simpa using h.1
    have h2 : ¬ (fn.body = none) := by intro e; have := h.2; rw [e] at this; simp at this
    simp [callFunc, hf, h1, h2]

structure SpecOK (P : Program) (f : FuncId) (s : Spec) : Prop where
  goes : Goes P f
  ok : ∀ args R k r, s args R k = some r → ∃ res refs, k res refs = some r ∧ CallOK P f args res refs

/-- What a function does, called in a state with some objects. -/
def FnSem (P : Program) (f : FuncId) (svs : List SV) (objs : List (Nat × TV)) (v : SV) (objs' : List (Nat × TV)) : Prop :=
  ∀ ρ S w vals, SVRelL ρ S w svs vals → (∀ n t, lk n objs = some t → ObjRel S w (ρ n) t) → (∀ n m, (lk n objs).isSome → (lk m objs).isSome → ρ n = ρ m → n = m) →
    (∀ n, n ∈ namesL svs → (lk n objs).isSome) → (∀ b i, S b i → b < w.heap.size) →
    Calls P f (List.toArray vals) w fun e w' => ∃ x ρ' S', e = .returned x ∧ SVRel ρ' S' w' v x ∧ (∀ n t, lk n objs' = some t → ObjRel S' w' (ρ' n) t) ∧
      (∀ n m, (lk n objs').isSome → (lk m objs').isSome → ρ' n = ρ' m → n = m) ∧ (∀ n, n ∈ v.names → (lk n objs').isSome) ∧
      Ext ρ S (fun n => (lk n objs).isSome = true) w ρ' S' (fun n => (lk n objs').isSome = true) w' ∧ (∀ b i, S' b i → b < w'.heap.size)

def InlOK (P : Program) (inl : Inl) : Prop :=
  ∀ off f svs objs R k r, inl off f svs objs R k = some r → ∃ v objs', k v objs' = some r ∧ Goes P f ∧ FnSem P f svs objs v objs'

structure EnvOK (P : Program) (E : Env) : Prop where
  tab : TabOK P E.tab
  fns : ∀ f s, Env.lkF f E.fns = some s → SpecOK P f s

section
variable {P : Program} {E : Env} {nt B : Nat} {st : St} {o : Oper} {R : Type} {r : R}

/-- What is to be shown of each operation. -/
def Good (P : Program) (nt : Nat) (st : St) (o : Oper) {R : Type} (k : K R) (r : R) : Prop := ∃ v os ro, k v os ro = some r ∧ OpSem P nt o st v os ro

theorem good_move {k : K R} (x : Operand) (hop : o.op = .move x ∨ o.op = .assign x) (hd : dstOK nt o.dst = true)
    (h : (match st.val x with | some v => k v [] [] | none => none) = some r) : Good P nt st o k r := by
  split at h
  · rename_i v hv
    refine ⟨v, [], [], h, OpSem.pure hd fun st' h1 h2 B ρ S a w hr => ?_⟩
    have hx : st'.val x = some v := by rw [val_agree h1 (x := x) (by rcases hop with e | e <;> simp [e, Op.operands])]; exact hv
    obtain ⟨q, n⟩ := hr.val hx
    exact ⟨_, by rcases hop with e | e <;> simp [execOp, e], q, n⟩
  · simp at h

theorem rel_bool {ρ : Nat → Nat} {S : Stab} {w : World} {b : Bool} {x : Value} (h : SVRel ρ S w (.tv ⟨.bool, b⟩) x) : x = .bool b := by
  obtain ⟨cs, r, e⟩ := h; subst r; exact e
theorem rel_int {ρ : Nat → Nat} {S : Stab} {w : World} {k : IntKind} {n : Int} {x : Value} (h : SVRel ρ S w (.tv ⟨.int k, n⟩) x) : x = .int k n := by
  obtain ⟨cs, r, e⟩ := h; subst r; exact e
theorem rel_str {ρ : Nat → Nat} {S : Stab} {w : World} {n : ByteArray} {x : Value} (h : SVRel ρ S w (.tv ⟨.str, n⟩) x) : x = .string n := by
  obtain ⟨cs, r, e⟩ := h; subst r; exact e
theorem int_rel (ρ : Nat → Nat) (S : Stab) (w : World) (k : IntKind) (n : Int) : SVRel ρ S w (.tv ⟨.int k, n⟩) (.int k n) := ⟨_, rfl, rfl⟩
theorem bool_rel (ρ : Nat → Nat) (S : Stab) (w : World) (n : Bool) : SVRel ρ S w (.tv ⟨.bool, n⟩) (.bool n) := ⟨_, rfl, rfl⟩
theorem str_rel (ρ : Nat → Nat) (S : Stab) (w : World) (n : ByteArray) : SVRel ρ S w (.tv ⟨.str, n⟩) (.string n) := ⟨_, rfl, rfl⟩
theorem tv_names (t : TV) {D : Nat → Prop} : ∀ n, n ∈ (SV.tv t).names → D n := fun n h => by simp [SV.names] at h

theorem good_pick {k : K R} (c x y : Operand) (hop : o.op = .pick c x y) (hd : dstOK nt o.dst = true)
    (h : (match st.val c with
      | some (.tv ⟨.bool, c⟩) => bif c then (match st.val x with
          | some v => k v [] []
          | none => none) else (match st.val y with
          | some v => k v [] []
          | none => none)
      | _ => none) = some r) : Good P nt st o k r := by
  split at h
  · rename_i b hc
    cases b with
    | true =>
      simp only [cond_true] at h
      split at h
      · rename_i v hv
        refine ⟨v, [], [], h, OpSem.pure hd fun st' h1 h2 B ρ S a w hr => ?_⟩
        have hx : st'.val x = some v := by rw [val_agree h1 (x := x) (by simp [hop, Op.operands])]; exact hv
        have hc' : st'.val c = some (.tv ⟨.bool, true⟩) := by rw [val_agree h1 (x := c) (by simp [hop, Op.operands])]; exact hc
        obtain ⟨q, n⟩ := hr.val hx
        have e := rel_bool (hr.val hc').1
        exact ⟨_, by simp [execOp, hop, e, asBool], q, n⟩
      · simp at h
    | false =>
      simp only [cond_false] at h
      split at h
      · rename_i v hv
        refine ⟨v, [], [], h, OpSem.pure hd fun st' h1 h2 B ρ S a w hr => ?_⟩
        have hx : st'.val y = some v := by rw [val_agree h1 (x := y) (by simp [hop, Op.operands])]; exact hv
        have hc' : st'.val c = some (.tv ⟨.bool, false⟩) := by rw [val_agree h1 (x := c) (by simp [hop, Op.operands])]; exact hc
        obtain ⟨q, n⟩ := hr.val hx
        have e := rel_bool (hr.val hc').1
        exact ⟨_, by simp [execOp, hop, e, asBool], q, n⟩
      · simp at h
  · simp at h

/-! ### New objects -/
theorem heap_alloc_lt (w : World) (o : Obj) {b : Nat} (h : b < w.heap.size) : (w.alloc o).heap[b]? = w.heap[b]? := by
  show (w.heap.push o)[b]? = _
  rw [Array.getElem?_push, if_neg (by omega)]
theorem heap_alloc_new (w : World) (o : Obj) : (w.alloc o).heap[w.heap.size]? = some o := by
  show (w.heap.push o)[w.heap.size]? = _
  rw [Array.getElem?_push, if_pos rfl]

theorem alloc_le (S : Stab) (w : World) (ob : Obj) (sb : ∀ b i, S b i → b < w.heap.size) : Le S w S (w.alloc ob) :=
  ⟨fun _ _ h => h, fun b i v s e => by rw [cell?_of_heap (heap_alloc_lt w ob (sb b i s))]; exact e⟩

/-- A new object. -/
theorem OpSem.fresh {τ : Ty} {x : τ.den} {n d : Nat} (hdst : o.dst = some d) (hd : dstOK nt o.dst = true) (hn : st.obj n = none)
    (h : ∀ st' : St, (∀ t, t ∈ opTmps o.op.operands.toList → st'.tmp t = st.tmp t) → ∀ B ρ S a w, Rel nt B ρ S st' a w →
      ∃ cs T, Rep S w τ x cs ∧ (execOp a.eval o).run P w = .ok (.value (.pointer (some ⟨w.heap.size, 0, none⟩))) (w.alloc (.cells cs.toArray T))) :
    OpSem P nt o st (.ptr n τ []) [(n, ⟨τ, x⟩)] [] := by
  intro st' h1 _ h3 B ρ S a w hr Q
  obtain ⟨cs, T, hrep, hrun⟩ := h st' h1 B ρ S a w hr.toRel
  have hn' : st'.obj n = none := by rw [h3 n (by simp)]; exact hn
  let ρ' : Nat → Nat := fun m => if m = n then w.heap.size else ρ m
  have hne : ∀ m, st'.D m → m ≠ n := fun m dm e => by subst e; unfold St.D at dm; rw [hn'] at dm; simp at dm
  have hsame : ∀ m, st'.D m → ρ' m = ρ m := fun m dm => by simp [ρ', hne m dm]
  have hnn : ρ' n = w.heap.size := by simp [ρ']
  have hlt : ∀ m, st'.D m → ρ m < w.heap.size := fun m dm => by
    obtain ⟨t, ht⟩ := Option.isSome_iff_exists.1 dm
    exact (hr.obj m t ht).lt
  have hD : ∀ m, (st'.set o.dst (.ptr n τ []) [(n, ⟨τ, x⟩)]).D m ↔ (st'.D m ∨ m = n) := fun m => by
    unfold St.D
    rw [St.obj_set]
    by_cases e : m = n
    · subst e; simp [lk_cons_same]
    · rw [lk_cons_ne _ _ e]; simp [lk, e]
  have le := alloc_le S w (.cells cs.toArray T) hr.sb
  have hext : Ext ρ S st'.D w ρ' S (st'.set o.dst (.ptr n τ []) [(n, ⟨τ, x⟩)]).D (w.alloc (.cells cs.toArray T)) := by
    refine ⟨fun m dm => (hD m).2 (.inl dm), hsame, fun m dm nd => ?_, fun _ _ h => h, fun _ _ h => .inl h, by simp, fun b hb _ => heap_alloc_lt w _ hb, rfl, rfl, rfl⟩
    rcases (hD m).1 dm with h | h
    · exact absurd h nd
    · subst h; rw [hnn]; exact Nat.le_refl _
  refine wp_value hrun ⟨ρ', S, ?_, hr.up hext⟩
  refine hr.step hd hext ?_ ?_ ?_ ?_ ?_ ?_
  · exact ⟨trivial, by rw [hnn]; cases τ <;> rfl⟩
  · intro m hm; simp only [SV.names, List.mem_singleton] at hm; exact (hD m).2 (.inr hm)
  · intro m t hm
    by_cases e : m = n
    · subst e
      rw [lk_cons_same] at hm; simp only [Option.some.injEq] at hm; subst hm
      rw [hnn]
      exact ObjRel.of (T := T) (hrep.le le τ) (heap_alloc_new w _) (fun i s => by have := hr.sb _ i s; omega)
    · rw [lk_cons_ne _ _ e] at hm; simp [lk] at hm
  · intro m dm _
    exact ⟨heap_alloc_lt w _ (hlt m dm), hr.off m dm⟩
  · intro m m' dm dm' e
    rcases (hD m).1 dm with h | h <;> rcases (hD m').1 dm' with h' | h'
    · rw [hsame m h, hsame m' h'] at e; exact hr.inj m m' h h' e
    · subst h'; rw [hsame m h, hnn] at e; have := hlt m h; omega
    · subst h; rw [hsame m' h', hnn] at e; have := hlt m' h'; omega
    · rw [h, h']
  · intro b i s
    have := hr.sb b i s
    simp; omega

theorem good_alloc {k : K R} {of : Nat} (hE : EnvOK P E) (T : Nat) (hop : o.op = .alloc T) (hd : dstOK nt o.dst = true)
    (h : (match o.dst, E.ty T with
    | some d, some (τ, _) => match st.obj (of + d) with
      | none => k (.ptr (of + d) τ []) [(of + d, ⟨τ, τ.dflt⟩)] []
      | some _ => none
    | _, _ => none) = some r) : Good P nt st o k r := by
  split at h
  · rename_i d τ n hdst hT
    split at h
    · rename_i hno
      refine ⟨_, _, _, h, OpSem.fresh hdst hd hno fun st' _ B ρ S a w hr => ?_⟩
      have ht := hE.tab T τ n hT
      refine ⟨τ.zeros, T, Rep.dflt S w τ, ?_⟩
      simp [execOp, hop, Instr.alloc, ht.zero w, newVar, newRow, (Rep.dflt S w τ).pack_cells]
    · simp at h
  · simp at h

theorem good_box {k : K R} {of : Nat} (hE : EnvOK P E) (T : Nat) (y : Operand) (hop : o.op = .box T y) (hd : dstOK nt o.dst = true)
    (h : (match o.dst, E.ty T, st.val y with
    | some d, some (τ, _), some v => match st.obj (of + d), v.as τ with
      | none, some x => k (.ptr (of + d) τ []) [(of + d, ⟨τ, x⟩)] []
      | _, _ => none
    | _, _, _ => none) = some r) : Good P nt st o k r := by
  split at h
  · rename_i d τ n v hdst hT hv
    split at h
    · rename_i x hno hx
      refine ⟨_, _, _, h, OpSem.fresh hdst hd hno fun st' h1 B ρ S a w hr => ?_⟩
      have hy : st'.val y = some v := by rw [val_agree h1 (x := y) (by simp [hop, Op.operands])]; exact hv
      obtain ⟨cs, hrep, e⟩ := SV.as_rel hx (hr.val hy).1
      refine ⟨cs, T, hrep, ?_⟩
      simp [execOp, hop, Instr.box, newVar, newRow, e, hrep.pack_cells]
    · simp at h
  · simp at h

/-! ### Loads and stores -/
theorem add_none (b i j : Nat) : (⟨b, i, none⟩ : Addr).add j = ⟨b, i + j, none⟩ := by
  unfold Addr.add; split <;> simp_all

theorem run_loadVar_cells {tab : List (Nat × (Ty × Nat))} {T n : Nat} {τ : Ty} (ht : TyOK P tab T τ n) {S : Stab} {w : World} {x : τ.den} {cs : List Value} (hrep : Rep S w τ x cs) (b i : Nat)
    (hc : ∀ j v, cs[j]? = some v → w.cell? ⟨b, i + j, none⟩ = some v) : (loadVar T ⟨b, i, none⟩).run P w = .ok (τ.pack cs) w := by
  have hlen := Rep.length τ hrep
  unfold loadVar
  simp only [Sem.run_bind, ht.agg w, Result.andThen_ok]
  cases ha : τ.agg with
  | true =>
    simp only [if_true, Sem.run_bind, ht.size w, Result.andThen_ok]
    rw [← hlen, run_loadCells_list w ⟨b, i, none⟩ cs (fun j v hj => by rw [add_none]; exact hc j v hj)]
    simp [Ty.pack, ha]
  | false =>
    obtain ⟨v, rfl, _⟩ := hrep.single ha
    have := hc 0 v rfl
    simp only [Nat.add_zero] at this
    simp [this, Ty.pack, ha]

theorem cells_of_heap {w : World} {b : Nat} {cs : List Value} {T : Nat} {fz : Nat × Nat} (h : w.heap[b]? = some (.cells cs.toArray T fz)) {i : Nat} {v : Value} (hv : cs[i]? = some v) : w.cell? ⟨b, i, none⟩ = some v := by
  simp [World.cell?, h, hv]

theorem getElem?_part {cs : List Value} {o m j : Nat} {v : Value} (h : ((cs.drop o).take m)[j]? = some v) : cs[o + j]? = some v := by
  rw [List.getElem?_take] at h
  split at h
  · simpa using h
  · simp at h

theorem run_loadRow {tab : List (Nat × (Ty × Nat))} {T n : Nat} {τ e : Ty} (ht : TyOK P tab T τ n) {S : Stab} {w : World} {l : List e.den} {cs rest : List Value} {b T' : Nat} (hl : RepL (Rep S w e) l cs) (hb : w.heap[b]? = some (.cells (cs ++ rest).toArray T' (0, 0)))
    {i : Int} (h0 : 0 ≤ i) (h1 : i < (l.length : Int)) {p : Path} {x : τ.den} (hg : get e (l.getD i.toNat e.dflt) p = some ⟨τ, x⟩) (ok : okPath e p) :
    ∃ ds, Rep S w τ x ds ∧ (loadVar T ⟨b, i.toNat * e.size + off e p, none⟩).run P w = .ok (τ.pack ds) w := by
  have hi : i.toNat < l.length := by omega
  have hlen := RepL.length (fun x c => Rep.length e) hl
  have hx := hl.get (fun x c => Rep.length e) i.toNat _ (List.getElem?_eq_getElem hi)
  have hd : l.getD i.toNat e.dflt = l[i.toNat] := by simp [List.getD, hi]
  rw [hd] at hg
  obtain ⟨hr2, hl2⟩ := Rep.get p e hx hg ok
  refine ⟨_, hr2, run_loadVar_cells (P := P) ht hr2 b _ fun j v hj => ?_⟩
  have h2 := getElem?_part (getElem?_part hj)
  refine cells_of_heap hb ?_
  rw [Nat.add_assoc]
  rw [List.getElem?_append_left (List.getElem?_eq_some_iff.1 h2).1]
  exact h2

theorem good_load {k : K R} (hE : EnvOK P E) (T : Nat) (y : Operand) (hop : o.op = .load T y) (hd : dstOK nt o.dst = true)
    (h : (match E.ty T with
    | some (τ, _) => match st.val y with
      | some (.ptr n σ p) => match st.obj n with
        | some ⟨σ', x⟩ => bif Ty.beq σ σ' && !σ'.isVec then (match get σ' x p with
          | some t => bif Ty.beq t.ty τ then k (.tv t) [] [n] else none
          | none => none) else none
        | none => none
      | some (.vptr n e i p) => match st.obj n with
        | some ⟨.vec e', l⟩ => bif Ty.beq e e' then (bif inb i l.length then (match get e' (l.getD i.toNat e'.dflt) p with
          | some t => bif Ty.beq t.ty τ then k (.tv t) [] [n] else none
          | none => none) else none) else none
        | _ => none
      | some (.sptr t) => bif Ty.beq t.ty τ then k (.tv t) [] [] else none
      | _ => none
    | none => none) = some r) : Good P nt st o k r := by
  split at h
  · rename_i τ m hT
    have ht := hE.tab T τ m hT
    split at h
    · rename_i n σ p hv
      split at h
      · rename_i σ' x hob
        cases hb : Ty.beq σ σ' && !σ'.isVec with
        | false => rw [hb] at h; simp at h
        | true =>
          have hb' := Bool.and_eq_true_iff.1 hb
          have eσ := Ty.eq_of_beq hb'.1
          have hvec : σ'.isVec = false := by simpa using hb'.2
          subst eσ
          rw [hb] at h
          simp only [cond_true] at h
          split at h
          · rename_i t hg
            cases hb2 : Ty.beq t.ty τ with
            | false => rw [hb2] at h; simp at h
            | true =>
              rw [hb2] at h
              simp only [cond_true] at h
              refine ⟨_, _, _, h, OpSem.pure hd fun st' h1 h2 B ρ S a w hr => ?_⟩
              have hy : st'.val y = some (.ptr n σ p) := by rw [val_agree h1 (x := y) (by simp [hop, Op.operands])]; exact hv
              have hob' : st'.obj n = some ⟨σ, x⟩ := by rw [h2 n (by simp)]; exact hob
              obtain ⟨ok, e⟩ := (hr.val hy).1
              obtain ⟨cs, T', hrep, hheap, _⟩ := (hr.obj n _ hob').plain hvec
              obtain ⟨hr2, hl⟩ := Rep.get p σ hrep hg ok
              obtain ⟨ty, tx⟩ := t
              have e2 := Ty.eq_of_beq hb2
              simp only at e2
              subst e2
              have := run_loadVar_cells (P := P) ht hr2 (ρ n) (off σ p) (fun j v hj => cells_of_heap hheap (getElem?_part hj))
              exact ⟨_, by simp [execOp, hop, Instr.loadAt, e, Instr.sureAddr, this], ⟨_, hr2, rfl⟩, tv_names _⟩
          · simp at h
      · simp at h
    · rename_i n e i p hv
      split at h
      · rename_i e' l hob
        cases hb : Ty.beq e e' with
        | false => rw [hb] at h; simp at h
        | true =>
          have ee := Ty.eq_of_beq hb
          subst ee
          rw [hb] at h
          simp only [cond_true] at h
          cases hi : inb i l.length with
          | false => rw [hi] at h; simp at h
          | true =>
            rw [hi] at h
            simp only [cond_true] at h
            have hii : 0 ≤ i ∧ i < (l.length : Int) := by simpa [inb] using hi
            split at h
            · rename_i t hg
              cases hb2 : Ty.beq t.ty τ with
              | false => rw [hb2] at h; simp at h
              | true =>
                rw [hb2] at h
                simp only [cond_true] at h
                refine ⟨_, _, _, h, OpSem.pure hd fun st' h1 h2 B ρ S a w hr => ?_⟩
                have hy : st'.val y = some (.vptr n e i p) := by rw [val_agree h1 (x := y) (by simp [hop, Op.operands])]; exact hv
                have hob' : st'.obj n = some ⟨.vec e, l⟩ := by rw [h2 n (by simp)]; exact hob
                obtain ⟨_, ok, ey⟩ := (hr.val hy).1
                obtain ⟨cs, rest, T', hrep, hheap, _⟩ := hr.obj n _ hob'
                obtain ⟨ty, tx⟩ := t
                have e2 := Ty.eq_of_beq hb2
                simp only at e2
                subst e2
                obtain ⟨ds, hds, hrun⟩ := run_loadRow (P := P) ht hrep hheap hii.1 hii.2 hg ok
                exact ⟨_, by simp [execOp, hop, Instr.loadAt, ey, Instr.sureAddr, hrun], ⟨_, hds, rfl⟩, tv_names _⟩
            · simp at h
      · simp at h
    · rename_i t hv
      cases hb2 : Ty.beq t.ty τ with
      | false => rw [hb2] at h; simp at h
      | true =>
        rw [hb2] at h
        simp only [cond_true] at h
        refine ⟨_, _, _, h, OpSem.pure hd fun st' h1 h2 B ρ S a w hr => ?_⟩
        have hy : st'.val y = some (.sptr t) := by rw [val_agree h1 (x := y) (by simp [hop, Op.operands])]; exact hv
        obtain ⟨b, i, cs, e, hrep, hlies⟩ := (hr.val hy).1
        obtain ⟨ty, tx⟩ := t
        have e2 := Ty.eq_of_beq hb2
        simp only at e2
        subst e2
        have := run_loadVar_cells (P := P) ht hrep b i (fun j v hj => (hlies j v hj).2)
        exact ⟨_, by simp [execOp, hop, Instr.loadAt, e, Instr.sureAddr, this], ⟨_, hrep, rfl⟩, tv_names _⟩
    · simp at h
  · simp at h

/-- The run of a store into a part of an object. -/
theorem run_storeVar_part {tab : List (Nat × (Ty × Nat))} {T n : Nat} {τ : Ty} (ht : TyOK P tab T τ n) {S : Stab} {w : World} {z : τ.den} {ds : List Value} (hrep : Rep S w τ z ds) (b i : Nat) {cs : List Value} {T' : Nat}
    (hb : w.heap[b]? = some (.cells cs.toArray T' (0, 0))) (hl : i + ds.length ≤ cs.length) :
    (storeVar T ⟨b, i, none⟩ (τ.pack ds)).run P w = .ok () (w.setRow b (cs.take i ++ ds ++ cs.drop (i + ds.length)).toArray) := by
  have hlen := Rep.length τ hrep
  have h1 := run_storeCells_at (P := P) b i T' ds 0 cs.toArray w hb (by simpa using hl) (Rep.one τ hrep)
  unfold storeVar
  simp only [Sem.run_bind, ht.size w, Result.andThen_ok, hrep.pack_cells]
  simp [hlen, h1]

theorem heap_setRow_same {w : World} {b : Nat} {cs : List Value} {T : Nat} {fz : Nat × Nat} (h : w.heap[b]? = some (.cells cs.toArray T fz)) (ds : List Value) : (w.setRow b ds.toArray).heap[b]? = some (.cells ds.toArray T fz) := setRow_heap w b cs.toArray ds.toArray T fz h
theorem heap_setRow_ne (w : World) {b c : Nat} (ds : Array Value) (h : c ≠ b) : (w.setRow b ds).heap[c]? = w.heap[c]? := by
  simp only [World.setRow, Array.getElem?_modify]
  rw [if_neg (by omega)]
theorem size_setRow (w : World) (b : Nat) (ds : Array Value) : (w.setRow b ds).heap.size = w.heap.size := by simp [World.setRow]

/-- One object is written. -/
theorem OpSem.writeO {t' : TV} {n : Nat} {ro : List Nat} (hd : dstOK nt o.dst = true) (hn : (st.obj n).isSome = true)
    (h : ∀ st' : St, (∀ t, t ∈ opTmps o.op.operands.toList → st'.tmp t = st.tmp t) → st'.obj n = st.obj n → ∀ B ρ S a w, Rel nt B ρ S st' a w →
      ∃ cs : List Value, (∀ w' T, Le S w S w' → w'.heap[ρ n]? = some (.cells cs.toArray T (0, 0)) → (∀ i, ¬ S (ρ n) i) → ObjRel S w' (ρ n) t') ∧ (execOp a.eval o).run P w = .ok .skip (w.setRow (ρ n) cs.toArray)) :
    OpSem P nt o st .undef [(n, t')] ro := by
  intro st' h1 _ h3 B ρ S a w hr Q
  have hn3 : st'.obj n = st.obj n := h3 n (by simp)
  obtain ⟨cs, hrep, hrun⟩ := h st' h1 hn3 B ρ S a w hr.toRel
  obtain ⟨t, htt⟩ := Option.isSome_iff_exists.1 hn
  have hob : st'.obj n = some t := hn3.trans htt
  have dn : st'.D n := by unfold St.D; rw [hob]; rfl
  obtain ⟨cs0, T, hheap, hoff⟩ := (hr.obj n t hob).heap
  have hD : ∀ m, (st'.set o.dst .undef [(n, t')]).D m ↔ st'.D m := fun m => by
    unfold St.D
    rw [St.obj_set]
    by_cases e : m = n
    · subst e; rw [lk_cons_same, hob]; simp
    · rw [lk_cons_ne _ _ e]; rfl
  have le : Le S w S (w.setRow (ρ n) cs.toArray) := ⟨fun _ _ h => h, fun b i v s e => by
    have hbn : b ≠ ρ n := fun e' => by rw [e'] at s; exact hoff i s
    rw [cell?_of_heap (heap_setRow_ne w _ hbn)]; exact e⟩
  have hext : Ext ρ S st'.D w ρ S (st'.set o.dst .undef [(n, t')]).D (w.setRow (ρ n) cs.toArray) := by
    refine ⟨fun m dm => (hD m).2 dm, fun _ _ => rfl, fun m dm nd => absurd ((hD m).1 dm) nd, fun _ _ h => h, fun _ _ h => .inl h, by rw [size_setRow]; exact Nat.le_refl _, fun b hb hne => heap_setRow_ne w _ (fun e => hne n dn e.symm), rfl, rfl, rfl⟩
  have key : Rel nt B ρ S (st'.set o.dst .undef [(n, t')]) (a.put o.dst undef) (w.setRow (ρ n) cs.toArray) := by
    refine hr.step hd hext rfl (fun m hm => by simp [SV.names] at hm) ?_ ?_ ?_ ?_
    · intro m t'' hm
      by_cases e : m = n
      · subst e
        rw [lk_cons_same] at hm; simp only [Option.some.injEq] at hm; subst hm
        exact hrep _ T le (heap_setRow_same hheap cs) hoff
      · rw [lk_cons_ne _ _ e] at hm; simp [lk] at hm
    · intro m dm hm
      have e : m ≠ n := fun e => by subst e; rw [lk_cons_same] at hm; simp at hm
      exact ⟨heap_setRow_ne w _ (fun e' => e (hr.inj m n dm dn e')), hr.off m dm⟩
    · intro m m' dm dm' e
      exact hr.inj m m' ((hD m).1 dm) ((hD m').1 dm') e
    · intro b i s; rw [size_setRow]; exact hr.sb b i s
  simp only [Oper.wp, hrun, Oper.upon]
  exact ⟨ρ, S, key, hr.up hext⟩

theorem OpSem.write {σ : Ty} {y' : σ.den} {n : Nat} {ro : List Nat} (hd : dstOK nt o.dst = true) (hn : (st.obj n).isSome = true)
    (h : ∀ st' : St, (∀ t, t ∈ opTmps o.op.operands.toList → st'.tmp t = st.tmp t) → st'.obj n = st.obj n → ∀ B ρ S a w, Rel nt B ρ S st' a w →
      ∃ cs : List Value, (∀ w', Le S w S w' → Rep S w' σ y' cs) ∧ (execOp a.eval o).run P w = .ok .skip (w.setRow (ρ n) cs.toArray)) :
    OpSem P nt o st .undef [(n, ⟨σ, y'⟩)] ro :=
  OpSem.writeO hd hn fun st' h1 h2 B ρ S a w hr => by
    obtain ⟨cs, g1, g2⟩ := h st' h1 h2 B ρ S a w hr
    exact ⟨cs, fun w' T le hh ho => ObjRel.of (T := T) (g1 w' le) hh ho, g2⟩

/-- A part of an element of a row replaced. -/
theorem RepL.put {S : Stab} {w : World} {e : Ty} {l : List e.den} {cs : List Value} (hl : RepL (Rep S w e) l cs) {i : Int} (h0 : 0 ≤ i) (h1 : i < (l.length : Int)) {p : Path} {t : TV} {y' : e.den} (hp : Ev.put e (l.getD i.toNat e.dflt) p t = some y') (ok : okPath e p)
    {ds : List Value} (hd : Rep S w t.ty t.x ds) :
    RepL (Rep S w e) (l.set i.toNat y') (cs.take (i.toNat * e.size + off e p) ++ ds ++ cs.drop (i.toNat * e.size + off e p + ds.length)) ∧ i.toNat * e.size + off e p + ds.length ≤ cs.length := by
  have hi : i.toNat < l.length := by omega
  have h : Rep S w (.arr l.length e) l cs := ⟨rfl, hl⟩
  have hp' : Ev.put (.arr l.length e) l (.at i :: p) t = some (l.set i.toNat y') := by simp only [Ev.put, hp]
  have ok' : okPath (.arr l.length e) (.at i :: p) := ⟨⟨h0, h1⟩, ok⟩
  obtain ⟨g1, g2⟩ := Rep.put (.at i :: p) (.arr l.length e) h hp' ok' hd
  have eo : off (.arr l.length e) (.at i :: p) = i.toNat * e.size + off e p := rfl
  rw [eo] at g1 g2
  exact ⟨g1.2, g2⟩

theorem good_store {k : K R} (hE : EnvOK P E) (T : Nat) (y x : Operand) (hop : o.op = .store T y x) (hd : dstOK nt o.dst = true)
    (h : (match E.ty T with
    | some (τ, _) => match st.val y with
      | some (.ptr n σ p) => match st.obj n with
        | some ⟨σ', y⟩ => bif Ty.beq σ σ' && !σ'.isVec then (match st.val x with
          | some v => match v.as τ with
            | some z => match put σ' y p ⟨τ, z⟩ with
              | some y' => k .undef [(n, ⟨σ', y'⟩)] [n]
              | none => none
            | none => none
          | none => none) else none
        | none => none
      | some (.vptr n e i p) => match st.obj n with
        | some ⟨.vec e', l⟩ => bif Ty.beq e e' then (bif inb i l.length then (match st.val x with
          | some v => match v.as τ with
            | some z => match put e' (l.getD i.toNat e'.dflt) p ⟨τ, z⟩ with
              | some y' => k .undef [(n, ⟨.vec e', l.set i.toNat y'⟩)] [n]
              | none => none
            | none => none
          | none => none) else none) else none
        | _ => none
      | _ => none
    | none => none) = some r) : Good P nt st o k r := by
  split at h
  · rename_i τ m hT
    have ht := hE.tab T τ m hT
    split at h
    · rename_i n σ p hv
      split at h
      · rename_i σ' u hob
        cases hb : Ty.beq σ σ' && !σ'.isVec with
        | false => rw [hb] at h; simp at h
        | true =>
          have hb' := Bool.and_eq_true_iff.1 hb
          have eσ := Ty.eq_of_beq hb'.1
          have hvec : σ'.isVec = false := by simpa using hb'.2
          subst eσ
          rw [hb] at h
          simp only [cond_true] at h
          split at h
          · rename_i v hx
            split at h
            · rename_i z hz
              split at h
              · rename_i y' hput
                refine ⟨_, _, _, h, OpSem.write hd (by rw [hob]; rfl) fun st' h1 h2 B ρ S a w hr => ?_⟩
                have hy : st'.val y = some (.ptr n σ p) := by rw [val_agree h1 (x := y) (by simp [hop, Op.operands])]; exact hv
                have hx' : st'.val x = some v := by rw [val_agree h1 (x := x) (by simp [hop, Op.operands])]; exact hx
                obtain ⟨ok, e⟩ := (hr.val hy).1
                obtain ⟨cs, T', hrep, hheap, hoff⟩ := (hr.obj n _ (h2.trans hob)).plain hvec
                obtain ⟨ds, hds, e2⟩ := SV.as_rel hz (hr.val hx').1
                obtain ⟨_, hl⟩ := Rep.put p σ hrep hput ok hds
                refine ⟨_, fun w' le => (Rep.put p σ (hrep.le le σ) hput ok (hds.le le τ)).1, ?_⟩
                have := run_storeVar_part (P := P) ht hds (ρ n) (off σ p) hheap hl
                simp [execOp, hop, Instr.storeAt, e, Instr.sureAddr, e2, this]
              · simp at h
            · simp at h
          · simp at h
      · simp at h
    · rename_i n e i p hv
      split at h
      · rename_i e' l hob
        cases hb : Ty.beq e e' with
        | false => rw [hb] at h; simp at h
        | true =>
          have ee := Ty.eq_of_beq hb
          subst ee
          rw [hb] at h
          simp only [cond_true] at h
          cases hi : inb i l.length with
          | false => rw [hi] at h; simp at h
          | true =>
            rw [hi] at h
            simp only [cond_true] at h
            have hii : 0 ≤ i ∧ i < (l.length : Int) := by simpa [inb] using hi
            split at h
            · rename_i v hx
              split at h
              · rename_i z hz
                split at h
                · rename_i y' hput
                  refine ⟨_, _, _, h, OpSem.writeO hd (by rw [hob]; rfl) fun st' h1 h2 B ρ S a w hr => ?_⟩
                  have hy : st'.val y = some (.vptr n e i p) := by rw [val_agree h1 (x := y) (by simp [hop, Op.operands])]; exact hv
                  have hx' : st'.val x = some v := by rw [val_agree h1 (x := x) (by simp [hop, Op.operands])]; exact hx
                  obtain ⟨_, ok, ey⟩ := (hr.val hy).1
                  obtain ⟨cs, rest, T', hrep, hheap, hoff⟩ := hr.obj n _ (h2.trans hob)
                  obtain ⟨ds, hds, e2⟩ := SV.as_rel hz (hr.val hx').1
                  obtain ⟨_, hl⟩ := RepL.put hrep hii.1 hii.2 hput ok hds
                  have hrun := run_storeVar_part (P := P) ht hds (ρ n) (i.toNat * e.size + off e p) hheap (by rw [List.length_append]; omega)
                  refine ⟨(cs.take (i.toNat * e.size + off e p) ++ ds ++ cs.drop (i.toNat * e.size + off e p + ds.length)) ++ rest, fun w' T le hh ho => ⟨_, rest, T, (RepL.put (hrep.imp fun _ _ h => h.le le e) hii.1 hii.2 hput ok (hds.le le τ)).1, hh, ho⟩, ?_⟩
                  have eq : (cs.take (i.toNat * e.size + off e p) ++ ds ++ cs.drop (i.toNat * e.size + off e p + ds.length)) ++ rest = (cs ++ rest).take (i.toNat * e.size + off e p) ++ ds ++ (cs ++ rest).drop (i.toNat * e.size + off e p + ds.length) := by
                    rw [List.take_append_of_le_length (by omega), List.drop_append_of_le_length (by omega)]; simp only [List.append_assoc]
                  rw [eq]
                  simp [execOp, hop, Instr.storeAt, ey, Instr.sureAddr, e2, hrun]
                · simp at h
              · simp at h
            · simp at h
      · simp at h
    · simp at h
  · simp at h

theorem good_nilCheck {k : K R} (x : Operand) (hop : o.op = .nilCheck x) (hd : dstOK nt o.dst = true)
    (h : (match st.val x with
    | some (.ptr n τ p) => k (.ptr n τ p) [] []
    | some (.sptr t) => k (.sptr t) [] []
    | some (.fn f l m) => k (.fn f l m) [] []
    | some (.vptr n e i p) => k (.vptr n e i p) [] []
    | _ => none) = some r) : Good P nt st o k r := by
  split at h
  · rename_i n τ p hv
    refine ⟨_, _, _, h, OpSem.pure (ro := []) hd fun st' h1 h2 B ρ S a w hr => ?_⟩
    have hx : st'.val x = some (.ptr n τ p) := by rw [val_agree h1 (x := x) (by simp [hop, Op.operands])]; exact hv
    obtain ⟨q, hn⟩ := hr.val hx
    refine ⟨a.eval x, ?_, q, hn⟩
    obtain ⟨_, e⟩ := q
    simp [execOp, hop, e]
  · rename_i t hv
    refine ⟨_, _, _, h, OpSem.pure (ro := []) hd fun st' h1 h2 B ρ S a w hr => ?_⟩
    have hx : st'.val x = some (.sptr t) := by rw [val_agree h1 (x := x) (by simp [hop, Op.operands])]; exact hv
    obtain ⟨q, hn⟩ := hr.val hx
    refine ⟨a.eval x, ?_, q, hn⟩
    obtain ⟨_, _, _, e, _⟩ := q
    simp [execOp, hop, e]
  · rename_i f l m hv
    refine ⟨_, _, _, h, OpSem.pure (ro := []) hd fun st' h1 h2 B ρ S a w hr => ?_⟩
    have hx : st'.val x = some (.fn f l m) := by rw [val_agree h1 (x := x) (by simp [hop, Op.operands])]; exact hv
    obtain ⟨q, hn⟩ := hr.val hx
    refine ⟨a.eval x, ?_, q, hn⟩
    obtain ⟨_, _, e, _⟩ := q
    simp [execOp, hop, e]
  · rename_i n e i p hv
    refine ⟨_, _, _, h, OpSem.pure (ro := []) hd fun st' h1 h2 B ρ S a w hr => ?_⟩
    have hx : st'.val x = some (.vptr n e i p) := by rw [val_agree h1 (x := x) (by simp [hop, Op.operands])]; exact hv
    obtain ⟨q, hn⟩ := hr.val hx
    refine ⟨a.eval x, ?_, q, hn⟩
    obtain ⟨_, _, ey⟩ := q
    simp [execOp, hop, ey]
  · simp at h

/-! ### Fields -/
theorem mkS_steps : ∀ {es : List Ty} {fs : List Field} {o : Nat}, offsOK o es fs = true → ∀ (i : Nat) (f : Field), fs[i]? = some f → ∃ e, es[i]? = some e ∧ tyAt (mkS es) (fieldSteps es.length i) = some e ∧ f.offset = o + off (mkS es) (fieldSteps es.length i) ∧ okPath (mkS es) (fieldSteps es.length i) ∧ e.size ≠ 0
  | [], [], _, _, i, f, h => by simp at h
  | [], _ :: _, _, h, _, _, _ => by simp [offsOK] at h
  | _ :: _, [], _, h, _, _, _ => by simp [offsOK] at h
  | [τ], g :: gs, o, h, i, f, hf => by
    simp only [offsOK, Bool.and_eq_true, Bool.not_eq_true'] at h
    have hg : gs = [] := by cases gs with | nil => rfl | cons _ _ => simp [offsOK] at h
    subst hg
    cases i with
    | zero =>
      simp at hf; subst hf
      refine ⟨τ, rfl, by cases τ <;> rfl, ?_, by cases τ <;> trivial, ?_⟩
      · have : off (mkS [τ]) (fieldSteps [τ].length 0) = 0 := by cases τ <;> rfl
        rw [this]; exact Nat.eq_of_beq_eq_true h.1.1
      · intro e; rw [e] at h; simp at h
    | succ i => simp at hf
  | [τ, σ], g :: gs, o, h, i, f, hf => by
    simp only [offsOK, Bool.and_eq_true, Bool.not_eq_true'] at h
    cases gs with
    | nil => simp [offsOK] at h
    | cons g2 gs =>
      cases gs with
      | cons _ _ => simp [offsOK] at h
      | nil =>
        have h2 := h.2
        simp only [offsOK, Bool.and_eq_true, Bool.not_eq_true'] at h2
        cases i with
        | zero =>
          simp at hf; subst hf
          refine ⟨τ, rfl, by cases τ <;> rfl, ?_, by cases τ <;> trivial, ?_⟩
          · have : off (mkS [τ, σ]) (fieldSteps [τ, σ].length 0) = 0 := by cases τ <;> rfl
            rw [this]; exact Nat.eq_of_beq_eq_true h.1.1
          · intro e; rw [e] at h; simp at h
        | succ i =>
          cases i with
          | zero =>
            simp at hf; subst hf
            refine ⟨σ, rfl, by cases σ <;> rfl, ?_, by cases σ <;> trivial, ?_⟩
            · have : off (mkS [τ, σ]) (fieldSteps [τ, σ].length (0 + 1)) = τ.size := by cases σ <;> rfl
              rw [this]; exact Nat.eq_of_beq_eq_true h2.1.1
            · intro e; rw [e] at h2; simp at h2
          | succ i => simp at hf
  | τ :: σ :: υ :: r, g :: gs, o, h, i, f, hf => by
    simp only [offsOK, Bool.and_eq_true, Bool.not_eq_true'] at h
    cases i with
    | zero =>
      simp at hf; subst hf
      refine ⟨τ, rfl, by cases τ <;> rfl, ?_, by cases τ <;> trivial, ?_⟩
      · have : off (mkS (τ :: σ :: υ :: r)) (fieldSteps (τ :: σ :: υ :: r).length 0) = 0 := by cases τ <;> rfl
        rw [this]; exact Nat.eq_of_beq_eq_true h.1.1
      · intro e; rw [e] at h; simp at h
    | succ i =>
      obtain ⟨e, h1, h2, h3, h4, h5⟩ := mkS_steps (es := σ :: υ :: r) (fs := gs) (o := o + τ.size) (by simpa [offsOK] using h.2) i f (by simpa using hf)
      refine ⟨e, by simpa using h1, h2, ?_, h4, h5⟩
      have : off (mkS (τ :: σ :: υ :: r)) (fieldSteps (τ :: σ :: υ :: r).length (i + 1)) = τ.size + off (mkS (σ :: υ :: r)) (fieldSteps (σ :: υ :: r).length i) := rfl
      omega

theorem tabTys_get {tab : List (Nat × (Ty × Nat))} : ∀ {fs : List Field} {es : List Ty}, tabTys tab fs = some es → ∀ (i : Nat) (f : Field), fs[i]? = some f → ∃ e n, es[i]? = some e ∧ lk f.type tab = some (e, n)
  | [], es, h, i, f, hf => by simp at hf
  | g :: gs, es, h, i, f, hf => by
    simp only [tabTys] at h
    split at h
    · rename_i τ n hl
      split at h
      · rename_i l hg
        simp only [Option.some.injEq] at h; subst h
        cases i with
        | zero => simp at hf; subst hf; exact ⟨τ, n, rfl, hl⟩
        | succ i =>
          obtain ⟨e, m, h1, h2⟩ := tabTys_get hg i f (by simpa using hf)
          exact ⟨e, m, by simpa using h1, h2⟩
      · simp at h
    · simp at h

theorem tabTys_length {tab : List (Nat × (Ty × Nat))} : ∀ {fs : List Field} {es : List Ty}, tabTys tab fs = some es → es.length = fs.length
  | [], es, h => by simp only [tabTys, Option.some.injEq] at h; subst h; rfl
  | g :: gs, es, h => by
    simp only [tabTys] at h
    split at h
    · split at h
      · rename_i l hg
        simp only [Option.some.injEq] at h; subst h
        simp [tabTys_length hg]
      · simp at h
    · simp at h

/-- Field i of a struct: where it lies, and its type. -/
theorem struct_field {tab : List (Nat × (Ty × Nat))} {T n : Nat} {τ : Ty} (ht : TyOK P tab T τ n) {i : Nat} {e : Ty} (he : tyAt τ (fieldSteps n i) = some e) (hstruct : ∃ fs, P.underlying T = some (.struct fs) ∧ i < fs.size) :
    ∃ (fs : Array Field) (f : Field) (m : Nat), P.underlying T = some (.struct fs) ∧ fs[i]? = some f ∧ f.offset = off τ (fieldSteps n i) ∧ lk f.type tab = some (e, m) ∧ okPath τ (fieldSteps n i) ∧ e.size ≠ 0 := by
  obtain ⟨d, hu, hd⟩ := ht.und
  obtain ⟨fs, hfs, hi⟩ := hstruct
  have ed : d = .struct fs := by rw [hu] at hfs; simpa using hfs
  subst ed
  obtain ⟨es, h1, h2, h3, h4, h5⟩ := descOK_struct hd
  obtain ⟨f, hf⟩ : ∃ f, fs.toList[i]? = some f := ⟨fs.toList[i]'(by simpa using hi), by simp [hi]⟩
  obtain ⟨e1, g1, g2, g3, g4, g5⟩ := mkS_steps h5 i f hf
  obtain ⟨e2, m, k1, k2⟩ := tabTys_get h1 i f hf
  subst h2
  rw [h3] at g2 g3 g4
  rw [g2] at he
  simp only [Option.some.injEq] at he; subst he
  rw [g1] at k1
  simp only [Option.some.injEq] at k1; subst k1
  exact ⟨fs, f, m, hu, by simpa using hf, by omega, k2, g4, g5⟩

theorem pathIs_spec {σ τ : Ty} {p : Path} (h : pathIs σ p τ = true) : tyAt σ p = some τ := by
  unfold pathIs at h
  split at h
  · rename_i τ' e; rw [e, Ty.eq_of_beq h]
  · simp at h

theorem TyOK.struct {tab : List (Nat × (Ty × Nat))} {T n : Nat} {τ : Ty} (ht : TyOK P tab T τ n) {i : Nat} (hi : i < n) {e : Ty} (he : tyAt τ (fieldSteps n i) = some e) :
    ∃ fs, P.underlying T = some (.struct fs) ∧ i < fs.size := by
  obtain ⟨d, hu, hd⟩ := ht.und
  have hne : ∃ s p, fieldSteps n i = s :: p := by
    match n, i, hi with
    | 1, 0, _ => exact ⟨_, _, rfl⟩
    | 2, 0, _ => exact ⟨_, _, rfl⟩
    | 2, 1, _ => exact ⟨_, _, rfl⟩
    | n + 3, 0, _ => exact ⟨_, _, rfl⟩
    | n + 3, i + 1, _ => exact ⟨_, _, rfl⟩
  obtain ⟨s, p, hs⟩ := hne
  have hfs : s = .fst ∨ s = .snd := by
    match n, i, hi with
    | 1, 0, _ => injection hs with h1 _; exact .inl h1.symm
    | 2, 0, _ => injection hs with h1 _; exact .inl h1.symm
    | 2, 1, _ => injection hs with h1 _; exact .inr h1.symm
    | n + 3, 0, _ => injection hs with h1 _; exact .inl h1.symm
    | n + 3, i + 1, _ => injection hs with h1 _; exact .inr h1.symm
  rw [hs] at he
  cases d with
  | struct fs =>
    obtain ⟨es, h1, _, h3, _, _⟩ := descOK_struct hd
    exact ⟨fs, hu, by have := tabTys_length h1; simp at this; omega⟩
  | _ => cases τ <;> simp only [descOK] at hd <;> rcases hfs with e | e <;> subst e <;> simp [tyAt] at he hd

theorem run_fieldPlace {f : Field} {b i : Nat} {w : World} {s : Nat} (hs : (sizeOf f.type).run P w = .ok s w) (h0 : s ≠ 0) : (fieldPlace ⟨b, i, none⟩ f).run P w = .ok ⟨b, i + f.offset, none⟩ w := by
  simp [fieldPlace, hs, h0, add_none]

theorem run_fieldAt {tab : List (Nat × (Ty × Nat))} (htab : TabOK P tab) {T n : Nat} {τ : Ty} (ht : TyOK P tab T τ n) {i : Nat} (hi : i < n) {e : Ty} (he : tyAt τ (fieldSteps n i) = some e) (b j : Nat) (w : World) :
    (Instr.fieldAt T (.pointer (some ⟨b, j, none⟩)) i).run P w = .ok (.pointer (some ⟨b, j + off τ (fieldSteps n i), none⟩)) w ∧ okPath τ (fieldSteps n i) := by
  obtain ⟨fs, f, m, hu, hf, ho, hl, ok, h0⟩ := struct_field ht he (ht.struct hi he)
  have hs := (htab _ _ _ hl).size w
  refine ⟨?_, ok⟩
  simp [Instr.fieldAt, run_underlying hu, hf, Instr.sureAddr, run_fieldPlace hs h0, ho]

theorem good_fieldAddr {k : K R} (hE : EnvOK P E) (T : Nat) (x : Operand) (i : Nat) (hop : o.op = .fieldAddr T x i) (hd : dstOK nt o.dst = true)
    (h : (match E.ty T with
    | some (τ, n) => bif Nat.blt i n then (match st.val x with
      | some (.ptr m σ p) => bif fieldOK σ p τ n i then k (.ptr m σ (p ++ fieldSteps n i)) [] [] else none
      | some (.sptr ⟨σ, y⟩) => bif Ty.beq σ τ then (match get σ y (fieldSteps n i) with
        | some t => k (.sptr t) [] []
        | none => none) else none
      | some (.vptr m e j p) => bif fieldOK e p τ n i then k (.vptr m e j (p ++ fieldSteps n i)) [] [] else none
      | _ => none) else none
    | none => none) = some r) : Good P nt st o k r := by
  split at h
  · rename_i τ n hT
    have ht := hE.tab T τ n hT
    cases hlt : Nat.blt i n with
    | false => rw [hlt] at h; simp at h
    | true =>
      rw [hlt] at h
      simp only [cond_true] at h
      have hi : i < n := by simpa using hlt
      split at h
      · rename_i m σ p hv
        cases hf : fieldOK σ p τ n i with
        | false => rw [hf] at h; simp at h
        | true =>
          rw [hf] at h
          simp only [cond_true] at h
          unfold fieldOK at hf
          simp only [Bool.and_eq_true] at hf
          have hp := pathIs_spec hf.1
          obtain ⟨e, he⟩ : ∃ e, tyAt τ (fieldSteps n i) = some e := by
            have := hf.2
            split at this
            · exact ⟨_, by assumption⟩
            · simp at this
          refine ⟨_, _, _, h, OpSem.pure (ro := []) hd fun st' h1 h2 B ρ S a w hr => ?_⟩
          have hx : st'.val x = some (.ptr m σ p) := by rw [val_agree h1 (x := x) (by simp [hop, Op.operands])]; exact hv
          obtain ⟨⟨ok, e1⟩, hn⟩ := hr.val hx
          obtain ⟨hrun, ok2⟩ := run_fieldAt hE.tab ht hi he (ρ m) (off σ p) w
          refine ⟨.pointer (some ⟨ρ m, off σ p + off τ (fieldSteps n i), none⟩), by simp [execOp, hop, e1, hrun], ⟨okPath_append p σ τ _ hp ok ok2, ?_⟩, hn⟩
          rw [off_append p σ τ _ hp]
      · rename_i σ y hv
        cases hb : Ty.beq σ τ with
        | false => rw [hb] at h; simp at h
        | true =>
          have eσ := Ty.eq_of_beq hb
          subst eσ
          rw [hb] at h
          simp only [cond_true] at h
          split at h
          · rename_i t hg
            have he := get_tyAt _ _ _ _ hg
            refine ⟨_, _, _, h, OpSem.pure (ro := []) hd fun st' h1 h2 B ρ S a w hr => ?_⟩
            have hx : st'.val x = some (.sptr ⟨σ, y⟩) := by rw [val_agree h1 (x := x) (by simp [hop, Op.operands])]; exact hv
            obtain ⟨⟨b, j, cs, e1, hrep, hlies⟩, hn⟩ := hr.val hx
            obtain ⟨hrun, ok2⟩ := run_fieldAt hE.tab ht hi he b j w
            obtain ⟨hr2, hl⟩ := Rep.get _ σ hrep hg ok2
            refine ⟨.pointer (some ⟨b, j + off σ (fieldSteps n i), none⟩), by simp [execOp, hop, e1, hrun], ⟨b, _, _, rfl, hr2, ?_⟩, fun n hn => by simp [SV.names] at hn⟩
            intro q v hq
            have := hlies _ v (getElem?_part hq)
            rw [Nat.add_assoc]; exact this
          · simp at h
      · rename_i m σ j p hv
        cases hf : fieldOK σ p τ n i with
        | false => rw [hf] at h; simp at h
        | true =>
          rw [hf] at h
          simp only [cond_true] at h
          unfold fieldOK at hf
          simp only [Bool.and_eq_true] at hf
          have hp := pathIs_spec hf.1
          obtain ⟨e, he⟩ : ∃ e, tyAt τ (fieldSteps n i) = some e := by
            have := hf.2
            split at this
            · exact ⟨_, by assumption⟩
            · simp at this
          refine ⟨_, _, _, h, OpSem.pure (ro := []) hd fun st' h1 h2 B ρ S a w hr => ?_⟩
          have hx : st'.val x = some (.vptr m σ j p) := by rw [val_agree h1 (x := x) (by simp [hop, Op.operands])]; exact hv
          obtain ⟨⟨j0, ok, e1⟩, hn⟩ := hr.val hx
          obtain ⟨hrun, ok2⟩ := run_fieldAt hE.tab ht hi he (ρ m) (j.toNat * σ.size + off σ p) w
          refine ⟨.pointer (some ⟨ρ m, j.toNat * σ.size + off σ p + off τ (fieldSteps n i), none⟩), by simp [execOp, hop, e1, hrun], ⟨j0, okPath_append p σ τ _ hp ok ok2, ?_⟩, hn⟩
          rw [off_append p σ τ _ hp, Nat.add_assoc]
      · simp at h
  · simp at h

theorem run_part {tab : List (Nat × (Ty × Nat))} {T n : Nat} {τ : Ty} (ht : TyOK P tab T τ n) {S : Stab} {w : World} {x : τ.den} {cs : List Value} {o : Nat} (hrep : Rep S w τ x ((cs.drop o).take τ.size)) :
    (part T cs.toArray o).run P w = .ok (τ.pack ((cs.drop o).take τ.size)) w := by
  unfold part
  simp only [Sem.run_bind, ht.agg w, Result.andThen_ok]
  cases ha : τ.agg with
  | true =>
    simp only [if_true, Sem.run_bind, ht.size w, Result.andThen_ok]
    simp [Ty.pack, ha, List.extract_toArray, List.extract_eq_take_drop]
  | false =>
    obtain ⟨v, hv, _⟩ := hrep.single ha
    have : cs[o]? = some v := getElem?_part (m := τ.size) (j := 0) (by rw [hv]; rfl)
    simp [this, Ty.pack, ha, hv]

theorem good_field {k : K R} (hE : EnvOK P E) (T : Nat) (x : Operand) (i : Nat) (hop : o.op = .field T x i) (hd : dstOK nt o.dst = true)
    (h : (match E.ty T with
    | some (τ, n) => bif Nat.blt i n then (match st.val x with
      | some (.tv ⟨σ, y⟩) => bif Ty.beq σ τ then (match get σ y (fieldSteps n i) with
        | some t => k (.tv t) [] []
        | none => none) else none
      | _ => none) else none
    | none => none) = some r) : Good P nt st o k r := by
  split at h
  · rename_i τ n hT
    have ht := hE.tab T τ n hT
    cases hlt : Nat.blt i n with
    | false => rw [hlt] at h; simp at h
    | true =>
      rw [hlt] at h
      simp only [cond_true] at h
      have hi : i < n := by simpa using hlt
      split at h
      · rename_i σ y hv
        cases hb : Ty.beq σ τ with
        | false => rw [hb] at h; simp at h
        | true =>
          have eσ := Ty.eq_of_beq hb
          subst eσ
          rw [hb] at h
          simp only [cond_true] at h
          split at h
          · rename_i t hg
            have he := get_tyAt _ _ _ _ hg
            refine ⟨_, _, _, h, OpSem.pure (ro := []) hd fun st' h1 h2 B ρ S a w hr => ?_⟩
            have hx : st'.val x = some (.tv ⟨σ, y⟩) := by rw [val_agree h1 (x := x) (by simp [hop, Op.operands])]; exact hv
            obtain ⟨⟨cs, hrep, e1⟩, hn⟩ := hr.val hx
            obtain ⟨fs, f, m, hu, hf, ho, hl, ok, h0⟩ := struct_field ht he (ht.struct hi he)
            obtain ⟨hr2, hlen⟩ := Rep.get _ σ hrep hg ok
            have hag : σ.agg = true := by
              obtain ⟨d, hu', hd'⟩ := ht.und
              rw [hu] at hu'; simp only [Option.some.injEq] at hu'; subst hu'
              obtain ⟨es, _, e, hl', hn', _⟩ := descOK_struct hd'
              rw [e]; exact mkS_agg (by intro h; subst h; simp at hl'; omega)
            have hpart := run_part (hE.tab _ _ _ hl) hr2
            refine ⟨t.ty.pack ((cs.drop (off σ (fieldSteps n i))).take t.ty.size), ?_, ⟨_, hr2, rfl⟩, tv_names _⟩
            simp only at e1
            simp [execOp, hop, e1, Ty.pack, hag, Instr.field, run_underlying hu, hf, asAgg, ho]
            rw [hpart]
            simp [Ty.pack]
          · simp at h
      · simp at h
  · simp at h

end
end Go.Ev

namespace Go.Ev
set_option linter.unusedVariables false

def EqOK (P : Program) (T : TypeId) : Prop :=
  P.stoodInHeld T = false ∧ P.eqGuardType P.depth T = false ∧ (match P.underlying T with | some (.struct fs) => fs.toList.all fun f => f.name != "_" | _ => true) = true

/-- What is known of a slice type's elements. -/
structure EltOK (P : Program) (T e sz by' : Nat) : Prop where
  und : P.underlying T = some (.slice e)
  info : ∃ i z, P.info? e = some i ∧ i.zero = some z ∧ i.size = sz ∧ i.bytes = by' ∧ z.cells.size = sz
  pos : 0 < sz
  bpos : 0 < by'

structure EnvOK2 (P : Program) (E : Env) : Prop extends EnvOK P E where
  eq : ∀ T τ n, lk T E.tab = some (τ, n) → τ.agg = true → τ.eqOk = true → EqOK P T
  ft : ∀ T, E.fts.any (Nat.beq T) = true → ∃ a b c, P.underlying T = some (.func a b c)
  el : ∀ T q, lk T E.elts = some q → EltOK P T q.1 q.2.1 q.2.2

section
variable {P : Program} {E : Env} {nt B : Nat} {st : St} {o : Oper} {R : Type} {r : R}

theorem eqGuard_int (op : BinOp) (T : TypeId) (x y : Operand) (k j : IntKind) (a b : Int) : eqGuard op T x y (.int k a) (.int j b) = pure () := by cases op <;> rfl
theorem eqGuard_str (op : BinOp) (T : TypeId) (x y : Operand) (a b : ByteArray) : eqGuard op T x y (.string a) (.string b) = pure () := by cases op <;> rfl
theorem arith_ok {op : BinOp} {k : IntKind} {x y : Int} {kk : SV → Option R} (hs : op ≠ .shl) (hs' : op ≠ .shr) (h : arith op k x y R kk = some r) :
    ∃ v, kk v = some r ∧ v.names = [] ∧ ∀ T w, ∃ u, (binOp op T (.int k x) (.int k y)).run P w = .ok u w ∧ ∀ ρ S, SVRel ρ S w v u := by
  cases op <;> simp only [arith] at h <;> first
    | exact absurd rfl hs
    | exact absurd rfl hs'
    | exact ⟨_, h, rfl, fun T w => ⟨_, by simp only [binOp, ne_eq, not_true_eq_false, if_false, Op.intArith, Op.intBits, Op.intCmp]; rfl, fun ρ S => by first | exact int_rel _ _ _ _ _ | exact bool_rel _ _ _ _⟩⟩
    | (cases hy : decide (y = 0) with
       | true => rw [hy] at h; simp at h
       | false =>
         rw [hy] at h
         simp only [cond_false] at h
         have hy' : ¬ y = 0 := by simpa using hy
         exact ⟨_, h, rfl, fun T w => ⟨_, by simp only [binOp, ne_eq, not_true_eq_false, if_false, Op.intDiv, hy']; rfl, fun ρ S => int_rel _ _ _ _ _⟩⟩)

theorem shiftS_ok {op : BinOp} {k j : IntKind} {x y : Int} {kk : SV → Option R} (hop : op = .shl ∨ op = .shr) (h : shiftS op k x y R kk = some r) :
    ∃ v, kk v = some r ∧ v.names = [] ∧ ∀ T w, ∃ u, (binOp op T (.int k x) (.int j y)).run P w = .ok u w ∧ ∀ ρ S, SVRel ρ S w v u := by
  cases hy : decide (y < 0) with
  | true => rcases hop with e | e <;> subst e <;> simp only [shiftS, hy] at h <;> simp at h
  | false =>
    have hy' : ¬ y < 0 := by simpa using hy
    rcases hop with e | e <;> subst e <;> simp only [shiftS, hy, cond_false] at h <;>
      exact ⟨_, h, rfl, fun T w => ⟨_, by simp only [binOp, Op.shift, hy', if_false]; rfl, fun ρ S => int_rel _ _ _ _ _⟩⟩

theorem strOp_ok {op : BinOp} {x y : ByteArray} {kk : SV → Option R} (h : strOp op x y R kk = some r) :
    ∃ v, kk v = some r ∧ v.names = [] ∧ ∀ T w, ∃ u, (binOp op T (.string x) (.string y)).run P w = .ok u w ∧ ∀ ρ S, SVRel ρ S w v u := by
  cases op <;> simp only [strOp] at h <;> first
    | (simp at h; done)
    | exact ⟨_, h, rfl, fun T w => ⟨_, by simp only [binOp, Op.stringOp, ← beq_toListBytes, bne]; rfl, fun ρ S => bool_rel _ _ _ _⟩⟩

/-! ### Equality of structs and arrays -/
def mkT : List Ty → Ty
  | [] => .bool
  | [a] => a
  | a :: b :: r => .pair a (mkT (b :: r))

theorem mkS_mkT : ∀ {a b : Ty} {r : List Ty}, mkS (a :: b :: r) = .pair a (mkT (b :: r))
  | a, b, [] => rfl
  | a, b, c :: r => by
    show Ty.pair a (mkS (b :: c :: r)) = _
    rw [mkS_mkT]; rfl

theorem height_lt {a : Ty} {es : List Ty} (h : a ∈ es) : a.height < (mkS es).height := by
  have key : ∀ (es : List Ty), a ∈ es → a.height ≤ (mkT es).height := by
    intro es
    induction es with
    | nil => intro h; simp at h
    | cons b r ih =>
      intro h
      cases r with
      | nil => simp at h; subst h; exact Nat.le_refl _
      | cons c r =>
        simp only [mkT, Ty.height]
        rcases List.mem_cons.1 h with e | e
        · subst e; omega
        · have := ih e; omega
  match es, h with
  | [b], h => simp at h; subst h; simp [mkS, Ty.height]
  | b :: c :: r, h =>
    rw [mkS_mkT]
    simp only [Ty.height]
    rcases List.mem_cons.1 h with e | e
    · subst e; omega
    · have := key _ e; omega

def EqAt' (P : Program) (tab : List (Nat × (Ty × Nat))) (d : Nat) (τ : Ty) : Prop :=
  ∀ T n, lk T tab = some (τ, n) → τ.eqOk = true → ∀ S w (x y : τ.den) cs ds, Rep S w τ x cs → Rep S w τ y ds → (Op.equalIn d T (τ.pack cs) (τ.pack ds)).run P w = .ok (eqv τ x y) w

theorem run_eqFields {tab : List (Nat × (Ty × Nat))} (htab : TabOK P tab) {d : Nat} {S : Stab} {w : World} : ∀ (es : List Ty) (fs : List Field) (o : Nat) (x y : (mkT es).den) (cs ds : List Value), es ≠ [] →
    (∀ a ∈ es, EqAt' P tab d a) → (mkT es).eqOk = true → tabTys tab fs = some es → offsOK o es fs = true → (fs.all fun f => f.name != "_") = true →
    Rep S w (mkT es) x (cs.drop o) → Rep S w (mkT es) y (ds.drop o) → (Op.eqFields d cs.toArray ds.toArray fs).run P w = .ok (eqv (mkT es) x y) w
  | [], _, _, _, _, _, _, h, _, _, _, _, _, _, _ => absurd rfl h
  | [a], [], _, _, _, _, _, _, _, _, h, _, _, _, _ => by simp [tabTys] at h
  | [a], f :: fs, o, x, y, cs, ds, _, ha, hok, ht, ho, hn, hx, hy => by
    simp only [tabTys] at ht
    split at ht
    · rename_i τ n hl
      split at ht
      · rename_i l hg
        simp only [Option.some.injEq, List.cons.injEq] at ht
        obtain ⟨e1, e2⟩ := ht
        subst e1; subst e2
        have hfs : fs = [] := by cases fs with | nil => rfl | cons g gs => have := tabTys_length hg; simp at this
        subst hfs
        simp only [offsOK, Bool.and_eq_true] at ho
        have ho' := Nat.eq_of_beq_eq_true ho.1.1
        have hx' : Rep S w τ x ((cs.drop o).take τ.size) := by rw [← Rep.length τ hx, List.take_length]; exact hx
        have hy' : Rep S w τ y ((ds.drop o).take τ.size) := by rw [← Rep.length τ hy, List.take_length]; exact hy
        have p1 := run_part (P := P) (htab _ _ _ hl) hx'
        have p2 := run_part (P := P) (htab _ _ _ hl) hy'
        have p3 := ha τ (by simp) _ _ hl hok S w x y _ _ hx' hy'
        simp only [List.all_cons, Bool.and_eq_true] at hn
        have hname : f.name ≠ "_" := by simpa using hn.1
        simp only [Op.eqFields, hname, ne_eq, not_false_eq_true, if_true, Sem.run_bind, ho', p1, p2, p3, Result.andThen_ok]
        show _ = Result.ok (eqv τ x y) w
        cases eqv τ x y <;> simp
      · simp at ht
    · simp at ht
  | a :: b :: es, [], _, _, _, _, _, _, _, _, h, _, _, _, _ => by simp [tabTys] at h
  | a :: b :: es, f :: fs, o, x, y, cs, ds, _, ha, hok, ht, ho, hn, hx, hy => by
    simp only [tabTys] at ht
    split at ht
    · rename_i τ n hl
      split at ht
      · rename_i l hg
        simp only [Option.some.injEq, List.cons.injEq] at ht
        obtain ⟨e1, e2⟩ := ht
        subst e1
        rw [e2] at hg
        simp only [offsOK, Bool.and_eq_true] at ho
        have ho' := Nat.eq_of_beq_eq_true ho.1.1
        obtain ⟨c1, c2, ec, hx1, hx2⟩ := hx
        obtain ⟨d1, d2, ed, hy1, hy2⟩ := hy
        have lc := Rep.length τ hx1
        have ld := Rep.length τ hy1
        have hx' : Rep S w τ x.1 ((cs.drop o).take τ.size) := by rw [ec, ← lc, List.take_left]; exact hx1
        have hy' : Rep S w τ y.1 ((ds.drop o).take τ.size) := by rw [ed, ← ld, List.take_left]; exact hy1
        have hx2' : Rep S w (mkT (b :: es)) x.2 (cs.drop (o + τ.size)) := by rw [← List.drop_drop, ec, ← lc, List.drop_left]; exact hx2
        have hy2' : Rep S w (mkT (b :: es)) y.2 (ds.drop (o + τ.size)) := by rw [← List.drop_drop, ed, ← ld, List.drop_left]; exact hy2
        simp only [mkT, Ty.eqOk, Bool.and_eq_true] at hok
        have p1 := run_part (P := P) (htab _ _ _ hl) hx'
        have p2 := run_part (P := P) (htab _ _ _ hl) hy'
        have p3 := ha τ (by simp) _ _ hl hok.1 S w x.1 y.1 _ _ hx' hy'
        simp only [List.all_cons, Bool.and_eq_true] at hn
        have hname : f.name ≠ "_" := by simpa using hn.1
        have ih := run_eqFields htab (b :: es) fs (o + τ.size) x.2 y.2 cs ds (by simp) (fun a' h' => ha a' (List.mem_cons_of_mem _ h')) hok.2 hg ho.2 (by simpa using hn.2) hx2' hy2'
        simp only [Op.eqFields, hname, ne_eq, not_false_eq_true, if_true, Sem.run_bind, ho', p1, p2, p3, Result.andThen_ok]
        show _ = Result.ok (eqv τ x.1 y.1 && eqv (mkT (b :: es)) x.2 y.2) w
        cases eqv τ x.1 y.1
        · simp
        · simpa using ih
      · simp at ht
    · simp at ht

theorem run_eqItems {tab : List (Nat × (Ty × Nat))} (htab : TabOK P tab) {d : Nat} {S : Stab} {w : World} {e : Ty} {E n : Nat} (hl : lk E tab = some (e, n)) (he : EqAt' P tab d e) (hok : e.eqOk = true) :
    ∀ (x y : List e.den) (c0 cs ds d0 : List Value) (j : Nat), c0.length = j * e.size → d0.length = j * e.size → x.length = y.length → RepL (Rep S w e) x cs → RepL (Rep S w e) y ds →
      (Op.eqItems d E e.size (c0 ++ cs).toArray (d0 ++ ds).toArray (List.range' j x.length)).run P w = .ok (List.isEqv x y (eqv e)) w
  | [], [], _, _, _, _, _, _, _, _, _, _ => by simp [Op.eqItems, List.isEqv]
  | [], _ :: _, _, _, _, _, _, _, _, h, _, _ => by simp at h
  | _ :: _, [], _, _, _, _, _, _, _, h, _, _ => by simp at h
  | a :: x, b :: y, c0, cs, ds, d0, j, h1, h2, hlen, ⟨c1, c2, ec, hx1, hx2⟩, ⟨d1, d2, ed, hy1, hy2⟩ => by
    have lc := Rep.length e hx1
    have ld := Rep.length e hy1
    subst ec; subst ed
    have hx' : Rep S w e a (((c0 ++ (c1 ++ c2)).drop (j * e.size)).take e.size) := by rw [← h1, List.drop_left, ← lc, List.take_left]; exact hx1
    have hy' : Rep S w e b (((d0 ++ (d1 ++ d2)).drop (j * e.size)).take e.size) := by rw [← h2, List.drop_left, ← ld, List.take_left]; exact hy1
    have p1 := run_part (P := P) (htab _ _ _ hl) hx'
    have p2 := run_part (P := P) (htab _ _ _ hl) hy'
    have p3 := he _ _ hl hok S w a b _ _ hx' hy'
    have ih := run_eqItems htab hl he hok x y (c0 ++ c1) c2 d2 (d0 ++ d1) (j + 1) (by rw [List.length_append, h1, lc, Nat.succ_mul]) (by rw [List.length_append, h2, ld, Nat.succ_mul]) (by simpa using hlen) hx2 hy2
    simp only [List.length_cons, List.range'_succ, Op.eqItems, Sem.run_bind, p1, p2, p3, Result.andThen_ok, List.isEqv]
    cases eqv e a b
    · simp
    · simpa using ih

theorem descOK_agg {tab : List (Nat × (Ty × Nat))} {fs : Array Field} {τ : Ty} {n : Nat} (h : descOK tab (some (.struct fs)) τ n = true) : τ.agg = true := by
  obtain ⟨es, _, e, hl, hn, _⟩ := descOK_struct h
  rw [e]; exact mkS_agg (by intro h; subst h; simp at hl; omega)

theorem run_equalIn {tab : List (Nat × (Ty × Nat))} (htab : TabOK P tab) (heq : ∀ T τ n, lk T tab = some (τ, n) → τ.agg = true → τ.eqOk = true → EqOK P T) : ∀ (d : Nat) (τ : Ty), τ.height ≤ d → EqAt' P tab (d + 1) τ
  | d, .int k, _, T, n, hl, _, S, w, x, y, cs, ds, hx, hy => by
    obtain ⟨D, hu, hd⟩ := (htab T _ n hl).und
    cases D with
    | int k' => subst hx; subst hy; exact run_equalIn_int w d T k _ x y hu
    | struct fs => exact absurd (descOK_agg hd) (by simp [Ty.agg])
    | _ => simp [descOK] at hd
  | d, .bool, _, T, n, hl, _, S, w, x, y, cs, ds, hx, hy => by
    obtain ⟨D, hu, hd⟩ := (htab T _ n hl).und
    cases D with
    | bool => subst hx; subst hy; exact run_equalIn_bool' w d T x y hu
    | struct fs => exact absurd (descOK_agg hd) (by simp [Ty.agg])
    | _ => simp [descOK] at hd
  | d, .str, _, T, n, hl, _, S, w, x, y, cs, ds, hx, hy => by
    obtain ⟨D, hu, hd⟩ := (htab T _ n hl).und
    cases D with
    | string =>
      subst hx; subst hy
      show _ = Result.ok (x == y) w
      rw [beq_toListBytes]
      exact run_equalIn_string w d T x y hu
    | struct fs => exact absurd (descOK_agg hd) (by simp [Ty.agg])
    | _ => simp [descOK] at hd
  | d, .sl e, _, T, n, hl, h, _, _, _, _, _, _, _, _ => by simp [Ty.eqOk] at h
  | d, .vec e, _, T, n, hl, h, _, _, _, _, _, _, _, _ => by simp [Ty.eqOk] at h
  | d, .hdl m e, _, T, n, hl, h, _, _, _, _, _, _, _, _ => by simp [Ty.eqOk] at h
  | 0, .pair a b, h, _, _, _, _, _, _, _, _, _, _, _, _ => by simp [Ty.height] at h
  | 0, .one a, h, _, _, _, _, _, _, _, _, _, _, _, _ => by simp [Ty.height] at h
  | 0, .arr _ e, h, _, _, _, _, _, _, _, _, _, _, _, _ => by simp [Ty.height] at h
  | d + 1, .arr m e, h, T, n, hl, hok, S, w, x, y, cs, ds, hx, hy => by
    obtain ⟨D, hu, hd⟩ := (htab T _ n hl).und
    cases D with
    | array m' E =>
      simp only [descOK, Bool.and_eq_true] at hd
      obtain ⟨⟨e1, e2⟩, e3⟩ := hd
      split at e3
      · rename_i e' n' hE
        simp only [Bool.and_eq_true] at e3
        have ee := Ty.eq_of_beq e3.1
        subst ee
        have em := Nat.eq_of_beq_eq_true e1
        subst em
        have hi := (htab _ _ _ hE).info
        obtain ⟨i, hii⟩ : ∃ i, P.info? E = some i := by
          cases hq : P.info? E with
          | none => rw [hq] at hi; simp at hi
          | some i => exact ⟨i, rfl⟩
        have hcell : P.cellsOf E = e.size := by
          rw [hii] at hi; simp at hi
          simp [Program.cellsOf, hii, hi.1]
        have ih := run_equalIn htab heq d e (by simp only [Ty.height] at h; omega)
        have key := run_eqItems htab hE ih (by simpa [Ty.eqOk] using hok) x y [] cs ds [] 0 (by simp) (by simp) (by rw [hx.1, hy.1]) hx.2 hy.2
        simp only [Ty.pack, Ty.agg, if_true]
        rw [run_equalIn_array w (d + 1) cs.toArray ds.toArray hu hii, hcell, List.range_eq_range', ← hx.1]
        simpa [eqv] using key
      · simp at e3
    | struct fs =>
      obtain ⟨es, h1, h2, h3, h4, h5⟩ := descOK_struct hd
      match es, h2 with
      | _ :: _ :: _, e => rw [mkS_mkT] at e; simp at e
      | [], e => simp [mkS] at e
    | _ => simp [descOK] at hd
  | d + 1, .one a, h, T, n, hl, hok, S, w, x, y, cs, ds, hx, hy => by
    obtain ⟨D, hu, hd⟩ := (htab T _ n hl).und
    obtain ⟨q1, q2, q3⟩ := heq T _ n hl rfl hok
    cases D with
    | struct fs =>
      obtain ⟨es, h1, h2, h3, h4, h5⟩ := descOK_struct hd
      match es, h2 with
      | [b], e =>
        simp only [mkS, Ty.one.injEq] at e
        subst e
        have ih := run_equalIn htab heq d a (by simp only [Ty.height] at h; omega)
        have hfs : P.fieldsOf T = fs := by simp [Program.fieldsOf, hu]
        simp only [Ty.pack, Ty.agg, if_true]
        rw [run_equalIn_struct w (d + 1) T _ _ (by rw [hfs]; exact hu) q1, hfs]
        rw [hu] at q3
        exact run_eqFields htab [a] fs.toList 0 x y cs ds (by simp) (fun a' h' => by simp at h'; subst h'; exact ih) hok h1 h5 q3 hx hy
      | _ :: _ :: _, e => rw [mkS_mkT] at e; simp at e
      | [], e => simp [mkS] at e
    | _ => simp [descOK] at hd
  | d + 1, .pair a b, h, T, n, hl, hok, S, w, x, y, cs, ds, hx, hy => by
    obtain ⟨D, hu, hd⟩ := (htab T _ n hl).und
    obtain ⟨q1, q2, q3⟩ := heq T _ n hl rfl hok
    cases D with
    | struct fs =>
      obtain ⟨es, h1, h2, h3, h4, h5⟩ := descOK_struct hd
      match es, h2 with
      | b1 :: b2 :: r, e =>
        have e' := e
        rw [mkS_mkT] at e
        have hh : ∀ a' ∈ b1 :: b2 :: r, EqAt' P tab (d + 1) a' := fun a' ha' => by
          have := height_lt ha'
          rw [← e'] at this
          exact run_equalIn htab heq d a' (by omega)
        have hfs : P.fieldsOf T = fs := by simp [Program.fieldsOf, hu]
        simp only [Ty.pack, Ty.agg, if_true]
        rw [run_equalIn_struct w (d + 1) T _ _ (by rw [hfs]; exact hu) q1, hfs]
        rw [hu] at q3
        have em : Ty.pair a b = mkT (b1 :: b2 :: r) := by rw [e]; rfl
        revert hx hy hok
        revert x y
        rw [em]
        intro x y hok hx hy
        exact run_eqFields htab (b1 :: b2 :: r) fs.toList 0 x y cs ds (by simp) hh hok h1 h5 q3 (by simpa using hx) (by simpa using hy)
      | [_], e => simp [mkS] at e
      | [], e => simp [mkS] at e
    | _ => simp [descOK] at hd
termination_by d τ => (d, τ.height)

end
end Go.Ev

namespace Go.Ev
set_option linter.unusedVariables false

section
variable {P : Program} {E : Env} {nt B : Nat} {st : St} {o : Oper} {R : Type} {r : R}

/-- The run of a test of equality. -/
theorem run_eqTest (hE : EnvOK2 P E) {T n : Nat} {τ : Ty} (hT : E.ty T = some (τ, n)) (hok : (τ.eqOk && Nat.blt τ.height 9999) = true) {S : Stab} {w : World} {x y : τ.den} {cs ds : List Value}
    (hx : Rep S w τ x cs) (hy : Rep S w τ y ds) (a b : Operand) (neg : Bool) :
    (do eqGuard (if neg then .neq else .eql) T a b (τ.pack cs) (τ.pack ds); binOp (if neg then .neq else .eql) T (τ.pack cs) (τ.pack ds) : Sem Value).run P w = .ok (.bool (if neg then !eqv τ x y else eqv τ x y)) w := by
  simp only [Bool.and_eq_true] at hok
  have hh : τ.height ≤ 9999 := by have := hok.2; simp only [Nat.blt_eq] at this; omega
  have key := run_equalIn hE.tab hE.eq 9999 τ hh T n hT hok.1 S w x y cs ds hx hy
  have hne : (if neg then BinOp.neq else BinOp.eql) = .neq ∨ (if neg then BinOp.neq else BinOp.eql) = .eql := by cases neg <;> simp
  cases ha : τ.agg with
  | true =>
    obtain ⟨q1, q2, q3⟩ := hE.eq T τ n hT ha hok.1
    simp only [Ty.pack, ha, if_true] at key ⊢
    have hg := run_eqGuard_agg (P := P) w (if neg then .neq else .eql) T a b cs.toArray ds.toArray q2
    simp only [Sem.run_bind, hg, Result.andThen_ok]
    cases neg <;> simp [binOp, Op.equal, Op.maxDepth, key]
  | false =>
    cases τ with
    | int k =>
      subst hx; subst hy
      cases neg <;> simp [Ty.pack, Ty.agg, eqGuard, binOp, Op.intCmp, eqv, bne]
    | bool =>
      subst hx; subst hy
      simp only [Ty.pack, Ty.agg] at key ⊢
      cases neg <;> simp [eqGuard, binOp, Op.equal, Op.maxDepth] <;> simp at key <;> simp [key]
    | str =>
      subst hx; subst hy
      cases neg <;> simp [Ty.pack, Ty.agg, eqGuard, binOp, Op.stringOp, eqv, ← beq_toListBytes]
    | sl e => simp [Ty.eqOk] at hok
    | vec e => simp [Ty.eqOk] at hok
    | hdl m e => simp [Ty.eqOk] at hok
    | _ => simp [Ty.agg] at ha

theorem run_nilTest {T : Nat} (hT : ∃ a b c, P.underlying T = some (.func a b c)) {u : Value} {t : Bool} (hu : (u = .nilFunc ∧ t = true) ∨ ((∃ a b c, u = .func a b c) ∧ t = false)) (a b : Operand) (neg : Bool) (w : World) :
    (do eqGuard (if neg then .neq else .eql) T a b u .nilFunc; binOp (if neg then .neq else .eql) T u .nilFunc : Sem Value).run P w = .ok (.bool (if neg then !t else t)) w := by
  obtain ⟨x, y, z, hT⟩ := hT
  have hun : (underlying T).run P w = .ok (.func x y z) w := run_underlying hT w
  have key : ∀ d, (Op.equalIn (d + 1) T u .nilFunc).run P w = .ok t w := by
    intro d
    rcases hu with ⟨e, e2⟩ | ⟨⟨p, q, r, e⟩, e2⟩ <;> subst e <;> subst e2 <;> simp [Op.equalIn, hun]
  have key := key 9999
  rcases hu with ⟨e, e2⟩ | ⟨⟨p, q, r, e⟩, e2⟩ <;> subst e <;> subst e2 <;> cases neg <;> simp [eqGuard, binOp, Op.equal, Op.maxDepth] <;> simp at key <;> simp [key]

theorem good_binOp {k : K R} (hE : EnvOK2 P E) (op : BinOp) (T : Nat) (x y : Operand) (U : Nat) (hop : o.op = .binOp op T x y U) (hd : dstOK nt o.dst = true)
    (h : (match st.val x, st.val y with
    | some a, some b => binS E op T a b R (fun v => k v [] [])
    | _, _ => none) = some r) : Good P nt st o k r := by
  split at h
  · rename_i a b ha hb
    have hx : ∀ {st' : St}, (∀ t, t ∈ opTmps o.op.operands.toList → st'.tmp t = st.tmp t) → st'.val x = some a := fun h1 => by rw [val_agree h1 (x := x) (by simp [hop, Op.operands])]; exact ha
    have hy : ∀ {st' : St}, (∀ t, t ∈ opTmps o.op.operands.toList → st'.tmp t = st.tmp t) → st'.val y = some b := fun h1 => by rw [val_agree h1 (x := y) (by simp [hop, Op.operands])]; exact hb
    have mkInt : ∀ (j : IntKind) (m : Int) (j' : IntKind) (m' : Int), a = .tv ⟨.int j, m⟩ → b = .tv ⟨.int j', m'⟩ →
        (∃ v, k v [] [] = some r ∧ v.names = [] ∧ ∀ T w, ∃ u, (binOp op T (.int j m) (.int j' m')).run P w = .ok u w ∧ ∀ ρ S, SVRel ρ S w v u) → Good P nt st o k r := by
      intro j m j' m' ea eb hh
      obtain ⟨v, hk, hn, hrun⟩ := hh
      refine ⟨v, [], [], hk, OpSem.pure hd fun st' h1 h2 B ρ S ac w hr => ?_⟩
      have e1 := rel_int (ea ▸ (hr.val (hx h1)).1)
      have e2 := rel_int (eb ▸ (hr.val (hy h1)).1)
      obtain ⟨u, hu, hrel⟩ := hrun T w
      refine ⟨u, ?_, hrel ρ S, fun n hnn => by rw [hn] at hnn; simp at hnn⟩
      simp [execOp, hop, e1, e2, eqGuard_int, hu]
    have mkEq : ∀ (neg : Bool), op = (if neg then .neq else .eql) → ∀ (τ σ : Ty) (m : Nat) (p : τ.den) (q : TV) (p' : τ.den), a = .tv ⟨τ, p⟩ → b = .tv q → E.ty T = some (σ, m) → (σ.eqOk && Nat.blt σ.height 9999 && Ty.beq τ σ) = true → q.as τ = some p' →
        k (.tv ⟨.bool, if neg then !eqv τ p p' else eqv τ p p'⟩) [] [] = some r → Good P nt st o k r := by
      intro neg eop τ σ m p q p' ea eb hT hok hq hk
      rw [Bool.and_eq_true] at hok
      have e := Ty.eq_of_beq hok.2
      subst e
      have hq' := TV.as_some hq
      subst hq'
      refine ⟨_, [], [], hk, OpSem.pure hd fun st' h1 h2 B ρ S ac w hr => ?_⟩
      obtain ⟨cs, hcs, e1⟩ := ea ▸ (hr.val (hx h1)).1
      obtain ⟨ds, hds, e2⟩ := eb ▸ (hr.val (hy h1)).1
      refine ⟨_, ?_, bool_rel _ _ _ _, tv_names _⟩
      have := run_eqTest hE hT hok.1 hcs hds x y neg
      rw [← eop] at this
      simp only [execOp, hop, e1, e2]
      rw [Sem.run_bind, this]; rfl
    have nilC : ∀ t : Bool, b = .nilfn → (∀ ρ S w u, SVRel ρ S w a u → (u = .nilFunc ∧ t = true) ∨ ((∃ a b c, u = .func a b c) ∧ t = false)) → nilEq E op T t R (fun v => k v [] []) = some r → Good P nt st o k r := by
      intro t eb hu h
      unfold nilEq at h
      cases hf : E.fts.any (Nat.beq T) with
      | false => rw [hf] at h; simp at h
      | true =>
        rw [hf] at h
        simp only [cond_true] at h
        have key : ∀ neg : Bool, op = (if neg then .neq else .eql) → k (.tv ⟨.bool, if neg then !t else t⟩) [] [] = some r → Good P nt st o k r := by
          intro neg eop hk
          refine ⟨_, [], [], hk, OpSem.pure hd fun st' h1 h2 B ρ S ac w hr => ?_⟩
          have e1 := hu ρ S w _ (hr.val (hx h1)).1
          have e2 : ac.eval y = .nilFunc := by subst eb; exact (hr.val (hy h1)).1
          refine ⟨_, ?_, bool_rel _ _ _ _, tv_names _⟩
          have := run_nilTest (hE.ft T hf) e1 x y neg w
          rw [← eop] at this
          simp only [execOp, hop, e2]
          rw [Sem.run_bind, this]; rfl
        split at h
        · exact key false rfl h
        · exact key true rfl h
        · simp at h
    unfold binS at h
    split at h
    · rename_i j m j' m'
      split at h
      · obtain ⟨v, q⟩ := shiftS_ok (P := P) (j := j') (.inl rfl) h
        exact mkInt j m j' m' rfl rfl ⟨v, q⟩
      · obtain ⟨v, q⟩ := shiftS_ok (P := P) (j := j') (.inr rfl) h
        exact mkInt j m j' m' rfl rfl ⟨v, q⟩
      · rename_i hs hs'
        cases hb2 : Nat.beq (kindNo j) (kindNo j') with
        | false => rw [hb2] at h; simp at h
        | true =>
          rw [hb2] at h
          simp only [cond_true] at h
          have ej := kindNo_inj (Nat.eq_of_beq_eq_true hb2)
          subst ej
          obtain ⟨v, q⟩ := arith_ok (P := P) (fun e => hs e) (fun e => hs' e) h
          exact mkInt j m j m' rfl rfl ⟨v, q⟩
    · rename_i p q
      obtain ⟨v, hk, hn, hrun⟩ := strOp_ok (P := P) h
      refine ⟨v, [], [], hk, OpSem.pure hd fun st' h1 h2 B ρ S ac w hr => ?_⟩
      have e1 := rel_str (hr.val (hx h1)).1
      have e2 := rel_str (hr.val (hy h1)).1
      obtain ⟨u, hu, hrel⟩ := hrun T w
      refine ⟨u, ?_, hrel ρ S, fun n hnn => by rw [hn] at hnn; simp at hnn⟩
      simp [execOp, hop, e1, e2, eqGuard_str, hu]
    · rename_i τ p q _ _
      split at h
      · split at h
        · rename_i σ m hT
          cases hok : (σ.eqOk && Nat.blt σ.height 9999 && Ty.beq τ σ) with
          | false => rw [hok] at h; simp at h
          | true =>
            rw [hok] at h
            simp only [cond_true] at h
            split at h
            · rename_i p' hq
              exact mkEq false rfl τ σ m p q p' rfl rfl hT hok hq h
            · simp at h
        · simp at h
      · split at h
        · rename_i σ m hT
          cases hok : (σ.eqOk && Nat.blt σ.height 9999 && Ty.beq τ σ) with
          | false => rw [hok] at h; simp at h
          | true =>
            rw [hok] at h
            simp only [cond_true] at h
            split at h
            · rename_i p' hq
              exact mkEq true rfl τ σ m p q p' rfl rfl hT hok hq h
            · simp at h
        · simp at h
      · simp at h
    · exact nilC false rfl (fun ρ S w u hu => by obtain ⟨us, vs, e, _⟩ := hu; exact .inr ⟨⟨_, _, _, e⟩, rfl⟩) h
    · exact nilC true rfl (fun ρ S w u hu => .inl ⟨hu, rfl⟩) h
    · simp at h
  · simp at h

theorem good_unOp {k : K R} (op : UnOp) (T : Nat) (x : Operand) (hop : o.op = .unOp op T x) (hd : dstOK nt o.dst = true)
    (h : (match st.val x with
    | some a => unS op a R (fun v => k v [] [])
    | none => none) = some r) : Good P nt st o k r := by
  split at h
  · rename_i a ha
    have hx : ∀ {st' : St}, (∀ t, t ∈ opTmps o.op.operands.toList → st'.tmp t = st.tmp t) → st'.val x = some a := fun h1 => by rw [val_agree h1 (x := x) (by simp [hop, Op.operands])]; exact ha
    unfold unS at h
    split at h
    · refine ⟨_, [], [], h, OpSem.pure hd fun st' h1 h2 B ρ S ac w hr => ?_⟩
      have e1 := rel_int (hr.val (hx h1)).1
      exact ⟨_, by simp [execOp, hop, e1, Op.unary, Op.intArith], int_rel _ _ _ _ _, tv_names _⟩
    · refine ⟨_, [], [], h, OpSem.pure hd fun st' h1 h2 B ρ S ac w hr => ?_⟩
      have e1 := rel_bool (hr.val (hx h1)).1
      exact ⟨_, by simp [execOp, hop, e1, Op.unary], bool_rel _ _ _ _, tv_names _⟩
    · refine ⟨_, [], [], h, OpSem.pure hd fun st' h1 h2 B ρ S ac w hr => ?_⟩
      have e1 := rel_int (hr.val (hx h1)).1
      exact ⟨_, by simp [execOp, hop, e1, Op.unary, Op.intBits], int_rel _ _ _ _ _, tv_names _⟩
    · simp at h
  · simp at h

theorem und_int {tab : List (Nat × (Ty × Nat))} {T n : Nat} {j : IntKind} (h : TyOK P tab T (.int j) n) : P.underlying T = some (.int j) := by
  obtain ⟨d, hu, hd⟩ := h.und
  cases d with
  | int k => simp only [descOK] at hd; rw [hu, kindNo_inj (Nat.eq_of_beq_eq_true hd)]
  | struct fs => exact absurd (descOK_agg hd) (by simp [Ty.agg])
  | _ => simp [descOK] at hd

theorem und_str {tab : List (Nat × (Ty × Nat))} {T n : Nat} (h : TyOK P tab T .str n) : P.underlying T = some .string := by
  obtain ⟨d, hu, hd⟩ := h.und
  cases d with
  | string => exact hu
  | struct fs => exact absurd (descOK_agg hd) (by simp [Ty.agg])
  | _ => simp [descOK] at hd

theorem und_arr {tab : List (Nat × (Ty × Nat))} {T n m : Nat} {e : Ty} (h : TyOK P tab T (.arr m e) n) : ∃ E k, P.underlying T = some (.array m E) ∧ 2 ≤ m ∧ lk E tab = some (e, k) ∧ e.size ≠ 0 := by
  obtain ⟨d, hu, hd⟩ := h.und
  cases d with
  | array m' E =>
    simp only [descOK, Bool.and_eq_true] at hd
    obtain ⟨⟨h1, h2⟩, h3⟩ := hd
    split at h3
    · rename_i e' k hl
      simp only [Bool.and_eq_true, Bool.not_eq_true'] at h3
      rw [← Ty.eq_of_beq h3.1] at hl
      refine ⟨E, k, by rw [hu, Nat.eq_of_beq_eq_true h1], by have := Nat.le_of_ble_eq_true h2; have := Nat.eq_of_beq_eq_true h1; omega, hl, fun e0 => by rw [e0] at h3; simp at h3⟩
    · simp at h3
  | struct fs =>
    obtain ⟨es, h1, h2, h3, h4, h5⟩ := descOK_struct hd
    match es, h2 with
    | _ :: _ :: _, e => rw [mkS_mkT] at e; simp at e
    | [_], e => simp [mkS] at e
    | [], e => simp [mkS] at e
  | _ => simp [descOK] at hd

theorem und_sl {tab : List (Nat × (Ty × Nat))} {T n : Nat} {e : Ty} (h : TyOK P tab T (.sl e) n) : ∃ E k, P.underlying T = some (.slice E) ∧ lk E tab = some (e, k) ∧ e.size ≠ 0 := by
  obtain ⟨d, hu, hd⟩ := h.und
  cases d with
  | slice E =>
    simp only [descOK] at hd
    split at hd
    · rename_i e' k hl
      simp only [Bool.and_eq_true, Bool.not_eq_true'] at hd
      rw [← Ty.eq_of_beq hd.1] at hl
      exact ⟨E, k, hu, hl, fun e0 => by rw [e0] at hd; simp at hd⟩
    · simp at hd
  | struct fs => exact absurd (descOK_agg hd) (by simp [Ty.agg])
  | _ => simp [descOK] at hd

theorem good_convert {k : K R} (hE : EnvOK P E) (s d : Nat) (x : Operand) (hop : o.op = .convert s d x) (hd : dstOK nt o.dst = true)
    (h : (match E.ty s, E.ty d, st.val x with
    | some (.int _, _), some (.int j, _), some (.tv ⟨.int _, n⟩) => k (.tv ⟨.int j, j.wrap n⟩) [] []
    | some (.str, _), some (.str, _), some (.tv ⟨.str, n⟩) => k (.tv ⟨.str, n⟩) [] []
    | _, _, _ => none) = some r) : Good P nt st o k r := by
  split at h
  · rename_i i m j m' i' n hs hdd hv
    have h1 := und_int (hE.tab _ _ _ hs)
    have h2 := und_int (hE.tab _ _ _ hdd)
    refine ⟨_, [], [], h, OpSem.pure hd fun st' g1 g2 B ρ S ac w hr => ?_⟩
    have hx : st'.val x = some (.tv ⟨.int i', n⟩) := by rw [val_agree g1 (x := x) (by simp [hop, Op.operands])]; exact hv
    have e1 := rel_int (hr.val hx).1
    exact ⟨_, by simp [execOp, hop, e1, convert, run_underlying h1, run_underlying h2, Conv.intToInt], int_rel _ _ _ _ _, tv_names _⟩
  · rename_i m m' n hs hdd hv
    have h1 := und_str (hE.tab _ _ _ hs)
    have h2 := und_str (hE.tab _ _ _ hdd)
    refine ⟨_, [], [], h, OpSem.pure hd fun st' g1 g2 B ρ S ac w hr => ?_⟩
    have hx : st'.val x = some (.tv ⟨.str, n⟩) := by rw [val_agree g1 (x := x) (by simp [hop, Op.operands])]; exact hv
    have e1 := rel_str (hr.val hx).1
    exact ⟨_, by simp [execOp, hop, e1, convert, run_underlying h1, run_underlying h2], str_rel _ _ _ _, tv_names _⟩
  · simp at h

theorem dec_in {j hi : Int} (h : decide (0 ≤ j ∧ j < hi) = true) : 0 ≤ j ∧ j < hi := of_decide_eq_true h

theorem dec_facts {j hi : Int} (h : 0 ≤ j ∧ j < hi) : j < max hi 0 := by omega

theorem inb_spec {i : Int} {n : Nat} : inb i n = true ↔ (0 ≤ i ∧ i < (n : Int)) := by simp [inb]

theorem getD_eq {α : Type} {l : List α} {i : Nat} {d : α} (h : i < l.length) : l.getD i d = l[i] := by simp [List.getD, h]

theorem good_indexAddr {k : K R} (hE : EnvOK P E) (T : Nat) (x i : Operand) (hop : o.op = .indexAddr T x i) (hd : dstOK nt o.dst = true)
    (h : (match E.ty T with
    | some (.arr n e, _) => match st.val x, st.val i with
      | some (.ptr m σ p), some (.tv ⟨.int _, j⟩) => bif pathIs σ p (.arr n e) then (bif inb j n then k (.ptr m σ (p ++ [.at j])) [] [] else none) else none
      | _, _ => none
    | some (.sl e, _) => match st.val x, st.val i with
      | some (.tv ⟨.sl e', l⟩), some (.tv ⟨.int _, j⟩) => bif Ty.beq e e' then (bif inb j l.length then k (.sptr ⟨e', l.getD j.toNat e'.dflt⟩) [] [] else none) else none
      | some (.vsl n e' hi _), some (.tv ⟨.int _, j⟩) => bif Ty.beq e e' then (bif decide (0 ≤ j ∧ j < hi) then k (.vptr n e' j []) [] [] else none) else none
      | _, _ => none
    | _ => none) = some r) : Good P nt st o k r := by
  split at h
  · rename_i n e q hT
    obtain ⟨E', k', hu, h2, hl, h0⟩ := und_arr (hE.tab _ _ _ hT)
    split at h
    · rename_i m σ p ki j hv hi
      cases hp : pathIs σ p (.arr n e) with
      | false => rw [hp] at h; simp at h
      | true =>
        rw [hp] at h
        simp only [cond_true] at h
        cases hb : inb j n with
        | false => rw [hb] at h; simp at h
        | true =>
          rw [hb] at h
          simp only [cond_true] at h
          have hbb := inb_spec.1 hb
          have hpp := pathIs_spec hp
          refine ⟨_, [], [], h, OpSem.pure hd fun st' g1 g2 B ρ S ac w hr => ?_⟩
          have hx : st'.val x = some (.ptr m σ p) := by rw [val_agree g1 (x := x) (by simp [hop, Op.operands])]; exact hv
          have hi' : st'.val i = some (.tv ⟨.int ki, j⟩) := by rw [val_agree g1 (x := i) (by simp [hop, Op.operands])]; exact hi
          obtain ⟨⟨ok, e1⟩, hn⟩ := hr.val hx
          have e2 := rel_int (hr.val hi').1
          have hs := (hE.tab _ _ _ hl).size w
          refine ⟨.pointer (some ⟨ρ m, off σ p + j.toNat * e.size, none⟩), ?_, ⟨okPath_append p σ _ _ hpp ok ⟨hbb, by cases e <;> trivial⟩, ?_⟩, hn⟩
          · simp [execOp, hop, e1, e2, Instr.indexAt, asIntOf, run_underlying hu, Instr.sureAddr, hbb, hs, add_none]
          · rw [off_append p σ _ _ hpp]
            have : off (.arr n e) [.at j] = j.toNat * e.size := by simp only [off]; cases e <;> rfl
            rw [this]
    · simp at h
  · rename_i e q hT
    obtain ⟨E', k', hu, hl, h0⟩ := und_sl (hE.tab _ _ _ hT)
    split at h
    · rename_i e' l ki j hv hi
      cases hb0 : Ty.beq e e' with
      | false => rw [hb0] at h; simp at h
      | true =>
        rw [hb0] at h
        simp only [cond_true] at h
        have ee := Ty.eq_of_beq hb0
        subst ee
        cases hb : inb j l.length with
        | false => rw [hb] at h; simp at h
        | true =>
          rw [hb] at h
          simp only [cond_true] at h
          have hbb := inb_spec.1 hb
          refine ⟨_, [], [], h, OpSem.pure hd fun st' g1 g2 B ρ S ac w hr => ?_⟩
          have hx : st'.val x = some (.tv ⟨.sl e, l⟩) := by rw [val_agree g1 (x := x) (by simp [hop, Op.operands])]; exact hv
          have hi' : st'.val i = some (.tv ⟨.int ki, j⟩) := by rw [val_agree g1 (x := i) (by simp [hop, Op.operands])]; exact hi
          obtain ⟨⟨cs, ⟨ad, cap, hcs, hcap, hmem⟩, e1⟩, hn⟩ := hr.val hx
          have e2 := rel_int (hr.val hi').1
          have hs := (hE.tab _ _ _ hl).size w
          have hlt : j.toNat < l.length := by omega
          rcases hmem with hmem | ⟨b, o', ds, had, hds, hlies⟩
          · have hmem' : l = [] := hmem
            rw [hmem'] at hlt; simp at hlt
          · have hrep := hds.get (fun x c => Rep.length e) j.toNat _ (List.getElem?_eq_getElem hlt)
            simp only at e1
            subst hcs; subst had
            refine ⟨.pointer (some ⟨b, o' + j.toNat * e.size, none⟩), ?_, ⟨b, _, _, rfl, by rw [getD_eq hlt]; exact hrep, ?_⟩, fun n hn => by simp [SV.names] at hn⟩
            · simp [execOp, hop, e1, e2, Ty.pack, Ty.agg, Instr.indexAt, asIntOf, run_underlying hu, hbb, hs, add_none]
            · intro q v hq
              have := hlies _ v (getElem?_part hq)
              rw [Nat.add_assoc]; exact this
    · rename_i m e' hi m0 ki j hv hi'
      cases hb0 : Ty.beq e e' with
      | false => rw [hb0] at h; simp at h
      | true =>
        rw [hb0] at h
        simp only [cond_true] at h
        have ee := Ty.eq_of_beq hb0
        subst ee
        cases hb : decide (0 ≤ j ∧ j < hi) with
        | false => rw [hb] at h; simp at h
        | true =>
          rw [hb] at h
          simp only [cond_true] at h
          have hbb := dec_in hb
          refine ⟨_, [], [], h, OpSem.pure hd fun st' g1 g2 B ρ S ac w hr => ?_⟩
          have hx : st'.val x = some (.vsl m e hi m0) := by rw [val_agree g1 (x := x) (by simp [hop, Op.operands])]; exact hv
          have hi2 : st'.val i = some (.tv ⟨.int ki, j⟩) := by rw [val_agree g1 (x := i) (by simp [hop, Op.operands])]; exact hi'
          obtain ⟨⟨cap, e1, c0, c1, _⟩, hn⟩ := hr.val hx
          have e2 := rel_int (hr.val hi2).1
          have hs := (hE.tab _ _ _ hl).size w
          refine ⟨.pointer (some ⟨ρ m, 0 + j.toNat * e.size, none⟩), ?_, ⟨hbb.1, by cases e <;> trivial, ?_⟩, hn⟩
          · simp only [execOp, hop, e1, e2, Instr.indexAt, asIntOf, Sem.run_bind, Sem.run_pure, Result.andThen_ok, run_underlying hu]
            simp [hbb, add_none, dec_facts hbb, hs]
          · have : off e [] = 0 := by cases e <;> rfl
            rw [this]; simp
    · simp at h
  · simp at h

theorem good_index {k : K R} (hE : EnvOK P E) (T : Nat) (x i : Operand) (hop : o.op = .index T x i) (hd : dstOK nt o.dst = true)
    (h : (match E.ty T with
    | some (.arr n e, _) => match st.val x, st.val i with
      | some (.tv ⟨.arr m e', l⟩), some (.tv ⟨.int _, j⟩) =>
        bif Ty.beq e e' && Nat.beq n m then (bif inb j n then k (.tv ⟨e', l.getD j.toNat e'.dflt⟩) [] [] else none) else none
      | _, _ => none
    | some (.str, _) => match st.val x, st.val i with
      | some (.tv ⟨.str, s⟩), some (.tv ⟨.int _, j⟩) => bif inb j s.size then k (.tv ⟨.int .u8, ((s.data.toList.getD j.toNat 0).toNat : Int)⟩) [] [] else none
      | _, _ => none
    | _ => none) = some r) : Good P nt st o k r := by
  split at h
  · rename_i n e q hT
    obtain ⟨E', k', hu, h2, hl, h0⟩ := und_arr (hE.tab _ _ _ hT)
    split at h
    · rename_i m e' l ki j hv hi
      cases hb0 : Ty.beq e e' && Nat.beq n m with
      | false => rw [hb0] at h; simp at h
      | true =>
        rw [hb0] at h
        simp only [cond_true] at h
        rw [Bool.and_eq_true] at hb0
        have ee := Ty.eq_of_beq hb0.1
        have en := Nat.eq_of_beq_eq_true hb0.2
        subst ee; subst en
        cases hb : inb j n with
        | false => rw [hb] at h; simp at h
        | true =>
          rw [hb] at h
          simp only [cond_true] at h
          have hbb := inb_spec.1 hb
          refine ⟨_, [], [], h, OpSem.pure hd fun st' g1 g2 B ρ S ac w hr => ?_⟩
          have hx : st'.val x = some (.tv ⟨.arr n e, l⟩) := by rw [val_agree g1 (x := x) (by simp [hop, Op.operands])]; exact hv
          have hi' : st'.val i = some (.tv ⟨.int ki, j⟩) := by rw [val_agree g1 (x := i) (by simp [hop, Op.operands])]; exact hi
          obtain ⟨⟨cs, ⟨hln, hcs⟩, e1⟩, hn⟩ := hr.val hx
          have e2 := rel_int (hr.val hi').1
          have hs := (hE.tab _ _ _ hl).size w
          have hln' : l.length = n := hln
          have hlt : j.toNat < l.length := by rw [hln']; omega
          have hrep := hcs.get (fun x c => Rep.length e) j.toNat _ (List.getElem?_eq_getElem hlt)
          have hp := run_part (P := P) (hE.tab _ _ _ hl) hrep
          have e1' : ac.eval x = .agg cs.toArray := e1
          refine ⟨_, ?_, ⟨_, by rw [getD_eq hlt]; exact hrep, rfl⟩, tv_names _⟩
          simp [execOp, hop, e1', e2, Instr.index, asIntOf, run_underlying hu, hbb, hs, hp]
    · simp at h
  · rename_i q hT
    have hu := und_str (hE.tab _ _ _ hT)
    split at h
    · rename_i s ki j hv hi
      cases hb : inb j s.size with
      | false => rw [hb] at h; simp at h
      | true =>
        rw [hb] at h
        simp only [cond_true] at h
        have hbb := inb_spec.1 hb
        refine ⟨_, [], [], h, OpSem.pure hd fun st' g1 g2 B ρ S ac w hr => ?_⟩
        have hx : st'.val x = some (.tv ⟨.str, s⟩) := by rw [val_agree g1 (x := x) (by simp [hop, Op.operands])]; exact hv
        have hi' : st'.val i = some (.tv ⟨.int ki, j⟩) := by rw [val_agree g1 (x := i) (by simp [hop, Op.operands])]; exact hi
        have e1 := rel_str (hr.val hx).1
        have e2 := rel_int (hr.val hi').1
        have hlt : j.toNat < s.size := by omega
        have hget : s[j.toNat]? = some (s.data.toList.getD j.toNat 0) := by
          have hl : j.toNat < s.data.toList.length := by simpa using hlt
          rw [getElem?_pos s j.toNat hlt, getD_eq hl]; rfl
        refine ⟨_, ?_, int_rel _ _ _ _ _, tv_names _⟩
        simp only [execOp, hop, e1, e2, Instr.index, asIntOf, Sem.run_bind, Sem.run_pure, Result.andThen_ok, run_underlying hu, hbb.1, if_true, hget]
    · simp at h
  · simp at h

end
end Go.Ev
