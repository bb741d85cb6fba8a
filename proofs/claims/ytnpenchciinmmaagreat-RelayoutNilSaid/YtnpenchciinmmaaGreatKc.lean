/-
  An evaluator over the abstract machine: a closed call is run by the kernel.
-/
import Derived.Test.YtnpenchciinmmaaGreatKb
import Derived.Test.YtnpenchciinmmaaGreatPm
namespace Go.Proofs.YtnpenchciinmmaaGreat
open Go.RowKit
set_option linter.unusedSimpArgs false
set_option linter.unusedVariables false

/-- objects that can be looked into: as before; a map of strings that are in it; a map of glyphs' boxes (empty, or not known) -/
inductive EO where
  | pl (o : O)
  | mm (l : List (ByteArray × C))
  | mg (e : Bool)
/-- data of one cell that holds no place, as a value -/
def C.val : C → Value
  | .int k n => .int k n
  | .bool b => .bool b
  | .str s => .string s
  | _ => undef
def C.isVal : C → Bool
  | .int _ _ => true
  | .bool _ => true
  | _ => false
/-- a type's zero, of one cell -/
def zero1 (P : Program) (t : TypeId) : Option C :=
  match P.info? t with
  | some i => match i.zero with
    | some z => match v1 z with
      | .c c => some c
      | _ => none
    | none => none
  | none => none
def mval (l : List (ByteArray × C)) : List (Value × Value) := l.map fun p => (.string p.1, p.2.val)
/-- a map from strings, its entries in the order in which they came -/
def C.wfv : C → Bool
  | .int k n => (Lit.int k n).wf
  | .bool _ => true
  | _ => false
def MmOb (l : List (ByteArray × C)) (_ : Nat) (ob : Obj) : Prop := ∃ es c, ob = .map es c ∧ es.toList.map (fun e => (e.key, e.val)) = mval l ∧ ∀ p ∈ l, p.2.wfv = true
def mfind (s : ByteArray) : List (ByteArray × C) → Option C
  | [] => none
  | (k, c) :: l => if s == k then some c else mfind s l
/-- the element type of a map from strings -/
def tMapS (P : Program) (t : TypeId) : Option TypeId :=
  match P.underlying t with
  | some (.map k e) => match P.underlying k with
    | some .string => some e
    | _ => none
  | _ => none
def MgOb (e : Bool) (_ : Nat) (ob : Obj) : Prop := ∃ es c, ob = .map es c ∧ (e = true → es = #[])
def EO.toO : EO → O
  | .pl o => o
  | .mm l => .mp (MmOb l)
  | .mg e => .mp (MgOb e)
structure ES where
  t : List V
  h : List EO
def ES.st (s : ES) : St := ⟨s.t, s.h.map EO.toO⟩
def hgetE (h : List EO) (k : Nat) : Option O := (h[k]?).map EO.toO
def updE (h : List EO) : Option (Nat × EO) → List EO
  | none => h
  | some (k, o) => if Nat.blt k h.length then h.set k o else h ++ [o]
def putE (t : List V) (d : Option Tmp) (v : V) : List V :=
  match d with
  | some d => t.set d v
  | none => t
def ES.step (s : ES) (d : Option Tmp) (v : V) (w : Option (Nat × EO)) : ES := ⟨putE s.t d v, updE s.h w⟩

/-- an operation's value, what it writes, the object that it looks at -/
structure XR where
  v : V
  w : Option (Nat × EO)
  rk : Option Nat
def tPtr (P : Program) (t : TypeId) : Bool :=
  match P.underlying t with
  | some (.pointer _) => true
  | _ => false
/-- operations that the machine lacks -/
def opX (P : Program) (e : Operand → V) (h : List EO) : Op → Option XR
  | .makeMap t r => match r.map e with
    | none => if Nat.beq t 128 then some ⟨.mp h.length, some (h.length, .mg true), none⟩ else none
    | some (.c (.int _ _)) => match tMapS P t with
      | some _ => some ⟨.mp h.length, some (h.length, .mm []), none⟩
      | none => none
    | _ => none
  | .lookup t x y ok => match e x with
    | .mp k => match h[k]? with
      | some (.mm l) => match tMapS P t, e y with
        | some et, .c (.str s) => match mfind s l with
          | some c => some ⟨if ok then .tup [.c c, .c (.bool true)] else .c c, none, some k⟩
          | none => match zero1 P et with
            | some c => some ⟨if ok then .tup [.c c, .c (.bool false)] else .c c, none, some k⟩
            | none => none
        | _, _ => none
      | some (.mg true) => if Nat.beq t 128 then match ok, e y, tZero P 36 with
          | true, .agg [.c (.str _), .c (.int .i64 _)], some z => some ⟨.tup [.agg z, .c (.bool false)], none, some k⟩
          | _, _, _ => none
        else none
      | _ => none
    | _ => none
  | .mapUpdate t x y z => match e x with
    | .mp k => match h[k]? with
      | some (.mm l) => match tMapS P t, e y, e z with
        | some _, .c (.str s), .c c => if c.isVal && (mfind s l).isNone then some ⟨.any, some (k, .mm (l ++ [(s, c)])), some k⟩ else none
        | _, _, _ => none
      | some (.mg true) => if Nat.beq t 128 then match e y with
          | .agg [.c (.str _), .c (.int .i64 _)] => some ⟨.any, some (k, .mg false), some k⟩
          | _ => none
        else none
      | _ => none
    | _ => none
  | .buildSlice t len parts => if Nat.beq len 0 then (match tElem P t, parts.toList with
      | some _, [] => some ⟨.full [], none, none⟩
      | _, _ => none) else if Nat.beq len 1 then (match parts.toList, tElem P t with
      | [(0, y)], some (ety, 1, _) => match (e y).one, toC (e y) with
        | true, none => some ⟨.own h.length 0 1 1, some (h.length, .pl (.box ety [e y] false)), none⟩
        | _, _ => none
      | _, _ => none) else none
  | .slice t x none (some z) none => match e x, e z, tElem P t with
    | .own k off len es, .c (.int _ n), some (_, es', _) => if Nat.beq es' es && decide (0 ≤ n) && Nat.ble n.toNat len then some ⟨.own k off n.toNat es, none, none⟩ else none
    | _, _, _ => none
  | .binOp .eql t y (.const (.slice none 0 0)) _ => match vRows (e y), tElem P t with
    | some (_ :: _), some _ => some ⟨.c (.bool false), none, none⟩
    | _, _ => none
  | .binOp .eql t y (.const (.pointer none)) _ => if tPtr P t then (match e y with
      | .ptr _ _ => some ⟨.c (.bool false), none, none⟩
      | .c .nilp => some ⟨.c (.bool true), none, none⟩
      | _ => none) else none
  | .binOp .neq t y (.const (.pointer none)) _ => if tPtr P t then (match e y with
      | .ptr _ _ => some ⟨.c (.bool true), none, none⟩
      | .c .nilp => some ⟨.c (.bool false), none, none⟩
      | _ => none) else none
  | .call ⟨.builtin .copy, args, tys⟩ => match args.toList, tys.toList with
    | [y, z], [t, t'] => if Nat.beq t t' then match vRows (e y), vRows (e z), tElem P t with
        | some [], some [], some _ => some ⟨.c (.int .i64 0), none, none⟩
        | _, _, _ => none
      else none
    | _, _ => none
  | _ => none
def opE (P : Program) (e : Operand → V) (h : List EO) (op : Op) : Option XR :=
  match opX P e h op with
  | some r => some r
  | none => let p := aopF P e op
    match p.ap (hgetE h) h.length with
    | some (v, none) => some ⟨v, none, p.key⟩
    | some (v, some (k, o)) => some ⟨v, some (k, .pl o), p.key⟩
    | none => none
/-- whether a guarded operation runs -/
def gateE (ops : List Oper) (t : List V) : Option (Nat × Bool) → Option Bool := gate ops t

/-! what a call leaves -/
def EO.frz (k : Nat) (row : List C) : EO → EO
  | .pl o => .pl (o.frz k row)
  | .mm l => .mm l
  | .mg e => .mg e
def EO.bnd (n : Nat) : EO → Bool
  | .pl o => o.bnd n
  | _ => true
mutual
/-- a slice of object k is in it -/
def V.hasOwn (k : Nat) : V → Bool
  | .own i _ _ _ => Nat.beq i k
  | .agg l => V.hasOwns k l
  | .tup l => V.hasOwns k l
  | .fn _ l => V.hasOwns k l
  | _ => false
def V.hasOwns (k : Nat) : List V → Bool
  | [] => false
  | v :: l => V.hasOwn k v || V.hasOwns k l
end
def O.hasOwn (k : Nat) : O → Bool
  | .box _ cs _ => V.hasOwns k cs
  | _ => false
def EO.hasOwn (k : Nat) : EO → Bool
  | .pl o => o.hasOwn k
  | _ => false
mutual
/-- grown slices of objects from n on are data -/
def V.dat (n : Nat) : V → V
  | .gr k es rows => if Nat.blt k n then .gr k es rows else .c (.sl rows)
  | .agg l => .agg (V.dats n l)
  | .tup l => .tup (V.dats n l)
  | v => v
def V.dats (n : Nat) : List V → List V
  | [] => []
  | v :: l => V.dat n v :: V.dats n l
end
/-- an array that is known as a slice alone becomes data -/
def frzE (k : Nat) (v : V) (h : List EO) : V × List EO :=
  match h[k]? with
  | some (.pl (.box ty cs false)) => match toCs cs with
    | some row => (V.frz k row v, (h.set k (.pl (.box ty cs true))).map (EO.frz k row))
    | none => (v, h)
  | _ => (v, h)
/-- boxes become data, those from n on that are slices' -/
def settleA : Nat → Nat → V → List EO → V × List EO
  | 0, _, v, h => (v, h)
  | j + 1, n, v, h =>
    let k := n + j
    if V.hasOwn k v || h.any (EO.hasOwn k) then (match frzE k (V.dat n v) h with | (v', h') => settleA j n v' h') else settleA j n v h
def settle (n : Nat) (v : V) (h : List EO) : V × List EO :=
  match settleA (h.length - n) n v h with
  | (v1, h1) => match settleA (h1.length - n) n v1 h1 with
    | (v2, h2) =>
      let v3 := V.dat n v2
      if V.bnd n v3 && (h2.take n).all (EO.bnd n) then (v3, h2.take n) else (v3, h2)

/-- what is to be run -/
inductive Job where
  | code (n0 : Nat) (c : Code) (s : ES)
  | loop (n0 : Nat) (c : Code) (s : ES)
  | ops (all l : List Oper) (s : ES)
  | draw (all l : List Oper) (acc : List EK) (s : ES)
  | call (f : FuncId) (args : List V) (h : List EO)
structure Res where
  e : Exit
  s : ES
/-- contracts that the run may use -/
structure Hooks where
  ac : FuncId → List V → Option V
  fz : FuncId → Bool
  ca : FuncId → Bool
mutual
def V.ptrs : V → List Nat
  | .ptr k _ => [k]
  | .agg l => V.ptrss l
  | .tup l => V.ptrss l
  | .fn _ l => V.ptrss l
  | _ => []
def V.ptrss : List V → List Nat
  | [] => []
  | v :: l => V.ptrs v ++ V.ptrss l
end
/-- a box becomes data -/
def frzS (k : Nat) (s : ES) : ES :=
  match s.h[k]? with
  | some (.pl (.box ty cs false)) => match toCs cs with
    | some row => ⟨V.frzs k row s.t, (s.h.set k (.pl (.box ty cs true))).map (EO.frz k row)⟩
    | none => s
  | _ => s
/-- what a closure captures, where it only reads it -/
def frzO (K : Hooks) (s : ES) : Op → ES
  | .makeFunc (.func f) _ caps => if K.fz f then (V.ptrss (caps.toList.map (ev s.t))).foldl (fun s k => frzS k s) s else s
  | _ => s
def aresE1 (P : Program) (s : ES) : ResultVar → Option V
  | .tmp t => some (s.t.getD t .any)
  | .cell p ty => match tOne P ty, s.t.getD p .any with
    | some q, .ptr k off => match hgetE s.h k with
      | some (.box _ cs _) => ldV q cs off
      | _ => none
    | _, _ => none
def aresE (P : Program) (s : ES) : List ResultVar → Option (List V)
  | [] => some []
  | r :: l => match aresE1 P s r, aresE P s l with
    | some v, some vs => some (v :: vs)
    | _, _ => none
/-- a call's value and the objects behind it -/
structure CR where
  v : V
  h : List EO
  heap : Bool
def callR (P : Program) (K : Hooks) (rec : Job → Option Res) (f : FuncId) (args : List V) (h : List EO) : Option CR :=
  match V.pubs args with
  | some a' => match K.ac f a' with
    | some v => some ⟨v, h, false⟩
    | none => if K.ca f then (match a' with
        | [.fn g caps] => match rec (.call g caps []) with
          | some ⟨_, ⟨[v], _⟩⟩ => match V.pub v with
            | some (.agg l) => if Nat.beq l.length 11 && l.all V.one then some ⟨.tup [.agg l, .c (.int .i64 0)], h, false⟩ else none
            | _ => none
          | _ => none
        | _ => none)
      else match rec (.call f a' []) with
      | some ⟨_, ⟨[v], _⟩⟩ => match V.pub v with
        | some v' => some ⟨v', h, false⟩
        | none => match rec (.call f args h) with
          | some ⟨_, ⟨[v], h'⟩⟩ => some ⟨v, h', true⟩
          | _ => none
      | _ => none
  | none => match rec (.call f args h) with
    | some ⟨_, ⟨[v], h'⟩⟩ => some ⟨v, h', true⟩
    | _ => none
def stepJ (P : Program) (K : Hooks) (rec : Job → Option Res) : Job → Option Res
  | .code n0 c s => match c with
    | .skip => some ⟨.normal, s⟩
    | .region _ ops d => if d then rec (.draw ops.toList ops.toList [] s) else rec (.ops ops.toList ops.toList s)
    | .seq a b => match rec (.code n0 a s) with
      | some ⟨.normal, s'⟩ => rec (.code n0 b s')
      | r => r
    | .cond c a b => match ev s.t c with
      | .c (.bool true) => rec (.code n0 a s)
      | .c (.bool false) => rec (.code n0 b s)
      | _ => none
    | .block id c => match rec (.code n0 c s) with
      | some ⟨.exit i, s'⟩ => if Nat.beq i id then some ⟨.normal, s'⟩ else some ⟨.exit i, s'⟩
      | r => r
    | .loop c => rec (.loop n0 c s)
    | .exit id => some ⟨.exit id, s⟩
    | .scope c => match rec (.code n0 c s) with
      | some ⟨.goto _, _⟩ => none
      | r => r
    | .label _ => some ⟨.normal, s⟩
    | .ret => some ⟨.ret, s⟩
    | _ => none
  | .loop n0 c s => match rec (.code n0 c s) with
    | some ⟨.normal, s'⟩ => rec (.loop n0 c s')
    | r => r
  | .ops all l s => match l with
    | [] => some ⟨.normal, s⟩
    | o :: r => match gate all s.t o.guard with
      | some false => rec (.ops all r ⟨putE s.t o.dst (.tup []), s.h⟩)
      | some true => match callOf (ev s.t) o.op with
        | some (f, args) => match callR P K rec f args s.h with
          | some ⟨v, h', _⟩ => rec (.ops all r ⟨putE s.t o.dst v, h'⟩)
          | none => none
        | none => match (frzO K s o.op) with
          | s => match gate all s.t o.guard, opE P (ev s.t) s.h o.op with
            | some true, some ⟨v, w, _⟩ => rec (.ops all r (s.step o.dst v w))
            | _, _ => none
      | none => none
  | .draw all l acc s => match l with
    | [] => if commE all acc.reverse then some ⟨.normal, s⟩ else none
    | o :: r => match gate all s.t o.guard with
      | some false => rec (.draw all r (.one none none :: acc) ⟨putE s.t o.dst (.tup []), s.h⟩)
      | some true => match callOf (ev s.t) o.op with
        | some (f, args) => match callR P K rec f args s.h with
          | some ⟨v, h', b⟩ => rec (.draw all r ((if b then .all else .one none none) :: acc) ⟨putE s.t o.dst v, h'⟩)
          | none => none
        | none => match opE P (ev s.t) s.h o.op with
          | some ⟨v, w, rk⟩ => rec (.draw all r (.one (w.map (·.1)) rk :: acc) (s.step o.dst v w))
          | none => none
      | none => none
  | .call f args h => match P.funcs[f]? with
    | some fn => match fn.body with
      | some c => if callOk P f && Nat.ble args.length fn.ntmps then (match rec (.code h.length c ⟨args ++ List.replicate (fn.ntmps - args.length) .any, h⟩) with
        | some ⟨e, s'⟩ => match e with
          | .normal | .ret => match aresE P s' fn.results.toList with
            | some vs => match settle h.length (match vs with | [v] => v | vs => .tup vs) s'.h with
              | (v, h') => some ⟨.ret, ⟨[v], h'⟩⟩
            | none => none
          | _ => none
        | none => none) else none
      | none => none
    | none => none
/-- the evaluator -/
def runJ (P : Program) (K : Hooks) (n : Nat) : Job → Option Res := Nat.rec (fun _ => none) (fun _ rec j => stepJ P K rec j) n
end Go.Proofs.YtnpenchciinmmaaGreat
