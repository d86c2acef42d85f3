/- What is proved: an executor over abstract configurations of the model, sound against the calls of any program; no condition. -/
import Derived.Calls
import Derived.Below
import Derived.Laws.AppendOwn
import Derived.Laws.CopyRow
import Derived.Laws.Cells
import Derived.Laws.StructEq
/-
  The abstract executor: definitions. Values, objects, one operation, one step, many steps. No program of a seat in sight.
-/
namespace Go.Aw
open Go

/-- What is known of a value. -/
inductive V where
  | any
  | kn (x : Value)
  | agg (cs : List V)
  | tup (vs : List V)
  | list (s n : Nat) (f : Nat → List V)
  | rp (cs : List V) (off : Nat)
  | ptr (l off : Nat)
  | el (l s i off : Nat)
  | sl (l : Nat)
  | fn (f : FuncId) (cap : List V)
  | mp (l : Nat)
  | it (l : Nat)

/-- Which keys a map has. -/
inductive KK where
  | str
  | int (k : IntKind)
def KK.ok : KK → Value → Bool
  | .str, .string _ => true
  | .int k, .int k' _ => decide (k = k')
  | _, _ => false
def keq : Value → Value → Bool
  | .string a, .string b => a == b
  | .int _ a, .int _ b => a == b
  | _, _ => false

/-- What hangs on a map's entry: cells of its own, or a row of its own; numbered within the entry. -/
inductive SO where
  | cells (cs : List V)
  | row (e : TypeId) (s n : Nat) (f : Nat → List V)

/-- What is known of an object that the run made. A map: whose values are structs, or lie in one cell; how many entries; what was written last, key by key; whether a key is there otherwise, what it has, what hangs on that; what goes through it. -/
inductive O where
  | hole
  | dead
  | cells (cs : List V)
  | row (e : TypeId) (s n : Nat) (f : Nat → List V) (pure : Bool)
  | fz (s n : Nat) (f : Nat → List V)
  | map (kd : KK) (ag : Bool) (n : Nat) (ov : List (Value × Option (List V))) (has : Value → Bool) (get : Value → List V) (sub : Value → List SO) (its : List (Nat × (Value → Bool) × Option Value))
  | iter (l : Nat)
  | siter (s : ByteArray) (pos : Nat)

abbrev Tm := List (Nat × V)

def look : Tm → Nat → V
  | [], _ => .any
  | (d, v) :: r, i => bif Nat.beq d i then v else look r i

def getO : List O → Nat → O
  | [], _ => .hole
  | o :: _, 0 => o
  | _ :: r, n + 1 => getO r n

def putO : List O → Nat → O → List O
  | [], 0, o => [o]
  | [], n + 1, o => .hole :: putO [] n o
  | _ :: r, 0, o => o :: r
  | x :: r, n + 1, o => x :: putO r n o

def ups : List (Nat × O) → List O → List O
  | [], h => h
  | (l, o) :: r, h => ups r (putO h l o)

/-- The value of a computation that touches no memory. -/
def pr {α : Type} (P : Program) : Sem α → Option α
  | .pure a => some a
  | .program k => pr P (k P)
  | _ => none

def ev (t : Tm) : Operand → V
  | .tmp i => look t i
  | .const c => .kn c
  | .global _ => .any
  | .func f => .fn f []

/-- A value's cells. -/
def V.cs : V → Option (List V)
  | .any => none
  | .tup _ => none
  | .agg cs => some cs
  | .kn x => some (x.cells.toList.map V.kn)
  | x => some [x]

/-- May it lie in one cell? -/
def V.one : V → Bool
  | .any => false
  | .tup _ => false
  | .agg _ => false
  | .kn x => x.oneCell'
  | _ => true

/-- Does it name nothing that the run made? -/
def V.pure0 : V → Bool
  | .kn _ => true
  | .list _ _ _ => true
  | .rp _ _ => true
  | .fn _ [] => true
  | _ => false
def V.pure1 : V → Bool
  | .agg cs => cs.all V.pure0
  | .tup vs => vs.all fun v => match v with
    | .agg cs => cs.all V.pure0
    | v => v.pure0
  | v => v.pure0

/-- A number's place in a row. -/
def idx (l : Nat) : List Nat → Nat → Option Nat
  | [], _ => none
  | x :: r, k => bif Nat.beq x l then some k else idx l r (k + 1)
/-- What stays known when objects get new numbers, by their places in a row, and the others are forgotten. -/
def V.ren0 (m : Nat → Option Nat) : V → V
  | .kn x => .kn x
  | .list s n f => .list s n f
  | .rp cs off => .rp cs off
  | .ptr l off => match m l with
    | some k => .ptr k off
    | none => .any
  | .el l s i off => match m l with
    | some k => .el k s i off
    | none => .any
  | .sl l => match m l with
    | some k => .sl k
    | none => .any
  | .mp l => match m l with
    | some k => .mp k
    | none => .any
  | .it l => match m l with
    | some k => .it k
    | none => .any
  | _ => .any
def V.ren1 (m : Nat → Option Nat) : V → V
  | .fn f cap => .fn f (cap.map (V.ren0 m))
  | v => v.ren0 m
def V.ren2 (m : Nat → Option Nat) : V → V
  | .agg cs => .agg (cs.map (V.ren1 m))
  | v => v.ren1 m
def V.ren (m : Nat → Option Nat) : V → V
  | .tup vs => .tup (vs.map (V.ren2 m))
  | v => v.ren2 m
def renIts (m : Nat → Option Nat) : List (Nat × (Value → Bool) × Option Value) → List (Nat × (Value → Bool) × Option Value)
  | [] => []
  | (q, x) :: r => match m q with
    | some k => (k, x) :: renIts m r
    | none => renIts m r
def O.ren (m : Nat → Option Nat) : O → O
  | .cells cs => .cells (cs.map (V.ren2 m))
  | .row e s n f true => .row e s n f true
  | .row e s n f false => .row e s n (fun i => (f i).map (V.ren1 m)) false
  | .map kd ag n ov has get sub its => .map kd ag n (ov.map fun (k, c) => (k, c.map fun cs => cs.map (V.ren1 m))) has get sub (renIts m its)
  | .iter l => match m l with
    | some k => .iter k
    | none => .dead
  | o => o
def V.forget (m : List Nat) (v : V) : V := v.ren fun l => idx l m 0
def O.forget (m : List Nat) (o : O) : O := o.ren fun l => idx l m 0

def sz (P : Program) (t : TypeId) : Nat := P.cellsOf t

/-- What a variable of type t in these cells, from off on, holds. -/
def ldAt (P : Program) (t : TypeId) (cs : List V) (off : Nat) : Option V :=
  match P.underlying t with
  | some (.struct _) | some (.array _ _) => match P.info? t with
    | some i => bif Nat.ble (off + i.size) cs.length then some (.agg ((cs.drop off).take i.size)) else none
    | none => none
  | some _ => cs[off]?
  | none => none

/-- Cells, with some of them, from off on, written. -/
def stAt : List V → Nat → List V → Option (List V)
  | cs, 0, [] => some cs
  | _ :: r, 0, x :: xs => (stAt r 0 xs).map (x :: ·)
  | c :: r, n + 1, xs => (stAt r n xs).map (c :: ·)
  | _, _, _ => none

/-- Parts laid into cells. -/
def fillV (place : Nat → Option (Nat × Nat)) (cells : List V) : List (Nat × V) → Option (List V)
  | [] => some cells
  | (i, v) :: r =>
    match place i, v.cs with
    | some (off, size), some cs => bif Nat.beq cs.length size then (stAt cells off cs).bind fun cells => fillV place cells r else none
    | _, _ => none

def partV (P : Program) (t : TypeId) (cs : List V) (off : Nat) : Option V := ldAt P t cs off

/-- What an operation does. -/
inductive Do where
  | val (v : V) (u : List (Nat × O))
  | req (p : Prop) (v : V) (u : List (Nat × O))
  | enter (f : FuncId) (args : List V)
  | bad
  | fork (b : Bool) (d e : Do)
  | eachS (p : ByteArray → Bool) (d : ByteArray → Do) (e : Do)
  | eachI (p : Int → Bool) (d : Int → Do) (e : Do)
  | eachB (p : Bool → Bool) (d : Bool → Do)

def ofO (x : Option V) : Do := match x with
  | some v => .val v []
  | none => .bad
def ofR (p : Prop) (x : Option V) : Do := match x with
  | some v => .req p v []
  | none => .bad

/-- A contract: what a call of arguments, over objects, asks, hands back, and makes of the objects. -/
abbrev Spec := List V → (Nat → O) → Nat → Do

/-- The immutable reading of a slice. -/
def view (D : Nat → O) : V → Option (Nat × Nat × (Nat → List V))
  | .list s n f => some (s, n, f)
  | .kn (.slice none 0 0) => some (0, 0, fun _ => [])
  | .sl l => match D l with
    | .row _ s n f _ => some (s, n, f)
    | _ => none
  | _ => none

/-- Are the elements of a slice free of what the run made? -/
def pureOf (D : Nat → O) : V → Bool
  | .sl l => match D l with
    | .row _ _ _ _ p => p
    | _ => true
  | _ => true

def rowF (cs : List V) (s : Nat) (i : Nat) : List V := (cs.drop (i * s)).take s

/-- Two rows, one behind the other; a row's part; a row, one element of it another. -/
def catF (n : Nat) (f g : Nat → List V) (j : Nat) : List V := bif Nat.blt j n then f j else g (j - n)
def partF (l : Nat) (f : Nat → List V) (i : Nat) : List V := f (l + i)
def updF (i : Nat) (cs : List V) (f : Nat → List V) (j : Nat) : List V := bif Nat.beq j i then cs else f j

def natI (x : Int) : Nat := x.toNat

def zeroV (P : Program) (t : TypeId) : Option (List V) :=
  ((P.info? t).bind (·.zero)).map fun z => z.cells.toList.map V.kn

def zeroRow (z : List V) : Nat → List V
  | 0 => []
  | n + 1 => z ++ zeroRow z n

def allSome {α : Type} : List (Option α) → Option (List α)
  | [] => some []
  | some a :: r => (allSome r).map (a :: ·)
  | none :: _ => none

def valOf : V → Option Value
  | .kn x => some x
  | _ => none

/-- Cells, if all are values that are known: one value of them. -/
def known : V → Option Value
  | .kn x => some x
  | .agg cs => (allSome (cs.map valOf)).map fun xs => .agg xs.toArray
  | _ => none

def bytesOf (P : Program) (t : TypeId) : Nat := P.bytesOf t

/-- append(a, b...) -/
def appendDo (P : Program) (D : Nat → O) (nid : Nat) (t1 t2 : TypeId) (a b : V) : Do :=
  bif !Nat.beq t1 t2 then .bad else
  match P.underlying t1 with
  | some (.slice e) => match P.info? e with
    | none => .bad
    | some i => match i.zero, Nat.blt 0 i.size with
      | some z, true => bif !Nat.beq z.cells.size i.size then .bad else
        match b, view D b with
        | .kn (.slice none 0 0), _ => match a with
          | .kn (.slice none 0 0) => .val a []
          | .sl l => match D l with
            | .row _ _ _ _ _ => .val a []
            | _ => .bad
          | _ => .bad
        | _, some (s2, m, g) =>
          bif !Nat.beq s2 i.size then .bad else
          match a with
          | .kn (.slice none 0 0) => .req (m ≤ maxLen ∧ m * i.bytes ≤ 140737488355328) (.sl nid) [(nid, .row e i.size m g (pureOf D b))]
          | .sl l => match D l with
            | .row e' s n f p => bif !(Nat.beq e' e && Nat.beq s i.size) then .bad else
              .req (n + m ≤ maxLen ∧ (n + m) * i.bytes ≤ 140737488355328) (.sl nid)
                [(l, .dead), (nid, .row e i.size (n + m) (catF n f g) (p && pureOf D b))]
            | _ => .bad
          | _ => .bad
        | _, none => .bad
      | _, _ => .bad
  | _ => .bad

def fieldsOK (P : Program) (fs : Array Field) : Bool := fs.toList.all fun f => (P.info? f.type).isSome

def loOf (ρ : Operand → V) : Option Operand → Option Value
  | none => some (.int .i64 0)
  | some l => valOf (ρ l)
def hiOf (ρ : Operand → V) (n : Nat) : Option Operand → Option Value
  | none => some (.int .i64 n)
  | some l => valOf (ρ l)

/-- What a value is once all that the run made is let be. -/
def toPure0 (D : Nat → O) : V → Option V
  | .kn (.slice none 0 0) => some (.list 1 0 fun _ => [])
  | .kn x => some (.kn x)
  | .list s n f => some (.list s n f)
  | .rp cs off => some (.rp cs off)
  | .fn f [] => some (.fn f [])
  | .sl l => match D l with
    | .row _ s n f true => some (.list s n f)
    | .fz s n f => some (.list s n f)
    | _ => none
  | _ => none
def toPure1 (D : Nat → O) : V → Option V
  | .agg cs => (allSome (cs.map (toPure0 D))).map .agg
  | v => toPure0 D v
def toPure (D : Nat → O) : V → Option V
  | .tup vs => (allSome (vs.map (toPure1 D))).map .tup
  | v => toPure1 D v

/-- The objects that a value names. -/
def V.ids0 : V → List Nat
  | .ptr l _ => [l]
  | .el l _ _ _ => [l]
  | .sl l => [l]
  | .mp l => [l]
  | .it l => [l]
  | _ => []
def V.ids1 : V → List Nat
  | .fn _ cap => cap.flatMap V.ids0
  | v => v.ids0
def V.ids2 : V → List Nat
  | .agg cs => cs.flatMap V.ids1
  | v => v.ids1
def V.ids : V → List Nat
  | .tup vs => vs.flatMap V.ids2
  | v => v.ids2

/-- A frozen row is the list that it reads as. -/
def res (D : Nat → O) : V → V
  | .sl l => match D l with
    | .fz s n f => .list s n f
    | _ => .sl l
  | v => v

/-- Rows, frozen. -/
def fz1 (D : Nat → O) (l : Nat) : Option (Nat × O) :=
  match D l with
  | .row _ s n f true => some (l, .fz s n f)
  | _ => none
def frzL (D : Nat → O) : List Nat → List (Nat × O)
  | [] => []
  | l :: r => match fz1 D l with
    | some p => p :: frzL D r
    | none => frzL D r
/-- A value, its rows frozen if it is made of nothing else. -/
def pur (D : Nat → O) (v : V) : V := (toPure D v).getD v

/-- Is it neither a struct nor a function? -/
def V.flat : V → Bool
  | .agg _ => false
  | .tup _ => false
  | .fn _ _ => false
  | _ => true

def callDo (con : FuncId → Option Spec) (D : Nat → O) (nid : Nat) (f : V) (args : List V) : Do :=
  match f with
  | .fn g cap => match con g with
    | some s => bif cap.all V.flat then s (args ++ cap) D nid else .bad
    | none => .enter g (args ++ cap)
  | _ => .bad

/-! ### maps -/

def findOv (k : Value) : List (Value × Option (List V)) → Option (Option (List V))
  | [] => none
  | (k0, c) :: r => bif keq k k0 then some c else findOv k r
/-- Is a key there? -/
def presB (ov : List (Value × Option (List V))) (has : Value → Bool) (k : Value) : Bool :=
  match ov with
  | [] => has k
  | (k0, c) :: r => bif keq k k0 then c.isSome else presB r has k

def mkV (ag : Bool) (cs : List V) : V := bif ag then .agg cs else cs.headD .any

/-- A look into a map, by parts. -/
def lookDo (k : Value) (found : List V → Do) (no : Do) (base : Do) (has : Value → Bool) : List (Value × Option (List V)) → Do
  | [] => .fork (has k) base no
  | (k0, c) :: r => .fork (keq k k0) (match c with
    | some cs => found cs
    | none => no) (lookDo k found no base has r)

def SO.toO (m : Nat → Option Nat) : SO → O
  | .cells cs => .cells (cs.map (V.ren1 m))
  | .row e s n f => .row e s n f true
def numbered (nid : Nat) : List O → List (Nat × O)
  | [] => []
  | o :: r => (nid, o) :: numbered (nid + 1) r
def shiftF (nid n : Nat) (j : Nat) : Option Nat := bif Nat.blt j n then some (nid + j) else none

def kkOf (P : Program) (t : TypeId) : Option KK := match P.underlying t with
  | some .string => some .str
  | some (.int k) => some (.int k)
  | _ => none
def agOf (P : Program) (t : TypeId) : Option Bool := match P.underlying t with
  | some (.struct _) => some true
  | some (.array _ _) => some true
  | some _ => some false
  | none => none
def kkEq : KK → KK → Bool
  | .str, .str => true
  | .int a, .int b => decide (a = b)
  | _, _ => false
def bEq : Bool → Bool → Bool
  | true, true => true
  | false, false => true
  | _, _ => false

/-- What a key of the base has: as it is, where nothing hangs on it; else all of it gets numbers of the run's. -/
def baseDo (nid l : Nat) (kd : KK) (ag : Bool) (n : Nat) (ov : List (Value × Option (List V))) (has : Value → Bool) (get : Value → List V) (sub : Value → List SO) (its : List (Nat × (Value → Bool) × Option Value)) (k : Value) (K : V → V) : Do :=
  match sub k with
  | [] => bif (get k).all V.pure0 then .val (K (mkV ag (get k))) [] else .bad
  | so => bif Nat.ble so.length 15 then
      (let m := shiftF nid so.length
       let cs := (get k).map (V.ren1 m)
       .val (K (mkV ag cs)) ((l, .map kd ag n ((k, some cs) :: ov) has get sub its) :: numbered nid (so.map (SO.toO m))))
    else .bad

def keyOf (kd : KK) : V → Option Value
  | .kn x => bif kd.ok x then some x else none
  | _ => none

/-- A type's zero value, as an entry has it. -/
def zeroOf (P : Program) (ag : Bool) (t : TypeId) : Option V := match (P.info? t).bind (·.zero) with
  | some (.agg xs) => bif ag then some (.agg (xs.toList.map V.kn)) else none
  | some y => bif ag then none else some (.kn y)
  | none => none

def lookupDo (P : Program) (D : Nat → O) (nid : Nat) (t : TypeId) (x i : V) (ok : Bool) : Do :=
  match P.underlying t with
  | some (.map kt vt) => match kkOf P kt, (agOf P vt).bind fun ag => (zeroOf P ag vt).map fun z => (ag, z) with
    | some kd, some (ag, z) =>
      let K : Bool → V → V := fun b v => bif ok then .tup [v, .kn (.bool b)] else v
      match x with
      | .kn (.map none) => match keyOf kd i with
        | some _ => .val (K false z) []
        | none => .bad
      | .mp l => match D l with
        | .map kd' ag' n ov has get sub its => bif !(kkEq kd' kd && bEq ag' ag) then .bad else
          match keyOf kd i with
          | some k => lookDo k (fun cs => .val (K true (mkV ag cs)) []) (.val (K false z) []) (baseDo nid l kd ag n ov has get sub its k (K true)) has ov
          | none => .bad
        | _ => .bad
      | _ => .bad
    | _, _ => .bad
  | _ => .bad

/-- A value's cells, as a map has them. -/
def entryCs (ag : Bool) : V → Option (List V)
  | .agg cs => bif ag then some cs else none
  | .kn (.agg xs) => bif ag then some (xs.toList.map V.kn) else none
  | v => bif ag then none else bif v.one then some [v] else none

def updateDo (P : Program) (D : Nat → O) (t : TypeId) (x i v : V) : Do :=
  match P.underlying t with
  | some (.map kt vt) => match kkOf P kt, agOf P vt with
    | some kd, some ag => match x with
      | .mp l => match D l with
        | .map kd' ag' n ov has get sub _ => bif !(kkEq kd' kd && bEq ag' ag) then .bad else
          match keyOf kd i, entryCs ag v with
          | some k, some cs => .val .any [(l, .map kd ag (bif presB ov has k then n else n + 1) ((k, some cs) :: ov) has get sub [])]
          | _, _ => .bad
        | _ => .bad
      | _ => .bad
    | _, _ => .bad
  | _ => .bad

def deleteDo (P : Program) (D : Nat → O) (t : TypeId) (x i : V) : Do :=
  match P.underlying t with
  | some (.map kt vt) => match kkOf P kt, agOf P vt with
    | some kd, some ag => match x with
      | .mp l => match D l with
        | .map kd' ag' n ov has get sub _ => bif !(kkEq kd' kd && bEq ag' ag) then .bad else
          match keyOf kd i with
          | some k => .val (.kn (.tuple #[])) [(l, .map kd ag (bif presB ov has k then n - 1 else n) ((k, none) :: ov) has get sub [])]
          | none => .bad
        | _ => .bad
      | _ => .bad
    | _, _ => .bad
  | _ => .bad

def hintOk (ρ : Operand → V) : Option Operand → Bool
  | none => true
  | some x => match ρ x with
    | .kn (.int _ _) => true
    | _ => false
def makeMapDo (P : Program) (nid : Nat) (ρ : Operand → V) (t : TypeId) (r : Option Operand) : Do :=
  bif !hintOk ρ r then .bad else
  match P.underlying t with
  | some (.map kt vt) => match kkOf P kt, agOf P vt with
    | some kd, some ag => .val (.mp nid) [(nid, .map kd ag 0 [] (fun _ => false) (fun _ => []) (fun _ => []) [])]
    | _, _ => .bad
  | _ => .bad

def rangeDo (P : Program) (D : Nat → O) (nid : Nat) (t : TypeId) (x : V) : Do :=
  match P.underlying t, x with
  | some .string, .kn (.string s) => .val (.it nid) [(nid, .siter s 0)]
  | some (.map _ _), .mp l => match D l with
    | .map kd ag n ov has get sub its => .val (.it nid) [(nid, .iter l), (l, .map kd ag n ov has get sub ((nid, (fun _ => false), none) :: its))]
    | _ => .bad
  | _, _ => .bad

def findIt (q : Nat) : List (Nat × (Value → Bool) × Option Value) → Option ((Value → Bool) × Option Value)
  | [] => none
  | (q', x) :: r => bif Nat.beq q q' then some x else findIt q r
def setIt (q : Nat) (x : (Value → Bool) × Option Value) : List (Nat × (Value → Bool) × Option Value) → List (Nat × (Value → Bool) × Option Value)
  | [] => []
  | (q', y) :: r => bif Nat.beq q q' then (q', x) :: r else (q', y) :: setIt q x r
def seenMore (seen : Value → Bool) (k x : Value) : Bool := keq x k || seen x

def nextDo (D : Nat → O) (it : V) (isString : Bool) : Do :=
  match it with
  | .it q => match D q, isString with
    | .siter s pos, true => .fork (Nat.blt pos s.size)
        (.val (.tup [.kn (.bool true), .kn (.int .i64 pos), .kn (.int .i32 (Utf8.decode s pos).1)]) [(q, .siter s (pos + (Utf8.decode s pos).2))])
        (.val (.tup [.kn (.bool false)]) [])
    | .iter l, false => match D l with
      | .map kd ag n ov has get sub its => match findIt q its with
        | some (seen, _) =>
          let go : Value → Do := fun k => .val (.tup [.kn (.bool true), .kn k, .any]) [(l, .map kd ag n ov has get sub (setIt q (seenMore seen k, some k) its))]
          match kd with
          | .str => .eachS (fun s => presB ov has (.string s) && !seen (.string s)) (fun s => go (.string s)) (.val (.tup [.kn (.bool false)]) [])
          | .int k => .eachI (fun i => presB ov has (.int k i) && !seen (.int k i)) (fun i => go (.int k i)) (.val (.tup [.kn (.bool false)]) [])
        | none => .bad
      | _ => .bad
    | _, _ => .bad
  | _ => .bad

def entryDo (D : Nat → O) (nid : Nat) (it : V) : Do :=
  match it with
  | .it q => match D q with
    | .iter l => match D l with
      | .map kd ag n ov has get sub its => match findIt q its with
        | some (_, some k) => lookDo k (fun cs => .val (.tup [.kn k, mkV ag cs]) []) .bad (baseDo nid l kd ag n ov has get sub its k fun v => .tup [.kn k, v]) has ov
        | _ => .bad
      | _ => .bad
    | _ => .bad
  | _ => .bad

/-- Is a slice nil? -/
def nilDo (D : Nat → O) (neq : Bool) : V → Do
  | .kn (.slice none 0 0) => .val (.kn (.bool (!neq))) []
  | .kn (.slice (some _) _ _) => .val (.kn (.bool neq)) []
  | .list _ n _ => .eachB (fun b => Nat.beq n 0 || bEq b neq) fun b => .val (.kn (.bool b)) []
  | .sl l => match D l with
    | .row _ _ n _ _ => .eachB (fun b => Nat.beq n 0 || bEq b neq) fun b => .val (.kn (.bool b)) []
    | _ => .bad
  | _ => .bad
inductive NK where
  | sl | pt | fn
/-- Is an operation a comparison with nil, and of what? -/
def nilCmp (op : BinOp) (x y : V) : Option (NK × Bool × V) :=
  match op, x, y with
  | .eql, x, .kn (.slice none 0 0) => some (.sl, false, x)
  | .neq, x, .kn (.slice none 0 0) => some (.sl, true, x)
  | .eql, .ptr l off, .kn (.pointer none) => some (.pt, false, .ptr l off)
  | .neq, .ptr l off, .kn (.pointer none) => some (.pt, true, .ptr l off)
  | .eql, .el l s i off, .kn (.pointer none) => some (.pt, false, .el l s i off)
  | .neq, .el l s i off, .kn (.pointer none) => some (.pt, true, .el l s i off)
  | .eql, .rp cs off, .kn (.pointer none) => some (.pt, false, .rp cs off)
  | .neq, .rp cs off, .kn (.pointer none) => some (.pt, true, .rp cs off)
  | .eql, .fn f cap, .kn .nilFunc => some (.fn, false, .fn f cap)
  | .neq, .fn f cap, .kn .nilFunc => some (.fn, true, .fn f cap)
  | _, _, _ => none

def nilTo (P : Program) (D : Nat → O) (t : TypeId) (nk : NK) (neq : Bool) (v : V) : Do :=
  match P.underlying t, nk with
  | some (.slice _), .sl => nilDo D neq v
  | some (.pointer _), .pt => .val (.kn (.bool neq)) []
  | some (.func _ _ _), .fn => .val (.kn (.bool neq)) []
  | _, _ => .bad

/-- A struct's cells. -/
def aggCs : V → Option (List V)
  | .agg cs => some cs
  | .kn (.agg xs) => some (xs.toList.map V.kn)
  | _ => none
def eqFs (P : Program) (eq : TypeId → V → V → Option Bool) (xs ys : List V) : List Field → Option Bool
  | [] => some true
  | f :: fs => bif f.name == "_" then eqFs P eq xs ys fs else match partV P f.type xs f.offset, partV P f.type ys f.offset with
    | some a, some b => match eq f.type a b, eqFs P eq xs ys fs with
      | some r, some q => some (r && q)
      | _, _ => none
    | _, _ => none
/-- Are two values of a type one? -/
def eqT (P : Program) : Nat → TypeId → V → V → Option Bool
  | 0, _, _, _ => none
  | d + 1, t, u, v => match P.underlying t with
    | some .bool => match u, v with
      | .kn (.bool a), .kn (.bool b) => some (a == b)
      | _, _ => none
    | some (.int _) => match u, v with
      | .kn (.int k a), .kn (.int k' b) => bif decide (k = k') then some (a == b) else none
      | _, _ => none
    | some .string => match u, v with
      | .kn (.string a), .kn (.string b) => some (a == b)
      | _, _ => none
    | some (.struct fs) => match aggCs u, aggCs v with
      | some xs, some ys => bif P.stoodInHeld t then none else eqFs P (eqT P d) xs ys fs.toList
      | _, _ => none
    | _ => none
/-- A comparison of two structs: is it 'not', and what it says. -/
def aggEq (P : Program) (op : BinOp) (t : TypeId) (u v : V) : Option Bool :=
  match aggCs u, aggCs v with
  | some _, some _ => match op with
    | .eql => bif P.eqGuardType P.depth t then none else eqT P 8 t u v
    | .neq => bif P.eqGuardType P.depth t then none else (eqT P 8 t u v).map (!·)
    | _ => none
  | _, _ => none

def opDo0 (P : Program) (con : FuncId → Option Spec) (nid : Nat) (ρ : Operand → V) (D : Nat → O) (o : Oper) : Do :=
  match o.op with
  | .move x | .assign x => .val (ρ x) []
  | .pick c a b => match ρ c with
    | .kn (.bool t) => .val (bif t then ρ a else ρ b) []
    | _ => .bad
  | .alloc t => match zeroV P t with
    | some z => .val (.ptr nid 0) [(nid, .cells z)]
    | none => .bad
  | .box _ x => match (ρ x).cs with
    | some cs => .val (.ptr nid 0) [(nid, .cells cs)]
    | none => .bad
  | .build t ps => match P.underlying t, zeroV P t with
    | some (.struct fs), some z => bif !fieldsOK P fs then .bad else
      ofO ((fillV (fun i => (fs[i]?).map fun f => (f.offset, sz P f.type)) z (ps.toList.map fun (i, x) => (i, ρ x))).map V.agg)
    | some (.array _ e), some z => bif !(P.info? e).isSome then .bad else
      ofO ((fillV (fun i => some (i * sz P e, sz P e)) z (ps.toList.map fun (i, x) => (i, ρ x))).map V.agg)
    | _, _ => .bad
  | .buildSlice t len ps => match P.underlying t with
    | some (.slice e) => match zeroV P e with
      | some z => bif !(Nat.ble (len * sz P e) 16777216 && Nat.ble len 16777216) then .bad else
        match fillV (fun i => some (i * sz P e, sz P e)) (zeroRow z len) (ps.toList.map fun (i, x) => (i, pur D (ρ x))) with
        | some cs => bif cs.all V.one && Nat.beq z.length (sz P e) then .val (.sl nid) (frzL D (ps.toList.flatMap fun (_, x) => (ρ x).ids) ++ [(nid, .row e (sz P e) len (rowF cs (sz P e)) (cs.all V.pure0))]) else .bad
        | none => .bad
      | none => .bad
    | _ => .bad
  | .load t a => match ρ a with
    | .ptr l off => match D l with
      | .cells cs => ofO (ldAt P t cs off)
      | _ => .bad
    | .el l s' i off => match D l with
      | .row _ s n f _ => bif !Nat.beq s s' then .bad else ofR (i < n) (ldAt P t (f i) off)
      | _ => .bad
    | .rp cs off => ofO (ldAt P t cs off)
    | _ => .bad
  | .store t a x => bif !(P.info? t).isSome then .bad else match (ρ x).cs with
    | none => .bad
    | some xs => bif !(Nat.beq xs.length (sz P t) && xs.all V.one) then .bad else
      match ρ a with
      | .ptr l off => match D l with
        | .cells cs => match stAt cs off xs with
          | some cs' => .val .any [(l, .cells cs')]
          | none => .bad
        | _ => .bad
      | .el l s' i off => match D l with
        | .row e s n f p => bif !Nat.beq s s' then .bad else match stAt (f i) off xs with
          | some cs' => .req (i < n) .any [(l, .row e s n (updF i cs' f) (p && xs.all V.pure0))]
          | none => .bad
        | _ => .bad
      | _ => .bad
  | .nilCheck x => match ρ x with
    | .ptr l off => .val (.ptr l off) []
    | .el l s i off => .val (.el l s i off) []
    | .rp cs off => .val (.rp cs off) []
    | .fn f cap => .val (.fn f cap) []
    | _ => .bad
  | .binOp op t x y _ => match nilCmp op (ρ x) (ρ y) with
    | some (nk, neq, v) => nilTo P D t nk neq v
    | none => match aggEq P op t (ρ x) (ρ y) with
      | some r => .val (.kn (.bool r)) []
      | none => match known (ρ x), known (ρ y) with
        | some a, some b => ofO ((pr P (do eqGuard op t x y a b; binOp op t a b)).map V.kn)
        | _, _ => .bad
  | .makeMap t r => makeMapDo P nid ρ t r
  | .lookup t x i ok => lookupDo P D nid t (ρ x) (ρ i) ok
  | .mapUpdate t m k v => updateDo P D t (ρ m) (ρ k) (ρ v)
  | .insert t m k v => updateDo P D t (ρ m) (ρ k) (ρ v)
  | .range t x => rangeDo P D nid t (ρ x)
  | .next it b => nextDo D (ρ it) b
  | .entry it => entryDo D nid (ρ it)
  | .unOp op _ x => match ρ x with
    | .kn a => ofO ((pr P (Op.unary op a)).map V.kn)
    | _ => .bad
  | .convert s d x => match ρ x with
    | .kn a => ofO ((pr P (convert s d a)).map V.kn)
    | _ => .bad
  | .makeFunc (.func f) first captured => bif Nat.beq first.size 0 then .val (.fn f (captured.toList.map ρ)) [] else .bad
  | .slice t x lo hi none => match P.underlying t, ρ x with
    | some .string, .kn (.string s) => match loOf ρ lo, hiOf ρ s.size hi with
      | some (.int _ l), some (.int _ h) => .req (0 ≤ l ∧ l ≤ h ∧ h ≤ s.size) (.kn (.string (s.extract l.toNat h.toNat))) []
      | _, _ => .bad
    | some (.slice e), .list s n f => bif !(Nat.beq s (sz P e) && (P.info? e).isSome) then .bad else match loOf ρ lo, hiOf ρ n hi with
      | some (.int _ l), some (.int _ h) => .req (0 ≤ l ∧ l ≤ h ∧ h ≤ n) (.list s (h.toNat - l.toNat) (partF l.toNat f)) []
      | _, _ => .bad
    | some (.slice e), .sl q => match D q with
      | .row _ s n f true => bif !(Nat.beq s (sz P e) && (P.info? e).isSome) then .bad else match loOf ρ lo, hiOf ρ n hi with
        | some (.int _ l), some (.int _ h) => .req (0 ≤ l ∧ l ≤ h ∧ h ≤ n) (.list s (h.toNat - l.toNat) (partF l.toNat f)) [(q, .fz s n f)]
        | _, _ => .bad
      | _ => .bad
    | _, _ => .bad
  | .fieldAddr t x i => match P.underlying t with
    | some (.struct fs) => match fs[i]? with
      | some f => bif Nat.beq (sz P f.type) 0 then .bad else
        match ρ x with
        | .ptr l off => .val (.ptr l (off + f.offset)) []
        | .el l s i off => .val (.el l s i (off + f.offset)) []
        | .rp cs off => .val (.rp cs (off + f.offset)) []
        | _ => .bad
      | none => .bad
    | _ => .bad
  | .field t x i => match P.underlying t, ρ x with
    | some (.struct fs), .agg cs => match fs[i]? with
      | some f => ofO (partV P f.type cs f.offset)
      | none => .bad
    | _, _ => .bad
  | .indexAddr t x i => match P.underlying t, ρ i with
    | some (.slice e), .kn (.int _ i) => bif !(P.info? e).isSome then .bad else match ρ x with
      | .list s n f => bif !Nat.beq s (sz P e) then .bad else .req (0 ≤ i ∧ i < (n : Int)) (.rp (f i.toNat) 0) []
      | .sl l => match D l with
        | .row _ s n _ _ => bif !Nat.beq s (sz P e) then .bad else .req (0 ≤ i ∧ i < (n : Int)) (.el l s i.toNat 0) []
        | _ => .bad
      | _ => .bad
    | some (.array n e), .kn (.int _ i) => bif !(P.info? e).isSome then .bad else match ρ x with
      | .ptr l off => .req (0 ≤ i ∧ i < (n : Int)) (.ptr l (off + i.toNat * sz P e)) []
      | _ => .bad
    | _, _ => .bad
  | .index t x i => match P.underlying t, ρ x, ρ i with
    | some .string, .kn (.string s), .kn (.int _ i) => .req (0 ≤ i ∧ i < (s.size : Int)) (.kn (.int .u8 (s.data.getD i.toNat 0).toNat)) []
    | some (.array n e), .agg cs, .kn (.int _ i) => bif !(P.info? e).isSome then .bad else ofR (0 ≤ i ∧ i < (n : Int)) (partV P e cs (i.toNat * sz P e))
    | _, _, _ => .bad
  | .extract x i => match ρ x with
    | .tup vs => ofO vs[i]?
    | .kn (.tuple vs) => ofO ((vs[i]?).map V.kn)
    | _ => .bad
  | .call c => match c.callee with
    | .builtin .len => match c.args.toList, c.argTypes[0]? with
      | [x], some t => match P.underlying t, ρ x with
        | some .string, .kn (.string s) => .val (.kn (.int .i64 s.size)) []
        | some (.array n _), _ => .val (.kn (.int .i64 n)) []
        | some (.slice _), .list _ n _ => .val (.kn (.int .i64 n)) []
        | some (.slice _), .kn (.slice none n _) => .val (.kn (.int .i64 n)) []
        | some (.slice _), .sl l => match D l with
          | .row _ _ n _ _ => .val (.kn (.int .i64 n)) []
          | _ => .bad
        | some (.map _ _), .mp l => match D l with
          | .map _ _ n _ _ _ _ _ => .val (.kn (.int .i64 n)) []
          | _ => .bad
        | _, _ => .bad
      | _, _ => .bad
    | .builtin .delete => match c.args.toList, c.argTypes[0]? with
      | [x, k], some t => deleteDo P D t (ρ x) (ρ k)
      | _, _ => .bad
    | .builtin .append => match c.args.toList, c.argTypes.toList with
      | [a, b], [t1, t2] => appendDo P D nid t1 t2 (ρ a) (ρ b)
      | _, _ => .bad
    | .builtin .max => match allSome (c.args.toList.map fun x => valOf (ρ x)) with
      | some xs => ofO ((pr P (Builtin.max_ c.argTypes o.type xs.toArray)).map V.kn)
      | none => .bad
    | .builtin .min => match allSome (c.args.toList.map fun x => valOf (ρ x)) with
      | some xs => ofO ((pr P (Builtin.min_ c.argTypes o.type xs.toArray)).map V.kn)
      | none => .bad
    | .value f => callDo con D nid (ρ f) (c.args.toList.map ρ)
    | _ => .bad
  | _ => .bad

def opDo (P : Program) (con : FuncId → Option Spec) (nid : Nat) (ρ : Operand → V) (D : Nat → O) (o : Oper) : Do := opDo0 P con nid (fun x => res D (ρ x)) D o

structure Fr where
  fn : FuncId
  nt : Nat
  t : Tm
  k : List Item

structure Cfg where
  fr : Fr
  cs : List Fr
  h : List O

def Fr.with (f : Fr) (k : List Item) : Fr := ⟨f.fn, f.nt, f.t, k⟩
def Cfg.at (c : Cfg) (k : List Item) : Cfg := ⟨⟨c.fr.fn, c.fr.nt, c.fr.t, k⟩, c.cs, c.h⟩

/-- A region's first number in a loop's body: by it a loop is known. -/
def firstReg : Code → Option Nat
  | .region id _ _ => some id
  | .seq a b => match firstReg a with
    | some i => some i
    | none => firstReg b
  | .cond _ a b => match firstReg a with
    | some i => some i
    | none => firstReg b
  | .block _ b => firstReg b
  | .loop b => firstReg b
  | .scope b => firstReg b
  | _ => none

/-- Which slots are kept at a loop's head, and which objects: each by a frame, a slot in it, and the way from there. -/
abbrev Hints := Nat × List (FuncId × Nat × List Nat × List (Nat × Nat × List Nat))
def hintIn : List (FuncId × Nat × List Nat × List (Nat × Nat × List Nat)) → FuncId → Nat → Option (List Nat × List (Nat × Nat × List Nat))
  | [], _, _ => none
  | (f, r, x) :: hs, g, s => bif Nat.beq f g && Nat.beq r s then some x else hintIn hs g s
def hintFor (hs : Hints) (g : FuncId) (s : Nat) : Option (List Nat × List (Nat × Nat × List Nat)) := hintIn hs.2 g s

def V.named : V → Option Nat
  | .ptr l _ => some l
  | .el l _ _ _ => some l
  | .sl l => some l
  | .mp l => some l
  | .it l => some l
  | _ => none
/-- Is it no struct? -/
def V.thin : V → Bool
  | .agg _ => false
  | .tup _ => false
  | _ => true
/-- The object at a way's end. -/
def wayTo (D : Nat → O) : V → List Nat → Option Nat
  | v, [] => v.named
  | .fn _ cap, i :: p => match cap[i]? with
    | some v => bif v.flat then wayTo D v p else none
    | none => none
  | .agg cs, i :: p => match cs[i]? with
    | some v => bif v.thin then wayTo D v p else none
    | none => none
  | .ptr l _, i :: p => match D l with
    | .cells cs => match cs[i]? with
      | some v => bif v.thin then wayTo D v p else none
      | none => none
    | _ => none
  | .it q, _ :: p => match D q with
    | .iter l => wayTo D (.mp l) p
    | _ => none
  | .mp l, i :: p => match D l with
    | .map _ _ _ ov _ _ _ _ => match ov[i]? with
      | some (_, some (v :: _)) => bif v.thin then wayTo D v p else none
      | _ => none
    | _ => none
  | _, _ => none
def frTm (c : Cfg) : Nat → Tm
  | 0 => c.fr.t
  | k + 1 => match c.cs[k]? with
    | some f => f.t
    | none => []
def keepIds (c : Cfg) : List (Nat × Nat × List Nat) → List Nat
  | [] => []
  | (k, d, p) :: r => match wayTo (getO c.h) (look (frTm c k) d) p with
    | some l => l :: keepIds c r
    | none => keepIds c r
def nodupB : List Nat → Bool
  | [] => true
  | x :: r => !(r.any fun y => Nat.beq y x) && nodupB r
/-- The objects that are kept: the first ones, which a contract names, and those at the ways' ends. -/
def keepAll (q : Nat) (c : Cfg) (m : List (Nat × Nat × List Nat)) : List Nat := List.range q ++ (keepIds c m).filter fun l => !Nat.blt l q
def normH (h : List O) (m : List Nat) : List O := m.map fun l => (getO h l).forget m

def norm (ks : List Nat) (m : List Nat) (c : Cfg) : Cfg :=
  ⟨⟨c.fr.fn, c.fr.nt, ks.map fun d => (d, V.forget m (look c.fr.t d)), c.fr.k⟩, c.cs.map fun f => ⟨f.fn, f.nt, f.t.map fun (d, v) => (d, V.forget m v), f.k⟩, normH c.h m⟩
/-- A loop's head: where a hint stands, a point to come back to; else the loop is gone through. -/
def stepLoop (hs : Hints) (good ih : Cfg → Prop) (key : Option Nat) (c : Cfg) : Prop :=
  match key.bind (hintFor hs c.fr.fn) with
  | none => ih c
  | some (ks, m) => bif nodupB (keepAll hs.1 c m) then good (norm ks (keepAll hs.1 c m) c) else False

def args2 : Nat → List V → Tm
  | _, [] => []
  | i, v :: r => (i, v) :: args2 (i + 1) r

/-- The results of a function, out of its slots and objects. -/
def resV (P : Program) (c : Cfg) : ResultVar → Option V
  | .tmp t => some (look c.fr.t t)
  | .cell a t => match look c.fr.t a with
    | .ptr l off => match getO c.h l with
      | .cells cs => ldAt P t cs off
      | _ => none
    | _ => none

def resAll (P : Program) (c : Cfg) (rs : List ResultVar) : Option V :=
  (allSome (rs.map (resV P c))).map fun vs => match vs with
    | [v] => v
    | vs => .tup vs

def putD (t : Tm) (nt : Nat) (d : Option Nat) (v : V) : Option Tm :=
  match d with
  | none => some t
  | some d => bif Nat.blt d nt then some ((d, v) :: t) else none

structure Env (P : Program) where
  con : FuncId → Option Spec
  hints : Hints

section
variable (P : Program) (con : FuncId → Option Spec) (hs : Hints) (good : Cfg → Prop) (ret : V → List O → Prop) (ih : Cfg → Prop)

def stepRet (c : Cfg) : Prop :=
  match P.funcs[c.fr.fn]? with
  | none => False
  | some fn => match resAll P c fn.results.toList with
    | none => False
    | some v => match c.cs with
      | [] => ret v c.h
      | fr :: cs => match fr.k with
        | .inRegion ops (i :: rest) :: k => match ops[i]? with
          | some o => match putD fr.t fr.nt o.dst v with
            | some t => ih ⟨⟨fr.fn, fr.nt, t, .inRegion ops rest :: k⟩, cs, c.h⟩
            | none => False
          | none => False
        | _ => False

/-- What an operation does, and then. -/
def stepDo (K : V → List (Nat × O) → Prop) (E : FuncId → List V → Prop) (d : Do) : Prop :=
  Do.rec (motive := fun _ => Prop) (fun v u => K v u) (fun p v u => p ∧ K v u) E False (fun b _ _ x y => bif b then x else y)
    (fun p _ _ x y => (∀ s, p s = true → x s) ∧ ((∀ s, p s = false) → y)) (fun p _ _ x y => (∀ s, p s = true → x s) ∧ ((∀ s, p s = false) → y)) (fun p _ x => ∀ b, p b = true → x b) d

/-- One operation, its guard apart. -/
def stepOp (c : Cfg) (o : Oper) (k : List Item) : Prop :=
  stepDo (fun v u => match putD c.fr.t c.fr.nt o.dst v with
    | some t => ih ⟨⟨c.fr.fn, c.fr.nt, t, k⟩, c.cs, ups u c.h⟩
    | none => False)
  (fun f args => match P.funcs[f]? with
    | some fn => match fn.body with
      | some b => bif Nat.ble args.length fn.ntmps && !(fn.name == "runtime.NumGoroutine") then ih ⟨⟨f, fn.ntmps, args2 0 args, [.code b]⟩, c.fr :: c.cs, c.h⟩ else False
      | none => False
    | none => False)
  (opDo P con c.h.length (ev c.fr.t) (getO c.h) o)

def stepSkip (c : Cfg) (o : Oper) (k : List Item) : Prop :=
  match putD c.fr.t c.fr.nt o.dst (.kn undef) with
  | some t => ih ⟨⟨c.fr.fn, c.fr.nt, t, k⟩, c.cs, c.h⟩
  | none => False

def setT (c : Cfg) (d : Nat) (v : V) : Cfg := ⟨⟨c.fr.fn, c.fr.nt, (d, v) :: c.fr.t, c.fr.k⟩, c.cs, c.h⟩

def stepGuard (c : Cfg) (ops : Array Oper) (o : Oper) (k : List Item) : Prop :=
  match o.guard with
  | none => stepOp P con ih c o k
  | some (j, want) => match (ops[j]?).bind (·.dst) with
    | none => False
    | some d => match look c.fr.t d with
      | .kn (.bool b) => bif b
          then (bif want then stepOp P con ih (setT c d (.kn (.bool true))) o k else stepSkip ih (setT c d (.kn (.bool true))) o k)
          else (bif want then stepSkip ih (setT c d (.kn (.bool false))) o k else stepOp P con ih (setT c d (.kn (.bool false))) o k)
      | .kn (.tuple _) => stepSkip ih c o k
      | _ => False

/-- What an operation of a region whose order is open reads and writes. -/
structure Foot where
  rd : List Nat
  ds : List Nat
  ids : List Nat
  wr : List Nat
  lo : Nat
  hi : Nat

def meets (a b : List Nat) : Bool := a.any fun x => b.any fun y => Nat.beq x y
def Foot.has (f : Foot) (x : Nat) : Bool := (f.ids.any fun y => Nat.beq x y) || (Nat.ble f.lo x && Nat.blt x f.hi)
def confl (a b : Foot) : Bool := meets a.ds (b.rd ++ b.ds) || meets b.ds a.rd || meets a.wr b.wr || a.wr.any b.has || b.wr.any a.has

/-- What an object names. -/
def O.ids : O → List Nat
  | .cells cs => cs.flatMap V.ids2
  | .map _ _ _ ov _ _ _ _ => ov.flatMap fun (_, c) => match c with
    | some cs => cs.flatMap V.ids1
    | none => []
  | .iter l => [l]
  | _ => []
def rch (D : Nat → O) : Nat → List Nat → List Nat
  | 0, ls => ls
  | n + 1, ls => ls ++ rch D n (ls.flatMap fun l => (D l).ids)
/-- How far an operation looks. -/
def farOf : Op → Nat
  | .call c => match c.callee with
    | .value _ => 4
    | _ => 0
  | .next _ _ => 1
  | .entry _ => 1
  | _ => 0
def opIds (D : Nat → O) (ρ : Operand → V) (o : Oper) : List Nat := rch D (farOf o.op) (o.op.operands.toList.flatMap fun x => (ρ x).ids)

def befOf : List Edge → List Nat → Nat
  | [], _ => 0
  | e :: r, acc => bif Region.binds .any e then (2 ^ e.on ||| acc.getD e.on 0) ||| befOf r acc else befOf r acc
def befGo : List Oper → List Nat → List Nat
  | [], acc => acc
  | o :: r, acc => befGo r (acc ++ [befOf o.after.toList acc])

def edgesOK : List Oper → Nat → Bool
  | [], _ => true
  | o :: r, j => o.after.toList.all (fun e => !Region.binds .any e || Nat.blt e.on j) && edgesOK r (j + 1)

/-- A rank of each operation, by the edges of a mode: what it waits for has a smaller one. -/
def rankOf (m : Region.Mode) (rs : List Nat) : List Edge → Nat
  | [] => 0
  | e :: r => bif Region.binds m e then Nat.max (rs.getD e.on 0 + 1) (rankOf m rs r) else rankOf m rs r
def setN : List Nat → Nat → Nat → List Nat
  | [], _, _ => []
  | _ :: r, 0, x => x :: r
  | y :: r, n + 1, x => y :: setN r n x
def rankPass (m : Region.Mode) : List Oper → Nat → List Nat → List Nat
  | [], _, rs => rs
  | o :: r, j, rs => rankPass m r (j + 1) (setN rs j (rankOf m rs o.after.toList))
def rankGo (m : Region.Mode) (ops : List Oper) : Nat → List Nat → List Nat
  | 0, rs => rs
  | n + 1, rs => rankGo m ops n (rankPass m ops 0 rs)
def ranked (m : Region.Mode) (rs : List Nat) (n : Nat) : List Oper → Nat → Bool
  | [], _ => true
  | o :: r, j => o.after.toList.all (fun e => !Region.binds m e || (Nat.blt e.on n && Nat.blt (rs.getD e.on 0) (rs.getD j 0))) && ranked m rs n r (j + 1)
def modeOK (m : Region.Mode) (ops : Array Oper) : Bool := ranked m (rankGo m ops.toList 6 (ops.toList.map fun _ => 0)) ops.size ops.toList 0

def drawOK (ops : Array Oper) : Bool := edgesOK ops.toList 0 && (!Region.departs ops || (modeOK .text ops && modeOK .gc ops))

def tmpsOf (xs : List Operand) : List Nat := xs.flatMap fun x => match x with
  | .tmp t => [t]
  | _ => []

def guardSlot (ops : Array Oper) (o : Oper) : List Nat :=
  match o.guard with
  | none => []
  | some (j, _) => ((ops[j]?).bind (·.dst)).toList

def chk (ft : List (Nat × Foot)) (b : Nat) (f : Foot) : Bool := ft.all fun (i, g) => !confl g f || Nat.testBit b i

/-- One operation of such a region, its guard apart. -/
def drawDo (K : V → List (Nat × O) → Prop) (d : Do) : Prop :=
  Do.rec (motive := fun _ => Prop) (fun v u => K v u) (fun p v u => p ∧ K v u) (fun _ _ => False) False (fun b _ _ x y => bif b then x else y)
    (fun _ _ _ _ _ => False) (fun _ _ _ _ _ => False) (fun _ _ _ => False) d
def drawOp (P : Program) (con : FuncId → Option Spec) (ops : Array Oper) (b nid : Nat) (ft : List (Nat × Foot)) (c : Cfg) (o : Oper) (K : Foot → Cfg → Prop) : Prop :=
  bif Nat.ble c.h.length nid then
    drawDo (fun v u =>
      let f : Foot := ⟨guardSlot ops o ++ tmpsOf o.op.operands.toList, o.dst.toList, opIds (getO c.h) (ev c.fr.t) o, u.map (·.1), nid, nid + 16⟩
      bif !chk ft b f then False else
      match putD c.fr.t c.fr.nt o.dst v with
      | some t => K f ⟨⟨c.fr.fn, c.fr.nt, t, c.fr.k⟩, c.cs, ups u c.h⟩
      | none => False) (opDo P con nid (ev c.fr.t) (getO c.h) o)
  else False

def drawSkip (ops : Array Oper) (b : Nat) (ft : List (Nat × Foot)) (c : Cfg) (o : Oper) (K : Foot → Cfg → Prop) : Prop :=
  let f : Foot := ⟨guardSlot ops o, o.dst.toList, [], [], 0, 0⟩
  bif !chk ft b f then False else
  match putD c.fr.t c.fr.nt o.dst (.kn undef) with
  | some t => K f ⟨⟨c.fr.fn, c.fr.nt, t, c.fr.k⟩, c.cs, c.h⟩
  | none => False

def drawGuard (P : Program) (con : FuncId → Option Spec) (ops : Array Oper) (b nid : Nat) (ft : List (Nat × Foot)) (c : Cfg) (o : Oper) (K : Foot → Cfg → Prop) : Prop :=
  match o.guard with
  | none => drawOp P con ops b nid ft c o K
  | some (j, want) => match (ops[j]?).bind (·.dst) with
    | none => False
    | some d => match look c.fr.t d with
      | .kn (.bool t) => bif t
          then (bif want then drawOp P con ops b nid ft (setT c d (.kn (.bool true))) o K else drawSkip ops b ft (setT c d (.kn (.bool true))) o K)
          else (bif want then drawSkip ops b ft (setT c d (.kn (.bool false))) o K else drawOp P con ops b nid ft (setT c d (.kn (.bool false))) o K)
      | .kn (.tuple _) => drawSkip ops b ft c o K
      | _ => False

def drawRun (P : Program) (con : FuncId → Option Spec) (ops : Array Oper) (N0 : Nat) (K : Cfg → Prop) : List Oper → List Nat → Nat → List (Nat × Foot) → Cfg → Prop
  | [], _, _, _, c => K c
  | o :: r, bs, j, ft, c => drawGuard P con ops (bs.headD 0) (N0 + 16 * j) ft c o fun f c' => drawRun P con ops N0 K r bs.tail (j + 1) ((j, f) :: ft) c'

end

/-- A loop's head, found in a function's code. -/
def findLoop (key : Nat) : Code → List Item → Option (List Item)
  | .seq a b, k => match findLoop key a (.code b :: k) with
    | some r => some r
    | none => findLoop key b k
  | .cond _ a b, k => match findLoop key a k with
    | some r => some r
    | none => findLoop key b k
  | .block id c, k => findLoop key c (.inBlock id :: k)
  | .loop c, k => match firstReg c with
    | some r => bif Nat.beq r key then some (.code c :: .inLoop c :: k) else findLoop key c (.inLoop c :: k)
    | none => findLoop key c (.inLoop c :: k)
  | _, _ => none
def loopK (P : Program) (f : FuncId) (key : Nat) : List Item :=
  match P.funcs[f]? with
  | some fn => ((fn.body.bind fun b => findLoop key b [])).getD []
  | none => []
/-- Where a goto leads. -/
def findScope (l : Nat) : Code → List Item → Option (List Item)
  | .seq a b, k => match findScope l a (.code b :: k) with
    | some r => some r
    | none => findScope l b k
  | .cond _ a b, k => match findScope l a k with
    | some r => some r
    | none => findScope l b k
  | .block id c, k => findScope l c (.inBlock id :: k)
  | .loop c, k => findScope l c (.inLoop c :: k)
  | .scope c, k => gotoIn l (.inScope c :: k)
  | _, _ => none
def gotoK (P : Program) (f : FuncId) (l : Nat) : List Item :=
  match P.funcs[f]? with
  | some fn => ((fn.body.bind fun b => findScope l b [])).getD []
  | none => []
def findReg (id : Nat) : Code → List Item → Option (Array Oper × List Item)
  | .seq a b, k => match findReg id a (.code b :: k) with
    | some r => some r
    | none => findReg id b k
  | .cond _ a b, k => match findReg id a k with
    | some r => some r
    | none => findReg id b k
  | .block i c, k => findReg id c (.inBlock i :: k)
  | .loop c, k => findReg id c (.inLoop c :: k)
  | .region i ops _, k => bif Nat.beq i id then some (ops, k) else none
  | _, _ => none
def regK (P : Program) (f : FuncId) (id i : Nat) : List Item :=
  match P.funcs[f]? with
  | some fn => match fn.body.bind fun b => findReg id b [] with
    | some (ops, k) => .inRegion ops ((List.range ops.size).drop i) :: k
    | none => []
  | none => []

def V.scalar0 : V → Bool
  | .kn _ => true
  | _ => false
def V.scalar1 : V → Bool
  | .agg cs => cs.all V.scalar0
  | v => v.scalar0
def V.scalar : V → Bool
  | .tup vs => vs.all V.scalar1
  | v => v.scalar1

/-- A contract on values alone. -/
abbrev PSpec := List V → Option (Prop × V)

def lift (G : PSpec) : Spec := fun args D _ =>
  match allSome (args.map (toPure D)) with
  | none => .bad
  | some as => match G as with
    | none => .bad
    | some (p, r) => .req p r (bif r.scalar || args.all V.pure1 then [] else frzL D (args.flatMap V.ids))

/-- What a contract over objects tells: what it asks, hands back, and what becomes of the objects, those that it makes behind the others. -/
inductive Out where
  | ret (p : Prop) (v : V) (h : List O)
  | fork (b : Bool) (x y : Out)
  | none
/-- A contract over objects: of the arguments and of the objects that they name, numbered from 0 on. -/
abbrev SSpec := List V → List O → Out

/-- Numbers, back to the caller's. -/
def backF (m : List Nat) (nid : Nat) (j : Nat) : Option Nat := match m[j]? with
  | some l => some l
  | none => bif Nat.blt (j - m.length) 16 then some (nid + (j - m.length)) else none
/-- Objects, back in the caller's places. -/
def outU (m : List Nat) (nid : Nat) : Nat → List O → List (Nat × O)
  | _, [] => []
  | j, o :: r => ((backF m nid j).getD 0, o.ren (backF m nid)) :: outU m nid (j + 1) r
noncomputable def outDo (m : List Nat) (nid : Nat) (u : List (Nat × O)) (x : Out) : Do :=
  Out.rec (motive := fun _ => Do) (fun p v h => bif Nat.ble m.length h.length && Nat.ble h.length (m.length + 16) then .req p (v.ren (backF m nid)) (u ++ outU m nid 0 h) else .bad)
    (fun b _ _ d e => .fork b d e) .bad x
/-- The objects at ways' ends, from the arguments on. -/
def argIds (D : Nat → O) (args : List V) : List (Nat × List Nat) → Option (List Nat)
  | [] => some []
  | (i, p) :: r => match args[i]? with
    | some v => match wayTo D v p with
      | some l => (argIds D args r).map (l :: ·)
      | none => none
    | none => none
/-- A value whose rows, but those named, are let be. -/
def pv0 (D : Nat → O) (m : List Nat) : V → V
  | .sl l => bif m.any fun y => Nat.beq y l then .sl l else match D l with
    | .row _ s n f true => .list s n f
    | .fz s n f => .list s n f
    | _ => .sl l
  | .kn (.slice none 0 0) => .list 1 0 fun _ => []
  | v => v
def pv1 (D : Nat → O) (m : List Nat) : V → V
  | .fn f cap => .fn f (cap.map (pv0 D m))
  | v => pv0 D m v
def pv2 (D : Nat → O) (m : List Nat) : V → V
  | .agg cs => .agg (cs.map (pv1 D m))
  | v => pv1 D m v
def pvO (D : Nat → O) (m : List Nat) : O → O
  | .cells cs => .cells (cs.map (pv1 D m))
  | o => o
/-- What is let be ahead of the call. -/
def letBe (D : Nat → O) (m : List Nat) (args : List V) : List Nat := (args.flatMap V.ids ++ m.flatMap fun l => (D l).ids).filter fun l => !(m.any fun y => Nat.beq y l)
noncomputable def liftS (ways : List (Nat × List Nat)) (G : SSpec) : Spec := fun args D nid =>
  match argIds D args ways with
  | some m => bif nodupB m && m.all (fun l => Nat.blt l nid || Nat.ble (nid + 16) l) && ways.all (fun w => Nat.ble w.2.length 3) then
      outDo m nid (frzL D (letBe D m args)) (G (args.map fun v => (pv2 D m v).forget m) (m.map fun l => (pvO D m (D l)).forget m))
    else .bad
  | none => .bad

def conOf : List (FuncId × Spec) → FuncId → Option Spec
  | [], _ => none
  | (f, s) :: r, g => bif Nat.beq f g then some s else conOf r g

/-- What a function hands back, in the end. -/
def RetO (R : Option V → Prop) (v : V) (h : List O) : Prop := R (toPure (getO h) v)

/-- What a function hands back, over objects: the named ones, and those that it made, found from what it hands back and from its arguments on. -/
def V.parts : V → List V
  | .tup vs => vs
  | v => [v]
def pv3 (D : Nat → O) (m : List Nat) : V → V
  | .tup vs => .tup (vs.map (pv2 D m))
  | v => pv2 D m v
/-- As pvO, but a cell's nil stays nil. -/
def pv1r (D : Nat → O) (m : List Nat) : V → V
  | .kn (.slice none 0 0) => .kn (.slice none 0 0)
  | v => pv1 D m v
def pvOr (D : Nat → O) (m : List Nat) : O → O
  | .cells cs => .cells (cs.map (pv1r D m))
  | o => o
def RetS (q : Nat) (as : List V) (ways : List (Nat × List Nat)) (R : V → List O → Prop) (v : V) (h : List O) : Prop :=
  match argIds (getO h) (v.parts ++ as) ways with
  | some ms => bif nodupB (List.range q ++ ms) then R ((pv3 (getO h) (List.range q ++ ms) v).forget (List.range q ++ ms)) ((List.range q ++ ms).map fun l => (pvOr (getO h) (List.range q ++ ms) (getO h l)).forget (List.range q ++ ms)) else False
  | none => False

def entry (P : Program) (f : FuncId) (args : List V) : Cfg :=
  match P.funcs[f]? with
  | some fn => ⟨⟨f, fn.ntmps, args2 0 args, [.code (fn.body.getD .skip)]⟩, [], []⟩
  | none => ⟨⟨f, 0, [], []⟩, [], []⟩

def entryO (P : Program) (f : FuncId) (args : List V) (os : List O) : Cfg := ⟨(entry P f args).fr, [], os⟩

end Go.Aw

/-
  The relation between what the executor knows and the machine's worlds.
-/
namespace Go.Aw
open Go Go.RowKit

/-- Blocks that are let be. -/
abbrev Blk := Nat → Prop
def Und (base : Blk) (n : Nat) : Prop := ∀ b, base b → b < n
def ltB (n : Nat) : Blk := fun b => b < n
theorem und_lt (n : Nat) : Und (ltB n) n := fun _ h => h
theorem Und.mono {base : Blk} {n m : Nat} (h : Und base n) (k : n ≤ m) : Und base m := fun b hb => Nat.lt_of_lt_of_le (h b hb) k
/-- What is let be stands. -/
structure Kp (base : Blk) (w w' : World) : Prop where
  os : w'.os = w.os
  tape : w'.tape = w.tape
  output : w'.output = w.output
  size : w.heap.size ≤ w'.heap.size
  block : ∀ b, base b → w'.heap[b]? = w.heap[b]?
theorem Kp.refl (base : Blk) (w : World) : Kp base w w := ⟨rfl, rfl, rfl, Nat.le_refl _, fun _ _ => rfl⟩
theorem Kp.trans {base : Blk} {a b c : World} (h : Kp base a b) (k : Kp base b c) : Kp base a c :=
  ⟨k.os.trans h.os, k.tape.trans h.tape, k.output.trans h.output, Nat.le_trans h.size k.size, fun i hi => (k.block i hi).trans (h.block i hi)⟩
theorem Kp.mono {base base' : Blk} {w w' : World} (h : Kp base w w') (hb : ∀ b, base' b → base b) : Kp base' w w' := ⟨h.os, h.tape, h.output, h.size, fun b hb' => h.block b (hb b hb')⟩
theorem Kp.under {base : Blk} {n : Nat} {w w' : World} (h : Kp (ltB n) w w') (hb : Und base n) : Kp base w w' := h.mono hb
theorem Kp.below {n : Nat} {w w' : World} (h : Kp (ltB n) w w') : Below n w w' := ⟨h.os, h.tape, h.output, h.size, h.block⟩
theorem kp_of {n : Nat} {w w' : World} (h : Below n w w') : Kp (ltB n) w w' := ⟨h.os, h.tape, h.output, h.size, h.block⟩

abbrev Sig := Nat → Option Value
abbrev Fz := Nat → Option Obj
def sig0 : Sig := fun _ => none

def cellF (F : Fz) (b o : Nat) : Option Value :=
  match F b with
  | some (.cells c _ _) => c[o]?
  | _ => none

inductive RV (F : Fz) : Sig → V → Value → Prop
  | any {σ : Sig} {x : Value} : RV F σ .any x
  | kn {σ : Sig} {x : Value} : RV F σ (.kn x) x
  | agg {σ : Sig} {cs : List V} {xs : Array Value} (hl : cs.length = xs.size) (h : ∀ i v, cs[i]? = some v → RV F σ v (xs.getD i undef)) : RV F σ (.agg cs) (.agg xs)
  | tup {σ : Sig} {cs : List V} {xs : Array Value} (hl : cs.length = xs.size) (h : ∀ i v, cs[i]? = some v → RV F σ v (xs.getD i undef)) : RV F σ (.tup cs) (.tuple xs)
  | list0 {σ : Sig} {s n : Nat} {f : Nat → List V} {a : Option Addr} {cap : Nat} (hn : n = 0) : RV F σ (.list s n f) (.slice a n cap)
  | list {σ : Sig} {s n : Nat} {f : Nat → List V} {b off cap : Nat} (g : Nat → Nat → Value) (hcap : n ≤ cap) (hl : ∀ i, i < n → (f i).length = s)
      (hc : ∀ i j, i < n → j < s → cellF F b (off + i * s + j) = some (g i j)) (ho : ∀ i j, i < n → j < s → (g i j).oneCell' = true)
      (hr : ∀ i j v, i < n → (f i)[j]? = some v → RV F sig0 v (g i j)) : RV F σ (.list s n f) (.slice (some ⟨b, off, none⟩) n cap)
  | rp {σ : Sig} {cs : List V} {off b o : Nat} (g : Nat → Value) (hc : ∀ j, j < cs.length → cellF F b (o + j) = some (g j))
      (hr : ∀ j v, cs[j]? = some v → RV F sig0 v (g j)) : RV F σ (.rp cs off) (.pointer (some ⟨b, o + off, none⟩))
  | ptr {σ : Sig} {l off b : Nat} (h : σ l = some (.pointer (some ⟨b, 0, none⟩))) : RV F σ (.ptr l off) (.pointer (some ⟨b, off, none⟩))
  | el {σ : Sig} {l s i off b n cap : Nat} (h : σ l = some (.slice (some ⟨b, 0, none⟩) n cap)) : RV F σ (.el l s i off) (.pointer (some ⟨b, i * s + off, none⟩))
  | sl {σ : Sig} {l : Nat} {x : Value} (h : σ l = some x) : RV F σ (.sl l) x
  | fn {σ : Sig} {f : FuncId} {cap : List V} {xs : Array Value} (hl : cap.length = xs.size) (h : ∀ i v, cap[i]? = some v → RV F σ v (xs.getD i undef)) : RV F σ (.fn f cap) (.func (.func f) #[] xs)
  | mp {σ : Sig} {l : Nat} {x : Value} (h : σ l = some x) : RV F σ (.mp l) x
  | it {σ : Sig} {l : Nat} {x : Value} (h : σ l = some x) : RV F σ (.it l) x

def Sle (σ σ' : Sig) : Prop := ∀ l x, σ l = some x → σ' l = some x
def Fle (F F' : Fz) : Prop := ∀ b o, F b = some o → F' b = some o

theorem Sle.refl (σ : Sig) : Sle σ σ := fun _ _ h => h
theorem Sle.trans {a b c : Sig} (h : Sle a b) (k : Sle b c) : Sle a c := fun l x e => k l x (h l x e)
theorem Fle.refl (F : Fz) : Fle F F := fun _ _ h => h
theorem Fle.trans {a b c : Fz} (h : Fle a b) (k : Fle b c) : Fle a c := fun l x e => k l x (h l x e)

theorem cellF_mono {F F' : Fz} (h : Fle F F') {b o : Nat} {x : Value} (e : cellF F b o = some x) : cellF F' b o = some x := by
  unfold cellF at *
  cases hf : F b with
  | none => simp [hf] at e
  | some ob => rw [h b ob hf]; simpa [hf] using e

theorem RV.mono {F F' : Fz} {σ σ' : Sig} {v : V} {x : Value} (hF : Fle F F') (h : RV F σ v x) : Sle σ σ' → RV F' σ' v x := by
  induction h generalizing σ' with
  | any => intro _; exact .any
  | kn => intro _; exact .kn
  | agg hl _ ih => intro hs; exact .agg hl fun i v e => ih i v e hs
  | tup hl _ ih => intro hs; exact .tup hl fun i v e => ih i v e hs
  | list0 hn => intro _; exact .list0 hn
  | list g hcap hl hc ho _ ih => intro _; exact .list g hcap hl (fun i j hi hj => cellF_mono hF (hc i j hi hj)) ho fun i j v hi e => ih i j v hi e (Sle.refl _)
  | rp g hc _ ih => intro _; exact .rp g (fun j hj => cellF_mono hF (hc j hj)) fun j v e => ih j v e (Sle.refl _)
  | ptr h => intro hs; exact .ptr (hs _ _ h)
  | el h => intro hs; exact .el (hs _ _ h)
  | sl h => intro hs; exact .sl (hs _ _ h)
  | fn hl _ ih => intro hs; exact .fn hl fun i v e => ih i v e hs
  | mp h => intro hs; exact .mp (hs _ _ h)
  | it h => intro hs; exact .it (hs _ _ h)

theorem RV.pure0 {F : Fz} {σ σ' : Sig} {v : V} {x : Value} (hp : v.pure0 = true) (h : RV F σ v x) : RV F σ' v x := by
  cases h with
  | any => exact .any
  | kn => exact .kn
  | agg => simp [V.pure0] at hp
  | tup => simp [V.pure0] at hp
  | list0 hn => exact .list0 hn
  | list g hcap hl hc ho hr => exact .list g hcap hl hc ho hr
  | rp g hc hr => exact .rp g hc hr
  | ptr => simp [V.pure0] at hp
  | el => simp [V.pure0] at hp
  | sl => simp [V.pure0] at hp
  | @fn _ f cap xs hl hh =>
    cases cap with
    | nil => exact .fn hl fun i v e => by simp at e
    | cons a r => simp [V.pure0] at hp
  | mp => simp [V.pure0] at hp
  | it => simp [V.pure0] at hp

theorem RV.one {F : Fz} {σ : Sig} {v : V} {x : Value} (hp : v.one = true) (h : RV F σ v x) (hs : ∀ l y, σ l = some y → y.oneCell' = true) : x.oneCell' = true := by
  cases h <;> first
    | (simp [V.one] at hp; done)
    | rfl
    | (simpa [V.one] using hp)
    | (exact hs _ _ ‹_›)

/-- A value's cells. -/
theorem RV.cs {F : Fz} {σ : Sig} {v : V} {x : Value} {cs : List V} (hc : v.cs = some cs) (h : RV F σ v x) (hs : ∀ l y, σ l = some y → y.oneCell' = true) :
    cs.length = x.cells.size ∧ ∀ i u, cs[i]? = some u → RV F σ u (x.cells.getD i undef) := by
  have one : ∀ {u : V} {y : Value}, RV F σ u y → y.oneCell' = true → ([u] : List V).length = y.cells.size ∧ ∀ i z, ([u] : List V)[i]? = some z → RV F σ z (y.cells.getD i undef) := by
    intro u y hy h1
    have hcy : y.cells = #[y] := by cases y <;> simp_all [Value.cells, Value.oneCell']
    rw [hcy]
    refine ⟨rfl, fun i z e => ?_⟩
    cases i with
    | zero => simp at e; subst e; simpa using hy
    | succ i => simp at e
  cases h with
  | any => simp [V.cs] at hc
  | kn =>
    simp only [V.cs, Option.some.injEq] at hc
    subst hc
    refine ⟨by simp, fun i u e => ?_⟩
    simp only [List.getElem?_map, Option.map_eq_some_iff] at e
    obtain ⟨y, hy, rfl⟩ := e
    have : x.cells.getD i undef = y := by
      have : x.cells[i]? = some y := by simpa using hy
      simp [Array.getD_eq_getD_getElem?, this]
    rw [this]
    exact .kn
  | agg hl hh => simp only [V.cs, Option.some.injEq] at hc; subst hc; exact ⟨by simpa [Value.cells] using hl, hh⟩
  | tup => simp [V.cs] at hc
  | list0 hn => simp only [V.cs, Option.some.injEq] at hc; subst hc; exact one (.list0 hn) rfl
  | list g a b c d e => simp only [V.cs, Option.some.injEq] at hc; subst hc; exact one (.list g a b c d e) rfl
  | rp g a b => simp only [V.cs, Option.some.injEq] at hc; subst hc; exact one (.rp g a b) rfl
  | ptr a => simp only [V.cs, Option.some.injEq] at hc; subst hc; exact one (.ptr a) rfl
  | el a => simp only [V.cs, Option.some.injEq] at hc; subst hc; exact one (.el a) rfl
  | sl a => simp only [V.cs, Option.some.injEq] at hc; subst hc; exact one (.sl a) (hs _ _ a)
  | fn a b => simp only [V.cs, Option.some.injEq] at hc; subst hc; exact one (.fn a b) rfl
  | mp a => simp only [V.cs, Option.some.injEq] at hc; subst hc; exact one (.mp a) (hs _ _ a)
  | it a => simp only [V.cs, Option.some.injEq] at hc; subst hc; exact one (.it a) (hs _ _ a)

def sigP (p : Bool) (σ : Sig) : Sig := bif p then sig0 else σ

/-- An object, its handle, and the world. -/
def OR (F : Fz) (σ : Sig) (w : World) : O → Option Value → Prop
  | .hole, x => x = none
  | .dead, x => ∀ y, x = some y → y.oneCell' = true
  | .cells cs, x => ∃ b arr e, x = some (.pointer (some ⟨b, 0, none⟩)) ∧ w.heap[b]? = some (.cells arr e (0, 0)) ∧ arr.size = cs.length ∧ ∀ j v, cs[j]? = some v → RV F σ v (arr.getD j undef)
  | .row e s n f p, x => ∃ v xs, x = some v ∧ w.ownsRow 0 e s v n xs ∧ (∀ i, i < n → (f i).length = s) ∧
      (∀ i j u, i < n → (f i)[j]? = some u → RV F (sigP p σ) u (xs.getD (i * s + j) undef)) ∧ ∀ u ∈ xs, u.oneCell' = true
  | .fz s n f, x => ∃ v, x = some v ∧ RV F sig0 (.list s n f) v
  | .map .., x => ∃ b es clk, x = some (.map (some b)) ∧ w.heap[b]? = some (.map es clk)
  | .iter _, x => ∃ b, x = some (.pointer (some ⟨b, 0, none⟩))
  | .siter s pos, x => ∃ b, x = some (.pointer (some ⟨b, 0, none⟩)) ∧ w.heap[b]? = some (.stringIter s pos)

/-- The block that an object owns. -/
def ob : O → Option Value → Option Nat
  | .cells _, some (.pointer (some a)) => some a.block
  | .siter _ _, some (.pointer (some a)) => some a.block
  | .row .., some v => v.ownBlock
  | .map .., some (.map b) => b
  | _, _ => none

def SO.o : SO → O
  | .cells cs => .cells cs
  | .row e s n f => .row e s n f true

/-- What hangs on a map's entries, by key and number. -/
abbrev Tau := Value → Nat → Option Value

/-- An entry's value. -/
def VR (F : Fz) (σ : Sig) (ag : Bool) (cs : List V) (x : Value) : Prop :=
  bif ag then ∃ xs, x = .agg xs ∧ cs.length = xs.size ∧ ∀ j v, cs[j]? = some v → RV F σ v (xs.getD j undef) else ∃ v, cs = [v] ∧ RV F σ v x ∧ x.oneCell' = true

/-- A key of a map's base. -/
def Bk (kd : KK) (ov : List (Value × Option (List V))) (has : Value → Bool) (k : Value) : Prop := kd.ok k = true ∧ findOv k ov = none ∧ has k = true

/-- The blocks that hang on a map, beside its own. -/
def mbM (σ : Sig) (t : Tau) (kd : KK) (ov : List (Value × Option (List V))) (has : Value → Bool) (sub : Value → List SO) (its : List (Nat × (Value → Bool) × Option Value)) (b : Nat) : Prop :=
  (∃ k j so, Bk kd ov has k ∧ (sub k)[j]? = some so ∧ ob so.o (t k j) = some b) ∨ ∃ q x, (q, x) ∈ its ∧ σ q = some (.pointer (some ⟨b, 0, none⟩))
def mb (σ : Sig) (t : Tau) : O → Nat → Prop
  | .map kd _ _ ov has _ sub its, b => mbM σ t kd ov has sub its b
  | _, _ => False

def VA (F : Fz) (σ : Sig) (t : Tau) (ag : Bool) (ov : List (Value × Option (List V))) (get : Value → List V) (k x : Value) : Prop :=
  match findOv k ov with
  | some (some cs) => VR F σ ag cs x
  | some none => False
  | none => VR F (t k) ag (get k) x

def ItR (σ : Sig) (w : World) (b : Nat) (es : Array MapEntry) (clk q : Nat) (seen : Value → Bool) (cur : Option Value) : Prop :=
  ∃ bi sa, σ q = some (.pointer (some ⟨bi, 0, none⟩)) ∧ w.heap[bi]? = some (.mapIter (some b) clk sa clk) ∧ (∀ e ∈ es.toList, sa.contains e.born = seen e.key) ∧
    ∀ c, cur = some c → ∃ e ∈ es.toList, e.key = c ∧ sa.back? = some e.born

/-- A map, its entries, and the world. -/
structure MapR (F : Fz) (σ : Sig) (t : Tau) (w : World) (b : Nat) (es : Array MapEntry) (clk : Nat) (kd : KK) (ag : Bool) (n : Nat) (ov : List (Value × Option (List V))) (has : Value → Bool) (get : Value → List V) (sub : Value → List SO)
    (its : List (Nat × (Value → Bool) × Option Value)) : Prop where
  size : es.size = n
  keys : ∀ e ∈ es.toList, kd.ok e.key = true
  dist : (es.toList.map (·.key)).Nodup
  bornD : (es.toList.map (·.born)).Nodup
  bornL : ∀ e ∈ es.toList, e.born < clk
  mem : ∀ k, kd.ok k = true → (presB ov has k = true ↔ ∃ e ∈ es.toList, e.key = k)
  val : ∀ e ∈ es.toList, VA F σ t ag ov get e.key e.val
  subs : ∀ k, Bk kd ov has k → ∀ j so, (sub k)[j]? = some so → OR F (t k) w so.o (t k j)
  tone : ∀ k j y, t k j = some y → y.oneCell' = true
  ssep : ∀ k k' j j' so so' b, Bk kd ov has k → Bk kd ov has k' → (sub k)[j]? = some so → (sub k')[j']? = some so' → ob so.o (t k j) = some b → ob so'.o (t k' j') = some b → k = k' ∧ j = j'
  itsR : ∀ q seen cur, (q, seen, cur) ∈ its → ItR σ w b es clk q seen cur
  itsD : (its.map (·.1)).Nodup
  itsB : ∀ q x q' x' bi, (q, x) ∈ its → (q', x') ∈ its → σ q = some (.pointer (some ⟨bi, 0, none⟩)) → σ q' = some (.pointer (some ⟨bi, 0, none⟩)) → q = q'
  itsS : ∀ k j so q x bi, Bk kd ov has k → (sub k)[j]? = some so → ob so.o (t k j) = some bi → (q, x) ∈ its → σ q ≠ some (.pointer (some ⟨bi, 0, none⟩))
  main : ¬ mbM σ t kd ov has sub its b

def MR (F : Fz) (σ : Sig) (t : Tau) (w : World) : O → Option Value → Prop
  | .map kd ag n ov has get sub its, x => ∃ b es clk, x = some (.map (some b)) ∧ w.heap[b]? = some (.map es clk) ∧ MapR F σ t w b es clk kd ag n ov has get sub its
  | _, _ => True

/-- All blocks of an object. -/
def ab (σ : Sig) (t : Tau) (o : O) (x : Option Value) (b : Nat) : Prop := ob o x = some b ∨ mb σ t o b

def O.simple : O → Bool
  | .map .. => false
  | _ => true
theorem mb_simple {σ : Sig} {t : Tau} {o : O} (h : o.simple = true) {b : Nat} : ¬ mb σ t o b := by
  cases o <;> first | (intro hh; exact hh) | cases h
theorem MR_simple {F : Fz} {σ : Sig} {t : Tau} {w : World} {o : O} {x : Option Value} (h : o.simple = true) : MR F σ t w o x := by
  cases o <;> first | trivial | cases h

theorem OR.one {F : Fz} {σ : Sig} {w : World} {o : O} {x : Option Value} (h : OR F σ w o x) : ∀ y, x = some y → y.oneCell' = true := by
  cases o with
  | hole => intro y e; simp [OR] at h; simp [h] at e
  | dead => exact h
  | cells cs => obtain ⟨b, arr, e, rfl, _⟩ := h; intro y e; cases e; rfl
  | row e s n f p =>
    obtain ⟨v, xs, rfl, ho, _⟩ := h
    intro y e; cases e
    rcases ho.2 with ⟨rfl, _⟩ | ⟨g, cap, cur, rfl, _⟩ <;> rfl
  | fz s n f =>
    obtain ⟨v, rfl, hr⟩ := h
    intro y e; cases e
    cases hr <;> rfl
  | map => obtain ⟨b, es, clk, rfl, _⟩ := h; intro y e; cases e; rfl
  | iter => obtain ⟨b, rfl⟩ := h; intro y e; cases e; rfl
  | siter => obtain ⟨b, rfl, _⟩ := h; intro y e; cases e; rfl

theorem sigP_le {p : Bool} {σ σ' : Sig} (h : Sle σ σ') : Sle (sigP p σ) (sigP p σ') := by
  cases p
  · exact h
  · exact Sle.refl _

theorem ownsRow_congr {w w' : World} {base : Nat} {e : TypeId} {size : Nat} {v : Value} {n : Nat} {xs : List Value} (h : w.ownsRow base e size v n xs)
    (hb : ∀ b, v.ownBlock = some b → w'.heap[b]? = w.heap[b]?) : w'.ownsRow base e size v n xs := by
  refine ⟨h.1, ?_⟩
  rcases h.2 with hn | ⟨g, cap, cur, rfl, hg, hh, r⟩
  · exact .inl hn
  · exact .inr ⟨g, cap, cur, rfl, hg, by rw [hb g rfl]; exact hh, r⟩

theorem OR.congr {F F' : Fz} {σ σ' : Sig} {w w' : World} {o : O} {x : Option Value} (h : OR F σ w o x) (hF : Fle F F') (hS : Sle σ σ')
    (hb : ∀ b, ob o x = some b → w'.heap[b]? = w.heap[b]?) : OR F' σ' w' o x := by
  cases o with
  | hole => exact h
  | dead => exact h
  | cells cs =>
    obtain ⟨b, arr, e, rfl, hh, hz, hr⟩ := h
    exact ⟨b, arr, e, rfl, by rw [hb b rfl]; exact hh, hz, fun j v hv => (hr j v hv).mono hF hS⟩
  | row e s n f p =>
    obtain ⟨v, xs, rfl, ho, hl, hr, h1⟩ := h
    exact ⟨v, xs, rfl, ownsRow_congr ho (fun b e => hb b (by simpa [ob] using e)), hl, fun i j u hi hu => (hr i j u hi hu).mono hF (sigP_le hS), h1⟩
  | fz s n f =>
    obtain ⟨v, rfl, hr⟩ := h
    exact ⟨v, rfl, hr.mono hF (Sle.refl _)⟩
  | map => obtain ⟨b, es, clk, rfl, hh⟩ := h; exact ⟨b, es, clk, rfl, by rw [hb b rfl]; exact hh⟩
  | iter => exact h
  | siter => obtain ⟨b, rfl, hh⟩ := h; exact ⟨b, rfl, by rw [hb b rfl]; exact hh⟩

theorem VR.mono {F F' : Fz} {σ σ' : Sig} {ag : Bool} {cs : List V} {x : Value} (h : VR F σ ag cs x) (hF : Fle F F') (hS : Sle σ σ') : VR F' σ' ag cs x := by
  cases ag with
  | true => obtain ⟨xs, h1, h2, h3⟩ := h; exact ⟨xs, h1, h2, fun j v hv => (h3 j v hv).mono hF hS⟩
  | false => obtain ⟨v, h1, h2, h3⟩ := h; exact ⟨v, h1, h2.mono hF hS, h3⟩
theorem VA.mono {F F' : Fz} {σ σ' : Sig} {t : Tau} {ag : Bool} {ov : List (Value × Option (List V))} {get : Value → List V} {k x : Value} (h : VA F σ t ag ov get k x) (hF : Fle F F') (hS : Sle σ σ') : VA F' σ' t ag ov get k x := by
  unfold VA at *
  split
  · rename_i hf; rw [hf] at h; exact VR.mono h hF hS
  · rename_i hf; rw [hf] at h; exact h
  · rename_i hf; rw [hf] at h; exact VR.mono h hF (Sle.refl _)

theorem mbM_le {σ σ' : Sig} {t : Tau} {kd : KK} {ov : List (Value × Option (List V))} {has : Value → Bool} {sub : Value → List SO} {its : List (Nat × (Value → Bool) × Option Value)} (hS : Sle σ σ') (hi : ∀ q x, (q, x) ∈ its → ∃ y, σ q = some y) {b : Nat} :
    mbM σ' t kd ov has sub its b → mbM σ t kd ov has sub its b := by
  rintro (h | ⟨q, x, hq, hs⟩)
  · exact .inl h
  · obtain ⟨y, hy⟩ := hi q x hq
    have := hS q y hy
    rw [hs] at this
    cases this
    exact .inr ⟨q, x, hq, hy⟩

theorem MapR.its_some {F : Fz} {σ : Sig} {t : Tau} {w : World} {b : Nat} {es : Array MapEntry} {clk : Nat} {kd : KK} {ag : Bool} {n : Nat} {ov : List (Value × Option (List V))} {has : Value → Bool} {get : Value → List V} {sub : Value → List SO}
    {its : List (Nat × (Value → Bool) × Option Value)} (m : MapR F σ t w b es clk kd ag n ov has get sub its) : ∀ q x, (q, x) ∈ its → ∃ y, σ q = some y := fun q x hq => by
  obtain ⟨bi, sa, h, _⟩ := m.itsR q x.1 x.2 hq
  exact ⟨_, h⟩

theorem MapR.congr {F F' : Fz} {σ σ' : Sig} {t : Tau} {w w' : World} {b : Nat} {es : Array MapEntry} {clk : Nat} {kd : KK} {ag : Bool} {n : Nat} {ov : List (Value × Option (List V))} {has : Value → Bool} {get : Value → List V} {sub : Value → List SO}
    {its : List (Nat × (Value → Bool) × Option Value)} (m : MapR F σ t w b es clk kd ag n ov has get sub its) (hF : Fle F F') (hS : Sle σ σ') (hb : ∀ b, mbM σ t kd ov has sub its b → w'.heap[b]? = w.heap[b]?) :
    MapR F' σ' t w' b es clk kd ag n ov has get sub its := by
  have hq : ∀ q x, (q, x) ∈ its → ∀ y, σ' q = some y → σ q = some y := fun q x hq y hy => by
    obtain ⟨z, hz⟩ := m.its_some q x hq
    have := hS q z hz
    rw [hy] at this; cases this; exact hz
  exact {
    size := m.size, keys := m.keys, dist := m.dist, bornD := m.bornD, bornL := m.bornL, mem := m.mem
    val := fun e he => (m.val e he).mono hF hS
    subs := fun k hk j so hso => (m.subs k hk j so hso).congr hF (Sle.refl _) fun b' hb' => hb b' (.inl ⟨k, j, so, hk, hso, hb'⟩)
    tone := m.tone, ssep := m.ssep
    itsR := fun q seen cur hi => by
      obtain ⟨bi, sa, h1, h2, h3⟩ := m.itsR q seen cur hi
      exact ⟨bi, sa, hS _ _ h1, by rw [hb bi (.inr ⟨q, _, hi, h1⟩)]; exact h2, h3⟩
    itsD := m.itsD
    itsB := fun q x q' x' bi h1 h2 h3 h4 => m.itsB q x q' x' bi h1 h2 (hq q x h1 _ h3) (hq q' x' h2 _ h4)
    itsS := fun k j so q x bi h1 h2 h3 h4 h5 => m.itsS k j so q x bi h1 h2 h3 h4 (hq q x h4 _ h5)
    main := fun h => m.main (mbM_le hS m.its_some h) }

theorem MR.congr {F F' : Fz} {σ σ' : Sig} {t : Tau} {w w' : World} {o : O} {x : Option Value} (m : MR F σ t w o x) (hF : Fle F F') (hS : Sle σ σ') (hb : ∀ b, ab σ t o x b → w'.heap[b]? = w.heap[b]?) : MR F' σ' t w' o x := by
  cases o with
  | map kd ag n ov has get sub its =>
    obtain ⟨b, es, clk, rfl, hh, hm⟩ := m
    exact ⟨b, es, clk, rfl, by rw [hb b (.inl rfl)]; exact hh, hm.congr hF hS fun b' hb' => hb b' (.inr hb')⟩
  | _ => trivial

theorem ab_le {F : Fz} {σ σ' : Sig} {t : Tau} {w : World} {o : O} {x : Option Value} (m : MR F σ t w o x) (hS : Sle σ σ') {b : Nat} (h : ab σ' t o x b) : ab σ t o x b := by
  rcases h with h | h
  · exact .inl h
  · cases o with
    | map kd ag n ov has get sub its =>
      obtain ⟨b', es, clk, rfl, hh, hm⟩ := m
      exact .inr (mbM_le hS hm.its_some h)
    | _ => exact h.elim

/-- The whole: objects, their blocks apart, the immutable blocks as they were. -/
structure GmT (τ : Nat → Tau) (base : Blk) (σ : Sig) (F : Fz) (h : List O) (w : World) : Prop where
  obj : ∀ l, OR F σ w (getO h l) (σ l)
  mp : ∀ l, MR F σ (τ l) w (getO h l) (σ l)
  own : ∀ l b, ab σ (τ l) (getO h l) (σ l) b → ¬ base b ∧ b < w.heap.size ∧ F b = none
  sep : ∀ l l' b, ab σ (τ l) (getO h l) (σ l) b → ab σ (τ l') (getO h l') (σ l') b → l = l'
  fz : ∀ b o, F b = some o → w.heap[b]? = some o
def Gm (base : Blk) (σ : Sig) (F : Fz) (h : List O) (w : World) : Prop := ∃ τ, GmT τ base σ F h w

section
variable {base : Blk} {σ : Sig} {F : Fz} {h : List O} {w : World}
theorem Gm.obj (g : Gm base σ F h w) : ∀ l, OR F σ w (getO h l) (σ l) := g.elim fun _ g => g.obj
theorem Gm.own (g : Gm base σ F h w) : ∀ l b, ob (getO h l) (σ l) = some b → ¬ base b ∧ b < w.heap.size ∧ F b = none := g.elim fun _ g l b e => g.own l b (.inl e)
theorem Gm.sep (g : Gm base σ F h w) : ∀ l l' b, ob (getO h l) (σ l) = some b → ob (getO h l') (σ l') = some b → l = l' := g.elim fun _ g l l' b e e' => g.sep l l' b (.inl e) (.inl e')
theorem Gm.fz (g : Gm base σ F h w) : ∀ b o, F b = some o → w.heap[b]? = some o := g.elim fun _ g => g.fz
theorem Gm.empty (base : Blk) {F : Fz} {w : World} (hF : ∀ b o, F b = some o → w.heap[b]? = some o) : Gm base sig0 F [] w :=
  ⟨fun _ _ _ => none, (fun l => rfl), (fun l => trivial), (fun l b e => by rcases e with e | e <;> cases e), (fun l l' b e => by rcases e with e | e <;> cases e), hF⟩

theorem Gm.one (g : Gm base σ F h w) : ∀ l y, σ l = some y → y.oneCell' = true :=
  fun l y e => (g.obj l).one y e
end

theorem getO_putO (h : List O) (l : Nat) (o : O) (i : Nat) : getO (putO h l o) i = if i = l then o else getO h i := by
  induction l generalizing h i with
  | zero => cases h <;> cases i <;> simp [putO, getO]
  | succ l ih => cases h <;> cases i <;> simp [putO, getO, ih]

theorem cellF_cell {base : Blk} {σ : Sig} {F : Fz} {h : List O} {w : World} (g : Gm base σ F h w) {b o : Nat} {x : Value} (e : cellF F b o = some x) : w.cell? ⟨b, o, none⟩ = some x := by
  unfold cellF at e
  cases hf : F b with
  | none => simp [hf] at e
  | some ob =>
    have := g.fz b ob hf
    cases ob <;> simp [hf] at e
    simp [World.cell?, this, e]

/-- The world has changed in no block that counts. -/
theorem GmT.still {τ : Nat → Tau} {base : Blk} {σ : Sig} {F : Fz} {h : List O} {w w' : World} (g : GmT τ base σ F h w) (hz : w.heap.size ≤ w'.heap.size)
    (hb : ∀ b, b < w.heap.size → w'.heap[b]? = w.heap[b]?) : GmT τ base σ F h w' :=
  ⟨fun l => (g.obj l).congr (Fle.refl _) (Sle.refl _) fun b e => hb b (g.own l b (.inl e)).2.1, fun l => (g.mp l).congr (Fle.refl _) (Sle.refl _) fun b e => hb b (g.own l b e).2.1,
    fun l b e => ⟨(g.own l b e).1, Nat.lt_of_lt_of_le (g.own l b e).2.1 hz, (g.own l b e).2.2⟩, g.sep, fun b o e => by
      have h1 := g.fz b o e
      rw [hb b (Array.getElem?_eq_some_iff.1 h1).1]
      exact h1⟩
theorem Gm.still {base : Blk} {σ : Sig} {F : Fz} {h : List O} {w w' : World} (g : Gm base σ F h w) (hz : w.heap.size ≤ w'.heap.size)
    (hb : ∀ b, b < w.heap.size → w'.heap[b]? = w.heap[b]?) : Gm base σ F h w' := g.elim fun τ g => ⟨τ, g.still hz hb⟩

theorem Gm.of_get {base : Blk} {σ : Sig} {F : Fz} {h h' : List O} {w : World} (g : Gm base σ F h w) (e : ∀ l, getO h l = getO h' l) : Gm base σ F h' w := by
  obtain ⟨τ, g⟩ := g
  exact ⟨τ, (fun l => by rw [← e l]; exact g.obj l), (fun l => by rw [← e l]; exact g.mp l), (fun l b hb => g.own l b (by rw [e l]; exact hb)), (fun l l' b h1 h2 => g.sep l l' b (by rw [e l]; exact h1) (by rw [e l']; exact h2)), g.fz⟩

def sput (σ : Sig) (l : Nat) (x : Value) : Sig := fun i => if i = l then some x else σ i

theorem sput_le {σ : Sig} {l : Nat} {x : Value} (h : σ l = none) : Sle σ (sput σ l x) := by
  intro i y e
  unfold sput
  split
  · rename_i hi; subst hi; simp [h] at e
  · exact e

def tput (τ : Nat → Tau) (l : Nat) (t : Tau) : Nat → Tau := fun i => if i = l then t else τ i

/-- A new object, in new blocks or in blocks that are nobody's. -/
theorem GmT.more {τ : Nat → Tau} {base : Blk} {σ : Sig} {F : Fz} {h : List O} {w w' : World} (g : GmT τ base σ F h w) {l : Nat} {o : O} {x : Value} {t : Tau}
    (hl : getO h l = .hole) (hz : w.heap.size ≤ w'.heap.size)
    (hb : ∀ b, b < w.heap.size → w'.heap[b]? = w.heap[b]?) (ho : OR F (sput σ l x) w' o (some x)) (hm : MR F (sput σ l x) t w' o (some x))
    (hob : ∀ b, ab (sput σ l x) t o (some x) b → ¬ base b ∧ b < w'.heap.size ∧ F b = none ∧ ∀ i, ¬ ab σ (τ i) (getO h i) (σ i) b) : GmT (tput τ l t) base (sput σ l x) F (putO h l o) w' := by
  have hn : σ l = none := by have := g.obj l; rw [hl] at this; exact this
  have hle : Sle σ (sput σ l x) := sput_le hn
  have oth : ∀ i, i ≠ l → ∀ b, ab (sput σ l x) (tput τ l t i) (getO (putO h l o) i) (sput σ l x i) b → ab σ (τ i) (getO h i) (σ i) b := fun i hi b e => by
    rw [getO_putO, if_neg hi] at e
    simp only [tput, sput, if_neg hi] at e
    exact ab_le (g.mp i) hle e
  have slf : ∀ b, ab (sput σ l x) (tput τ l t l) (getO (putO h l o) l) (sput σ l x l) b → ab (sput σ l x) t o (some x) b := fun b e => by
    rw [getO_putO, if_pos rfl] at e
    simpa [tput, sput] using e
  refine ⟨fun i => ?_, fun i => ?_, fun i b e => ?_, fun i i' b e e' => ?_, fun b o e => ?_⟩
  · rw [getO_putO]
    by_cases hi : i = l
    · subst hi; simpa [sput] using ho
    · simp only [hi, if_false, sput]
      exact (g.obj i).congr (Fle.refl _) hle fun b e => hb b (g.own i b (.inl e)).2.1
  · rw [getO_putO]
    by_cases hi : i = l
    · subst hi; simpa [sput, tput] using hm
    · simp only [hi, if_false, sput, tput]
      exact (g.mp i).congr (Fle.refl _) hle fun b e => hb b (g.own i b e).2.1
  · by_cases hi : i = l
    · subst hi
      have := hob b (slf b e)
      exact ⟨this.1, this.2.1, this.2.2.1⟩
    · have := g.own i b (oth i hi b e)
      exact ⟨this.1, Nat.lt_of_lt_of_le this.2.1 hz, this.2.2⟩
  · by_cases hi : i = l <;> by_cases hi' : i' = l
    · rw [hi, hi']
    · subst hi
      exact ((hob b (slf b e)).2.2.2 i' (oth i' hi' b e')).elim
    · subst hi'
      exact ((hob b (slf b e')).2.2.2 i (oth i hi b e)).elim
    · exact g.sep i i' b (oth i hi b e) (oth i' hi' b e')
  · have h1 := g.fz b o e
    rw [hb b (Array.getElem?_eq_some_iff.1 h1).1]
    exact h1

theorem Gm.newM {base : Blk} {σ : Sig} {F : Fz} {h : List O} {w w' : World} (g : Gm base σ F h w) {l : Nat} {o : O} {x : Value} {t : Tau}
    (hl : getO h l = .hole) (hbase : Und base w.heap.size) (hz : w.heap.size ≤ w'.heap.size)
    (hb : ∀ b, b < w.heap.size → w'.heap[b]? = w.heap[b]?) (ho : OR F (sput σ l x) w' o (some x)) (hm : MR F (sput σ l x) t w' o (some x))
    (hob : ∀ b, ab (sput σ l x) t o (some x) b → w.heap.size ≤ b ∧ b < w'.heap.size) : Gm base (sput σ l x) F (putO h l o) w' := by
  obtain ⟨τ, g⟩ := g
  have hF : ∀ b, w.heap.size ≤ b → F b = none := fun b hbb => by
    cases hf : F b with
    | none => rfl
    | some o => have := (Array.getElem?_eq_some_iff.1 (g.fz b o hf)).1; omega
  refine ⟨_, g.more (t := t) hl hz hb ho hm fun b e => ?_⟩
  have := hob b e
  exact ⟨fun hh => by have := hbase b hh; omega, this.2, hF b this.1, fun i hi => by have := (g.own i b hi).2.1; omega⟩

theorem ab_simple {σ : Sig} {t : Tau} {o : O} {x : Option Value} (h : o.simple = true) {b : Nat} (e : ab σ t o x b) : ob o x = some b := e.elim id fun e => (mb_simple h e).elim

/-- A new object in a new block. -/
theorem Gm.new {base : Blk} {σ : Sig} {F : Fz} {h : List O} {w w' : World} (g : Gm base σ F h w) {l : Nat} {o : O} {x : Value}
    (hl : getO h l = .hole) (hbase : Und base w.heap.size) (hz : w.heap.size ≤ w'.heap.size)
    (hb : ∀ b, b < w.heap.size → w'.heap[b]? = w.heap[b]?) (ho : OR F (sput σ l x) w' o (some x))
    (hob : ∀ b, ob o (some x) = some b → w.heap.size ≤ b ∧ b < w'.heap.size) (hs : o.simple = true := by rfl) : Gm base (sput σ l x) F (putO h l o) w' :=
  g.newM (t := fun _ _ => none) hl hbase hz hb ho (MR_simple hs) fun b e => hob b (ab_simple hs e)

/-- An object's content turns, in its own blocks. -/
theorem GmT.updM {τ : Nat → Tau} {base : Blk} {σ : Sig} {F : Fz} {h : List O} {w w' : World} (g : GmT τ base σ F h w) {l : Nat} {o : O} {t' : Tau}
    (hz : w.heap.size ≤ w'.heap.size) (hb : ∀ b, b < w.heap.size → ¬ ab σ (τ l) (getO h l) (σ l) b → w'.heap[b]? = w.heap[b]?) (ho : OR F σ w' o (σ l)) (hm : MR F σ t' w' o (σ l))
    (hab : ∀ b, ab σ t' o (σ l) b → ab σ (τ l) (getO h l) (σ l) b) :
    GmT (tput τ l t') base σ F (putO h l o) w' ∧ ∀ i b, ab σ (tput τ l t' i) (getO (putO h l o) i) (σ i) b → ab σ (τ i) (getO h i) (σ i) b := by
  have hget : ∀ i b, ab σ (tput τ l t' i) (getO (putO h l o) i) (σ i) b → ab σ (τ i) (getO h i) (σ i) b := fun i b e => by
    rw [getO_putO] at e
    by_cases hi : i = l
    · subst hi; simp only [if_true, tput] at e; exact hab b e
    · simpa only [hi, if_false, tput] using e
  refine ⟨⟨fun i => ?_, fun i => ?_, fun i b e => ?_, fun i i' b e e' => g.sep i i' b (hget i b e) (hget i' b e'), fun b o e => ?_⟩, hget⟩
  · rw [getO_putO]
    by_cases hi : i = l
    · subst hi; simpa using ho
    · simp only [hi, if_false]
      exact (g.obj i).congr (Fle.refl _) (Sle.refl _) fun b e => hb b (g.own i b (.inl e)).2.1 fun e' => hi (g.sep i l b (.inl e) e')
  · rw [getO_putO]
    by_cases hi : i = l
    · subst hi; simpa [tput] using hm
    · simp only [hi, if_false, tput]
      exact (g.mp i).congr (Fle.refl _) (Sle.refl _) fun b e => hb b (g.own i b e).2.1 fun e' => hi (g.sep i l b e e')
  · have := g.own i b (hget i b e)
    exact ⟨this.1, Nat.lt_of_lt_of_le this.2.1 hz, this.2.2⟩
  · have h1 := g.fz b o e
    rw [hb b (Array.getElem?_eq_some_iff.1 h1).1 fun e' => by have := (g.own l b e').2.2; simp [this] at e]
    exact h1
theorem Gm.updM {base : Blk} {σ : Sig} {F : Fz} {h : List O} {w w' : World} (g : Gm base σ F h w) {l : Nat} {o : O}
    (hz : w.heap.size ≤ w'.heap.size)
    (ho : ∀ t, MR F σ t w (getO h l) (σ l) → (∀ b, b < w.heap.size → ¬ ab σ t (getO h l) (σ l) b → w'.heap[b]? = w.heap[b]?) ∧ OR F σ w' o (σ l) ∧ ∃ t', MR F σ t' w' o (σ l) ∧ ∀ b, ab σ t' o (σ l) b → ab σ t (getO h l) (σ l) b) :
    Gm base σ F (putO h l o) w' := by
  obtain ⟨τ, g⟩ := g
  obtain ⟨hb, ho, t', hm, hab⟩ := ho (τ l) (g.mp l)
  exact ⟨_, (g.updM hz hb ho hm hab).1⟩

/-- An object's content turns, in its own block. -/
theorem Gm.upd {base : Blk} {σ : Sig} {F : Fz} {h : List O} {w w' : World} (g : Gm base σ F h w) {l : Nat} {o : O}
    (hob : ob o (σ l) = ob (getO h l) (σ l) ∨ ob o (σ l) = none)
    (hz : w.heap.size ≤ w'.heap.size) (hb : ∀ b, b < w.heap.size → some b ≠ ob (getO h l) (σ l) → w'.heap[b]? = w.heap[b]?) (ho : OR F σ w' o (σ l)) (hs : o.simple = true := by rfl) :
    Gm base σ F (putO h l o) w' :=
  g.updM hz fun t _ => ⟨fun b hbb e => hb b hbb fun e' => e (.inl e'.symm), ho, fun _ _ => none, MR_simple hs, fun b e => by
    have := ab_simple hs e
    rcases hob with h1 | h1
    · rw [h1] at this; exact .inl this
    · rw [h1] at this; cases this⟩

end Go.Aw

/-
  One operation is sound.
-/
namespace Go.Aw
open Go Go.RowKit
set_option linter.unusedVariables false

theorem pr_run {α : Type} (P : Program) (w : World) : ∀ (s : Sem α) (a : α), pr P s = some a → s.run P w = .ok a w := by
  intro s
  induction s with
  | pure a => intro b h; simp [pr] at h; subst h; rfl
  | program k ih => intro b h; exact ih P b h
  | _ => intro b h; simp [pr] at h

def FExt (base : Blk) (F F' : Fz) : Prop := Fle F F' ∧ ∀ b, F b = none → F' b ≠ none → ¬ base b
theorem FExt.refl (base : Blk) (F : Fz) : FExt base F F := ⟨Fle.refl _, fun _ h h' => (h' h).elim⟩
theorem FExt.trans {base : Blk} {a b c : Fz} (h : FExt base a b) (k : FExt base b c) : FExt base a c :=
  ⟨h.1.trans k.1, fun i hi hi' => by
    cases hb : b i with
    | none => exact k.2 i hb hi'
    | some o => exact h.2 i hi (by simp [hb])⟩

def Aft (base : Blk) (σ : Sig) (F : Fz) (w : World) (v : V) (h' : List O) (x : Value) (w' : World) : Prop :=
  ∃ σ' F', Gm base σ' F' h' w' ∧ RV F' σ' v x ∧ Sle σ σ' ∧ FExt base F F' ∧ Kp base w w'

def Fin (P : Program) (o : Oper) (a : Act) (w : World) (R : Value → World → Prop) : Prop :=
  (∃ x w', (execOp a.eval o).run P w = .ok (.value x) w' ∧ R x w') ∨
  (∃ w', (execOp a.eval o).run P w = .ok .skip w' ∧ R undef w') ∨
  (∃ f xs, (execOp a.eval o).run P w = .ok (.enter f xs) w ∧ Calls P f xs w fun e w' => ∃ x, e = .returned x ∧ R x w')

theorem Aft.same {base : Blk} {σ : Sig} {F : Fz} {h : List O} {w : World} (g : Gm base σ F h w) {v : V} {x : Value} (r : RV F σ v x) : Aft base σ F w v h x w :=
  ⟨σ, F, g, r, Sle.refl _, FExt.refl _ _, Kp.refl _ _⟩

theorem Aft.new {base : Blk} {σ : Sig} {F : Fz} {h : List O} {w w' : World} (g : Gm base σ F h w) {l : Nat} {o : O} {x : Value} {v : V}
    (hl : getO h l = .hole) (hbase : Und base w.heap.size) (hw : Kp (ltB w.heap.size) w w') (ho : OR F (sput σ l x) w' o (some x))
    (hob : ∀ b, ob o (some x) = some b → w.heap.size ≤ b ∧ b < w'.heap.size) (hv : RV F (sput σ l x) v x) (hs : o.simple = true := by rfl) : Aft base σ F w v (ups [(l, o)] h) x w' :=
  ⟨_, F, g.new hl hbase hw.size hw.block ho hob hs, hv, sput_le (by have := g.obj l; rw [hl] at this; exact this), FExt.refl _ _, hw.under hbase⟩

theorem below_alloc (w : World) (o : Obj) : Kp (ltB w.heap.size) w (w.alloc o) := kp_of ((Below.refl _ _).alloc (Nat.le_refl _) o)

section
variable {P : Program} {base : Blk} {σ : Sig} {F : Fz} {h : List O} {w : World} {a : Act}

theorem zeroV_run {t : TypeId} {z : List V} (hz : zeroV P t = some z) : ∃ i y, P.info? t = some i ∧ i.zero = some y ∧ z = y.cells.toList.map V.kn ∧ (zeroValue t).run P w = .ok y w := by
  unfold zeroV at hz
  cases hi : P.info? t with
  | none => simp [hi] at hz
  | some i =>
    cases hy : i.zero with
    | none => simp [hi, hy] at hz
    | some y =>
      simp [hi, hy] at hz
      exact ⟨i, y, rfl, hy, hz.symm, by simp [zeroValue, typeInfo, hi, hy]⟩

theorem new_cells (g : Gm base σ F h w) {nid : Nat} (hn : getO h nid = .hole) (hbase : Und base w.heap.size) {cs : List V} {arr : Array Value} {e : TypeId}
    (hl : cs.length = arr.size) (hr : ∀ j v, cs[j]? = some v → RV F σ v (arr.getD j undef)) :
    Aft base σ F w (.ptr nid 0) (ups [(nid, .cells cs)] h) (.pointer (some ⟨w.heap.size, 0, none⟩)) (w.alloc (.cells arr e)) := by
  have hs : σ nid = none := by have := g.obj nid; rw [hn] at this; exact this
  refine Aft.new g hn hbase (below_alloc w _) ⟨w.heap.size, arr, e, rfl, heap_alloc_new w _, hl.symm, fun j v hv => (hr j v hv).mono (Fle.refl _) (sput_le hs)⟩ ?_ (.ptr (by simp [sput]))
  intro b hb
  simp [ob] at hb
  subst hb
  simp

theorem getD_map_kn (xs : List Value) (j : Nat) (v : V) (h : (xs.map V.kn)[j]? = some v) : ∃ x, xs[j]? = some x ∧ v = .kn x := by
  simp only [List.getElem?_map, Option.map_eq_some_iff] at h
  obtain ⟨x, hx, rfl⟩ := h
  exact ⟨x, hx, rfl⟩

theorem arr_getD {xs : Array Value} {j : Nat} {x : Value} (h : xs.toList[j]? = some x) : xs.getD j undef = x := by
  have : xs[j]? = some x := by simpa using h
  simp [Array.getD_eq_getD_getElem?, this]

/-- Cells that are known, somewhere. -/
def At (F : Fz) (σ : Sig) (w : World) (b o : Nat) (cs : List V) : Prop := ∀ j v, cs[j]? = some v → ∃ x, w.cell? ⟨b, o + j, none⟩ = some x ∧ RV F σ v x

theorem isAgg_run {t : TypeId} {d : TypeDesc} (hu : P.underlying t = some d) : (isAgg t).run P w = .ok (match d with | .struct _ | .array _ _ => true | _ => false) w := by
  cases d <;> simp [isAgg, underlying, hu]

theorem ld_agg {t : TypeId} {i : TypeInfo} {cs : List V} {off b o : Nat} (hagg : (isAgg t).run P w = .ok true w) (hi : P.info? t = some i)
    (hle : off + i.size ≤ cs.length) (hat : At F σ w b o cs) :
    ∃ x, (loadVar t ⟨b, o + off, none⟩).run P w = .ok x w ∧ RV F σ (.agg ((cs.drop off).take i.size)) x := by
  have hcell : ∀ j, j < i.size → ∃ x, w.cell? ⟨b, o + off + j, none⟩ = some x ∧ ∀ v, cs[off + j]? = some v → RV F σ v x := by
    intro j hj
    have hlt : off + j < cs.length := by omega
    obtain ⟨x, hx, hr⟩ := hat (off + j) cs[off + j] (by simp [hlt])
    exact ⟨x, by rw [show o + off + j = o + (off + j) by omega]; exact hx, fun v hv => by simp [hlt] at hv; subst hv; exact hr⟩
  refine ⟨.agg ((List.range i.size).map fun j => (w.cell? ⟨b, o + off + j, none⟩).getD undef).toArray, ?_, ?_⟩
  · have hl := run_loadCells (P := P) w ⟨b, o + off, none⟩ i.size (fun j => (w.cell? ⟨b, o + off + j, none⟩).getD undef) (fun j hj => by
      obtain ⟨x, hx, _⟩ := hcell j hj
      have hadd : (⟨b, o + off, none⟩ : Addr).add j = ⟨b, o + off + j, none⟩ := by unfold Addr.add; split <;> simp_all
      rw [hadd, hx]; rfl)
    simp [loadVar, hagg, sizeOf, typeInfo, hi, hl]
  · refine .agg (by simp; omega) fun j v hv => ?_
    have hj : j < i.size := by
      have := (List.getElem?_eq_some_iff.1 hv).1
      simp at this; omega
    obtain ⟨x, hx, hr⟩ := hcell j hj
    have : v = v ∧ cs[off + j]? = some v := by
      refine ⟨rfl, ?_⟩
      rw [List.getElem?_take, List.getElem?_drop] at hv
      simpa [hj] using hv
    have hx' : ((List.range i.size).map fun j => (w.cell? ⟨b, o + off + j, none⟩).getD undef).toArray.getD j undef = x := by
      simp [hj, hx, Array.getD_eq_getD_getElem?]
    rw [hx']
    exact hr v this.2

theorem ldAt_run {t : TypeId} {cs : List V} {off b o : Nat} {v : V} (hld : ldAt P t cs off = some v) (hat : At F σ w b o cs) :
    ∃ x, (loadVar t ⟨b, o + off, none⟩).run P w = .ok x w ∧ RV F σ v x := by
  unfold ldAt at hld
  split at hld
  · rename_i hu
    cases hi : P.info? t with
    | none => simp [hi] at hld
    | some i =>
      simp only [hi] at hld
      cases hb : Nat.ble (off + i.size) cs.length with
      | false => simp [hb] at hld
      | true =>
        simp only [hb, cond_true, Option.some.injEq] at hld
        subst hld
        exact ld_agg (by rw [isAgg_run hu]) hi (Nat.le_of_ble_eq_true hb) hat
  · rename_i hu
    cases hi : P.info? t with
    | none => simp [hi] at hld
    | some i =>
      simp only [hi] at hld
      cases hb : Nat.ble (off + i.size) cs.length with
      | false => simp [hb] at hld
      | true =>
        simp only [hb, cond_true, Option.some.injEq] at hld
        subst hld
        exact ld_agg (by rw [isAgg_run hu]) hi (Nat.le_of_ble_eq_true hb) hat
  · rename_i d hn1 hn2 hu
    obtain ⟨x, hx, hr⟩ := hat off v hld
    refine ⟨x, ?_, hr⟩
    have : (isAgg t).run P w = .ok false w := by
      have h1 := isAgg_run (w := w) hu
      cases d <;> first | exact h1 | exact (hn1 _ rfl).elim | exact (hn2 _ _ rfl).elim
    simp [loadVar, this, hx]
  · cases hld

theorem At.cells (g : Gm base σ F h w) {l : Nat} {cs : List V} {b : Nat} (hO : getO h l = .cells cs) (hs : σ l = some (.pointer (some ⟨b, 0, none⟩))) : At F σ w b 0 cs := by
  intro j v hv
  have := g.obj l
  rw [hO] at this
  obtain ⟨b', arr, e, hb', hh, hz, hr⟩ := this
  rw [hs] at hb'
  cases hb'
  have hj : j < arr.size := by have := (List.getElem?_eq_some_iff.1 hv).1; omega
  refine ⟨arr.getD j undef, ?_, hr j v hv⟩
  simp [World.cell?, hh, Array.getD_eq_getD_getElem?, hj]

theorem At.row (g : Gm base σ F h w) {l : Nat} {e : TypeId} {s n : Nat} {f : Nat → List V} {p : Bool} {b m cap i : Nat} (hO : getO h l = .row e s n f p)
    (hs : σ l = some (.slice (some ⟨b, 0, none⟩) m cap)) (hi : i < n) : At F (sigP p σ) w b (i * s) (f i) := by
  intro j v hv
  have := g.obj l
  rw [hO] at this
  obtain ⟨x, xs, hx, hown, hl, hr, h1⟩ := this
  rw [hs] at hx
  cases hx
  have hj : j < s := by have := (List.getElem?_eq_some_iff.1 hv).1; rw [hl i hi] at this; exact this
  refine ⟨xs.getD (i * s + j) undef, ?_, hr i j v hi hv⟩
  have hlen := hown.1
  have hlt : i * s + j < xs.length := by
    rw [hlen]
    have : (i + 1) * s ≤ n * s := Nat.mul_le_mul_right _ hi
    rw [Nat.add_mul] at this
    omega
  have := hown.cells (g := b) rfl (i * s + j) xs[i * s + j] (by simp [hlt])
  have hadd : (⟨b, 0, none⟩ : Addr).add (i * s + j) = ⟨b, i * s + j, none⟩ := by unfold Addr.add; split <;> simp_all
  rw [hadd] at this
  simpa [List.getD, List.getElem?_eq_getElem hlt] using this

theorem sigP_sle (p : Bool) (σ : Sig) : Sle (sigP p σ) σ := by
  cases p
  · exact Sle.refl _
  · intro l x e; simp [sigP, sig0] at e

theorem stAt_spec : ∀ (cs : List V) (off : Nat) (xs cs' : List V), stAt cs off xs = some cs' →
    off + xs.length ≤ cs.length ∧ cs'.length = cs.length ∧ ∀ i, cs'[i]? = if off ≤ i ∧ i < off + xs.length then xs[i - off]? else cs[i]?
  | cs, 0, [], cs', h => by simp [stAt] at h; subst h; exact ⟨by simp, rfl, fun i => by simp⟩
  | [], n + 1, xs, cs', h => by simp [stAt] at h
  | [], 0, x :: xs, cs', h => by simp [stAt] at h
  | c :: r, 0, x :: xs, cs', h => by
    simp only [stAt, Option.map_eq_some_iff] at h
    obtain ⟨r', hr, rfl⟩ := h
    obtain ⟨h1, h2, h3⟩ := stAt_spec r 0 xs r' hr
    refine ⟨by simp at h1 ⊢; omega, by simp [h2], fun i => ?_⟩
    cases i with
    | zero => simp
    | succ i =>
      have := h3 i
      simp at this ⊢
      exact this
  | c :: r, n + 1, xs, cs', h => by
    simp only [stAt, Option.map_eq_some_iff] at h
    obtain ⟨r', hr, rfl⟩ := h
    obtain ⟨h1, h2, h3⟩ := stAt_spec r n xs r' hr
    refine ⟨by simp; omega, by simp [h2], fun i => ?_⟩
    cases i with
    | zero => simp
    | succ i =>
      have := h3 i
      simp only [List.getElem?_cons_succ, this]
      by_cases hc : n ≤ i ∧ i < n + xs.length
      · rw [if_pos hc, if_pos (by omega), show i + 1 - (n + 1) = i - n by omega]
      · rw [if_neg hc, if_neg (by omega)]

/-- Known cells beside an array of them. -/
def CR (F : Fz) (σ : Sig) (cs : List V) (arr : Array Value) : Prop := cs.length = arr.size ∧ ∀ j v, cs[j]? = some v → RV F σ v (arr.getD j undef)

theorem fold_spec (off : Nat) : ∀ (ys : List (Value × Nat)) (k : Nat) (arr : Array Value), (∀ i p, ys[i]? = some p → p.2 = k + i) → off + k + ys.length ≤ arr.size →
    (ys.foldl (fun cs (c, j) => cs.setIfInBounds (off + j) c) arr).size = arr.size ∧
    ∀ i, (ys.foldl (fun cs (c, j) => cs.setIfInBounds (off + j) c) arr).getD i undef = if off + k ≤ i ∧ i < off + k + ys.length then ((ys[i - (off + k)]?).map (·.1)).getD undef else arr.getD i undef
  | [], k, arr, _, _ => ⟨rfl, fun i => by simp; intro h1 h2; omega⟩
  | (c, j) :: r, k, arr, hk, hl => by
    have hj : j = k := by have := hk 0 (c, j) (by simp); simpa using this
    subst hj
    simp only [List.length_cons] at hl
    have ih := fold_spec off r (j + 1) (arr.setIfInBounds (off + j) c) (fun i p hp => by have := hk (i + 1) p (by simpa using hp); omega) (by simp; omega)
    refine ⟨by simpa using ih.1, fun i => ?_⟩
    simp only [List.foldl_cons]
    rw [ih.2 i]
    by_cases h1 : off + (j + 1) ≤ i ∧ i < off + (j + 1) + r.length
    · rw [if_pos h1, if_pos (by simp; omega)]
      rw [show i - (off + j) = (i - (off + (j + 1))) + 1 by omega]
      simp
    · rw [if_neg h1]
      by_cases h2 : i = off + j
      · subst h2
        rw [if_pos (by simp)]
        have hlt : off + j < arr.size := by omega
        simp [Array.getD_eq_getD_getElem?, hlt]
      · rw [if_neg (by simp; omega)]
        simp only [Array.getD_eq_getD_getElem?]
        rw [Array.getElem?_setIfInBounds_ne (by omega)]

theorem stAt_CR {cs cs' xs : List V} {off : Nat} {arr ys : Array Value} (hst : stAt cs off xs = some cs') (h : CR F σ cs arr) (hx : CR F σ xs ys) :
    off + ys.size ≤ arr.size ∧ CR F σ cs' (ys.zipIdx.foldl (fun cs (c, j) => cs.setIfInBounds (off + j) c) arr) := by
  obtain ⟨h1, h2, h3⟩ := stAt_spec cs off xs cs' hst
  have hle : off + ys.size ≤ arr.size := by rw [← hx.1, ← h.1]; exact h1
  have hf := fold_spec off ys.zipIdx.toList 0 arr (fun i p hp => by
    simp only [Array.toList_zipIdx, List.getElem?_zipIdx] at hp
    cases hy : ys.toList[i]? with
    | none => rw [hy] at hp; simp at hp
    | some y => rw [hy] at hp; simp at hp; subst hp; simp) (by simpa using hle)
  rw [Array.foldl_toList] at hf
  refine ⟨hle, by rw [hf.1, h2]; exact h.1, fun j v hv => ?_⟩
  rw [h3 j] at hv
  rw [hf.2 j]
  by_cases hc : off ≤ j ∧ j < off + xs.length
  · rw [if_pos hc] at hv
    rw [if_pos (by simp; rw [← hx.1]; omega)]
    have := hx.2 (j - off) v hv
    have hj : j - off < ys.size := by rw [← hx.1]; omega
    simpa [hj, Array.getD_eq_getD_getElem?] using this
  · rw [if_neg hc] at hv
    rw [if_neg (by simp; rw [← hx.1]; omega)]
    exact h.2 j v hv

theorem fillV_run (hone : ∀ l y, σ l = some y → y.oneCell' = true) (place : Nat → Option (Nat × Nat)) : ∀ (ps : List (Nat × V)) (qs : List (Nat × Value)) (cs cs' : List V) (arr : Array Value),
    ps.length = qs.length → (∀ (i : Nat) (p : Nat × V) (q : Nat × Value), ps[i]? = some p → qs[i]? = some q → p.1 = q.1 ∧ RV F σ p.2 q.2) → fillV place cs ps = some cs' → CR F σ cs arr →
    ∃ arr', Instr.fill place arr qs = some arr' ∧ CR F σ cs' arr'
  | [], [], cs, cs', arr, _, _, hf, h => by simp [fillV] at hf; subst hf; exact ⟨arr, rfl, h⟩
  | [], _ :: _, _, _, _, hl, _, _, _ => by simp at hl
  | _ :: _, [], _, _, _, hl, _, _, _ => by simp at hl
  | (i, v) :: ps, (j, x) :: qs, cs, cs', arr, hl, hr, hf, h => by
    obtain ⟨hij, hrx⟩ := hr 0 (i, v) (j, x) rfl rfl
    simp only at hij hrx
    subst hij
    simp only [fillV] at hf
    cases hp : place i with
    | none => simp [hp] at hf
    | some os =>
      obtain ⟨off, size⟩ := os
      cases hc : v.cs with
      | none => simp [hp, hc] at hf
      | some xs =>
        simp only [hp, hc] at hf
        cases hb : Nat.beq xs.length size with
        | false => simp [hb] at hf
        | true =>
          simp only [hb, cond_true] at hf
          cases hs : stAt cs off xs with
          | none => simp [hs] at hf
          | some cs1 =>
            simp only [hs, Option.bind_some] at hf
            have hx := RV.cs hc hrx hone
            have hsz : xs.length = size := Nat.eq_of_beq_eq_true hb
            obtain ⟨hle, hcr⟩ := stAt_CR hs h hx
            obtain ⟨arr', h1, h2⟩ := fillV_run hone place ps qs cs1 cs' _ (by simpa using hl) (fun k p q hp hq => hr (k + 1) p q (by simpa using hp) (by simpa using hq)) hf hcr
            refine ⟨arr', ?_, h2⟩
            simp only [Instr.fill, hp]
            rw [if_neg]
            · exact h1
            · rw [← hsz, hx.1]
              simp
              omega

/-- A store into cells that are known. -/
theorem st_run (g : Gm base σ F h w) {t : TypeId} {v : V} {x : Value} {xs cs cs' : List V} {l off b : Nat} (hO : getO h l = .cells cs) (hs : σ l = some (.pointer (some ⟨b, 0, none⟩)))
    (hxs : v.cs = some xs) (hr : RV F σ v x) (hlen : xs.length = sz P t) (hone : xs.all V.one = true) (hst : stAt cs off xs = some cs') (hbase : ¬ base b) (hi : ∃ i, P.info? t = some i) :
    ∃ w', (storeVar t ⟨b, off, none⟩ x).run P w = .ok () w' ∧ Gm base σ F (putO h l (.cells cs')) w' ∧ Kp base w w' := by
  have ho := g.obj l
  rw [hO] at ho
  obtain ⟨b', arr, e, hb', hh, hz, hcr⟩ := ho
  rw [hs] at hb'; cases hb'
  have hx := RV.cs hxs hr g.one
  obtain ⟨h1, h2, h3⟩ := stAt_spec cs off xs cs' hst
  have hoc : ∀ u ∈ x.cells.toList, u.oneCell' = true := by
    intro u hu
    obtain ⟨j, hj, rfl⟩ := List.getElem_of_mem hu
    have hj' : j < xs.length := by rw [hx.1]; simpa using hj
    have hv := hx.2 j xs[j] (by simp [hj'])
    have hv1 : xs[j].one = true := by rw [List.all_eq_true] at hone; exact hone _ (List.getElem_mem hj')
    have := RV.one hv1 hv g.one
    simpa [Array.getD_eq_getD_getElem?, show j < x.cells.size by rw [← hx.1]; exact hj'] using this
  obtain ⟨i, hi⟩ := hi
  have hsize : x.cells.size = i.size := by rw [← hx.1, hlen]; simp [sz, Program.cellsOf, hi]
  have hfit : off + 0 + x.cells.toList.length ≤ arr.size := by rw [hz]; simp only [Array.length_toList]; rw [← hx.1]; omega
  have hrun := run_storeCells_at P b off e x.cells.toList 0 arr w hh hfit hoc
  have hrun' : (storeVar t ⟨b, off, none⟩ x).run P w = .ok () (w.setRow b (arr.toList.take (off + 0) ++ x.cells.toList ++ arr.toList.drop (off + 0 + x.cells.toList.length)).toArray) := by
    rw [← hrun]; simp [storeVar, sizeOf, typeInfo, hi, hsize]
  refine ⟨_, hrun', ?_, ?_⟩
  · refine g.upd (.inl (by simp [ob, hO, hs])) (by simp) (fun k _ hk => ?_) ?_
    · rw [hO, hs] at hk
      simp [ob] at hk
      exact setRow_other w b k _ hk
    · rw [hs]
      refine ⟨b, _, e, rfl, setRow_heap w b arr _ e _ hh, ?_, fun j u hu => ?_⟩
      · simp only [Nat.add_zero, Array.length_toList, List.size_toArray, List.length_append, List.length_take, List.length_drop]
        rw [h2, hz]
        simp only [Array.length_toList, Nat.add_zero] at hfit
        omega
      · rw [h3 j] at hu
        simp only [Nat.add_zero, Array.length_toList] at hfit ⊢
        by_cases hc : off ≤ j ∧ j < off + xs.length
        · rw [if_pos hc] at hu
          have := hx.2 (j - off) u hu
          have e1 : ((arr.toList.take off ++ x.cells.toList ++ arr.toList.drop (off + x.cells.size)).toArray).getD j undef = x.cells.getD (j - off) undef := by
            simp only [Array.getD_eq_getD_getElem?, List.getElem?_toArray]
            rw [List.getElem?_append_left (by simp; rw [← hx.1]; omega), List.getElem?_append_right (by simp; omega)]
            simp [show min off arr.size = off by omega]
          rw [e1]; exact this
        · rw [if_neg hc] at hu
          have := hcr j u hu
          have hj : j < arr.size := by have := (List.getElem?_eq_some_iff.1 hu).1; omega
          have e1 : ((arr.toList.take off ++ x.cells.toList ++ arr.toList.drop (off + x.cells.size)).toArray).getD j undef = arr.getD j undef := by
            simp only [Array.getD_eq_getD_getElem?, List.getElem?_toArray]
            by_cases hlt : j < off
            · rw [List.append_assoc, List.getElem?_append_left (by simp; omega), List.getElem?_take, if_pos hlt]
              simp
            · rw [List.getElem?_append_right (by simp; omega)]
              simp only [List.length_append, List.length_take, Array.length_toList, List.getElem?_drop]
              rw [show min off arr.size = off by omega]
              rw [← hx.1] at hfit ⊢
              rw [show off + xs.length + (j - (off + xs.length)) = j by omega]
              simp
          rw [e1]; exact this
  · exact ⟨rfl, rfl, rfl, by simp, fun k hk => setRow_other w b k _ (fun e => hbase (e ▸ hk))⟩

/-- append, over whatever row of the run's own. -/
theorem append_run {t ty e : TypeId} {i : TypeInfo} {z : Value} {size : Nat} (ht : P.underlying t = some (.slice e)) (hi : P.info? e = some i) (hz : i.zero = some z)
    (hsize : i.size = size) (hzs : z.cells.size = size) (hsz : 0 < size) {v : Value} {n : Nat} {xs : List Value} (hown : w.ownsRow 0 e size v n xs)
    {oa : Option Addr} {m c : Nat} {news : List Value} (hl : news.length = m * size) (hnews : ∀ ad, oa = some ad → ∀ j u, news[j]? = some u → w.cell? (ad.add j) = some u) (hoa : oa = none → m = 0) (h1 : ∀ u ∈ news, u.oneCell' = true)
    (h63 : n + m ≤ maxLen) (hbytes : (n + m) * i.bytes ≤ 140737488355328) :
    ∃ v' w', (Builtin.append_ #[t, t] ty #[v, .slice oa m c]).run P w = .ok v' w' ∧ w'.ownsRow 0 e size v' (n + m) (xs ++ news) ∧ w.grownBy w' v.ownBlock ∧
      (v'.ownBlock = v.ownBlock ∨ ∃ b, v'.ownBlock = some b ∧ w.heap.size ≤ b) := by
  subst hsize
  have hsmall : n + m ≤ 9223372036854775807 := by simp only [maxLen] at h63; omega
  by_cases hm : m = 0
  · subst hm
    have hn : news = [] := List.eq_nil_of_length_eq_zero (by simpa using hl)
    subst hn
    refine ⟨v, w, ?_, by simpa using hown, ⟨rfl, rfl, rfl, Nat.le_refl _, fun _ _ _ => rfl⟩, .inl rfl⟩
    rcases hown.2 with ⟨rfl, rfl⟩ | ⟨g, cap, cur, rfl, _, _, hnc, _⟩
    · cases oa <;> simp [Builtin.append_, run_underlying ht, sizeOf, typeInfo, hi, Builtin.lenOf, Builtin.firstCells, loadCells, loadCellsFrom]
    · cases oa <;> simp [Builtin.append_, run_underlying ht, sizeOf, typeInfo, hi, Builtin.lenOf, Builtin.firstCells, hnc, storeCells, loadCells, loadCellsFrom]
  · cases oa with
    | none => exact (hm (hoa rfl)).elim
    | some ad =>
      have hnews' := hnews ad rfl
      have hlen : (xs ++ news).length = (n + m) * i.size := by rw [List.length_append, hown.1, hl, Nat.add_mul]
      have grown : ∀ (old : Nat), old < n + m → ∀ (row : Option Nat),
          (w.drew.alloc (.cells (xs.toArray ++ news.toArray ++ Builtin.zeroCells z.cells (grownCap w (n + m) old e - (n + m))) e)).ownsRow 0 e i.size
            (.slice (some ⟨w.heap.size, 0, none⟩) (n + m) (grownCap w (n + m) old e)) (n + m) (xs ++ news) ∧
          w.grownBy (w.drew.alloc (.cells (xs.toArray ++ news.toArray ++ Builtin.zeroCells z.cells (grownCap w (n + m) old e - (n + m))) e)) row := by
        intro old ho row
        have hge := grownCap_ge w (n + m) old e
        have hcm : grownCap w (n + m) old e ≤ maxLen := grownCap_le_maxLen w (n + m) old e h63
        refine ⟨⟨hlen, .inr ⟨w.heap.size, _, _, rfl, Nat.zero_le _, heap_alloc_new w.drew _, hge, hcm, ?_, ?_⟩⟩, ⟨rfl, rfl, rfl, by simp, fun k hk _ => heap_alloc_old w.drew _ k hk⟩⟩
        · simp only [Array.size_append, List.size_toArray, size_zeroCells, hzs, hown.1, hl, ← Nat.add_mul]
          congr 1
          omega
        · simp only [Array.toList_append, List.append_assoc]
          rw [← List.append_assoc, ← hlen]
          exact List.take_left
      rcases hown.2 with ⟨rfl, rfl⟩ | ⟨g, cap, cur, rfl, hbg, hg, hnc, hcm, hcs, htake⟩
      · have hx : xs = [] := List.eq_nil_of_length_eq_zero (by simpa using hown.1)
        subst hx
        have hr := run_append_nil (P := P) w t ty e i z ht hi hz ad m c news hl hnews' (by omega) (by omega) (by have hb := hbytes; simp only [Nat.zero_add] at hb; omega)
        have hgr := grown 0 (by omega) (Value.ownBlock (.slice none 0 0))
        simp only [Nat.zero_add, List.nil_append, Array.empty_append] at hgr ⊢
        exact ⟨_, _, hr, hgr.1, hgr.2, .inr ⟨_, rfl, Nat.le_refl _⟩⟩
      · by_cases hroom : n + m ≤ cap
        · have hfit : n * i.size + news.length ≤ cur.size := by rw [hl, hcs, ← Nat.add_mul]; exact Nat.mul_le_mul_right _ hroom
          have hr := run_append_room (P := P) w t ty e i ht hi g n cap cur hg ad m c news hl hnews' h1 hroom hfit
          refine ⟨_, _, hr, ⟨hlen, .inr ⟨g, cap, _, rfl, hbg, setRow_heap w g cur _ e _ hg, hroom, hcm, ?_, ?_⟩⟩, ⟨rfl, rfl, rfl, by simp, fun k _ hk => setRow_other w g k _ (fun e => hk (by simp [Value.ownBlock, e]))⟩, .inl rfl⟩
          · simp only [List.size_toArray, List.length_append, List.length_take, List.length_drop, Array.length_toList]
            omega
          · rw [htake, ← hlen]
            exact List.take_left
        · have holds : ∀ j u, xs[j]? = some u → w.cell? ((⟨g, 0, none⟩ : Addr).add j) = some u := hown.cells (g := g) rfl
          have hr := run_append_grow (P := P) w t ty e i z ht hi hz ⟨g, 0, none⟩ n cap xs hown.1 holds ad m c news hl hnews' (by omega) (by omega) (growslice_fits (by omega) hbytes)
          have hgr := grown cap (by omega) (Value.ownBlock (.slice (some ⟨g, 0, none⟩) n cap))
          exact ⟨_, _, hr, hgr.1, hgr.2, .inr ⟨_, rfl, Nat.le_refl _⟩⟩

theorem ownsRow_base {v : Value} {e : TypeId} {s n : Nat} {xs : List Value} (hown : w.ownsRow 0 e s v n xs) {l : Nat} {f : Nat → List V} {p : Bool} (g : Gm base σ F h w) (hO : getO h l = .row e s n f p) (hs : σ l = some v) :
    ∀ b, v.ownBlock = some b → ¬ base b ∧ b < w.heap.size := by
  intro b hb
  have := g.own l b (by rw [hO, hs]; exact hb)
  exact ⟨this.1, this.2.1⟩

/-- A store into an element of a row. -/
theorem st_el_run (g : Gm base σ F h w) {t : TypeId} {v : V} {x : Value} {xs cs' : List V} {e : TypeId} {l s n i off b m cap : Nat} {f : Nat → List V} {p : Bool} (hO : getO h l = .row e s n f p) (hs : σ l = some (.slice (some ⟨b, 0, none⟩) m cap))
    (hxs : v.cs = some xs) (hr : RV F σ v x) (hlen : xs.length = sz P t) (hone : xs.all V.one = true) (hst : stAt (f i) off xs = some cs') (hi : ∃ i, P.info? t = some i) (hin : i < n) :
    ∃ w', (storeVar t ⟨b, i * s + off, none⟩ x).run P w = .ok () w' ∧ Gm base σ F (putO h l (.row e s n (fun j => bif Nat.beq j i then cs' else f j) (p && xs.all V.pure0))) w' ∧ Kp base w w' := by
  have ho := g.obj l
  rw [hO] at ho
  obtain ⟨hv, vs, hhv, hown, hfl, hfr, h1⟩ := ho
  rw [hs] at hhv; cases hhv
  have hbb := ownsRow_base hown g hO hs b rfl
  have hx := RV.cs hxs hr g.one
  obtain ⟨s1, s2, s3⟩ := stAt_spec (f i) off xs cs' hst
  rw [hfl i hin] at s1
  have hoc : ∀ u ∈ x.cells.toList, u.oneCell' = true := by
    intro u hu
    obtain ⟨j, hj, rfl⟩ := List.getElem_of_mem hu
    have hj' : j < xs.length := by rw [hx.1]; simpa using hj
    have hv := hx.2 j xs[j] (by simp [hj'])
    have hv1 : xs[j].one = true := by rw [List.all_eq_true] at hone; exact hone _ (List.getElem_mem hj')
    have := RV.one hv1 hv g.one
    simpa [Array.getD_eq_getD_getElem?, show j < x.cells.size by rw [← hx.1]; exact hj'] using this
  obtain ⟨ti, hi⟩ := hi
  have hsize : x.cells.size = ti.size := by rw [← hx.1, hlen]; simp [sz, Program.cellsOf, hi]
  rcases hown.2 with ⟨hh, _⟩ | ⟨b', cap', cur, hh, _, hg, hnc, hcm, hcs, htake⟩
  · cases hh
  · cases hh
    have hle : (i + 1) * s ≤ n * s := Nat.mul_le_mul_right _ hin
    have hle2 : n * s ≤ cap * s := Nat.mul_le_mul_right _ hnc
    rw [Nat.add_mul] at hle
    have hxl : x.cells.size = xs.length := hx.1.symm
    have hfit : i * s + off + 0 + x.cells.toList.length ≤ cur.size := by rw [hcs]; simp only [Array.length_toList]; omega
    have hrun := run_storeCells_at P b (i * s + off) e x.cells.toList 0 cur w hg hfit hoc
    have hrun' : (storeVar t ⟨b, i * s + off, none⟩ x).run P w = .ok () (w.setRow b (cur.toList.take (i * s + off + 0) ++ x.cells.toList ++ cur.toList.drop (i * s + off + 0 + x.cells.toList.length)).toArray) := by
      rw [← hrun]; simp [storeVar, sizeOf, typeInfo, hi, hsize]
    simp only [Nat.add_zero, Array.length_toList] at hfit hrun'
    have hvl : vs.length = n * s := hown.1
    have hvs : ∀ j, j < n * s → vs[j]? = cur.toList[j]? := fun j hj => by rw [← htake, List.getElem?_take, if_pos hj]
    have hcl : cur.toList.length = cap * s := by rw [Array.length_toList]; exact hcs
    refine ⟨_, hrun', ?_, ⟨rfl, rfl, rfl, by simp, fun k hk => setRow_other w b k _ (fun e => hbb.1 (e ▸ hk))⟩⟩
    refine g.upd (.inl (by simp [ob, hO, hs])) (by simp) (fun k _ hk => ?_) ?_
    · rw [hO, hs] at hk
      simp [ob, Value.ownBlock] at hk
      exact setRow_other w b k _ hk
    · rw [hs]
      generalize hnew : cur.toList.take (i * s + off) ++ x.cells.toList ++ cur.toList.drop (i * s + off + x.cells.size) = new
      have hnl : new.length = cap * s := by
        rw [← hnew]; simp only [List.length_append, List.length_take, List.length_drop, Array.length_toList]; omega
      have hget : ∀ k, new[k]? = if i * s + off ≤ k ∧ k < i * s + off + xs.length then x.cells.toList[k - (i * s + off)]? else cur.toList[k]? := by
        intro k
        rw [← hnew]
        by_cases hc : i * s + off ≤ k ∧ k < i * s + off + xs.length
        · rw [if_pos hc, List.getElem?_append_left (by simp only [List.length_append, List.length_take, Array.length_toList]; omega), List.getElem?_append_right (by simp only [List.length_take, Array.length_toList]; omega)]
          congr 1
          simp only [List.length_take, Array.length_toList]; omega
        · rw [if_neg hc]
          by_cases hlt : k < i * s + off
          · rw [List.append_assoc, List.getElem?_append_left (by simp only [List.length_take, Array.length_toList]; omega), List.getElem?_take, if_pos hlt]
          · rw [List.getElem?_append_right (by simp only [List.length_append, List.length_take, Array.length_toList]; omega)]
            simp only [List.length_append, List.length_take, Array.length_toList, List.getElem?_drop]
            congr 1
            omega
      refine ⟨_, new.take (n * s), rfl, ⟨by rw [List.length_take, hnl]; omega, .inr ⟨b, cap, new.toArray, rfl, Nat.zero_le _, setRow_heap w b cur _ e _ hg, hnc, hcm, by simpa using hnl, rfl⟩⟩, ?_, ?_, ?_⟩
      · intro j hj
        show (bif Nat.beq j i then cs' else f j).length = s
        by_cases hji : j = i
        · subst hji; simp only [Nat.beq_refl, cond_true]; rw [s2]; exact hfl j hj
        · rw [show Nat.beq j i = false by rw [← Bool.not_eq_true]; exact fun hh => hji (Nat.eq_of_beq_eq_true hh)]
          exact hfl j hj
      · intro j k u hj hu
        replace hu : (bif Nat.beq j i then cs' else f j)[k]? = some u := hu
        have hle3 : (j + 1) * s ≤ n * s := Nat.mul_le_mul_right _ hj
        rw [Nat.add_mul] at hle3
        have hD : ∀ q, q < n * s → ∀ y, new[q]? = some y → (new.take (n * s)).getD q undef = y := fun q hq y hy => by
          simp [List.getD, hq, hy]
        by_cases hji : j = i
        · subst hji
          simp only [Nat.beq_refl, cond_true] at hu
          have hk : k < s := by have := (List.getElem?_eq_some_iff.1 hu).1; rw [s2, hfl j hj] at this; exact this
          rw [s3 k] at hu
          by_cases hc : off ≤ k ∧ k < off + xs.length
          · rw [if_pos hc] at hu
            have hux := hx.2 (k - off) u hu
            have hkx : k - off < x.cells.size := by rw [← hx.1]; omega
            have hy : new[j * s + k]? = some (x.cells.getD (k - off) undef) := by
              rw [hget, if_pos (by omega), show j * s + k - (j * s + off) = k - off by omega]
              simp [Array.getD_eq_getD_getElem?, hkx]
            rw [hD _ (by omega) _ hy]
            cases hp : (p && xs.all V.pure0) with
            | false => exact hux
            | true =>
              have h2 : xs.all V.pure0 = true := by simp at hp; simpa using hp.2
              exact RV.pure0 (List.all_eq_true.1 h2 _ (List.mem_of_getElem? hu)) hux
          · rw [if_neg hc] at hu
            have hux := hfr j k u hj hu
            have hy : new[j * s + k]? = some (vs.getD (j * s + k) undef) := by
              rw [hget, if_neg (by omega), ← hvs _ (by omega)]
              simp [List.getD, show j * s + k < vs.length by omega]
            rw [hD _ (by omega) _ hy]
            cases p with
            | false => exact hux
            | true =>
              cases hp : xs.all V.pure0 with
              | true => exact hux
              | false => exact hux.mono (Fle.refl _) (sigP_sle _ _)
        · rw [show Nat.beq j i = false by rw [← Bool.not_eq_true]; exact fun hh => hji (Nat.eq_of_beq_eq_true hh)] at hu
          simp only [cond_false] at hu
          have hk : k < s := by have := (List.getElem?_eq_some_iff.1 hu).1; rw [hfl j hj] at this; exact this
          have hux := hfr j k u hj hu
          have hne : ¬ (i * s + off ≤ j * s + k ∧ j * s + k < i * s + off + xs.length) := by
            rcases Nat.lt_or_gt_of_ne hji with hlt | hgt
            · have : (j + 1) * s ≤ i * s := Nat.mul_le_mul_right _ hlt
              rw [Nat.add_mul] at this
              omega
            · have : (i + 1) * s ≤ j * s := Nat.mul_le_mul_right _ hgt
              rw [Nat.add_mul] at this
              omega
          have hy : new[j * s + k]? = some (vs.getD (j * s + k) undef) := by
            rw [hget, if_neg hne, ← hvs _ (by omega)]
            simp [List.getD, show j * s + k < vs.length by omega]
          rw [hD _ (by omega) _ hy]
          cases p with
          | false => exact hux
          | true =>
            cases hp : xs.all V.pure0 with
            | true => exact hux
            | false => exact hux.mono (Fle.refl _) (sigP_sle _ _)
      · intro u hu
        have hu' := List.mem_of_mem_take hu
        rw [← hnew] at hu'
        obtain ⟨q, hq, hqe⟩ := List.getElem_of_mem hu
        have hq2 : q < n * s := by rw [List.length_take] at hq; omega
        have : new[q]? = some u := by
          have := List.getElem?_eq_getElem hq
          rw [hqe, List.getElem?_take, if_pos hq2] at this
          exact this
        rw [hget] at this
        split at this
        · exact hoc u (List.mem_of_getElem? this)
        · rw [← hvs q hq2] at this
          exact h1 u (List.mem_of_getElem? this)

theorem zeroRow_get (z : List V) : ∀ (n j : Nat), (zeroRow z n).length = n * z.length ∧ (zeroRow z n)[j]? = if j < n * z.length then z[j % z.length]? else none
  | 0, j => by simp [zeroRow]
  | n + 1, j => by
    have ih := zeroRow_get z n
    refine ⟨by simp [zeroRow, (ih 0).1, Nat.add_mul]; omega, ?_⟩
    simp only [zeroRow]
    by_cases hj : j < z.length
    · rw [List.getElem?_append_left hj, if_pos (by rw [Nat.add_mul]; omega), Nat.mod_eq_of_lt hj]
    · rw [List.getElem?_append_right (by omega), (ih (j - z.length)).2]
      by_cases h2 : j - z.length < n * z.length
      · rw [if_pos h2, if_pos (by rw [Nat.add_mul]; omega), Nat.mod_eq_sub_mod (by omega : j ≥ z.length)]
      · rw [if_neg h2, if_neg (by rw [Nat.add_mul]; omega)]

theorem CR_kn (F : Fz) (σ : Sig) (y : Array Value) : CR F σ (y.toList.map V.kn) y := by
  refine ⟨by simp, fun j v hv => ?_⟩
  obtain ⟨x, hx, rfl⟩ := getD_map_kn _ _ _ hv
  rw [arr_getD hx]
  exact .kn

theorem rowF_get (cs : List V) (s i j : Nat) (v : V) (h : (rowF cs s i)[j]? = some v) : j < s ∧ cs[i * s + j]? = some v := by
  unfold rowF at h
  rw [List.getElem?_take] at h
  split at h
  · rw [List.getElem?_drop] at h; exact ⟨‹_›, h⟩
  · cases h

theorem rowF_len (cs : List V) (s i n : Nat) (hl : cs.length = n * s) (hi : i < n) : (rowF cs s i).length = s := by
  unfold rowF
  have : (i + 1) * s ≤ n * s := Nat.mul_le_mul_right _ hi
  rw [Nat.add_mul] at this
  simp only [List.length_take, List.length_drop]
  omega

/-- A new row out of cells. -/
theorem new_row (g : Gm base σ F h w) {nid : Nat} (hn : getO h nid = .hole) (hbase : Und base w.heap.size) {cs : List V} {arr : Array Value} {e : TypeId} {s n : Nat}
    (hc : CR F σ cs arr) (hl : cs.length = n * s) (hm : n ≤ maxLen) (h1 : cs.all V.one = true) :
    Aft base σ F w (.sl nid) (ups [(nid, .row e s n (rowF cs s) (cs.all V.pure0))] h) (.slice (some ⟨w.heap.size, 0, none⟩) n n) (w.alloc (.cells arr e)) := by
  have hs : σ nid = none := by have := g.obj nid; rw [hn] at this; exact this
  have hown := World.ownsRow_lit (base := 0) (e := e) (size := s) w arr n (Nat.zero_le _) hm (by rw [← hc.1]; exact hl)
  refine Aft.new g hn hbase (below_alloc w _) ⟨_, _, rfl, hown, fun i hi => rowF_len cs s i n hl hi, fun i j u hi hu => ?_, fun u hu => ?_⟩ ?_ (.sl (by simp [sput]))
  · obtain ⟨_, hu'⟩ := rowF_get cs s i j u hu
    have hr := hc.2 _ u hu'
    have hlt : i * s + j < arr.size := by rw [← hc.1]; exact (List.getElem?_eq_some_iff.1 hu').1
    have e1 : arr.toList.getD (i * s + j) undef = arr.getD (i * s + j) undef := by simp [List.getD, Array.getD_eq_getD_getElem?, hlt]
    rw [e1]
    cases hp : cs.all V.pure0 with
    | false => exact hr.mono (Fle.refl _) (sput_le hs)
    | true => exact RV.pure0 (List.all_eq_true.1 hp _ (List.mem_of_getElem? hu')) hr
  · obtain ⟨q, hq, rfl⟩ := List.getElem_of_mem hu
    have hq' : q < cs.length := by rw [hc.1]; simpa using hq
    have hr := hc.2 q cs[q] (by simp [hq'])
    have := RV.one (List.all_eq_true.1 h1 _ (List.getElem_mem hq')) hr g.one
    simpa [Array.getD_eq_getD_getElem?, show q < arr.size by simpa using hq] using this
  · intro b hb
    simp [ob, Value.ownBlock] at hb
    subst hb
    simp

/-- The source of an append. -/
theorem src_spec (g : Gm base σ F h w) {b : V} {x : Value} {s m : Nat} {f : Nat → List V} (hv : view (getO h) b = some (s, m, f)) (hr : RV F σ b x) (hs : 0 < s) (hb : ∀ a n c, b = .kn (.slice a n c) → False) :
    ∃ (oa : Option Addr) (c : Nat) (news : List Value), x = .slice oa m c ∧ news.length = m * s ∧ (∀ ad, oa = some ad → ∀ j u, news[j]? = some u → w.cell? (ad.add j) = some u) ∧ (oa = none → m = 0) ∧ (∀ u ∈ news, u.oneCell' = true) ∧
      (∀ i, i < m → (f i).length = s) ∧ ∀ i j u, i < m → (f i)[j]? = some u → RV F (sigP (pureOf (getO h) b) σ) u (news.getD (i * s + j) undef) := by
  have key : ∀ {i j : Nat}, j < s → (i * s + j) / s = i ∧ (i * s + j) % s = j := fun {i j} hj =>
    ⟨by rw [Nat.mul_comm, Nat.mul_add_div hs, Nat.div_eq_of_lt hj, Nat.add_zero], by rw [Nat.mul_comm, Nat.mul_add_mod, Nat.mod_eq_of_lt hj]⟩
  cases b with
  | list s' n' f' =>
    simp only [view, Option.some.injEq, Prod.mk.injEq] at hv
    obtain ⟨rfl, rfl, rfl⟩ := hv
    cases hr with
    | @list0 _ _ _ _ a cap hn =>
      subst hn
      exact ⟨a, cap, [], rfl, by simp, by simp, fun _ => rfl, by simp, fun i hi => by omega, fun i j u hi => by omega⟩
    | @list _ _ _ _ bb off cap gg hcap hl hc ho hr =>
      refine ⟨_, cap, (List.range (n' * s')).map fun q => gg (q / s') (q % s'), rfl, by simp, fun ad had j u hu => ?_, (fun hh => by cases hh), fun u hu => ?_, hl, fun i j u hi hu => ?_⟩
      · cases had
        simp only [List.getElem?_map, Option.map_eq_some_iff] at hu
        obtain ⟨q, hq, rfl⟩ := hu
        obtain ⟨hq1, hq2⟩ := List.getElem?_eq_some_iff.1 hq
        simp at hq1 hq2
        subst hq2
        have h1 : j / s' < n' := Nat.div_lt_of_lt_mul (by rw [Nat.mul_comm]; exact hq1)
        have h2 := hc (j / s') (j % s') h1 (Nat.mod_lt _ hs)
        have h3 := cellF_cell g h2
        have h4 : off + j / s' * s' + j % s' = off + j := by have := Nat.div_add_mod j s'; rw [Nat.mul_comm] at this; omega
        rw [h4] at h3
        have hadd : (⟨bb, off, none⟩ : Addr).add j = ⟨bb, off + j, none⟩ := by unfold Addr.add; split <;> simp_all
        rw [hadd]; exact h3
      · simp only [List.mem_map, List.mem_range] at hu
        obtain ⟨q, hq, rfl⟩ := hu
        exact ho _ _ (Nat.div_lt_of_lt_mul (by rw [Nat.mul_comm]; exact hq)) (Nat.mod_lt _ hs)
      · have hj : j < s' := by have := (List.getElem?_eq_some_iff.1 hu).1; rw [hl i hi] at this; exact this
        have hlt : i * s' + j < n' * s' := by
          have : (i + 1) * s' ≤ n' * s' := Nat.mul_le_mul_right _ hi
          rw [Nat.add_mul] at this
          omega
        have e1 : ((List.range (n' * s')).map fun q => gg (q / s') (q % s')).getD (i * s' + j) undef = gg i j := by
          simp [List.getD, hlt, (key (i := i) hj).1, (key (i := i) hj).2]
        rw [e1]
        exact hr i j u hi hu
  | sl l =>
    simp only [view] at hv
    cases hO : getO h l with
    | row e s' n' f' p =>
      simp only [hO, Option.some.injEq, Prod.mk.injEq] at hv
      obtain ⟨rfl, rfl, rfl⟩ := hv
      have ho := g.obj l
      rw [hO] at ho
      obtain ⟨v, xs, hx, hown, hl, hr', h1⟩ := ho
      cases hr with
      | sl hsl =>
        rw [hx] at hsl
        cases hsl
        rcases hown.2 with ⟨rfl, rfl⟩ | ⟨g', cap, cur, rfl, _, hg', hnc, _, hcs, htake⟩
        · have : xs = [] := List.eq_nil_of_length_eq_zero (by simpa using hown.1)
          subst this
          exact ⟨none, 0, [], rfl, by simp, by simp, fun _ => rfl, by simp, hl, fun i j u hi => by omega⟩
        · simp only [pureOf, hO]
          refine ⟨_, cap, xs, rfl, hown.1, fun ad had j u hu => ?_, (fun hh => by cases hh), h1, hl, hr'⟩
          cases had
          exact hown.cells (g := g') rfl j u hu
    | _ => simp [hO] at hv
  | kn y =>
    cases y with
    | slice a n c => exact (hb a n c rfl).elim
    | _ => simp [view] at hv
  | _ => simp [view] at hv

/-- append: onto nothing, or onto a row of the run's own. -/
theorem app_sound (g : Gm base σ F h w) {nid : Nat} (hn : getO h nid = .hole) (hbase : Und base w.heap.size) {t ty e : TypeId} {i : TypeInfo} {z : Value} (ht : P.underlying t = some (.slice e)) (hi : P.info? e = some i) (hz : i.zero = some z)
    (hzs : z.cells.size = i.size) (hsz : 0 < i.size) {v : Value} {n : Nat} {xs : List Value} {f f2 : Nat → List V} {p pb : Bool}
    (hown : w.ownsRow 0 e i.size v n xs) (hl1 : ∀ k, k < n → (f k).length = i.size) (hr1 : ∀ k j u, k < n → (f k)[j]? = some u → RV F (sigP p σ) u (xs.getD (k * i.size + j) undef)) (h11 : ∀ u ∈ xs, u.oneCell' = true)
    {m c : Nat} {oa : Option Addr} {news : List Value} (hl : news.length = m * i.size) (hnews : ∀ ad, oa = some ad → ∀ j u, news[j]? = some u → w.cell? (ad.add j) = some u) (hoa : oa = none → m = 0) (h1 : ∀ u ∈ news, u.oneCell' = true)
    (hl2 : ∀ k, k < m → (f2 k).length = i.size) (hr2 : ∀ k j u, k < m → (f2 k)[j]? = some u → RV F (sigP pb σ) u (news.getD (k * i.size + j) undef))
    (h63 : n + m ≤ maxLen) (hbytes : (n + m) * i.bytes ≤ 140737488355328)
    {h' : List O} (hh' : h' = h ∧ v.ownBlock = none ∨ ∃ l e' s' n' f' p', getO h l = .row e' s' n' f' p' ∧ σ l = some v ∧ h' = putO h l .dead) :
    ∃ x w', (Builtin.append_ #[t, t] ty #[v, .slice oa m c]).run P w = .ok x w' ∧
      Aft base σ F w (.sl nid) (putO h' nid (.row e i.size (n + m) (fun j => bif Nat.blt j n then f j else f2 (j - n)) (p && pb))) x w' := by
  obtain ⟨v', w', hrun, hown', hgr, hblk⟩ := append_run (P := P) (ty := ty) ht hi hz rfl hzs hsz hown (c := c) hl hnews hoa h1 h63 hbytes
  refine ⟨v', w', hrun, ?_⟩
  have hs : σ nid = none := by have := g.obj nid; rw [hn] at this; exact this
  have hFn : ∀ b, w.heap.size ≤ b → F b = none := fun b hbb => by
    cases hf : F b with
    | none => rfl
    | some o => have := (Array.getElem?_eq_some_iff.1 (g.fz b o hf)).1; omega
  have g' : ∃ τ, GmT τ base σ F h' w' ∧ getO h' nid = .hole ∧ (∀ b, v.ownBlock = some b → ¬ base b ∧ b < w.heap.size ∧ F b = none ∧ ∀ i, ¬ ab σ (τ i) (getO h' i) (σ i) b) ∧ (∀ i b, ab σ (τ i) (getO h' i) (σ i) b → b < w.heap.size) := by
    obtain ⟨τ, g⟩ := g
    rcases hh' with ⟨rfl, hv⟩ | ⟨l, e', s', n', f', p', hO, hsl, rfl⟩
    · exact ⟨τ, g.still hgr.size fun b hb => hgr.block b hb (by rw [hv]; simp), hn, (fun b hb => by rw [hv] at hb; cases hb), fun i b e => (g.own i b e).2.1⟩
    · have hne : nid ≠ l := fun hh => by subst hh; rw [hn] at hO; cases hO
      have hobl : ob (getO h l) (σ l) = v.ownBlock := by rw [hO, hsl]; rfl
      obtain ⟨g2, hab⟩ := g.updM (l := l) (o := .dead) (t' := fun _ _ => none) hgr.size (fun b hb hbb => hgr.block b hb fun e => hbb (.inl (by rw [hobl]; exact e.symm))) (fun y hy => (g.obj l).one y hy) trivial (fun b e => by rcases e with e | e <;> cases e)
      refine ⟨_, g2, by rw [getO_putO, if_neg hne]; exact hn, fun b hb => ?_, fun i b e => (g.own i b (hab i b e)).2.1⟩
      have h2 := g.own l b (.inl (by rw [hobl]; exact hb))
      refine ⟨h2.1, h2.2.1, h2.2.2, fun i hi => ?_⟩
      by_cases hil : i = l
      · subst hil
        rw [getO_putO, if_pos rfl] at hi
        rcases hi with e | e <;> cases e
      · exact hil (g.sep i l b (hab i b hi) (.inl (by rw [hobl]; exact hb)))
  obtain ⟨τ', g1, hn', hvb, hlt⟩ := g'
  refine ⟨sput σ nid v', F, ⟨_, g1.more (t := fun _ _ => none) hn' (Nat.le_refl _) (fun _ _ => rfl) ⟨v', xs ++ news, rfl, hown', fun k hk => ?_, fun k j u hk hu => ?_, fun u hu => ?_⟩ trivial ?_⟩, .sl (by simp [sput]), sput_le hs, FExt.refl _ _, ?_⟩
  · show (bif Nat.blt k n then f k else f2 (k - n)).length = i.size
    cases hb : Nat.blt k n with
    | true => exact hl1 k (by simpa [Nat.blt_eq] using hb)
    | false =>
      have : ¬ k < n := fun hh => by have h3 : Nat.blt k n = true := (by simpa [Nat.blt_eq] using hh); rw [h3] at hb; cases hb
      exact hl2 (k - n) (by omega)
  · replace hu : (bif Nat.blt k n then f k else f2 (k - n))[j]? = some u := hu
    have hxl := hown.1
    cases hb : Nat.blt k n with
    | true =>
      rw [hb] at hu
      have hkn : k < n := by simpa [Nat.blt_eq] using hb
      have hj : j < i.size := by have := (List.getElem?_eq_some_iff.1 hu).1; simp only [cond_true] at this; rw [hl1 k hkn] at this; exact this
      have hle : (k + 1) * i.size ≤ n * i.size := Nat.mul_le_mul_right _ hkn
      rw [Nat.add_mul] at hle
      have e1 : (xs ++ news).getD (k * i.size + j) undef = xs.getD (k * i.size + j) undef := by
        simp [List.getD, List.getElem?_append_left (show k * i.size + j < xs.length by omega)]
      rw [e1]
      have := hr1 k j u hkn hu
      cases p <;> cases pb <;> first | exact this.mono (Fle.refl _) (sigP_le (p := false) (sput_le hs)) | exact this | exact (this.mono (Fle.refl _) (sigP_sle true σ)).mono (Fle.refl _) (sput_le hs)
    | false =>
      rw [hb] at hu
      simp only [cond_false] at hu
      have hkn : ¬ k < n := fun hh => by have h3 : Nat.blt k n = true := (by simpa [Nat.blt_eq] using hh); rw [h3] at hb; cases hb
      have hj : j < i.size := by have := (List.getElem?_eq_some_iff.1 hu).1; rw [hl2 (k - n) (by omega)] at this; exact this
      have hle : n * i.size ≤ k * i.size := Nat.mul_le_mul_right _ (by omega)
      have e1 : (xs ++ news).getD (k * i.size + j) undef = news.getD ((k - n) * i.size + j) undef := by
        have hsub : k * i.size + j - xs.length = (k - n) * i.size + j := by rw [Nat.sub_mul]; omega
        simp only [List.getD]
        rw [List.getElem?_append_right (by omega), hsub]
      rw [e1]
      have := hr2 (k - n) j u (by omega) hu
      cases p <;> cases pb <;> first | exact this.mono (Fle.refl _) (sigP_le (p := false) (sput_le hs)) | exact this | exact (this.mono (Fle.refl _) (sigP_sle true σ)).mono (Fle.refl _) (sput_le hs)
  · rcases List.mem_append.1 hu with hu | hu
    · exact h11 u hu
    · exact h1 u hu
  · intro b hb
    have hb' : v'.ownBlock = some b := ab_simple rfl hb
    rcases hblk with he | ⟨b', he, hle⟩
    · have h2 := hvb b (by rw [← he]; exact hb')
      exact ⟨h2.1, Nat.lt_of_lt_of_le h2.2.1 hgr.size, h2.2.2⟩
    · rw [he] at hb'
      cases hb'
      have hlt2 : b < w'.heap.size := by
        rcases hown'.2 with ⟨hv', _⟩ | ⟨g2, cap2, cur2, hv', _, hg2, _⟩
        · rw [hv'] at he; cases he
        · rw [hv'] at he
          cases he
          exact (Array.getElem?_eq_some_iff.1 hg2).1
      exact ⟨fun hh => by have := hbase b hh; omega, hlt2, hFn b hle, fun i hi => by have := hlt i b hi; omega⟩
  · exact ⟨hgr.os, hgr.tape, hgr.output, hgr.size, fun k hk => hgr.block k (hbase k hk) fun hh => (hvb k hh.symm).1 hk⟩
end
end Go.Aw

/-
  Rows that are let be: from then on they are lists that stay as they are.
-/
namespace Go.Aw
open Go Go.RowKit
set_option linter.unusedVariables false
set_option linter.unusedSimpArgs false

section
variable {P : Program} {base : Blk} {σ : Sig} {F : Fz} {h : List O} {w : World}

/-- A row, its block among what stays: a list. -/
theorem row_list' {F' : Fz} (hF : Fle F F') (g : Gm base σ F h w) {l : Nat} {e : TypeId} {s n : Nat} {f : Nat → List V} {x : Value} (hO : getO h l = .row e s n f true) (hs : σ l = some x)
    (hblk : ∀ b, ob (getO h l) (σ l) = some b → F' b = w.heap[b]?) : RV F' sig0 (.list s n f) x := by
  have ho := g.obj l
  rw [hO] at ho
  obtain ⟨v, xs, hv, hown, hl, hr, h1⟩ := ho
  rw [hs] at hv; cases hv
  rcases hown.2 with ⟨rfl, rfl⟩ | ⟨b, cap, cur, rfl, _, hg, hnc, _, hcs, htake⟩
  · exact .list0 rfl
  · have hlt : ∀ {i j : Nat}, i < n → j < s → i * s + j < n * s := fun {i j} hi hj => by
      have : (i + 1) * s ≤ n * s := Nat.mul_le_mul_right _ hi
      rw [Nat.add_mul] at this
      omega
    have hxl := hown.1
    have hF2 : F' b = some (.cells cur e (0, 0)) := by
      have hob : ob (getO h l) (σ l) = some b := by rw [hO, hs]; rfl
      rw [hblk b hob]
      exact hg
    refine .list (fun i j => xs.getD (i * s + j) undef) hnc hl (fun i j hi hj => ?_) (fun i j hi hj => ?_) fun i j u hi hu => (hr i j u hi hu).mono hF (Sle.refl _)
    · have hq := hlt hi hj
      simp only [cellF, hF2, Nat.zero_add]
      have : xs[i * s + j]? = cur[i * s + j]? := by rw [← htake, List.getElem?_take, if_pos hq]; simp
      rw [← this]
      simp [List.getD, show i * s + j < xs.length by omega]
    · have hq := hlt hi hj
      have : xs.getD (i * s + j) undef ∈ xs := by simp [List.getD, show i * s + j < xs.length by omega]
      exact h1 _ this

/-- What every pure row that a value names reads as. -/
def Rd (F' : Fz) (σ : Sig) (D : Nat → O) (ids : List Nat) : Prop :=
  (∀ l ∈ ids, ∀ e s n f x, D l = .row e s n f true → σ l = some x → RV F' sig0 (.list s n f) x) ∧ ∀ l ∈ ids, ∀ s n f x, D l = .fz s n f → σ l = some x → RV F' sig0 (.list s n f) x

theorem ids0_sub {v : V} {l : Nat} (h : l ∈ v.ids0) : l ∈ v.ids1 := by cases v <;> simp_all [V.ids0, V.ids1]

variable {D : Nat → O} {F' : Fz}

theorem toPure0_kn (D : Nat → O) (x : Value) : (x = .slice none 0 0 ∧ toPure0 D (.kn x) = some (.list 1 0 fun _ => [])) ∨ toPure0 D (.kn x) = some (.kn x) := by
  cases x with
  | slice a n c =>
    cases a with
    | some a => exact .inr rfl
    | none =>
      cases n with
      | succ n => exact .inr rfl
      | zero => cases c with
        | succ c => exact .inr rfl
        | zero => exact .inl ⟨rfl, rfl⟩
  | _ => exact .inr rfl

theorem toPure0_rv' (hF : Fle F F') {v r : V} {x : Value} (hR : Rd F' σ D v.ids0) (hp : toPure0 D v = some r) (hv : RV F σ v x) : RV F' sig0 r x := by
  cases hv with
  | @kn _ x =>
    rcases toPure0_kn D x with ⟨rfl, e⟩ | e
    · rw [e] at hp; cases hp; exact .list0 rfl
    · rw [e] at hp; cases hp; exact .kn
  | list0 hn => simp only [toPure0, Option.some.injEq] at hp; subst hp; exact .list0 hn
  | list gg a b c d e => simp only [toPure0, Option.some.injEq] at hp; subst hp; exact (RV.list (σ := sig0) gg a b c d e).mono hF (Sle.refl _)
  | rp gg a b => simp only [toPure0, Option.some.injEq] at hp; subst hp; exact (RV.rp (σ := sig0) gg a b).mono hF (Sle.refl _)
  | @sl _ l x hs =>
    simp only [toPure0] at hp
    split at hp
    · rename_i hO
      simp only [Option.some.injEq] at hp
      subst hp
      exact hR.1 l (by simp [V.ids0]) _ _ _ _ _ hO hs
    · rename_i hO
      simp only [Option.some.injEq] at hp
      subst hp
      exact hR.2 l (by simp [V.ids0]) _ _ _ _ hO hs
    · cases hp
  | @fn _ f cap xs hl hh =>
    cases cap with
    | nil =>
      simp only [toPure0, Option.some.injEq] at hp
      subst hp
      exact .fn hl fun i v h => by simp at h
    | cons c r => simp [toPure0] at hp
  | _ => simp [toPure0] at hp

theorem allSome_get {α β : Type} {f : α → Option β} : ∀ {cs : List α} {rs : List β}, allSome (cs.map f) = some rs → cs.length = rs.length ∧ ∀ (i : Nat) (r : β), rs[i]? = some r → ∃ c, cs[i]? = some c ∧ f c = some r
  | [], rs, e => by simp [allSome] at e; subst e; simp
  | c :: cs, rs, e => by
    cases hc : f c with
    | none => simp [hc, allSome] at e
    | some r =>
      simp only [List.map_cons, hc, allSome, Option.map_eq_some_iff] at e
      obtain ⟨us, hu, rfl⟩ := e
      obtain ⟨h1, h2⟩ := allSome_get hu
      refine ⟨by simp [h1], fun i q hq => ?_⟩
      cases i with
      | zero => simp at hq; subst hq; exact ⟨c, rfl, hc⟩
      | succ i => simpa using h2 i q (by simpa using hq)

theorem Rd.sub {ids ids' : List Nat} (h : Rd F' σ D ids) (hs : ∀ l ∈ ids', l ∈ ids) : Rd F' σ D ids' :=
  ⟨fun l hl => h.1 l (hs l hl), fun l hl => h.2 l (hs l hl)⟩

theorem toPure1_rv' (hF : Fle F F') {v r : V} {x : Value} (hR : Rd F' σ D v.ids2) (hp : toPure1 D v = some r) (hv : RV F σ v x) : RV F' sig0 r x := by
  cases v with
  | agg cs =>
    cases hv with
    | agg hl hh =>
      simp only [toPure1, Option.map_eq_some_iff] at hp
      obtain ⟨rs, hrs, rfl⟩ := hp
      obtain ⟨h1, h2⟩ := allSome_get hrs
      refine .agg (by omega) fun i u hu => ?_
      obtain ⟨c, hc, hcr⟩ := h2 i u hu
      exact toPure0_rv' hF (hR.sub fun l hl => by simp only [V.ids2, List.mem_flatMap]; exact ⟨c, List.mem_of_getElem? hc, ids0_sub hl⟩) hcr (hh i c hc)
  | fn f cap => exact toPure0_rv' hF (v := .fn f cap) ⟨fun l hl => by simp [V.ids0] at hl, fun l hl => by simp [V.ids0] at hl⟩ hp hv
  | _ => refine toPure0_rv' hF (hR.sub fun l hl => by simp_all [V.ids0, V.ids1, V.ids2]) ?_ hv; exact hp

theorem toPure_rv' (hF : Fle F F') {v r : V} {x : Value} (hR : Rd F' σ D v.ids) (hp : toPure D v = some r) (hv : RV F σ v x) : RV F' sig0 r x := by
  cases v with
  | tup cs =>
    cases hv with
    | tup hl hh =>
      simp only [toPure, Option.map_eq_some_iff] at hp
      obtain ⟨rs, hrs, rfl⟩ := hp
      obtain ⟨h1, h2⟩ := allSome_get hrs
      refine .tup (by omega) fun i u hu => ?_
      obtain ⟨c, hc, hcr⟩ := h2 i u hu
      exact toPure1_rv' hF (hR.sub fun l hl => by simp only [V.ids, List.mem_flatMap]; exact ⟨c, List.mem_of_getElem? hc, hl⟩) hcr (hh i c hc)
  | agg cs => exact toPure1_rv' hF (v := .agg cs) hR (by simpa [toPure] using hp) hv
  | fn f cap => exact toPure1_rv' hF (v := .fn f cap) hR hp hv
  | _ => refine toPure1_rv' hF (hR.sub fun l hl => by simp_all [V.ids, V.ids0, V.ids1, V.ids2]) ?_ hv; exact hp

theorem Rd.fzs (g : Gm base σ F h w) (hF : Fle F F') {ids : List Nat} (h1 : ∀ l ∈ ids, ∀ e s n f x, getO h l = .row e s n f true → σ l = some x → RV F' sig0 (.list s n f) x) : Rd F' σ (getO h) ids := by
  refine ⟨h1, fun l _ s n f x hO hs => ?_⟩
  have := g.obj l
  rw [hO] at this
  obtain ⟨v, hv, hr⟩ := this
  rw [hs] at hv; cases hv
  exact hr.mono hF (Sle.refl _)

/-- A frozen row's name reads as the list. -/
theorem res_rv (g : Gm base σ F h w) {v : V} {x : Value} (hv : RV F σ v x) : RV F σ (res (getO h) v) x := by
  unfold res
  split
  · rename_i l
    split
    · rename_i s n f hO
      cases hv with
      | sl hs =>
        have := g.obj l
        rw [hO] at this
        obtain ⟨v, hv, hr⟩ := this
        rw [hs] at hv; cases hv
        exact hr.mono (Fle.refl _) (fun l y e => by simp [sig0] at e)
    · exact hv
  · exact hv

/-- One row is let be. -/
theorem Gm.freeze1 (g : Gm base σ F h w) {l : Nat} {e : TypeId} {s n : Nat} {f : Nat → List V} (hO : getO h l = .row e s n f true) :
    ∃ F', FExt base F F' ∧ Gm base σ F' (putO h l (.fz s n f)) w ∧ ∀ x, σ l = some x → RV F' sig0 (.list s n f) x := by
  let F' : Fz := fun b => if ob (getO h l) (σ l) = some b then w.heap[b]? else F b
  have hle : Fle F F' := by
    intro b o hb
    show (if ob (getO h l) (σ l) = some b then w.heap[b]? else F b) = some o
    by_cases hq : ob (getO h l) (σ l) = some b
    · have := (g.own l b hq).2.2; rw [this] at hb; cases hb
    · rw [if_neg hq]; exact hb
  have hblk : ∀ b, ob (getO h l) (σ l) = some b → F' b = w.heap[b]? := fun b hb => by
    show (if ob (getO h l) (σ l) = some b then w.heap[b]? else F b) = _
    rw [if_pos hb]
  have hrow : ∀ x, σ l = some x → RV F' sig0 (.list s n f) x := fun x hx => row_list' hle g hO hx hblk
  have hget : ∀ i, getO (putO h l (.fz s n f)) i = if i = l then .fz s n f else getO h i := fun i => getO_putO h l _ i
  have hfx : FExt base F F' := ⟨hle, fun b hb hb' => by
    have hb2 : (if ob (getO h l) (σ l) = some b then w.heap[b]? else F b) ≠ none := hb'
    by_cases hq : ob (getO h l) (σ l) = some b
    · exact (g.own l b hq).1
    · rw [if_neg hq] at hb2; exact (hb2 hb).elim⟩
  refine ⟨F', hfx, ?_, hrow⟩
  obtain ⟨τ, g⟩ := g
  have hab : ∀ i b, ab σ (τ i) (getO (putO h l (.fz s n f)) i) (σ i) b → i ≠ l ∧ ab σ (τ i) (getO h i) (σ i) b := fun i b hi => by
    rw [hget] at hi
    by_cases hil : i = l
    · subst hil; rw [if_pos rfl] at hi; rcases hi with hi | hi <;> cases hi
    · rw [if_neg hil] at hi; exact ⟨hil, hi⟩
  refine ⟨τ, fun i => ?_, fun i => ?_, fun i b hi => ?_, fun i i' b hi hi' => g.sep i i' b (hab i b hi).2 (hab i' b hi').2, fun b o hb => ?_⟩
  · rw [hget]
    by_cases hi : i = l
    · subst hi
      rw [if_pos rfl]
      have ho := g.obj i
      rw [hO] at ho
      obtain ⟨v, xs, hv, _⟩ := ho
      exact ⟨v, hv, hrow v hv⟩
    · rw [if_neg hi]
      exact (g.obj i).congr hle (Sle.refl _) fun _ _ => rfl
  · rw [hget]
    by_cases hi : i = l
    · subst hi; rw [if_pos rfl]; trivial
    · rw [if_neg hi]
      exact (g.mp i).congr hle (Sle.refl _) fun _ _ => rfl
  · have ⟨hil, hi⟩ := hab i b hi
    have := g.own i b hi
    refine ⟨this.1, this.2.1, ?_⟩
    show (if ob (getO h l) (σ l) = some b then w.heap[b]? else F b) = none
    rw [if_neg fun hq => hil (g.sep i l b hi (.inl hq))]
    exact this.2.2
  · have hb2 : (if ob (getO h l) (σ l) = some b then w.heap[b]? else F b) = some o := hb
    by_cases hq : ob (getO h l) (σ l) = some b
    · rw [if_pos hq] at hb2; exact hb2
    · rw [if_neg hq] at hb2; exact g.fz b o hb2

theorem ups_append : ∀ (u v : List (Nat × O)) (h : List O), ups (u ++ v) h = ups v (ups u h)
  | [], v, h => rfl
  | (l, o) :: r, v, h => by simp [ups, ups_append r v]

/-- Rows are let be, one behind the other. -/
theorem Gm.freezeL (D : Nat → O) : ∀ (ls : List Nat) {F : Fz} {h : List O}, Gm base σ F h w → (∀ l, D l = getO h l ∨ ∃ e s n f, D l = .row e s n f true ∧ getO h l = .fz s n f) →
    ∃ F', FExt base F F' ∧ Gm base σ F' (ups (frzL D ls) h) w ∧ (∀ l ∈ ls, ∀ e s n f x, D l = .row e s n f true → σ l = some x → RV F' sig0 (.list s n f) x) ∧
      ∀ l, getO (ups (frzL D ls) h) l = getO h l ∨ ∃ e s n f, D l = .row e s n f true ∧ getO (ups (frzL D ls) h) l = .fz s n f
  | [], F, h, g, _ => ⟨F, FExt.refl _ _, g, (fun l hl => by simp at hl), fun l => .inl rfl⟩
  | l :: r, F, h, g, hD => by
    have fzcase : ∀ e s n f, D l = .row e s n f true → ∃ F1, FExt base F F1 ∧ Gm base σ F1 (putO h l (.fz s n f)) w ∧ ∀ x, σ l = some x → RV F1 sig0 (.list s n f) x := by
      intro e s n f hDl
      rcases hD l with h1 | ⟨e', s', n', f', h1, h2⟩
      · exact g.freeze1 (by rw [← h1]; exact hDl)
      · rw [hDl] at h1
        cases h1
        refine ⟨F, FExt.refl _ _, ?_, fun x hx => ?_⟩
        · have e1 : ∀ i, getO (putO h l (.fz s n f)) i = getO h i := fun i => by
            rw [getO_putO]
            by_cases hi : i = l
            · subst hi; rw [if_pos rfl]; exact h2.symm
            · rw [if_neg hi]
          exact g.of_get fun i => (e1 i).symm
        · have := g.obj l
          rw [h2] at this
          obtain ⟨v, hv, hr⟩ := this
          rw [hx] at hv; cases hv
          exact hr
    unfold frzL
    cases hf : fz1 D l with
    | none =>
      obtain ⟨F', hF', g', hr, hk⟩ := Gm.freezeL D r g hD
      refine ⟨F', hF', g', fun i hi e s n f x hDi hx => ?_, hk⟩
      rcases List.mem_cons.1 hi with rfl | hi
      · simp [fz1, hDi] at hf
      · exact hr i hi e s n f x hDi hx
    | some p =>
      have : ∃ e s n f, D l = .row e s n f true ∧ p = (l, .fz s n f) := by
        unfold fz1 at hf
        split at hf
        · rename_i e s n f hDl; exact ⟨_, _, _, _, hDl, by simpa using hf.symm⟩
        · cases hf
      obtain ⟨e, s, n, f, hDl, rfl⟩ := this
      obtain ⟨F1, hF1, g1, hr1⟩ := fzcase e s n f hDl
      have hD1 : ∀ i, D i = getO (putO h l (.fz s n f)) i ∨ ∃ e s' n' f', D i = .row e s' n' f' true ∧ getO (putO h l (.fz s n f)) i = .fz s' n' f' := fun i => by
        rw [getO_putO]
        by_cases hi : i = l
        · subst hi; exact .inr ⟨e, s, n, f, hDl, by rw [if_pos rfl]⟩
        · rw [if_neg hi]; exact hD i
      obtain ⟨F', hF', g', hr, hk⟩ := Gm.freezeL D r g1 hD1
      refine ⟨F', hF1.trans hF', g', fun i hi e' s' n' f' x hDi hx => ?_, fun i => ?_⟩
      · rcases List.mem_cons.1 hi with rfl | hi
        · rw [hDl] at hDi; cases hDi
          exact (hr1 x hx).mono hF'.1 (Sle.refl _)
        · exact hr i hi e' s' n' f' x hDi hx
      · rcases hk i with h1 | h1
        · by_cases hi : i = l
          · subst hi
            refine .inr ⟨e, s, n, f, hDl, ?_⟩
            show getO (ups (frzL D r) (putO h i (.fz s n f))) i = _
            rw [h1, getO_putO, if_pos rfl]
          · left
            show getO (ups (frzL D r) (putO h l (.fz s n f))) i = _
            rw [h1, getO_putO, if_neg hi]
        · exact .inr h1

theorem Gm.freeze (g : Gm base σ F h w) (ls : List Nat) : ∃ F', FExt base F F' ∧ Gm base σ F' (ups (frzL (getO h) ls) h) w ∧ Rd F' σ (getO h) ls ∧
    ∀ l, getO (ups (frzL (getO h) ls) h) l = getO h l ∨ ∃ e s n f, getO h l = .row e s n f true ∧ getO (ups (frzL (getO h) ls) h) l = .fz s n f := by
  obtain ⟨F', h1, h2, h3, h4⟩ := g.freezeL (getO h) ls (fun l => .inl rfl)
  exact ⟨F', h1, h2, Rd.fzs g h1.1 h3, h4⟩

theorem pur_rv (hF : Fle F F') {v : V} {x : Value} (hR : Rd F' σ D v.ids) (hv : RV F σ v x) : RV F' σ (pur D v) x := by
  unfold pur
  cases hp : toPure D v with
  | none => exact hv.mono hF (Sle.refl _)
  | some r => exact (toPure_rv' hF hR hp hv).mono (Fle.refl _) fun l y e => by simp [sig0] at e
end
end Go.Aw

/-
  Objects with other numbers.
-/
namespace Go.Aw
open Go Go.RowKit
set_option linter.unusedVariables false
set_option linter.unusedSimpArgs false

/-- Numbers turn, handles stay. -/
def Rn (m : Nat → Option Nat) (σ σ' : Sig) : Prop := ∀ l k, m l = some k → σ' k = σ l

theorem RV.ren0 {F : Fz} {σ σ' : Sig} {m : Nat → Option Nat} {v : V} {x : Value} (h : RV F σ v x) (hm : Rn m σ σ') : RV F σ' (v.ren0 m) x := by
  have hc : ∀ {l k : Nat} {y : Value}, σ l = some y → m l = some k → σ' k = some y := fun {l k y} hs hb => by rw [hm l k hb]; exact hs
  cases h with
  | any => exact .any
  | kn => exact .kn
  | agg => exact .any
  | tup => exact .any
  | list0 hn => exact .list0 hn
  | list gg a b c d e => exact .list gg a b c d e
  | rp gg a b => exact .rp gg a b
  | @ptr _ l off b hs =>
    simp only [V.ren0]
    cases hb : m l with
    | none => exact .any
    | some k => exact .ptr (hc hs hb)
  | @el _ l s i off b n cap hs =>
    simp only [V.ren0]
    cases hb : m l with
    | none => exact .any
    | some k => exact .el (hc hs hb)
  | @sl _ l x hs =>
    simp only [V.ren0]
    cases hb : m l with
    | none => exact .any
    | some k => exact .sl (hc hs hb)
  | fn => exact .any
  | @mp _ l x hs =>
    simp only [V.ren0]
    cases hb : m l with
    | none => exact .any
    | some k => exact .mp (hc hs hb)
  | @it _ l x hs =>
    simp only [V.ren0]
    cases hb : m l with
    | none => exact .any
    | some k => exact .it (hc hs hb)

theorem map_rv {F F' : Fz} {σ σ' : Sig} {f : V → V} (hf : ∀ v x, RV F σ v x → RV F' σ' (f v) x) {cs : List V} {xs : Array Value} (h : ∀ (i : Nat) (v : V), cs[i]? = some v → RV F σ v (xs.getD i undef)) :
    ∀ (i : Nat) (v : V), (cs.map f)[i]? = some v → RV F' σ' v (xs.getD i undef) := by
  intro i v e
  simp only [List.getElem?_map, Option.map_eq_some_iff] at e
  obtain ⟨u, hu, rfl⟩ := e
  exact hf _ _ (h i u hu)

theorem RV.ren1 {F : Fz} {σ σ' : Sig} {m : Nat → Option Nat} {v : V} {x : Value} (h : RV F σ v x) (hm : Rn m σ σ') : RV F σ' (v.ren1 m) x := by
  cases v with
  | fn f cap =>
    cases h with
    | fn hl hh => exact .fn (by simpa using hl) (map_rv (fun v x r => r.ren0 hm) hh)
  | _ => exact h.ren0 hm
theorem RV.ren2 {F : Fz} {σ σ' : Sig} {m : Nat → Option Nat} {v : V} {x : Value} (h : RV F σ v x) (hm : Rn m σ σ') : RV F σ' (v.ren2 m) x := by
  cases v with
  | agg cs =>
    cases h with
    | agg hl hh => exact .agg (by simpa using hl) (map_rv (fun v x r => r.ren1 hm) hh)
  | _ => exact RV.ren1 h hm
theorem RV.ren {F : Fz} {σ σ' : Sig} {m : Nat → Option Nat} {v : V} {x : Value} (h : RV F σ v x) (hm : Rn m σ σ') : RV F σ' (v.ren m) x := by
  cases v with
  | tup cs =>
    cases h with
    | tup hl hh => exact .tup (by simpa using hl) (map_rv (fun v x r => RV.ren2 r hm) hh)
  | _ => exact RV.ren2 h hm

theorem OR.ren {F : Fz} {σ σ' : Sig} {w : World} {m : Nat → Option Nat} {o : O} {x : Option Value} (h : OR F σ w o x) (hm : Rn m σ σ') : OR F σ' w (o.ren m) x := by
  cases o with
  | hole => exact h
  | dead => exact h
  | fz s n f => exact h
  | cells cs =>
    obtain ⟨b, arr, e, rfl, hh, hz, hr⟩ := h
    exact ⟨b, arr, e, rfl, hh, by simpa [O.ren] using hz, map_rv (fun v x r => RV.ren2 r hm) hr⟩
  | row e s n f p =>
    obtain ⟨v, xs, rfl, ho, hl, hr, h1⟩ := h
    cases p with
    | true => exact ⟨v, xs, rfl, ho, hl, hr, h1⟩
    | false =>
      refine ⟨v, xs, rfl, ho, fun i hi => by simpa using hl i hi, fun i j u hi hu => ?_, h1⟩
      replace hu : ((f i).map (V.ren1 m))[j]? = some u := hu
      simp only [List.getElem?_map, Option.map_eq_some_iff] at hu
      obtain ⟨u', hu', rfl⟩ := hu
      exact RV.ren1 (hr i j u' hi hu') hm
  | map => exact h
  | iter l =>
    have h1 := h.one
    show OR F σ' w (match m l with | some k => .iter k | none => .dead) x
    cases m l with
    | some k => exact h
    | none => exact h1
  | siter => exact h

theorem ob_ren (m : Nat → Option Nat) (o : O) (x : Option Value) : ob (o.ren m) x = ob o x := by
  cases o with
  | row e s n f p => cases p <;> cases x <;> rfl
  | iter l =>
    show ob (match m l with | some k => .iter k | none => .dead) x = none
    cases m l <;> cases x <;> rfl
  | cells cs =>
    cases x with
    | none => rfl
    | some v =>
      cases v with
      | pointer a => cases a <;> rfl
      | _ => rfl
  | map =>
    cases x with
    | none => rfl
    | some v => cases v <;> rfl
  | _ => rfl

theorem findOv_map (f : List V → List V) (k : Value) : ∀ (ov : List (Value × Option (List V))), findOv k (ov.map fun (k, c) => (k, c.map f)) = (findOv k ov).map (Option.map f)
  | [] => rfl
  | (k0, c) :: r => by
    show (bif keq k k0 then some (c.map f) else findOv k (r.map fun (k, c) => (k, c.map f))) = (bif keq k k0 then some c else findOv k r).map (Option.map f)
    cases keq k k0
    · exact findOv_map f k r
    · rfl
theorem presB_find (has : Value → Bool) (k : Value) : ∀ (ov : List (Value × Option (List V))), presB ov has k = match findOv k ov with
    | some c => c.isSome
    | none => has k
  | [] => rfl
  | (k0, c) :: r => by
    show (bif keq k k0 then c.isSome else presB r has k) = match (bif keq k k0 then some c else findOv k r) with | some c => c.isSome | none => has k
    cases keq k k0
    · exact presB_find has k r
    · rfl
theorem presB_map (f : List V → List V) (has : Value → Bool) (k : Value) (ov : List (Value × Option (List V))) : presB (ov.map fun (k, c) => (k, c.map f)) has k = presB ov has k := by
  rw [presB_find, presB_find, findOv_map]
  cases findOv k ov with
  | none => rfl
  | some c => cases c <;> rfl

theorem renIts_mem {m : Nat → Option Nat} {k : Nat} {x : (Value → Bool) × Option Value} : ∀ {its : List (Nat × (Value → Bool) × Option Value)}, (k, x) ∈ renIts m its ↔ ∃ q, (q, x) ∈ its ∧ m q = some k
  | [] => by simp [renIts]
  | (q, y) :: r => by
    simp only [renIts]
    cases hq : m q with
    | none =>
      simp only [renIts_mem (its := r), List.mem_cons, Prod.mk.injEq]
      constructor
      · rintro ⟨q', h1, h2⟩; exact ⟨q', .inr h1, h2⟩
      · rintro ⟨q', h1 | h1, h2⟩
        · rw [h1.1, hq] at h2; cases h2
        · exact ⟨q', h1, h2⟩
    | some k' =>
      simp only [List.mem_cons, Prod.mk.injEq, renIts_mem (its := r)]
      constructor
      · rintro (⟨rfl, rfl⟩ | ⟨q', h1, h2⟩)
        · exact ⟨q, .inl ⟨rfl, rfl⟩, hq⟩
        · exact ⟨q', .inr h1, h2⟩
      · rintro ⟨q', h1 | h1, h2⟩
        · rw [h1.1, hq] at h2; cases h2; exact .inl ⟨rfl, h1.2⟩
        · exact .inr ⟨q', h1, h2⟩

def Inj (m : Nat → Option Nat) : Prop := ∀ l l' k, m l = some k → m l' = some k → l = l'

theorem renIts_nodup {m : Nat → Option Nat} (hi : Inj m) : ∀ {its : List (Nat × (Value → Bool) × Option Value)}, (its.map (·.1)).Nodup → ((renIts m its).map (·.1)).Nodup
  | [], _ => by simp [renIts]
  | (q, y) :: r, h => by
    simp only [List.map_cons, List.nodup_cons] at h
    simp only [renIts]
    cases hq : m q with
    | none => exact renIts_nodup hi h.2
    | some k =>
      simp only [List.map_cons, List.nodup_cons]
      refine ⟨fun hm => ?_, renIts_nodup hi h.2⟩
      obtain ⟨⟨k', x⟩, hk, e⟩ := List.mem_map.1 hm
      simp only at e
      subst e
      obtain ⟨q', h1, h2⟩ := renIts_mem.1 hk
      have := hi q q' _ hq h2
      subst this
      exact h.1 (List.mem_map.2 ⟨_, h1, rfl⟩)

theorem VR.ren {F : Fz} {σ σ' : Sig} {m : Nat → Option Nat} {ag : Bool} {cs : List V} {x : Value} (h : VR F σ ag cs x) (hm : Rn m σ σ') : VR F σ' ag (cs.map (V.ren1 m)) x := by
  cases ag with
  | true =>
    obtain ⟨xs, h1, h2, h3⟩ := h
    exact ⟨xs, h1, by simpa using h2, map_rv (fun v x r => RV.ren1 r hm) h3⟩
  | false =>
    obtain ⟨v, h1, h2, h3⟩ := h
    exact ⟨v.ren1 m, by rw [h1]; rfl, RV.ren1 h2 hm, h3⟩
theorem VA.ren {F : Fz} {σ σ' : Sig} {t : Tau} {m : Nat → Option Nat} {ag : Bool} {ov : List (Value × Option (List V))} {get : Value → List V} {k x : Value} (h : VA F σ t ag ov get k x) (hm : Rn m σ σ') :
    VA F σ' t ag (ov.map fun (k, c) => (k, c.map fun cs => cs.map (V.ren1 m))) get k x := by
  unfold VA at *
  rw [findOv_map]
  cases hf : findOv k ov with
  | none => rw [hf] at h; exact h
  | some c =>
    rw [hf] at h
    cases c with
    | none => exact h
    | some cs => exact VR.ren h hm

theorem mb_ren {σ σ' : Sig} {t : Tau} {m : Nat → Option Nat} {o : O} (hm : Rn m σ σ') {b : Nat} (h : mb σ' t (o.ren m) b) : mb σ t o b := by
  cases o with
  | map kd ag n ov has get sub its =>
    rcases h with ⟨k, j, so, ⟨h1, h2, h3⟩, h4, h5⟩ | ⟨k, x, hk, hs⟩
    · refine .inl ⟨k, j, so, ⟨h1, ?_, h3⟩, h4, h5⟩
      rw [findOv_map] at h2
      simpa using h2
    · obtain ⟨q, h1, h2⟩ := renIts_mem.1 hk
      exact .inr ⟨q, x, h1, by rw [← hm q k h2]; exact hs⟩
  | row e s n f p => cases p <;> exact h
  | iter l =>
    replace h : mb σ' t (match m l with | some k => .iter k | none => .dead) b := h
    cases hq : m l <;> rw [hq] at h <;> exact h
  | _ => exact h
theorem ab_ren {σ σ' : Sig} {t : Tau} {m : Nat → Option Nat} {o : O} {x : Option Value} (hm : Rn m σ σ') {b : Nat} (h : ab σ' t (o.ren m) x b) : ab σ t o x b := by
  rcases h with h | h
  · exact .inl (by rwa [ob_ren] at h)
  · exact .inr (mb_ren hm h)

theorem MR.ren {F : Fz} {σ σ' : Sig} {t : Tau} {w : World} {m : Nat → Option Nat} {o : O} {x : Option Value} (h : MR F σ t w o x) (hm : Rn m σ σ') (hi : Inj m) : MR F σ' t w (o.ren m) x := by
  cases o with
  | map kd ag n ov has get sub its =>
    obtain ⟨b, es, clk, h1, h2, m0⟩ := h
    refine ⟨b, es, clk, h1, h2, ?_⟩
    have bk : ∀ {k}, Bk kd (ov.map fun (k, c) => (k, c.map fun cs => cs.map (V.ren1 m))) has k → Bk kd ov has k := fun {k} hk => ⟨hk.1, by have := hk.2.1; rw [findOv_map] at this; simpa using this, hk.2.2⟩
    exact {
      size := m0.size, keys := m0.keys, dist := m0.dist, bornD := m0.bornD, bornL := m0.bornL
      mem := fun k hk => by rw [presB_map]; exact m0.mem k hk
      val := fun e he => (m0.val e he).ren hm
      subs := fun k hk => m0.subs k (bk hk)
      tone := m0.tone
      ssep := fun k k' j j' so so' b h1 h2 => m0.ssep k k' j j' so so' b (bk h1) (bk h2)
      itsR := fun k seen cur hk => by
        obtain ⟨q, q1, q2⟩ := renIts_mem.1 hk
        obtain ⟨bi, sa, r1, r2⟩ := m0.itsR q seen cur q1
        exact ⟨bi, sa, by rw [hm q k q2]; exact r1, r2⟩
      itsD := renIts_nodup hi m0.itsD
      itsB := fun k x k' x' bi h1 h2 h3 h4 => by
        obtain ⟨q, q1, q2⟩ := renIts_mem.1 h1
        obtain ⟨q', q3, q4⟩ := renIts_mem.1 h2
        have := m0.itsB q x q' x' bi q1 q3 (by rw [← hm q k q2]; exact h3) (by rw [← hm q' k' q4]; exact h4)
        subst this
        rw [q2] at q4; cases q4; rfl
      itsS := fun k j so kk x bi h1 h2 h3 h4 h5 => by
        obtain ⟨q, q1, q2⟩ := renIts_mem.1 h4
        exact m0.itsS k j so q x bi (bk h1) h2 h3 q1 (by rw [← hm q kk q2]; exact h5)
      main := fun hh => m0.main (mb_ren (o := .map kd ag n ov has get sub its) hm hh) }
  | row e s n f p => cases p <;> trivial
  | iter l =>
    show MR F σ' t w (match m l with | some k => .iter k | none => .dead) x
    cases m l <;> trivial
  | _ => trivial

def cut (m : List Nat) (σ : Sig) : Sig := fun j => (m[j]?).bind σ

theorem idx_spec (l : Nat) : ∀ (m : List Nat) (k j : Nat), idx l m k = some j → ∃ i, j = k + i ∧ m[i]? = some l
  | [], k, j, h => by simp [idx] at h
  | x :: r, k, j, h => by
    simp only [idx] at h
    cases hb : Nat.beq x l with
    | true =>
      rw [hb] at h
      simp only [cond_true, Option.some.injEq] at h
      exact ⟨0, by omega, by simp [Nat.eq_of_beq_eq_true hb]⟩
    | false =>
      rw [hb] at h
      obtain ⟨i, hi, hm⟩ := idx_spec l r (k + 1) j h
      exact ⟨i + 1, by omega, by simpa using hm⟩
theorem idx_get {l : Nat} {m : List Nat} {j : Nat} (h : idx l m 0 = some j) : m[j]? = some l := by
  obtain ⟨i, hi, hm⟩ := idx_spec l m 0 j h
  rw [Nat.zero_add] at hi; subst hi; exact hm
theorem rn_idx (m : List Nat) (σ : Sig) : Rn (fun l => idx l m 0) σ (cut m σ) := fun l k h => by simp [cut, idx_get h]
theorem inj_idx (m : List Nat) : Inj fun l => idx l m 0 := fun l l' k h h' => by
  have h1 := idx_get h
  have h2 := idx_get h'
  rw [h1] at h2; cases h2; rfl
theorem forget_rv {F : Fz} {σ : Sig} {m : List Nat} {v : V} {x : Value} (h : RV F σ v x) : RV F (cut m σ) (v.forget m) x := h.ren (rn_idx m σ)

theorem getO_map (f : Nat → O) : ∀ (m : List Nat) (l : Nat), getO (m.map f) l = match m[l]? with | some x => f x | none => .hole
  | [], l => by simp [getO]
  | x :: r, 0 => by simp [getO]
  | x :: r, l + 1 => by simp [getO, getO_map f r l]
theorem nodupB_spec : ∀ {m : List Nat}, nodupB m = true → ∀ (i j : Nat) (x : Nat), m[i]? = some x → m[j]? = some x → i = j
  | [], _, i, j, x, h, _ => by simp at h
  | a :: r, hn, i, j, x, h, k => by
    simp only [nodupB, Bool.and_eq_true, Bool.not_eq_true'] at hn
    have hna : ∀ (q : Nat), r[q]? = some a → False := fun q hq => by
      have := hn.1
      rw [List.any_eq_false] at this
      exact this a (List.mem_of_getElem? hq) (Nat.beq_refl a)
    cases i with
    | zero =>
      cases j with
      | zero => rfl
      | succ j => simp at h k; subst h; exact (hna j k).elim
    | succ i =>
      cases j with
      | zero => simp at h k; subst k; exact (hna i h).elim
      | succ j => have := nodupB_spec hn.2 i j x (by simpa using h) (by simpa using k); omega

theorem Gm.forget {base : Blk} {σ : Sig} {F : Fz} {h : List O} {w : World} (g : Gm base σ F h w) {m : List Nat} (hm : nodupB m = true) : Gm base (cut m σ) F (normH h m) w := by
  obtain ⟨τ, g⟩ := g
  have hget : ∀ j, getO (normH h m) j = match m[j]? with | some x => (getO h x).forget m | none => .hole := fun j => getO_map _ m j
  have hsome : ∀ {j l}, m[j]? = some l → getO (normH h m) j = (getO h l).forget m ∧ cut m σ j = σ l := fun {j l} hl => ⟨by rw [hget, hl], by simp [cut, hl]⟩
  have hab : ∀ j b, ab (cut m σ) ((m[j]?).elim (fun _ _ => none) τ) (getO (normH h m) j) (cut m σ j) b → ∃ l, m[j]? = some l ∧ ab σ (τ l) (getO h l) (σ l) b := by
    intro j b e
    cases hl : m[j]? with
    | none => rw [hget, hl] at e; rcases e with e | e <;> cases e
    | some l =>
      refine ⟨l, rfl, ?_⟩
      rw [(hsome hl).1, (hsome hl).2, hl] at e
      exact ab_ren (rn_idx m σ) e
  refine ⟨fun j => (m[j]?).elim (fun _ _ => none) τ, fun j => ?_, fun j => ?_, fun j b e => ?_, fun j j' b e e' => ?_, g.fz⟩
  · cases hl : m[j]? with
    | none => rw [hget, hl]; simp [OR, cut, hl]
    | some l => rw [(hsome hl).1, (hsome hl).2]; exact (g.obj l).ren (rn_idx m σ)
  · cases hl : m[j]? with
    | none => rw [hget, hl]; trivial
    | some l => rw [(hsome hl).1, (hsome hl).2]; exact (g.mp l).ren (rn_idx m σ) (inj_idx m)
  · obtain ⟨l, _, hl⟩ := hab j b e
    exact g.own l b hl
  · obtain ⟨l, h1, h2⟩ := hab j b e
    obtain ⟨l', h3, h4⟩ := hab j' b e'
    have := g.sep l l' b h2 h4
    subst this
    exact nodupB_spec hm j j' l h1 h3
end Go.Aw

/-
  Every operation that the executor takes is sound.
-/
namespace Go.Aw
open Go Go.RowKit
set_option linter.unusedVariables false
set_option linter.unusedSimpArgs false

def RVs (F : Fz) (σ : Sig) (vs : List V) (xs : Array Value) : Prop := vs.length = xs.size ∧ ∀ i v, vs[i]? = some v → RV F σ v (xs.getD i undef)

def Bod (P : Program) (f : FuncId) : Prop := ∃ fn c, P.funcs[f]? = some fn ∧ fn.body = some c ∧ (fn.name == "runtime.NumGoroutine") = false

def Local (s : Spec) : Prop := ∀ (args : List V) (D D' : Nat → O) (nid : Nat), (∀ l ∈ rch D 4 (args.flatMap V.ids), D l = D' l) → s args D nid = s args D' nid

/-- What a call of a function makes. -/
def SndC (P : Program) (base : Blk) (σ : Sig) (F : Fz) (h : List O) (w : World) (f : FuncId) (xs : Array Value) : Do → Prop
  | .val v u => Calls P f xs w fun e w' => ∃ x, e = .returned x ∧ Aft base σ F w v (ups u h) x w'
  | .req p v u => p → Calls P f xs w fun e w' => ∃ x, e = .returned x ∧ Aft base σ F w v (ups u h) x w'
  | .fork b d e => bif b then SndC P base σ F h w f xs d else SndC P base σ F h w f xs e
  | .bad => True
  | _ => False

def SpecOK (P : Program) (f : FuncId) (s : Spec) : Prop := Bod P f ∧ Local s ∧
  ∀ (base : Blk) (σ : Sig) (F : Fz) (h : List O) (w : World) (args : List V) (xs : Array Value) (nid : Nat),
    Gm base σ F h w → Und base w.heap.size → (∀ i, i < 16 → getO h (nid + i) = .hole) → RVs F σ args xs → SndC P base σ F h w f xs (s args (getO h) nid)

def Snd (P : Program) (base : Blk) (σ : Sig) (F : Fz) (h : List O) (w : World) (a : Act) (o : Oper) : Do → Prop
  | .val v u => Fin P o a w (Aft base σ F w v (ups u h))
  | .req p v u => p → Fin P o a w (Aft base σ F w v (ups u h))
  | .enter f args => Bod P f → ∃ xs, (execOp a.eval o).run P w = .ok (.enter f xs) w ∧ RVs F σ args xs
  | .bad => True
  | .fork b d e => bif b then Snd P base σ F h w a o d else Snd P base σ F h w a o e
  | .eachS p d e => (∃ s, p s = true ∧ Snd P base σ F h w a o (d s)) ∨ ((∀ s, p s = false) ∧ Snd P base σ F h w a o e)
  | .eachI p d e => (∃ s, p s = true ∧ Snd P base σ F h w a o (d s)) ∨ ((∀ s, p s = false) ∧ Snd P base σ F h w a o e)
  | .eachB p d => ∃ s, p s = true ∧ Snd P base σ F h w a o (d s)

theorem Snd.of_call {P : Program} {base : Blk} {σ : Sig} {F : Fz} {h : List O} {w : World} {a : Act} {o : Oper} {f : FuncId} {xs : Array Value} (hrun : (execOp a.eval o).run P w = .ok (.enter f xs) w) :
    ∀ {d : Do}, SndC P base σ F h w f xs d → Snd P base σ F h w a o d
  | .val v u, hh => .inr (.inr ⟨f, _, hrun, hh⟩)
  | .req p v u, hh => fun hp => .inr (.inr ⟨f, _, hrun, hh hp⟩)
  | .fork true d e, hh => Snd.of_call hrun (d := d) hh
  | .fork false d e, hh => Snd.of_call hrun (d := e) hh
  | .bad, _ => trivial

theorem add_none (b o k : Nat) : (⟨b, o, none⟩ : Addr).add k = ⟨b, o + k, none⟩ := by unfold Addr.add; split <;> simp_all

section
variable {P : Program} {base : Blk} {σ : Sig} {F : Fz} {h : List O} {w : World} {a : Act} {o : Oper} {con : FuncId → Option Spec} {nid : Nat} {ρ : Operand → V}

theorem Snd.ofO {x : Option V} (hx : ∀ v, x = some v → Fin P o a w (Aft base σ F w v h)) : Snd P base σ F h w a o (ofO x) := by
  cases x with
  | none => trivial
  | some v => exact hx v rfl

theorem Snd.ofR {p : Prop} {x : Option V} (hx : ∀ v, x = some v → p → Fin P o a w (Aft base σ F w v h)) : Snd P base σ F h w a o (ofR p x) := by
  cases x with
  | none => trivial
  | some v => exact hx v rfl

theorem Fin.val {R : Value → World → Prop} {x : Value} {w' : World} (hr : (execOp a.eval o).run P w = .ok (.value x) w') (h : R x w') : Fin P o a w R := .inl ⟨x, w', hr, h⟩

/-- a value that touches nothing -/
theorem Fin.here (g : Gm base σ F h w) {v : V} {x : Value} (hr : (execOp a.eval o).run P w = .ok (.value x) w) (r : RV F σ v x) : Fin P o a w (Aft base σ F w v h) :=
  Fin.val hr (Aft.same g r)

theorem snd_cond {b : Bool} {d e : Do} (h1 : b = true → Snd P base σ F h w a o d) (h2 : b = false → Snd P base σ F h w a o e) : Snd P base σ F h w a o (bif b then d else e) := by
  cases b
  · exact h2 rfl
  · exact h1 rfl

theorem snd_move (g : Gm base σ F h w) (hρ : ∀ x, RV F σ (ρ x) (a.eval x)) {x : Operand} (ho : o.op = .move x ∨ o.op = .assign x) : Snd P base σ F h w a o (.val (ρ x) []) := by
  refine Fin.here g ?_ (hρ x)
  rcases ho with ho | ho <;> simp [execOp, ho]

theorem snd_pick (g : Gm base σ F h w) (hρ : ∀ x, RV F σ (ρ x) (a.eval x)) {c x y : Operand} (ho : o.op = .pick c x y) {t : Bool} (hc : ρ c = .kn (.bool t)) :
    Snd P base σ F h w a o (.val (bif t then ρ x else ρ y) []) := by
  have h1 := hρ c
  rw [hc] at h1
  generalize he : a.eval c = y' at h1
  cases h1
  refine Fin.here (x := if t then a.eval x else a.eval y) g ?_ ?_
  · simp [execOp, ho, he, asBool]
  · cases t
    · exact hρ y
    · exact hρ x

theorem snd_alloc (g : Gm base σ F h w) (hbase : Und base w.heap.size) (hn : getO h nid = .hole) {t : TypeId} (ho : o.op = .alloc t) {z : List V} (hz : zeroV P t = some z) :
    Snd P base σ F h w a o (.val (.ptr nid 0) [(nid, .cells z)]) := by
  obtain ⟨i, y, hi, hy, rfl, hrun⟩ := zeroV_run (w := w) hz
  have hc := CR_kn F σ y.cells
  refine Fin.val ?_ (new_cells (e := t) g hn hbase hc.1 hc.2)
  simp [execOp, ho, Instr.alloc, hrun, newVar, newRow]

theorem snd_box (g : Gm base σ F h w) (hbase : Und base w.heap.size) (hn : getO h nid = .hole) (hρ : ∀ x, RV F σ (ρ x) (a.eval x)) {t : TypeId} {x : Operand} (ho : o.op = .box t x) {cs : List V} (hz : (ρ x).cs = some cs) :
    Snd P base σ F h w a o (.val (.ptr nid 0) [(nid, .cells cs)]) := by
  have hc := RV.cs hz (hρ x) g.one
  refine Fin.val ?_ (new_cells (e := t) g hn hbase hc.1 hc.2)
  simp [execOp, ho, Instr.box, newVar, newRow]

theorem parts_rel (hρ : ∀ x, RV F σ (ρ x) (a.eval x)) (ps : List (Nat × Operand)) : ∀ (i : Nat) (p : Nat × V) (q : Nat × Value),
    (ps.map fun (i, x) => (i, ρ x))[i]? = some p → (ps.map fun (i, x) => (i, a.eval x))[i]? = some q → p.1 = q.1 ∧ RV F σ p.2 q.2 := by
  intro i p q hp hq
  simp only [List.getElem?_map, Option.map_eq_some_iff] at hp hq
  obtain ⟨y, hy, rfl⟩ := hp
  obtain ⟨z, hz, rfl⟩ := hq
  rw [hy] at hz
  cases hz
  exact ⟨rfl, hρ _⟩

theorem sizeOf_run {t : TypeId} {i : TypeInfo} (hi : P.info? t = some i) : (sizeOf t).run P w = .ok (sz P t) w := by
  simp [sizeOf, typeInfo, hi, sz, Program.cellsOf]

theorem mapM_places (hall : ∀ f : Field, (P.info? f.type).isSome = true ∨ True) : True := trivial

theorem CR.agg {cs : List V} {arr : Array Value} (hc : CR F σ cs arr) : RV F σ (.agg cs) (.agg arr) := .agg hc.1 hc.2

theorem snd_load (g : Gm base σ F h w) (hρ : ∀ x, RV F σ (ρ x) (a.eval x)) {t : TypeId} {x : Operand} (ho : o.op = .load t x) :
    Snd P base σ F h w a o (match ρ x with
    | .ptr l off => match getO h l with
      | .cells cs => ofO (ldAt P t cs off)
      | _ => .bad
    | .el l s' i off => match getO h l with
      | .row _ s n f _ => bif !Nat.beq s s' then .bad else ofR (i < n) (ldAt P t (f i) off)
      | _ => .bad
    | .rp cs off => ofO (ldAt P t cs off)
    | _ => .bad) := by
  have h1 := hρ x
  generalize hx : ρ x = v at h1
  generalize hy : a.eval x = y at h1
  cases v with
  | ptr l off =>
    cases h1 with
    | @ptr _ _ _ b hs =>
      dsimp only
      cases hO : getO h l with
      | cells cs =>
        refine Snd.ofO fun v hv => ?_
        obtain ⟨z, hz, hr⟩ := ldAt_run (w := w) hv (At.cells g hO hs)
        exact Fin.here g (by simp only [Nat.zero_add] at hz; simp [execOp, ho, hy, Instr.loadAt, Instr.sureAddr, hz]) hr
      | _ => exact True.intro
  | el l s' i off =>
    cases h1 with
    | @el _ _ _ _ _ b n cap hs =>
      dsimp only
      cases hO : getO h l with
      | row e s n f p =>
        refine snd_cond (fun _ => trivial) fun hb => Snd.ofR fun v hv hin => ?_
        have hss : s = s' := Nat.eq_of_beq_eq_true (by simpa using hb)
        subst hss
        obtain ⟨z, hz, hr⟩ := ldAt_run (w := w) hv (At.row g hO hs hin)
        exact Fin.here g (by simp [execOp, ho, hy, Instr.loadAt, Instr.sureAddr, hz]) (hr.mono (Fle.refl _) (sigP_sle _ _))
      | _ => exact True.intro
  | rp cs off =>
    cases h1 with
    | @rp _ _ _ b oo gg hc hr =>
      refine Snd.ofO fun v hv => ?_
      have hat : At F sig0 w b oo cs := fun j u hu => ⟨gg j, cellF_cell g (hc j (List.getElem?_eq_some_iff.1 hu).1), hr j u hu⟩
      obtain ⟨z, hz, hr⟩ := ldAt_run (w := w) hv hat
      exact Fin.here g (by simp [execOp, ho, hy, Instr.loadAt, Instr.sureAddr, hz]) (hr.mono (Fle.refl _) (sigP_sle true _))
  | _ => exact True.intro

theorem snd_nilCheck (g : Gm base σ F h w) (hρ : ∀ x, RV F σ (ρ x) (a.eval x)) {x : Operand} (ho : o.op = .nilCheck x) :
    Snd P base σ F h w a o (match ρ x with
    | .ptr l off => .val (.ptr l off) []
    | .el l s i off => .val (.el l s i off) []
    | .rp cs off => .val (.rp cs off) []
    | .fn f cap => .val (.fn f cap) []
    | _ => .bad) := by
  have h1 := hρ x
  generalize hx : ρ x = v at h1
  generalize hy : a.eval x = y at h1
  cases v with
  | ptr l off => cases h1 with | ptr hs => exact Fin.here g (by simp [execOp, ho, hy]) (.ptr hs)
  | el l s i off => cases h1 with | el hs => exact Fin.here g (by simp [execOp, ho, hy]) (.el hs)
  | rp cs off => cases h1 with | rp gg hc hr => exact Fin.here g (by simp [execOp, ho, hy]) (.rp gg hc hr)
  | fn f cap => cases h1 with | fn hl hh => exact Fin.here g (by simp [execOp, ho, hy]) (.fn hl hh)
  | _ => exact True.intro

theorem known_eq {v : V} {x y : Value} (hk : known v = some y) (h : RV F σ v x) : x = y := by
  cases h with
  | kn => simpa [known] using hk
  | @agg _ cs xs hl hh =>
    simp only [known, Option.map_eq_some_iff] at hk
    obtain ⟨ys, hys, rfl⟩ := hk
    congr 1
    have key : ∀ (cs : List V) (ys : List Value), allSome (cs.map valOf) = some ys → cs.length = ys.length ∧ ∀ (i : Nat) (v : V), cs[i]? = some v → ∃ y, ys[i]? = some y ∧ v = V.kn y := by
      intro cs
      induction cs with
      | nil => intro ys e; simp [allSome] at e; subst e; simp
      | cons c r ih =>
        intro ys e
        cases c with
        | kn y =>
          simp only [List.map_cons, valOf, allSome, Option.map_eq_some_iff] at e
          obtain ⟨zs, hz, rfl⟩ := e
          obtain ⟨h1, h2⟩ := ih zs hz
          refine ⟨by simp [h1], fun i v hv => ?_⟩
          cases i with
          | zero => simp at hv; subst hv; exact ⟨y, rfl, rfl⟩
          | succ i => exact h2 i v (by simpa using hv)
        | _ => simp [valOf, allSome] at e
    obtain ⟨k1, k2⟩ := key cs ys hys
    apply Array.ext
    · simp [← hl, k1]
    · intro i h1 h2
      have hi : i < cs.length := by omega
      obtain ⟨y, hy, hv⟩ := k2 i cs[i] (by simp [hi])
      have := hh i cs[i] (by simp [hi])
      rw [hv] at this
      generalize hz : xs.getD i undef = z at this
      cases this
      have e1 : xs[i] = y := by simpa [Array.getD_eq_getD_getElem?, h1] using hz
      have e2 : ys[i]? = some y := hy
      rw [e1]
      simpa [List.getElem?_eq_some_iff] using (List.getElem?_eq_some_iff.1 e2).2.symm
  | _ => simp [known] at hk

theorem valOf_eq {v : V} {x y : Value} (hk : valOf v = some y) (h : RV F σ v x) : x = y := by
  cases h <;> simp [valOf] at hk
  exact hk

theorem snd_binOp (g : Gm base σ F h w) (hρ : ∀ x, RV F σ (ρ x) (a.eval x)) {op : BinOp} {t t2 : TypeId} {x y : Operand} (ho : o.op = .binOp op t x y t2) {u v : Value} (hu : known (ρ x) = some u) (hv : known (ρ y) = some v) :
    Snd P base σ F h w a o (ofO ((pr P (do eqGuard op t x y u v; binOp op t u v)).map V.kn)) := by
  refine Snd.ofO fun r hr => ?_
  simp only [Option.map_eq_some_iff] at hr
  obtain ⟨z, hz, rfl⟩ := hr
  refine Fin.here g (x := z) ?_ .kn
  have e1 := known_eq hu (hρ x)
  have e2 := known_eq hv (hρ y)
  have := pr_run P w _ _ hz
  simp only [execOp, ho, e1, e2]
  rw [Sem.run_bind, this]
  rfl

theorem snd_pr1 (g : Gm base σ F h w) (hρ : ∀ x, RV F σ (ρ x) (a.eval x)) {x : Operand} {S : Value → Sem Value} (ho : execOp a.eval o = do pure (.value (← S (a.eval x)))) {u : Value} (hu : ρ x = .kn u) :
    Snd P base σ F h w a o (ofO ((pr P (S u)).map V.kn)) := by
  refine Snd.ofO fun r hr => ?_
  simp only [Option.map_eq_some_iff] at hr
  obtain ⟨z, hz, rfl⟩ := hr
  refine Fin.here g (x := z) ?_ .kn
  have e1 := hρ x
  rw [hu] at e1
  generalize he : a.eval x = y at e1 ho
  cases e1
  rw [ho, Sem.run_bind, pr_run P w _ _ hz]
  rfl

theorem snd_makeFunc (g : Gm base σ F h w) (hρ : ∀ x, RV F σ (ρ x) (a.eval x)) {f : FuncId} {first captured : Array Operand} (ho : o.op = .makeFunc (.func f) first captured) (hf : first.size = 0) :
    Snd P base σ F h w a o (.val (.fn f (captured.toList.map ρ)) []) := by
  have hf' : first = #[] := Array.eq_empty_of_size_eq_zero hf
  refine Fin.here g (x := .func (.func f) #[] (captured.map a.eval)) ?_ (.fn (by simp) fun i v hv => ?_)
  · simp [execOp, ho, Instr.makeFunc, hf']
  · simp only [List.getElem?_map, Option.map_eq_some_iff] at hv
    obtain ⟨x, hx, rfl⟩ := hv
    have : (captured.map a.eval).getD i undef = a.eval x := by
      have hx' : captured[i]? = some x := by simpa using hx
      simp [Array.getD_eq_getD_getElem?, hx']
    rw [this]; exact hρ x

theorem snd_fieldAddr (g : Gm base σ F h w) (hρ : ∀ x, RV F σ (ρ x) (a.eval x)) {t : TypeId} {x : Operand} {i : Nat} (ho : o.op = .fieldAddr t x i) {fs : Array Field} (hu : P.underlying t = some (.struct fs)) {f : Field} (hf : fs[i]? = some f) :
    Snd P base σ F h w a o (bif Nat.beq (sz P f.type) 0 then .bad else
        match ρ x with
        | .ptr l off => .val (.ptr l (off + f.offset)) []
        | .el l s i off => .val (.el l s i (off + f.offset)) []
        | .rp cs off => .val (.rp cs (off + f.offset)) []
        | _ => .bad) := by
  refine snd_cond (fun _ => trivial) fun hb => ?_
  have hsz : sz P f.type ≠ 0 := fun e => by rw [e] at hb; cases hb
  obtain ⟨ti, hti⟩ : ∃ ti, P.info? f.type = some ti := by
    cases hi : P.info? f.type with
    | none => simp [sz, Program.cellsOf, hi] at hsz
    | some ti => exact ⟨ti, rfl⟩
  have hs := sizeOf_run (w := w) hti
  have hplace : ∀ b k, (fieldPlace ⟨b, k, none⟩ f).run P w = .ok ⟨b, k + f.offset, none⟩ w := by
    intro b k
    simp [fieldPlace, hs, hsz, add_none]
  have h1 := hρ x
  generalize hx : ρ x = v at h1
  generalize hy : a.eval x = y at h1
  cases v with
  | ptr l off => cases h1 with | ptr hs => exact Fin.here g (by simp [execOp, ho, hy, Instr.fieldAt, underlying, hu, hf, Instr.sureAddr, hplace]) (.ptr hs)
  | el l s i off => cases h1 with | el hs => exact Fin.here g (by simp [execOp, ho, hy, Instr.fieldAt, underlying, hu, hf, Instr.sureAddr, hplace, Nat.add_assoc]) (.el hs)
  | rp cs off => cases h1 with | rp gg hc hr => exact Fin.here g (by simp [execOp, ho, hy, Instr.fieldAt, underlying, hu, hf, Instr.sureAddr, hplace, Nat.add_assoc]) (.rp gg hc hr)
  | _ => exact True.intro

theorem part_run {t : TypeId} {cs : List V} {arr : Array Value} {off : Nat} {v : V} (hld : partV P t cs off = some v) (hc : CR F σ cs arr) :
    ∃ x, (part t arr off).run P w = .ok x w ∧ RV F σ v x := by
  unfold partV ldAt at hld
  have agg : ∀ {i : TypeInfo}, (isAgg t).run P w = .ok true w → P.info? t = some i → off + i.size ≤ cs.length → ∃ x, (part t arr off).run P w = .ok x w ∧ RV F σ (.agg ((cs.drop off).take i.size)) x := by
    intro i ha hi hle
    have hl := hc.1
    refine ⟨.agg (arr.extract off (off + i.size)), by simp [part, ha, sizeOf, typeInfo, hi], .agg (by simp; omega) fun j v hv => ?_⟩
    rw [List.getElem?_take] at hv
    split at hv
    · rename_i hj
      rw [List.getElem?_drop] at hv
      have := hc.2 _ _ hv
      have hlt : off + j < arr.size := by omega
      have e1 : (arr.extract off (off + i.size)).getD j undef = arr.getD (off + j) undef := by
        simp [Array.getD_eq_getD_getElem?, Array.getElem?_extract, show j < min (off + i.size) arr.size - off by omega, hlt]
      rw [e1]; exact this
    · cases hv
  split at hld
  · rename_i hu
    cases hi : P.info? t with
    | none => simp [hi] at hld
    | some i =>
      simp only [hi] at hld
      cases hb : Nat.ble (off + i.size) cs.length with
      | false => simp [hb] at hld
      | true =>
        simp only [hb, cond_true, Option.some.injEq] at hld
        subst hld
        exact agg (by rw [isAgg_run hu]) hi (Nat.le_of_ble_eq_true hb)
  · rename_i hu
    cases hi : P.info? t with
    | none => simp [hi] at hld
    | some i =>
      simp only [hi] at hld
      cases hb : Nat.ble (off + i.size) cs.length with
      | false => simp [hb] at hld
      | true =>
        simp only [hb, cond_true, Option.some.injEq] at hld
        subst hld
        exact agg (by rw [isAgg_run hu]) hi (Nat.le_of_ble_eq_true hb)
  · rename_i d hn1 hn2 hu
    have hj : off < arr.size := by rw [← hc.1]; exact (List.getElem?_eq_some_iff.1 hld).1
    have := hc.2 off v hld
    have ha : (isAgg t).run P w = .ok false w := by
      have h1 := isAgg_run (w := w) hu
      cases d <;> first | exact h1 | exact (hn1 _ rfl).elim | exact (hn2 _ _ rfl).elim
    refine ⟨arr[off], by simp [part, ha, hj], ?_⟩
    simpa [Array.getD_eq_getD_getElem?, hj] using this
  · cases hld

theorem aggCs_rv {u : V} {x : Value} {cs : List V} (hc : aggCs u = some cs) (h : RV F σ u x) : ∃ arr, x = .agg arr ∧ CR F σ cs arr := by
  cases u with
  | agg cs' =>
    simp only [aggCs, Option.some.injEq] at hc
    subst hc
    cases h with
    | agg hl hh => exact ⟨_, rfl, hl, hh⟩
  | kn y =>
    cases h
    cases x <;> simp only [aggCs, Option.some.injEq, reduceCtorEq] at hc
    subst hc
    exact ⟨_, rfl, CR_kn F σ _⟩
  | _ => simp [aggCs] at hc
theorem eqFs_run {eq : TypeId → V → V → Option Bool} {d : Nat} (heq : ∀ t u v x y r, eq t u v = some r → RV F σ u x → RV F σ v y → (Op.equalIn d t x y).run P w = .ok r w) {xs ys : List V} {as bs : Array Value} (hx : CR F σ xs as) (hy : CR F σ ys bs) :
    ∀ (fs : List Field) (r : Bool), eqFs P eq xs ys fs = some r → (Op.eqFields d as bs fs).run P w = .ok r w
  | [], r, h => by simp [eqFs] at h; subst h; rfl
  | f :: fs, r, h => by
    simp only [eqFs] at h
    unfold Op.eqFields
    cases hn : (f.name == "_") with
    | true =>
      rw [hn] at h
      have : f.name = "_" := by simpa using hn
      rw [if_neg (by simp [this])]
      exact eqFs_run heq hx hy fs r h
    | false =>
      rw [hn] at h
      simp only [cond_false] at h
      have : f.name ≠ "_" := by simpa using hn
      rw [if_pos this]
      cases ha : partV P f.type xs f.offset with
      | none => simp [ha] at h
      | some a =>
        cases hb : partV P f.type ys f.offset with
        | none => simp [ha, hb] at h
        | some b =>
          simp only [ha, hb] at h
          cases hr : eq f.type a b with
          | none => simp [hr] at h
          | some r1 =>
            cases hq : eqFs P eq xs ys fs with
            | none => simp [hr, hq] at h
            | some q =>
              simp only [hr, hq, Option.some.injEq] at h
              subst h
              obtain ⟨va, h1, h2⟩ := part_run (P := P) (w := w) ha hx
              obtain ⟨vb, h3, h4⟩ := part_run (P := P) (w := w) hb hy
              have h5 := heq _ _ _ _ _ _ hr h2 h4
              have h6 := eqFs_run heq hx hy fs q hq
              simp only [Sem.run_bind, h1, Result.andThen_ok, h3, h5]
              cases r1 with
              | true => simpa using h6
              | false => simp
theorem eqT_run : ∀ (d n : Nat) (t : TypeId) (u v : V) (x y : Value) (r : Bool), d ≤ n → eqT P d t u v = some r → RV F σ u x → RV F σ v y → (Op.equalIn n t x y).run P w = .ok r w
  | 0, n, t, u, v, x, y, r, hn, h, hu, hv => by simp [eqT] at h
  | d + 1, n, t, u, v, x, y, r, hn, h, hu, hv => by
    obtain ⟨m, rfl⟩ : ∃ m, n = m + 1 := ⟨n - 1, by omega⟩
    unfold eqT at h
    cases ht : P.underlying t with
    | none => simp [ht] at h
    | some ty =>
      cases ty with
      | bool =>
        simp only [ht] at h
        split at h
        · cases hu; cases hv; cases h; exact run_equalIn_bool' w m t _ _ ht
        · cases h
      | int k0 =>
        simp only [ht] at h
        split at h
        · rename_i k a k' b
          by_cases hk : k = k'
          · subst hk
            simp only [decide_true, cond_true, Option.some.injEq] at h
            subst h
            cases hu; cases hv
            exact run_equalIn_int w m t _ _ _ _ ht
          · simp [hk] at h
        · cases h
      | string =>
        simp only [ht] at h
        split at h
        · cases hu; cases hv; cases h
          rw [run_equalIn_string w m t _ _ ht, ← beq_toListBytes]
        · cases h
      | struct fs =>
        simp only [ht] at h
        cases ha : aggCs u with
        | none => simp [ha] at h
        | some xs =>
          cases hb : aggCs v with
          | none => simp [ha, hb] at h
          | some ys =>
            simp only [ha, hb] at h
            cases hs : P.stoodInHeld t with
            | true => simp [hs] at h
            | false =>
              simp only [hs, cond_false] at h
              obtain ⟨as, rfl, h1⟩ := aggCs_rv ha hu
              obtain ⟨bs, rfl, h2⟩ := aggCs_rv hb hv
              have hf : P.fieldsOf t = fs := by simp [Program.fieldsOf, ht]
              rw [run_equalIn_struct w m t as bs (by rw [hf]; exact ht) hs, hf]
              exact eqFs_run (fun t u v x y r h hu hv => eqT_run d m t u v x y r (by omega) h hu hv) h1 h2 _ _ h
      | _ => simp [ht] at h
theorem snd_aggEq (g : Gm base σ F h w) (hρ : ∀ x, RV F σ (ρ x) (a.eval x)) {op : BinOp} {t t2 : TypeId} {x y : Operand} (ho : o.op = .binOp op t x y t2) {r : Bool} (hr : aggEq P op t (ρ x) (ρ y) = some r) :
    Snd P base σ F h w a o (.val (.kn (.bool r)) []) := by
  refine Fin.here g (x := .bool r) ?_ .kn
  unfold aggEq at hr
  cases ha : aggCs (ρ x) with
  | none => simp [ha] at hr
  | some xs =>
    cases hb : aggCs (ρ y) with
    | none => simp [ha, hb] at hr
    | some ys =>
      simp only [ha, hb] at hr
      obtain ⟨as, e1, h1⟩ := aggCs_rv ha (hρ x)
      obtain ⟨bs, e2, h2⟩ := aggCs_rv hb (hρ y)
      have hx := hρ x
      have hy := hρ y
      rw [e1] at hx
      rw [e2] at hy
      cases hg : P.eqGuardType P.depth t with
      | true => simp only [hg] at hr; cases op <;> cases hr
      | false =>
        simp only [hg, cond_false] at hr
        cases op with
        | eql =>
          simp only [execOp, ho, e1, e2]
          rw [Sem.run_bind, Sem.run_bind, run_eqGuard_agg w _ _ _ _ _ _ hg]
          simp only [Result.andThen_ok]
          rw [run_eql_struct w, eqT_run 8 10000 t _ _ _ _ r (by omega) hr hx hy]
          rfl
        | neq =>
          simp only [Option.map_eq_some_iff] at hr
          obtain ⟨q, hq, rfl⟩ := hr
          simp only [execOp, ho, e1, e2]
          rw [Sem.run_bind, Sem.run_bind, run_eqGuard_agg w _ _ _ _ _ _ hg]
          simp only [Result.andThen_ok]
          rw [run_neq_struct w, eqT_run 8 10000 t _ _ _ _ q (by omega) hq hx hy]
          rfl
        | _ => cases hr

theorem snd_field (g : Gm base σ F h w) (hρ : ∀ x, RV F σ (ρ x) (a.eval x)) {t : TypeId} {x : Operand} {i : Nat} (ho : o.op = .field t x i) {fs : Array Field} (hu : P.underlying t = some (.struct fs)) {f : Field} (hf : fs[i]? = some f) {cs : List V} (hx : ρ x = .agg cs) :
    Snd P base σ F h w a o (ofO (partV P f.type cs f.offset)) := by
  refine Snd.ofO fun v hv => ?_
  have h1 := hρ x
  rw [hx] at h1
  generalize hy : a.eval x = y at h1
  cases h1 with
  | agg hl hh =>
    obtain ⟨z, hz, hr⟩ := part_run (w := w) hv ⟨hl, hh⟩
    exact Fin.here g (by simp [execOp, ho, hy, Instr.field, underlying, hu, hf, asAgg, hz]) hr

theorem snd_extract (g : Gm base σ F h w) (hρ : ∀ x, RV F σ (ρ x) (a.eval x)) {x : Operand} {i : Nat} (ho : o.op = .extract x i) :
    Snd P base σ F h w a o (match ρ x with
    | .tup vs => ofO vs[i]?
    | .kn (.tuple vs) => ofO ((vs[i]?).map V.kn)
    | _ => .bad) := by
  have h1 := hρ x
  generalize hx : ρ x = v at h1
  generalize hy : a.eval x = y at h1
  cases v with
  | tup vs =>
    cases h1 with
    | tup hl hh =>
      refine Snd.ofO fun v hv => ?_
      have := hh i v hv
      have hi := (List.getElem?_eq_some_iff.1 hv).1
      rename_i xs
      have hi' : i < xs.size := by omega
      exact Fin.here g (x := xs.getD i undef) (by simp [execOp, ho, hy, Instr.extract, hi', Array.getD_eq_getD_getElem?]) this
  | kn y' =>
    cases h1
    cases y with
    | tuple xs =>
      refine Snd.ofO fun v hv => ?_
      simp only [Option.map_eq_some_iff] at hv
      obtain ⟨z, hz, rfl⟩ := hv
      exact Fin.here g (x := z) (by simp [execOp, ho, hy, Instr.extract, hz]) .kn
    | _ => exact True.intro
  | _ => exact True.intro

theorem map_pair (ps : Array (Nat × Operand)) (f : Operand → Value) : (ps.map fun (i, x) => (i, f x)).toList = ps.toList.map fun (i, x) => (i, f x) := by simp

theorem places_ok (P : Program) (w : World) : ∀ (fs : List Field), (∀ f ∈ fs, (P.info? f.type).isSome = true) →
    (fs.mapM fun f => do pure (f.offset, ← sizeOf f.type) : Sem (List (Nat × Nat))).run P w = .ok (fs.map fun f => (f.offset, sz P f.type)) w
  | [], _ => by simp
  | x :: r, hall => by
    have hp := places_ok P w r fun f hf => hall f (by simp [hf])
    obtain ⟨ti, hti⟩ := Option.isSome_iff_exists.1 (hall x (by simp))
    simp only [List.mapM_cons, Sem.run_bind, sizeOf_run hti, Result.andThen_ok, Sem.run_pure, hp, List.map_cons]

theorem fill_congr {p q : Nat → Option (Nat × Nat)} (hpq : ∀ i, p i = q i) : ∀ (qs : List (Nat × Value)) (arr : Array Value), Instr.fill p arr qs = Instr.fill q arr qs := by
  have : p = q := funext hpq
  subst this
  intro _ _; rfl

theorem snd_build_struct (g : Gm base σ F h w) (hρ : ∀ x, RV F σ (ρ x) (a.eval x)) {t : TypeId} {ps : Array (Nat × Operand)} (ho : o.op = .build t ps) {fs : Array Field} (hu : P.underlying t = some (.struct fs)) {z : List V} (hz : zeroV P t = some z) (hall : fieldsOK P fs = true) :
    Snd P base σ F h w a o (ofO ((fillV (fun i => (fs[i]?).map fun f => (f.offset, sz P f.type)) z (ps.toList.map fun (i, x) => (i, ρ x))).map V.agg)) := by
  refine Snd.ofO fun v hv => ?_
  simp only [Option.map_eq_some_iff] at hv
  obtain ⟨cs, hcs, rfl⟩ := hv
  obtain ⟨ti, y, hi, hy, rfl, hrun⟩ := zeroV_run (w := w) hz
  obtain ⟨arr, harr, hc⟩ := fillV_run g.one _ (ps.toList.map fun (i, x) => (i, ρ x)) (ps.toList.map fun (i, x) => (i, a.eval x)) _ cs y.cells (by simp) (parts_rel hρ ps.toList) hcs (CR_kn F σ y.cells)
  have hpl := places_ok P w fs.toList (fun f hf => by simpa using List.all_eq_true.1 hall f hf)
  have hplaces : (fs.mapM fun f => do pure (f.offset, ← sizeOf f.type) : Sem (Array (Nat × Nat))).run P w = .ok (fs.map fun f => (f.offset, sz P f.type)) w := by
    rw [Array.mapM_eq_mapM_toList, Sem.run_map, hpl]
    show Result.ok _ _ = _
    congr 1
    apply Array.ext'
    simp
  have hfill : Instr.fill ((fs.map fun f => (f.offset, sz P f.type))[·]?) y.cells (ps.map fun (i, x) => (i, a.eval x)).toList = some arr := by
    rw [← harr, map_pair]
    exact fill_congr (fun i => by simp) _ _
  refine Fin.here g (x := .agg arr) ?_ (CR.agg hc)
  simp only [execOp, ho, Instr.build, Sem.run_bind, hrun, Result.andThen_ok, underlying, run_program, hu, Sem.run_pure, hplaces, hfill]

theorem snd_build_array (g : Gm base σ F h w) (hρ : ∀ x, RV F σ (ρ x) (a.eval x)) {t : TypeId} {ps : Array (Nat × Operand)} (ho : o.op = .build t ps) {n : Nat} {e : TypeId} (hu : P.underlying t = some (.array n e)) {z : List V} (hz : zeroV P t = some z) (he : (P.info? e).isSome = true) :
    Snd P base σ F h w a o (ofO ((fillV (fun i => some (i * sz P e, sz P e)) z (ps.toList.map fun (i, x) => (i, ρ x))).map V.agg)) := by
  refine Snd.ofO fun v hv => ?_
  simp only [Option.map_eq_some_iff] at hv
  obtain ⟨cs, hcs, rfl⟩ := hv
  obtain ⟨ti, y, hi, hy, rfl, hrun⟩ := zeroV_run (w := w) hz
  obtain ⟨arr, harr, hc⟩ := fillV_run g.one _ (ps.toList.map fun (i, x) => (i, ρ x)) (ps.toList.map fun (i, x) => (i, a.eval x)) _ cs y.cells (by simp) (parts_rel hρ ps.toList) hcs (CR_kn F σ y.cells)
  obtain ⟨ei, hei⟩ := Option.isSome_iff_exists.1 he
  refine Fin.here g (x := .agg arr) ?_ (CR.agg hc)
  simp [execOp, ho, Instr.build, hrun, underlying, hu, sizeOf_run hei, harr]

theorem snd_buildSlice (g : Gm base σ F h w) (hbase : Und base w.heap.size) (hn : getO h nid = .hole) (hρ : ∀ x, RV F σ (ρ x) (a.eval x)) {t : TypeId} {len : Nat} {ps : Array (Nat × Operand)} (ho : o.op = .buildSlice t len ps) {e : TypeId} (hu : P.underlying t = some (.slice e)) {z : List V} (hz : zeroV P e = some z) :
    Snd P base σ F h w a o (bif !(Nat.ble (len * sz P e) 16777216 && Nat.ble len 16777216) then .bad else
        match fillV (fun i => some (i * sz P e, sz P e)) (zeroRow z len) (ps.toList.map fun (i, x) => (i, ρ x)) with
        | some cs => bif cs.all V.one && Nat.beq z.length (sz P e) then .val (.sl nid) [(nid, .row e (sz P e) len (rowF cs (sz P e)) (cs.all V.pure0))] else .bad
        | none => .bad) := by
  refine snd_cond (fun _ => True.intro) fun hb => ?_
  have hb2 : Nat.ble (len * sz P e) 16777216 = true ∧ Nat.ble len 16777216 = true := by simpa using hb
  have hle1 := Nat.le_of_ble_eq_true hb2.1
  have hle2 := Nat.le_of_ble_eq_true hb2.2
  obtain ⟨ti, y, hi, hy, rfl, hrun⟩ := zeroV_run (w := w) hz
  cases hcs : fillV (fun i => some (i * sz P e, sz P e)) (zeroRow (y.cells.toList.map V.kn) len) (ps.toList.map fun (i, x) => (i, ρ x)) with
  | none => exact True.intro
  | some cs =>
    refine snd_cond (fun hb3 => ?_) fun _ => True.intro
    have hb4 : cs.all V.one = true ∧ Nat.beq (y.cells.toList.map V.kn).length (sz P e) = true := by simpa using hb3
    have hzl : (y.cells.toList.map V.kn).length = sz P e := Nat.eq_of_beq_eq_true hb4.2
    have hzl' : y.cells.size = sz P e := by simpa using hzl
    have hzr : ∀ zz : Array Value, (len * sz P e ≠ 0 → zz = y.cells) → CR F σ (zeroRow (y.cells.toList.map V.kn) len) ((Array.range (len * sz P e)).map (zz[· % zz.size]!)) := by
      intro zz hzz
      refine ⟨by rw [(zeroRow_get _ len 0).1, hzl]; simp, fun j v hv => ?_⟩
      rw [(zeroRow_get _ len j).2, hzl] at hv
      split at hv
      · rename_i hj
        have hne : len * sz P e ≠ 0 := by omega
        have hpos : 0 < sz P e := Nat.pos_of_ne_zero fun e0 => by rw [e0] at hne; simp at hne
        rw [hzz hne]
        obtain ⟨x, hx, rfl⟩ := getD_map_kn _ _ _ hv
        have hlt : j % sz P e < y.cells.size := by rw [hzl']; exact Nat.mod_lt _ hpos
        have e1 : ((Array.range (len * sz P e)).map (y.cells[· % y.cells.size]!)).getD j undef = x := by
          have hxx : y.cells[j % sz P e]? = some x := by simpa using hx
          rw [Array.getD_eq_getD_getElem?, Array.getElem?_map, Array.getElem?_range, if_pos hj]
          simp only [Option.map_some, Option.getD_some, hzl']
          rw [getElem!_def, hxx]
        rw [e1]
        exact .kn
      · cases hv
    have hsz := sizeOf_run (w := w) hi
    have hpars := parts_rel hρ ps.toList
    have hzz : len * sz P e ≠ 0 → (if len * sz P e = 0 then #[] else y.cells : Array Value) = y.cells := fun hh => if_neg hh
    obtain ⟨arr, harr, hc⟩ := fillV_run g.one _ (ps.toList.map fun (i, x) => (i, ρ x)) (ps.toList.map fun (i, x) => (i, a.eval x)) _ cs _ (by simp) hpars hcs (hzr _ hzz)
    have hlen : cs.length = len * sz P e := by
      have hcl : ∀ (place : Nat → Option (Nat × Nat)) (qs : List (Nat × V)) (c c' : List V), fillV place c qs = some c' → c'.length = c.length := by
        intro place qs
        induction qs with
        | nil => intro c c' hh; simp [fillV] at hh; rw [hh]
        | cons q r ih =>
          intro c c' hh
          obtain ⟨i, v⟩ := q
          simp only [fillV] at hh
          split at hh
          · cases hbb : Nat.beq _ _ with
            | false => rw [hbb] at hh; cases hh
            | true =>
              rw [hbb] at hh
              simp only [cond_true, Option.bind_eq_some_iff] at hh
              obtain ⟨c1, h1, h2⟩ := hh
              rw [ih _ _ h2, (stAt_spec _ _ _ _ h1).2.1]
          · cases hh
      rw [hcl _ _ _ _ hcs, (zeroRow_get _ len 0).1, hzl]
    refine Fin.val ?_ (new_row (e := e) g hn hbase hc hlen (by simp only [maxLen]; omega) hb4.1)
    have hgt : ¬ (16777216 < len * sz P e) := by omega
    simp only [execOp, ho, Instr.buildSlice, Sem.run_bind, underlying, run_program, Result.andThen_ok, hu, Sem.run_pure, hsz, gt_iff_lt, show (2 : Nat) ^ 24 = 16777216 from rfl, if_neg hgt, Sem.run_ite]
    rw [map_pair]
    by_cases h0 : len * sz P e = 0
    · rw [if_pos h0] at harr
      rw [if_pos h0, harr]
      simp only [newRow, Sem.run_bind, run_newObj, Result.andThen_ok, Sem.run_pure]
      rfl
    · rw [if_neg h0] at harr
      rw [if_neg h0, hrun]
      simp only [Result.andThen_ok]
      rw [harr]
      simp only [newRow, Sem.run_bind, run_newObj, Result.andThen_ok, Sem.run_pure]
      rfl

theorem Aft.pre {base : Blk} {σ : Sig} {F F' : Fz} {w w' : World} {v : V} {h' : List O} {x : Value} (hF : FExt base F F') (h : Aft base σ F' w v h' x w') : Aft base σ F w v h' x w' := by
  obtain ⟨σ', F2, h1, h2, h3, h4, h5⟩ := h
  exact ⟨σ', F2, h1, h2, h3, hF.trans h4, h5⟩

theorem Fin.mono {R S : Value → World → Prop} (hh : Fin P o a w R) (hi : ∀ x w', R x w' → S x w') : Fin P o a w S := by
  rcases hh with ⟨x, w', h1, h2⟩ | ⟨w', h1, h2⟩ | ⟨f, xs, h1, h2⟩
  · exact .inl ⟨x, w', h1, hi _ _ h2⟩
  · exact .inr (.inl ⟨w', h1, hi _ _ h2⟩)
  · exact .inr (.inr ⟨f, xs, h1, h2.mono fun e w' ⟨x, h3, h4⟩ => ⟨x, h3, hi _ _ h4⟩⟩)

open Classical in
/-- A literal of a slice: what it is made of is let be. -/
theorem snd_buildSlice2 (g : Gm base σ F h w) (hbase : Und base w.heap.size) (hn : getO h nid = .hole) (hρ : ∀ x, RV F σ (ρ x) (a.eval x)) {t : TypeId} {len : Nat} {ps : Array (Nat × Operand)} (ho : o.op = .buildSlice t len ps) {e : TypeId} (hu : P.underlying t = some (.slice e)) {z : List V} (hz : zeroV P e = some z) :
    Snd P base σ F h w a o (bif !(Nat.ble (len * sz P e) 16777216 && Nat.ble len 16777216) then .bad else
        match fillV (fun i => some (i * sz P e, sz P e)) (zeroRow z len) (ps.toList.map fun (i, x) => (i, pur (getO h) (ρ x))) with
        | some cs => bif cs.all V.one && Nat.beq z.length (sz P e) then .val (.sl nid) (frzL (getO h) (ps.toList.flatMap fun (_, x) => (ρ x).ids) ++ [(nid, .row e (sz P e) len (rowF cs (sz P e)) (cs.all V.pure0))]) else .bad
        | none => .bad) := by
  obtain ⟨F', hF', g', hR, hk⟩ := g.freeze (ps.toList.flatMap fun p => (ρ p.2).ids)
  have hn' : getO (ups (frzL (getO h) (ps.toList.flatMap fun p => (ρ p.2).ids)) h) nid = .hole := by
    rcases hk nid with h1 | ⟨e, s, n, f, h1, _⟩
    · rw [h1]; exact hn
    · rw [hn] at h1; cases h1
  let ρ' : Operand → V := fun x => if ∃ i, (i, x) ∈ ps.toList then pur (getO h) (ρ x) else ρ x
  have hρ' : ∀ x, RV F' σ (ρ' x) (a.eval x) := fun x => by
    show RV F' σ (if ∃ i, (i, x) ∈ ps.toList then pur (getO h) (ρ x) else ρ x) _
    split
    · rename_i hx
      obtain ⟨i, hx⟩ := hx
      exact pur_rv hF'.1 (hR.sub fun l hl => List.mem_flatMap.2 ⟨(i, x), hx, hl⟩) (hρ x)
    · exact (hρ x).mono hF'.1 (Sle.refl _)
  have hmap : (ps.toList.map fun (i, x) => (i, ρ' x)) = ps.toList.map fun (i, x) => (i, pur (getO h) (ρ x)) := by
    apply List.map_congr_left
    rintro ⟨i, x⟩ hx
    show (i, if ∃ i, (i, x) ∈ ps.toList then pur (getO h) (ρ x) else ρ x) = _
    rw [if_pos ⟨i, hx⟩]
  have := snd_buildSlice (P := P) (ρ := ρ') g' hbase hn' hρ' ho hu hz
  rw [hmap] at this
  revert this
  generalize (!(Nat.ble (len * sz P e) 16777216 && Nat.ble len 16777216)) = b1
  generalize fillV (fun i => some (i * sz P e, sz P e)) (zeroRow z len) (ps.toList.map fun (i, x) => (i, pur (getO h) (ρ x))) = q
  intro this
  cases b1 with
  | true => exact True.intro
  | false =>
    simp only [cond_false] at this ⊢
    cases q with
    | none => exact True.intro
    | some cs =>
      dsimp only at this ⊢
      revert this
      generalize (cs.all V.one && Nat.beq z.length (sz P e)) = b2
      intro this
      cases b2 with
      | false => exact True.intro
      | true =>
        simp only [cond_true] at this ⊢
        refine Fin.mono this fun x w' hA => ?_
        rw [ups_append]
        exact Aft.pre hF' hA

theorem snd_store (g : Gm base σ F h w) (hρ : ∀ x, RV F σ (ρ x) (a.eval x)) {t : TypeId} {x y : Operand} (ho : o.op = .store t x y) (hi : (P.info? t).isSome = true) :
    Snd P base σ F h w a o (match (ρ y).cs with
    | none => .bad
    | some xs => bif !(Nat.beq xs.length (sz P t) && xs.all V.one) then .bad else
      match ρ x with
      | .ptr l off => match getO h l with
        | .cells cs => match stAt cs off xs with
          | some cs' => .val .any [(l, .cells cs')]
          | none => .bad
        | _ => .bad
      | .el l s' i off => match getO h l with
        | .row e s n f p => bif !Nat.beq s s' then .bad else match stAt (f i) off xs with
          | some cs' => .req (i < n) .any [(l, .row e s n (updF i cs' f) (p && xs.all V.pure0))]
          | none => .bad
        | _ => .bad
      | _ => .bad) := by
  cases hxs : (ρ y).cs with
  | none => exact True.intro
  | some xs =>
    refine snd_cond (fun _ => True.intro) fun hb => ?_
    have hb2 : Nat.beq xs.length (sz P t) = true ∧ xs.all V.one = true := by simpa using hb
    have hlen := Nat.eq_of_beq_eq_true hb2.1
    have h1 := hρ x
    generalize hx : ρ x = v at h1
    generalize hy : a.eval x = z at h1
    obtain ⟨ti, hti⟩ := Option.isSome_iff_exists.1 hi
    have fin : ∀ {w' : World} {h' : List O} (ad : Addr), z = .pointer (some ad) → (storeVar t ad (a.eval y)).run P w = .ok () w' → Gm base σ F h' w' → Kp base w w' → Fin P o a w (Aft base σ F w .any h' ) := by
      intro w' h' ad hz hrun hg hbel
      subst hz
      refine .inr (.inl ⟨w', ?_, σ, F, hg, .any, Sle.refl _, FExt.refl _ _, hbel⟩)
      simp [execOp, ho, hy, Instr.storeAt, Instr.sureAddr, hrun]
    cases v with
    | ptr l off =>
      cases h1 with
      | @ptr _ _ _ b hs =>
        dsimp only
        cases hO : getO h l with
        | cells cs =>
          dsimp only
          cases hst : stAt cs off xs with
          | none => exact True.intro
          | some cs' =>
            have hbb := (g.own l b (by rw [hO, hs]; rfl)).1
            obtain ⟨w', h2, h3, h4⟩ := st_run (P := P) g hO hs hxs (hρ y) hlen hb2.2 hst hbb ⟨ti, hti⟩
            exact fin _ rfl h2 h3 h4
        | _ => exact True.intro
    | el l s' i off =>
      cases h1 with
      | @el _ _ _ _ _ b n cap hs =>
        dsimp only
        cases hO : getO h l with
        | row e s n f p =>
          refine snd_cond (fun _ => True.intro) fun hb3 => ?_
          have hss : s = s' := Nat.eq_of_beq_eq_true (by simpa using hb3)
          subst hss
          cases hst : stAt (f i) off xs with
          | none => exact True.intro
          | some cs' =>
            intro hin
            obtain ⟨w', h2, h3, h4⟩ := st_el_run (P := P) g hO hs hxs (hρ y) hlen hb2.2 hst ⟨ti, hti⟩ hin
            exact fin _ rfl h2 h3 h4
        | _ => exact True.intro
    | _ => exact True.intro

theorem snd_indexAddr_slice (g : Gm base σ F h w) (hρ : ∀ x, RV F σ (ρ x) (a.eval x)) {t : TypeId} {x y : Operand} (ho : o.op = .indexAddr t x y) {e : TypeId} (hu : P.underlying t = some (.slice e)) {k : IntKind} {i : Int} (hy : ρ y = .kn (.int k i)) (he : (P.info? e).isSome = true) :
    Snd P base σ F h w a o (match ρ x with
      | .list s n f => bif !Nat.beq s (sz P e) then .bad else .req (0 ≤ i ∧ i < (n : Int)) (.rp (f i.toNat) 0) []
      | .sl l => match getO h l with
        | .row _ s n _ _ => bif !Nat.beq s (sz P e) then .bad else .req (0 ≤ i ∧ i < (n : Int)) (.el l s i.toNat 0) []
        | _ => .bad
      | _ => .bad) := by
  obtain ⟨ei, hei⟩ := Option.isSome_iff_exists.1 he
  have hsz := sizeOf_run (w := w) hei
  have hix := hρ y
  rw [hy] at hix
  generalize hyy : a.eval y = yy at hix
  cases hix
  have h1 := hρ x
  generalize hx : ρ x = v at h1
  generalize hxx : a.eval x = z at h1
  have hrun : ∀ (ad : Addr) (n cap : Nat), z = .slice (some ad) n cap → 0 ≤ i → i < (n : Int) → (execOp a.eval o).run P w = .ok (.value (.pointer (some (ad.add (i.toNat * sz P e))))) w := by
    intro ad n cap hz h0 hn
    subst hz
    simp [execOp, ho, hyy, hxx, Instr.indexAt, asIntOf, underlying, hu, h0, hn, hsz]
  cases v with
  | list s n f =>
    refine snd_cond (fun _ => True.intro) fun hb => ?_
    have hss : s = sz P e := Nat.eq_of_beq_eq_true (by simpa using hb)
    rintro ⟨h0, hn⟩
    have hin : i.toNat < n := by omega
    cases h1 with
    | list0 hn0 => omega
    | @list _ _ _ _ b off cap gg hcap hl hc hoc hr =>
      refine Fin.here g (hrun _ _ _ rfl h0 hn) ?_
      rw [add_none, ← hss]
      exact .rp (off := 0) (gg i.toNat) (fun j hj => hc _ j hin (by rw [hl _ hin] at hj; exact hj)) fun j u hu => hr _ j u hin hu
  | sl l =>
    dsimp only
    cases hO : getO h l with
    | row e' s n f p =>
      refine snd_cond (fun _ => True.intro) fun hb => ?_
      have hss : s = sz P e := Nat.eq_of_beq_eq_true (by simpa using hb)
      rintro ⟨h0, hn⟩
      cases h1 with
      | sl hs =>
        have hob := g.obj l
        rw [hO] at hob
        obtain ⟨v', xs, hv', hown, _⟩ := hob
        rw [hs] at hv'
        cases hv'
        rcases hown.2 with ⟨rfl, rfl⟩ | ⟨gg, cap, cur, rfl, _⟩
        · omega
        · refine Fin.here g (hrun _ _ _ rfl h0 hn) ?_
          rw [add_none, ← hss, Nat.zero_add]
          exact .el (off := 0) hs
    | _ => exact True.intro
  | _ => exact True.intro

theorem snd_indexAddr_array (g : Gm base σ F h w) (hρ : ∀ x, RV F σ (ρ x) (a.eval x)) {t : TypeId} {x y : Operand} (ho : o.op = .indexAddr t x y) {e : TypeId} {n : Nat} (hu : P.underlying t = some (.array n e)) {k : IntKind} {i : Int} (hy : ρ y = .kn (.int k i)) (he : (P.info? e).isSome = true) :
    Snd P base σ F h w a o (match ρ x with
      | .ptr l off => .req (0 ≤ i ∧ i < (n : Int)) (.ptr l (off + i.toNat * sz P e)) []
      | _ => .bad) := by
  obtain ⟨ei, hei⟩ := Option.isSome_iff_exists.1 he
  have hsz := sizeOf_run (w := w) hei
  have hix := hρ y
  rw [hy] at hix
  generalize hyy : a.eval y = yy at hix
  cases hix
  have h1 := hρ x
  generalize hx : ρ x = v at h1
  generalize hxx : a.eval x = z at h1
  cases v with
  | ptr l off =>
    cases h1 with
    | ptr hs =>
      rintro ⟨h0, hn⟩
      refine Fin.here g ?_ (.ptr hs)
      simp [execOp, ho, hyy, hxx, Instr.indexAt, asIntOf, underlying, hu, h0, hn, hsz, Instr.sureAddr, add_none]
  | _ => exact True.intro

/-- A bound of a slice expression. -/
theorem bound_run (hρ : ∀ x, RV F σ (ρ x) (a.eval x)) {l : Operand} {k : IntKind} {i : Int} (hl : valOf (ρ l) = some (.int k i)) {y : Nat} {code : BoundsCode} (h0 : 0 ≤ i) (hy : i ≤ y) :
    (Instr.sliceBound (a.eval l) y code).run P w = .ok i.toNat w := by
  have := valOf_eq hl (hρ l)
  simp [Instr.sliceBound, this, asIntOf, h0, hy]

theorem bounds_run (hρ : ∀ x, RV F σ (ρ x) (a.eval x)) {isSlice : Bool} {len cap : Nat} {lo hi : Option Operand} {k1 k2 : IntKind} {l hh : Int} (hlo : loOf ρ lo = some (.int k1 l)) (hhi : hiOf ρ len hi = some (.int k2 hh))
    (h0 : 0 ≤ l) (h1 : l ≤ hh) (h2 : hh ≤ len) (hcap : len ≤ cap) : (Instr.sliceBounds isSlice len cap (lo.map a.eval) (hi.map a.eval) none).run P w = .ok (l.toNat, hh.toNat, cap) w := by
  have hh0 : ((hh.toNat : Nat) : Int) = hh := Int.toNat_of_nonneg (by omega)
  cases hi with
  | none =>
    simp only [hiOf, Option.some.injEq, Value.int.injEq] at hhi
    obtain ⟨_, rfl⟩ := hhi
    cases lo with
    | none =>
      simp only [loOf, Option.some.injEq, Value.int.injEq] at hlo
      obtain ⟨_, rfl⟩ := hlo
      simp [Instr.sliceBounds]
    | some lo =>
      have := bound_run (P := P) (w := w) hρ (y := len) (code := .sliceB) hlo h0 h1
      simp [Instr.sliceBounds, this]
  | some hi =>
    have hb : ∀ code, (Instr.sliceBound (a.eval hi) cap code).run P w = .ok hh.toNat w := fun code => bound_run hρ hhi (by omega) (by omega)
    cases lo with
    | none =>
      simp only [loOf, Option.some.injEq, Value.int.injEq] at hlo
      obtain ⟨_, rfl⟩ := hlo
      cases isSlice <;> simp [Instr.sliceBounds, hb]
    | some lo =>
      have := bound_run (P := P) (w := w) hρ (y := hh.toNat) (code := .sliceB) hlo h0 (by omega)
      cases isSlice <;> simp [Instr.sliceBounds, hb, this]

theorem snd_slice_str (g : Gm base σ F h w) (hρ : ∀ x, RV F σ (ρ x) (a.eval x)) {t : TypeId} {x : Operand} {lo hi : Option Operand} (ho : o.op = .slice t x lo hi none) (hu : P.underlying t = some .string) {s : ByteArray} (hx : ρ x = .kn (.string s))
    {k1 k2 : IntKind} {l hh : Int} (hlo : loOf ρ lo = some (.int k1 l)) (hhi : hiOf ρ s.size hi = some (.int k2 hh)) :
    Snd P base σ F h w a o (.req (0 ≤ l ∧ l ≤ hh ∧ hh ≤ s.size) (.kn (.string (s.extract l.toNat hh.toNat))) []) := by
  rintro ⟨h0, h1, h2⟩
  have hxx := hρ x
  rw [hx] at hxx
  generalize hy : a.eval x = y at hxx
  cases hxx
  refine Fin.here g (x := .string (s.extract l.toNat hh.toNat)) ?_ .kn
  have := bounds_run (P := P) (w := w) (isSlice := false) hρ hlo hhi h0 h1 h2 (Nat.le_refl _)
  simp [execOp, ho, hy, Instr.sliceAt, Instr.slice, underlying, hu, this]

theorem snd_slice_list (g : Gm base σ F h w) (hρ : ∀ x, RV F σ (ρ x) (a.eval x)) {t : TypeId} {x : Operand} {lo hi : Option Operand} (ho : o.op = .slice t x lo hi none) {e : TypeId} (hu : P.underlying t = some (.slice e)) (he : (P.info? e).isSome = true) {s n : Nat} {f : Nat → List V} (hx : ρ x = .list s n f) (hs : s = sz P e)
    {k1 k2 : IntKind} {l hh : Int} (hlo : loOf ρ lo = some (.int k1 l)) (hhi : hiOf ρ n hi = some (.int k2 hh)) :
    Snd P base σ F h w a o (.req (0 ≤ l ∧ l ≤ hh ∧ hh ≤ n) (.list s (hh.toNat - l.toNat) (partF l.toNat f)) []) := by
  rintro ⟨h0, h1, h2⟩
  obtain ⟨ei, hei⟩ := Option.isSome_iff_exists.1 he
  have hsz := sizeOf_run (w := w) hei
  have hxx := hρ x
  rw [hx] at hxx
  generalize hy : a.eval x = y at hxx
  have hrun : ∀ (ad : Option Addr) (cap : Nat), y = .slice ad n cap → n ≤ cap → (execOp a.eval o).run P w = .ok (.value (.slice (if cap = l.toNat then ad else ad.map (·.add (l.toNat * sz P e))) (hh.toNat - l.toNat) (cap - l.toNat))) w := by
    intro ad cap hyy hcap
    subst hyy
    have := bounds_run (P := P) (w := w) (isSlice := true) hρ hlo hhi h0 h1 h2 hcap
    simp [execOp, ho, hy, Instr.sliceAt, Instr.slice, underlying, hu, this, hsz]
  cases hxx with
  | list0 hn => exact Fin.here g (hrun _ _ rfl (by omega)) (.list0 (by omega))
  | @list _ _ _ _ b off cap gg hcap hl hc hoc hr =>
    refine Fin.here g (hrun _ _ rfl hcap) ?_
    by_cases hcl : cap = l.toNat
    · exact .list0 (by omega)
    · rw [if_neg hcl]
      simp only [Option.map_some, add_none]
      refine .list (fun i j => gg (l.toNat + i) j) (by omega) (fun i hi => hl _ (by omega)) (fun i j hi hj => ?_) (fun i j hi hj => hoc _ _ (by omega) hj) fun i j u hi hu => hr _ _ u (by omega) hu
      have := hc (l.toNat + i) j (by omega) hj
      rw [← hs]
      rw [show off + l.toNat * s + i * s + j = off + (l.toNat + i) * s + j by rw [Nat.add_mul]; omega]
      exact this

/-- Part of an own row, which is let be. -/
theorem snd_slice_row (g : Gm base σ F h w) (hρ : ∀ x, RV F σ (ρ x) (a.eval x)) {t : TypeId} {x : Operand} {lo hi : Option Operand} (ho : o.op = .slice t x lo hi none) {e : TypeId} (hu : P.underlying t = some (.slice e)) (he : (P.info? e).isSome = true) {q s n : Nat} {f : Nat → List V} {e' : TypeId} (hx : ρ x = .sl q) (hO : getO h q = .row e' s n f true) (hs : s = sz P e)
    {k1 k2 : IntKind} {l hh : Int} (hlo : loOf ρ lo = some (.int k1 l)) (hhi : hiOf ρ n hi = some (.int k2 hh)) :
    Snd P base σ F h w a o (.req (0 ≤ l ∧ l ≤ hh ∧ hh ≤ n) (.list s (hh.toNat - l.toNat) (partF l.toNat f)) [(q, .fz s n f)]) := by
  rintro ⟨h0, h1, h2⟩
  obtain ⟨F', hF', g', hr⟩ := g.freeze1 hO
  have hxx := hρ x
  rw [hx] at hxx
  have hsl : RV F' sig0 (.list s n f) (a.eval x) := by
    cases hxx with
    | sl hs => exact hr _ hs
  obtain ⟨ei, hei⟩ := Option.isSome_iff_exists.1 he
  have hsz := sizeOf_run (w := w) hei
  generalize hy : a.eval x = y at hsl
  have hrun : ∀ (ad : Option Addr) (cap : Nat), y = .slice ad n cap → n ≤ cap → (execOp a.eval o).run P w = .ok (.value (.slice (if cap = l.toNat then ad else ad.map (·.add (l.toNat * sz P e))) (hh.toNat - l.toNat) (cap - l.toNat))) w := by
    intro ad cap hyy hcap
    subst hyy
    have := bounds_run (P := P) (w := w) (isSlice := true) hρ hlo hhi h0 h1 h2 hcap
    simp [execOp, ho, hy, Instr.sliceAt, Instr.slice, underlying, hu, this, hsz]
  have fin : ∀ {y' : Value}, (execOp a.eval o).run P w = .ok (.value y') w → RV F' σ (.list s (hh.toNat - l.toNat) (partF l.toNat f)) y' → Fin P o a w (Aft base σ F w (.list s (hh.toNat - l.toNat) (partF l.toNat f)) (ups [(q, .fz s n f)] h)) :=
    fun hr hv => Fin.val hr ⟨σ, F', g', hv, Sle.refl _, hF', Kp.refl _ _⟩
  have hcapn : ∀ {ad : Option Addr} {cap : Nat}, y = .slice ad n cap → n ≤ cap := by
    intro ad cap hyy
    have ho2 := g.obj q
    rw [hO] at ho2
    obtain ⟨v, xs, hv, hown, _⟩ := ho2
    cases hxx with
    | sl hs2 =>
      rw [hs2] at hv; cases hv
      rw [hy] at hown
      rcases hown.2 with ⟨e1, e2⟩ | ⟨b, cap', cur, e1, _, _, hnc, _⟩
      · rw [hyy] at e1; cases e1; exact Nat.le_refl _
      · rw [hyy] at e1; cases e1; exact hnc
  cases hsl with
  | list0 hn => exact fin (hrun _ _ rfl (hcapn rfl)) (.list0 (by omega))
  | @list _ _ _ _ b off cap gg hcap hl hc hoc hr =>
    refine fin (hrun _ _ rfl hcap) ?_
    by_cases hcl : cap = l.toNat
    · exact .list0 (by omega)
    · rw [if_neg hcl]
      simp only [Option.map_some, add_none]
      refine .list (fun i j => gg (l.toNat + i) j) (by omega) (fun i hi => hl _ (by omega)) (fun i j hi hj => ?_) (fun i j hi hj => hoc _ _ (by omega) hj) fun i j u hi hu => hr _ _ u (by omega) hu
      have := hc (l.toNat + i) j (by omega) hj
      rw [← hs]
      rw [show off + l.toNat * s + i * s + j = off + (l.toNat + i) * s + j by rw [Nat.add_mul]; omega]
      exact this

theorem snd_index_str (g : Gm base σ F h w) (hρ : ∀ x, RV F σ (ρ x) (a.eval x)) {t : TypeId} {x y : Operand} (ho : o.op = .index t x y) (hu : P.underlying t = some .string) {s : ByteArray} (hx : ρ x = .kn (.string s)) {k : IntKind} {i : Int} (hy : ρ y = .kn (.int k i)) :
    Snd P base σ F h w a o (.req (0 ≤ i ∧ i < (s.size : Int)) (.kn (.int .u8 (s.data.getD i.toNat 0).toNat)) []) := by
  rintro ⟨h0, h1⟩
  have e1 := hρ x
  rw [hx] at e1
  generalize hxx : a.eval x = xx at e1
  cases e1
  have e2 := hρ y
  rw [hy] at e2
  generalize hyy : a.eval y = yy at e2
  cases e2
  refine Fin.here g ?_ .kn
  have hlt : i.toNat < s.size := by omega
  have hd : s.data.getD i.toNat 0 = s[i.toNat] := by
    have : i.toNat < s.data.size := hlt
    rw [Array.getD_eq_getD_getElem?, Array.getElem?_eq_getElem this]; rfl
  simp [execOp, ho, hxx, hyy, Instr.index, asIntOf, underlying, hu, h0, hlt, hd]

theorem snd_index_arr (g : Gm base σ F h w) (hρ : ∀ x, RV F σ (ρ x) (a.eval x)) {t : TypeId} {x y : Operand} (ho : o.op = .index t x y) {n : Nat} {e : TypeId} (hu : P.underlying t = some (.array n e)) (he : (P.info? e).isSome = true) {cs : List V} (hx : ρ x = .agg cs) {k : IntKind} {i : Int} (hy : ρ y = .kn (.int k i)) :
    Snd P base σ F h w a o (ofR (0 ≤ i ∧ i < (n : Int)) (partV P e cs (i.toNat * sz P e))) := by
  refine Snd.ofR fun v hv => ?_
  rintro ⟨h0, h1⟩
  obtain ⟨ei, hei⟩ := Option.isSome_iff_exists.1 he
  have hsz := sizeOf_run (w := w) hei
  have e1 := hρ x
  rw [hx] at e1
  generalize hxx : a.eval x = xx at e1
  have e2 := hρ y
  rw [hy] at e2
  generalize hyy : a.eval y = yy at e2
  cases e2
  cases e1 with
  | agg hl hh =>
    obtain ⟨z, hz, hr⟩ := part_run (w := w) hv ⟨hl, hh⟩
    exact Fin.here g (by simp [execOp, ho, hxx, hyy, Instr.index, asIntOf, underlying, hu, h0, h1, hsz, hz]) hr

theorem call_bi {c : Call} {b : Builtin} (ho : o.op = .call c) (hc : c.callee = .builtin b) :
    execOp a.eval o = builtin b c.argTypes o.type (c.args.map fun | .const _ => true | _ => false) (c.args.map a.eval) := by
  simp only [execOp, ho, resolve, hc, invoke]
  rfl

theorem snd_len (g : Gm base σ F h w) (hρ : ∀ x, RV F σ (ρ x) (a.eval x)) {c : Call} (ho : o.op = .call c) (hc : c.callee = .builtin .len) {x : Operand} {t : TypeId} (hargs : c.args.toList = [x]) (ht : c.argTypes[0]? = some t) :
    Snd P base σ F h w a o (match P.underlying t, ρ x with
        | some .string, .kn (.string s) => .val (.kn (.int .i64 s.size)) []
        | some (.array n _), _ => .val (.kn (.int .i64 n)) []
        | some (.slice _), .list _ n _ => .val (.kn (.int .i64 n)) []
        | some (.slice _), .kn (.slice none n _) => .val (.kn (.int .i64 n)) []
        | some (.slice _), .sl l => match getO h l with
          | .row _ _ n _ _ => .val (.kn (.int .i64 n)) []
          | _ => .bad
        | some (.map _ _), .mp l => match getO h l with
          | .map _ _ n _ _ _ _ _ => .val (.kn (.int .i64 n)) []
          | _ => .bad
        | _, _ => .bad) := by
  have hargs' : c.args = #[x] := by rw [← Array.toList_inj]; simpa using hargs
  have hrun := call_bi (a := a) ho hc
  rw [hargs'] at hrun
  have h1 := hρ x
  generalize hx : ρ x = v at h1
  generalize hy : a.eval x = y at h1
  have fin : ∀ {n : Int}, (Builtin.len_ c.argTypes o.type #[y]).run P w = .ok (.int .i64 n) w → Fin P o a w (Aft base σ F w (.kn (.int .i64 n)) h) := by
    intro n hr
    refine Fin.here g (x := .int .i64 n) ?_ .kn
    rw [hrun]
    simp [builtin, hy, hr]
  split
  · rename_i hu
    cases h1
    exact fin (by simp [Builtin.len_, ht, underlying, hu, goInt])
  · rename_i hu
    exact fin (by simp [Builtin.len_, ht, underlying, hu, goInt])
  · rename_i hu
    cases h1 <;> exact fin (by simp [Builtin.len_, ht, underlying, hu, goInt])
  · rename_i hu
    cases h1
    exact fin (by simp [Builtin.len_, ht, underlying, hu, goInt])
  · rename_i l hu
    cases hO : getO h l with
    | row e s n f p =>
      cases h1 with
      | sl hs =>
        have hob := g.obj l
        rw [hO] at hob
        obtain ⟨v', xs, hv', hown, _⟩ := hob
        rw [hs] at hv'
        cases hv'
        rcases hown.2 with ⟨rfl, rfl⟩ | ⟨gg, cap, cur, rfl, _⟩
        · exact fin (by simp [Builtin.len_, ht, underlying, hu, goInt])
        · exact fin (by simp [Builtin.len_, ht, underlying, hu, goInt])
    | _ => exact True.intro
  · rename_i l hu
    cases hO : getO h l with
    | map kd ag n ov has get sub its =>
      cases h1 with
      | mp hs =>
        obtain ⟨τ, g'⟩ := g
        have hm := g'.mp l
        rw [hO] at hm
        obtain ⟨b, es, clk, hb, hh, hm⟩ := hm
        rw [hs] at hb; cases hb
        have := hm.size
        have hgo : (getObj b).run P w = .ok (.map es clk) w := by simp [getObj, Sem.run, hh]
        exact fin (by simp [Builtin.len_, ht, underlying, hu, goInt, hgo, this])
    | _ => exact True.intro
  · exact True.intro

theorem allSome_eq (hρ : ∀ x, RV F σ (ρ x) (a.eval x)) : ∀ (xs : List Operand) (ys : List Value), allSome (xs.map fun x => valOf (ρ x)) = some ys → xs.map a.eval = ys
  | [], ys, e => by simp [allSome] at e; subst e; rfl
  | x :: r, ys, e => by
    cases hv : valOf (ρ x) with
    | none => simp [hv, allSome] at e
    | some y =>
      simp only [List.map_cons, hv, allSome, Option.map_eq_some_iff] at e
      obtain ⟨zs, hz, rfl⟩ := e
      simp [allSome_eq hρ r zs hz, valOf_eq hv (hρ x)]

theorem snd_prn (g : Gm base σ F h w) (hρ : ∀ x, RV F σ (ρ x) (a.eval x)) {c : Call} {b : Builtin} (ho : o.op = .call c) (hc : c.callee = .builtin b) {S : Array Value → Sem Value} (hS : ∀ xs, builtin b c.argTypes o.type (c.args.map fun | .const _ => true | _ => false) xs = do pure (.value (← S xs)))
    {ys : List Value} (hy : allSome (c.args.toList.map fun x => valOf (ρ x)) = some ys) : Snd P base σ F h w a o (ofO ((pr P (S ys.toArray)).map V.kn)) := by
  refine Snd.ofO fun r hr => ?_
  simp only [Option.map_eq_some_iff] at hr
  obtain ⟨z, hz, rfl⟩ := hr
  refine Fin.here g (x := z) ?_ .kn
  have e1 := allSome_eq hρ _ _ hy
  have e2 : c.args.map a.eval = ys.toArray := by rw [← e1]; apply Array.ext'; simp
  rw [call_bi ho hc, hS, e2, Sem.run_bind, pr_run P w _ _ hz]
  rfl

theorem callFunc_run {f : FuncId} (hb : Bod P f) (xs : Array Value) : (callFunc f xs).run P w = .ok (.enter f xs) w := by
  obtain ⟨fn, c, hf, hbody, hname⟩ := hb
  have hn : ¬ fn.name = "runtime.NumGoroutine" := by simpa using hname
  simp [callFunc, hf, hn, hbody]

theorem snd_call (g : Gm base σ F h w) (hbase : Und base w.heap.size) (hn : ∀ i, i < 16 → getO h (nid + i) = .hole) (hcon : ∀ f s, con f = some s → SpecOK P f s) (hρ : ∀ x, RV F σ (ρ x) (a.eval x)) {c : Call} {f : Operand} (ho : o.op = .call c) (hc : c.callee = .value f) :
    Snd P base σ F h w a o (callDo con (getO h) nid (ρ f) (c.args.toList.map ρ)) := by
  have h1 := hρ f
  generalize hx : ρ f = v at h1
  generalize hy : a.eval f = y at h1
  cases v with
  | fn gf cap =>
    cases h1 with
    | @fn _ _ _ xs hl hh =>
      have hrun : Bod P gf → (execOp a.eval o).run P w = .ok (.enter gf (c.args.map a.eval ++ xs)) w := by
        intro hb
        have := callFunc_run (w := w) hb (c.args.map a.eval ++ xs)
        simp [execOp, ho, resolve, hc, hy, Deferred.ofValue, invoke, this]
      have hrv : RVs F σ (c.args.toList.map ρ ++ cap) (c.args.map a.eval ++ xs) := by
        refine ⟨by simp [hl], fun i v hv => ?_⟩
        by_cases hi : i < c.args.size
        · rw [List.getElem?_append_left (by simpa using hi)] at hv
          simp only [List.getElem?_map, Option.map_eq_some_iff] at hv
          obtain ⟨x, hx, rfl⟩ := hv
          have hx' : c.args[i]? = some x := by simpa using hx
          have : (c.args.map a.eval ++ xs).getD i undef = a.eval x := by
            rw [Array.getD_eq_getD_getElem?, Array.getElem?_append_left (by simpa using hi)]
            simp [hx']
          rw [this]; exact hρ x
        · rw [List.getElem?_append_right (by simpa using hi)] at hv
          have h2 := hh _ v hv
          simp only [List.length_map, Array.length_toList] at h2
          have : (c.args.map a.eval ++ xs).getD i undef = xs.getD (i - c.args.size) undef := by
            rw [Array.getD_eq_getD_getElem?, Array.getElem?_append_right (by simpa using hi), Array.getD_eq_getD_getElem?]
            simp
          rw [this]; exact h2
      show Snd P base σ F h w a o (match con gf with
        | some s => bif cap.all V.flat then s (c.args.toList.map ρ ++ cap) (getO h) nid else .bad
        | none => .enter gf (c.args.toList.map ρ ++ cap))
      cases hcf : con gf with
      | none => exact fun hb => ⟨_, hrun hb, hrv⟩
      | some s =>
        have hok := hcon gf s hcf
        refine snd_cond (fun _ => ?_) fun _ => True.intro
        exact Snd.of_call (hrun hok.1) (hok.2.2 base σ F h w _ _ nid g hbase hn hrv)
  | _ => exact True.intro

theorem snd_append (g : Gm base σ F h w) (hbase : Und base w.heap.size) (hn : getO h nid = .hole) (hρ : ∀ x, RV F σ (ρ x) (a.eval x)) {c : Call} (ho : o.op = .call c) (hc : c.callee = .builtin .append) {x y : Operand} {t1 t2 : TypeId} (hargs : c.args.toList = [x, y]) (ht : c.argTypes.toList = [t1, t2]) :
    Snd P base σ F h w a o (appendDo P (getO h) nid t1 t2 (ρ x) (ρ y)) := by
  have hargs' : c.args = #[x, y] := by rw [← Array.toList_inj]; simpa using hargs
  have ht' : c.argTypes = #[t1, t2] := by rw [← Array.toList_inj]; simpa using ht
  have hrun := call_bi (a := a) ho hc
  rw [hargs', ht'] at hrun
  unfold appendDo
  refine snd_cond (fun _ => True.intro) fun hb => ?_
  have htt : t1 = t2 := Nat.eq_of_beq_eq_true (by simpa using hb)
  subst htt
  split
  case h_2 => exact True.intro
  rename_i e hu
  cases hi : P.info? e with
  | none => exact True.intro
  | some i =>
    dsimp only
    split
    case h_2 => exact True.intro
    rename_i z hz hpos
    have hpos' : 0 < i.size := by simpa [Nat.blt_eq] using hpos
    refine snd_cond (fun _ => True.intro) fun hb2 => ?_
    have hzs : z.cells.size = i.size := Nat.eq_of_beq_eq_true (by simpa using hb2)
    have fin : ∀ {v : V} {h' : List O}, (∃ x' w', (Builtin.append_ #[t1, t1] o.type #[a.eval x, a.eval y]).run P w = .ok x' w' ∧ Aft base σ F w v h' x' w') → Fin P o a w (Aft base σ F w v h') := by
      rintro v h' ⟨x', w', hr, hA⟩
      refine Fin.val ?_ hA
      rw [hrun]
      simp [builtin, hr]
    have hX := hρ x
    have hY := hρ y
    generalize hvx : ρ x = vx at hX
    generalize hvy : ρ y = vy at hY
    generalize hex : a.eval x = ex at hX fin
    generalize hey : a.eval y = ey at hY fin
    have rowOf : ∀ {l : Nat} {e' : TypeId} {s n : Nat} {f : Nat → List V} {p : Bool}, vx = .sl l → getO h l = .row e' s n f p → ∃ xs, σ l = some ex ∧ w.ownsRow 0 e' s ex n xs ∧ (∀ k, k < n → (f k).length = s) ∧ (∀ k j u, k < n → (f k)[j]? = some u → RV F (sigP p σ) u (xs.getD (k * s + j) undef)) ∧ ∀ u ∈ xs, u.oneCell' = true := by
      intro l e' s n f p hvl hO
      rw [hvl] at hX
      cases hX with
      | sl hs =>
        have hob := g.obj l
        rw [hO] at hob
        obtain ⟨v', xs, hv', h2, h3, h4, h5⟩ := hob
        rw [hs] at hv'
        cases hv'
        exact ⟨xs, hs, h2, h3, h4, h5⟩
    split
    · -- the source is the nil slice
      cases hY
      split
      · cases hX
        exact fin ⟨_, w, by simp [Builtin.append_, run_underlying hu, sizeOf, typeInfo, hi, Builtin.lenOf, Builtin.firstCells], Aft.same g .kn⟩
      · rename_i l
        cases hO : getO h l with
        | row e' s n f p =>
          obtain ⟨xs, hs, hown, _⟩ := rowOf rfl hO
          refine fin ⟨ex, w, ?_, Aft.same g (.sl hs)⟩
          rcases hown.2 with ⟨rfl, rfl⟩ | ⟨gg, cap, cur, rfl, _, _, hnc, _⟩
          · simp [Builtin.append_, run_underlying hu, sizeOf, typeInfo, hi, Builtin.lenOf, Builtin.firstCells]
          · simp [Builtin.append_, run_underlying hu, sizeOf, typeInfo, hi, Builtin.lenOf, Builtin.firstCells, hnc, storeCells]
        | _ => exact True.intro
      · exact True.intro
    · rename_i vy _vb _xo s2 m gf hnk hview
      refine snd_cond (fun _ => True.intro) fun hb3 => ?_
      have hs2 : s2 = i.size := Nat.eq_of_beq_eq_true (by simpa using hb3)
      subst hs2
      have hnil : ∀ a' n' c', vy = .kn (.slice a' n' c') → False := by
        intro a' n' c' hh
        subst hh
        cases a' <;> cases n' <;> cases c' <;> simp [view] at hview hnk
      obtain ⟨oa, cc, news, rfl, hl, hnews, hoa, h1, hl2, hr2⟩ := src_spec g hview hY hpos' hnil
      split
      · cases hX
        rintro ⟨hb4, hb5⟩
        have := app_sound (P := P) (ty := o.type) (v := .slice none 0 0) (n := 0) (xs := []) (f := fun _ => []) (p := true) g hn hbase hu hi hz hzs hpos' (World.ownsRow_nil w 0 e i.size) (fun k hk => by omega) (fun k j u hk => by omega) (by simp) (c := cc) hl hnews hoa h1 hl2 hr2 (by omega) (by rw [Nat.zero_add]; exact hb5) (.inl ⟨rfl, rfl⟩)
        simp only [Nat.zero_add, Nat.sub_zero, Bool.true_and] at this
        have e1 : (fun j => bif Nat.blt j 0 then [] else gf j) = gf := by funext j; rw [show Nat.blt j 0 = false from by cases hj : Nat.blt j 0 <;> simp_all [Nat.blt_eq]]; rfl
        rw [e1] at this
        exact fin this
      · rename_i l
        cases hO : getO h l with
        | row e' s n f p =>
          refine snd_cond (fun _ => True.intro) fun hb4 => ?_
          have hb5 : Nat.beq e' e = true ∧ Nat.beq s i.size = true := by simpa using hb4
          have he : e' = e := Nat.eq_of_beq_eq_true hb5.1
          have hs : s = i.size := Nat.eq_of_beq_eq_true hb5.2
          subst he hs
          rintro ⟨hb6, hb7⟩
          obtain ⟨xs, hsl, hown, hf1, hf2, hf3⟩ := rowOf rfl hO
          exact fin (app_sound (P := P) (ty := o.type) g hn hbase hu hi hz hzs hpos' hown hf1 hf2 hf3 (c := cc) hl hnews hoa h1 hl2 hr2 hb6 hb7 (.inr ⟨l, _, _, _, _, _, hO, hsl, rfl⟩))
        | _ => exact True.intro
      · exact True.intro
    · exact True.intro

end
end Go.Aw

