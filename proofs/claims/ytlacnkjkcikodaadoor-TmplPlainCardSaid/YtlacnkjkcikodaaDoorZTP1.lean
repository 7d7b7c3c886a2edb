/- the template of any rule as itself is the document's; the table of a grammar as itself is sound, if the grammar may be; its sorts are the nonterminals themselves: part 2 of 6 of its proof, packed by a program of this session out of the texts AmA, AmB, Laid, AmR, AmS, AmO, AmQ, AmU, AmV, AmX, AmY, AmZ, AmM, AmN, AmE, AmF, AmG, AmH, AmI, AmJ. -/
import Derived.Test.YtlacnkjkcikodaaDoorZTP0
import GoSem.Dispatch
import Derived.Calls
import Derived.Test.YtlacnkjkcikodaaDoorProg
import Derived.Lib.LaidTab
import Derived.Lib.AppendIntMem
import Derived.Lib.ItoaNum
import Derived.Laws.Append
import Derived.Laws.Slices
import Derived.Deep.MidRow
import Derived.Below
import Derived.Laws.Strings
import Derived.Laws.BytesString
import Derived.IntWalk
import Derived.Laws.IdiomCopy
import Derived.ArgAppend
section
set_option linter.unusedVariables false
namespace Go.Proofs.YtlacnkjkcikodaaDoor.Am
open Go
inductive Tag where
  | no | nil | nn | full | held
  | own (s : Nat)
  | cell (lv s c : Nat)
  deriving DecidableEq, Repr, Inhabited
inductive V where
  | bool (b : Bool)
  | int (k : IntKind) (n : Int)
  | flt (k : FloatKind) (bits : Nat)
  | str (s : ByteArray)
  | sl (l : List V) (t : Tag)
  | agg (l : List V)
  | tup (l : List V)
  | ptr (lv s off : Nat)
  | nilp
  | elp (l : List V) (i off : Nat)
  | row (lv s off n : Nat)
  | fn (f : FuncId) (caps : List V)
  | nilf
  | map (lv s : Nat)
  | nilm
  | undef
  | any
  deriving Inhabited
inductive Ob where
  | cells (l : List V)
  | map (es : List (V × V × Nat)) (clock : Nat)
  deriving Inhabited
abbrev Tm := List (Nat × V)
abbrev Tab := List (Nat × Ob)
def Tm.get : Tm → Nat → V
  | [], _ => .any
  | (j, v) :: r, i => bif Nat.beq i j then v else Tm.get r i
def Tm.set (T : Tm) (i : Nat) (v : V) : Tm := (i, v) :: T
def Tm.mapV (f : V → V) : Tm → Tm
  | [] => []
  | (j, u) :: r => (j, f u) :: Tm.mapV f r
def Tab.get : Tab → Nat → Option Ob
  | [], _ => none
  | (j, v) :: r, i => bif Nat.beq i j then some v else Tab.get r i
def Tab.set : Tab → Nat → Ob → Tab
  | [], i, v => [(i, v)]
  | (j, u) :: r, i, v => bif Nat.beq i j then (i, v) :: r else (j, u) :: Tab.set r i v
structure St where
  T : Tm
  L : Tab
  H : List Tab
def St.obj (st : St) (lv s : Nat) : Option Ob := bif Nat.beq lv st.H.length then st.L.get s else (st.H[lv]?).bind (·.get s)
def St.setObj (st : St) (lv s : Nat) (o : Ob) : St :=
  bif Nat.beq lv st.H.length then { st with L := st.L.set s o } else { st with H := st.H.modify lv fun t => t.set s o }
inductive EK where
  | b | i | s | p | sl | m | f
  deriving DecidableEq, Repr, Inhabited
inductive X where
  | t (i : Nat)
  | c (v : V)
  deriving Inhabited
def X.ev (T : Tm) : X → V
  | .t i => T.get i
  | .c v => v
inductive AOp where
  | mv (x : X)
  | asn (x : X)
  | pick (c a b : X)
  | alloc (z : List V)
  | box (x : X)
  | build (z : List V) (parts : List (Nat × Nat × X))
  | bslice (z : List V) (len : Nat) (parts : List (Nat × X))
  | load (ag : Bool) (sz : Nat) (x : X)
  | store (sz : Nat) (a x : X)
  | nilc (x : X)
  | bin (op : BinOp) (x y : X)
  | eqv (neg : Bool) (k : EK) (x y : X)
  | un (op : UnOp) (x : X)
  | conv (k : IntKind) (x : X)
  | same (x : X)
  | tostr (x : X)
  | mkf (f : FuncId) (caps : List X)
  | mkmap
  | mksl (z : V) (n : X)
  | slS (x : X) (lo hi : Option X)
  | sl (sz : Nat) (x : X) (lo hi mx : Option X)
  | fld (off : Nat) (x : X)
  | fldv (ag : Bool) (off sz : Nat) (x : X)
  | ixa (sz : Nat) (x i : X)
  | ixs (x i : X)
  | look (e : EK) (z : V) (ok : Bool) (m k : X)
  | mset (e : EK) (m k v : X)
  | ment (e : EK) (z : V) (m k : X)
  | mput (m s v : X)
  | mdel (e : EK) (m k : X)
  | app (sz : Nat) (x y : X)
  | appN (sz : Nat) (x y : X)
  | appF (sz : Nat) (x y : X)
  | len (k : EK) (x : X)
  | min (l : List X)
  | max (l : List X)
  | ext (x : X) (i : Nat)
  | call (lock : Bool) (f : X) (args : List X)
  deriving Inhabited
structure AOper where
  d : Option Nat
  g : Option (Nat × Bool)
  op : AOp
  deriving Inhabited
inductive ACode where
  | skip
  | reg (m : Nat) (ops : List AOper)
  | seq (a b : ACode)
  | cond (c : X) (a b : ACode)
  | block (id : Nat) (c : ACode)
  | loop (c : ACode)
  | exit (id : Nat)
  | ret
  | scope (c : ACode)
  | keep (ts ls : List Nat) (c : ACode)
  deriving Inhabited
def ACode.bare : ACode → ACode
  | .seq a b => .seq a.bare b.bare
  | .cond c a b => .cond c a.bare b.bare
  | .block id c => .block id c.bare
  | .loop c => .loop c.bare
  | .scope c => .scope c.bare
  | .keep _ _ c => c.bare
  | c => c
inductive AEx where
  | nrm
  | exit (id : Nat)
  | ret
  deriving DecidableEq
def V.cells : V → List V
  | .agg l => l
  | v => [v]
def V.capOk : V → Bool
  | .agg _ | .tup _ | .fn _ (_ :: _) => false
  | _ => true
def V.solid : V → Bool
  | .any | .undef | .tup _ => false
  | _ => true
def V.data1 : V → Option V
  | .bool b => some (.bool b)
  | .int k n => some (.int k n)
  | .flt k b => some (.flt k b)
  | .str s => some (.str s)
  | .sl l _ => some (.sl l .no)
  | .fn f [] => some (.fn f [])
  | .nilf => some .nilf
  | _ => none
def datas : List V → Option (List V)
  | [] => some []
  | v :: l => match v.data1, datas l with
    | some v, some l => some (v :: l)
    | _, _ => none
def V.data : V → Option V
  | .agg l => (datas l).map .agg
  | v => v.data1
def Tag.low : Tag → Tag
  | .nil => .nil
  | .nn => .nn
  | .full => .full
  | _ => .no
def V.low1 : V → V
  | .sl l t => .sl l t.low
  | v => v
def V.low : V → V
  | .agg l => .agg (l.map V.low1)
  | v => v.low1
def V.bare1 : V → V
  | .sl l t => .sl l .no
  | v => v
def V.bare : V → V
  | .agg l => .agg (l.map V.bare1)
  | v => v.bare1
def V.strip (p : Tag → Bool) : V → V
  | .sl l t => .sl l (bif p t then .no else t)
  | v => v
def isOwn (s : Nat) : Tag → Bool
  | .own s' => Nat.beq s s'
  | _ => false
def isCell : Tag → Bool
  | .cell _ _ _ => true
  | _ => false
def isCellAt (lv s c n : Nat) : Tag → Bool
  | .cell lv' s' c' => Nat.beq lv lv' && Nat.beq s s' && Nat.ble c c' && Nat.blt c' (c + n)
  | _ => false
def lent (lv s c : Nat) : V → V
  | .sl l t => .sl l (match t with | .held => .cell lv s c | t => t.low)
  | v => v
def V.alike : EK → V → V → Option Bool
  | .b, .bool a, .bool b => some (a == b)
  | .i, .int k a, .int k' b => if k = k' then some (a == b) else none
  | .s, .str a, .str b => some (a.toList == b.toList)
  | .p, .nilp, .nilp => some true
  | .p, .nilp, .ptr _ _ _ | .p, .ptr _ _ _, .nilp => some false
  | .f, .nilf, .nilf => some true
  | .f, .nilf, .fn _ _ | .f, .fn _ _, .nilf => some false
  | .m, .nilm, .nilm => some true
  | .m, .nilm, .map _ _ | .m, .map _ _, .nilm => some false
  | .sl, .sl [] .nil, .sl [] .nil => some true
  | .sl, .sl (_ :: _) _, .sl [] .nil | .sl, .sl [] .nn, .sl [] .nil => some false
  | _, _, _ => none
def intBin (op : BinOp) (k : IntKind) (a b : Int) : Option V := match op with
  | .add => some (.int k (k.wrap (a + b)))
  | .sub => some (.int k (k.wrap (a - b)))
  | .mul => some (.int k (k.wrap (a * b)))
  | .quo => if b = 0 then none else some (.int k (k.wrap (a.tdiv b)))
  | .rem => if b = 0 then none else some (.int k (a.tmod b))
  | .eql => some (.bool (a == b))
  | .neq => some (.bool (a != b))
  | .lss => some (.bool (a < b))
  | .leq => some (.bool (a ≤ b))
  | .gtr => some (.bool (a > b))
  | .geq => some (.bool (a ≥ b))
  | _ => none
def strBin (op : BinOp) (x y : ByteArray) : Option V := match op with
  | .add => if ((x.size + y.size : Nat) : Int) > IntKind.i64.max then none else some (.str (x ++ y))
  | .eql => some (.bool (x.toList == y.toList))
  | .neq => some (.bool (!(x.toList == y.toList)))
  | _ => none
def V.bin (op : BinOp) : V → V → Option V
  | .int k a, .int k' b => if k = k' then intBin op k a b else none
  | .str a, .str b => strBin op a b
  | _, _ => none
def V.un (op : UnOp) : V → Option V
  | .bool b => match op with | .not => some (.bool (!b)) | _ => none
  | .int k n => match op with | .neg => some (.int k (k.wrap (0 - n))) | _ => none
  | _ => none
def putAt (cs : List V) (off : Nat) (v : List V) : List V := cs.take off ++ v ++ cs.drop (off + v.length)
def fill (cs : List V) : List (Nat × Nat × V) → Option (List V)
  | [] => some cs
  | (off, sz, v) :: r => if v.solid = true ∧ v.cells.length = sz ∧ off + sz ≤ cs.length then fill (putAt cs off (v.bare.cells)) r else none
def fillS (sz : Nat) (l : List V) : List (Nat × V) → Option (List V)
  | [] => some l
  | (i, v) :: r => match v.data with
    | some v => if v.cells.length = sz ∧ i < l.length then fillS sz (l.set i v) r else none
    | none => none
def elOf : List V → V
  | [v] => v.bare1
  | l => .agg (l.map V.bare1)
def part (ag : Bool) (cs : List V) (off sz : Nat) : Option V :=
  bif ag then (if off + sz ≤ cs.length then some (.agg (((cs.drop off).take sz).map V.low1)) else none) else (cs[off]?).map V.low1
def bnd (def_ : Nat) (T : Tm) : Option X → Option Nat
  | none => some def_
  | some x => match x.ev T with
    | .int _ n => if 0 ≤ n then some n.toNat else none
    | _ => none
def allBytes : List V → Option (List UInt8)
  | [] => some []
  | .int .u8 n :: l => (allBytes l).map (UInt8.ofNat n.toNat :: ·)
  | _ => none
def appMost : Nat := 1000000000
def low64 : List X → Tm → Option (List Int)
  | [], _ => some []
  | x :: r, T => match x.ev T, low64 r T with
    | .int .i64 n, some l => some (n :: l)
    | _, _ => none
def szOK (sz : Nat) (l : List V) : Bool := l.all fun v => v.cells.length == sz
def findV (c : EK) (k : V) : List (V × V × Nat) → Nat → Option (Option (Nat × V × Nat))
  | [], _ => some none
  | e :: es, i => match V.alike c k e.1 with
    | some true => some (some (i, e.2.1, e.2.2))
    | some false => findV c k es (i + 1)
    | none => none
def mapOf (rd : Nat → Nat → Option Ob) : V → Option (List (V × V × Nat))
  | .nilm => some []
  | .map lv s => match rd lv s with
    | some (.map es _) => some es
    | _ => none
  | _ => none
def vop (rd : Nat → Nat → Option Ob) (T : Tm) : AOp → Option V
  | .mv x => some (x.ev T)
  | .same x => match x.ev T with
    | .str s => some (.str s)
    | _ => none
  | .pick c a b => match c.ev T with
    | .bool t => some (bif t then a.ev T else b.ev T)
    | _ => none
  | .build z ps => (fill z (ps.map fun p => (p.1, p.2.1, p.2.2.ev T))).map .agg
  | .bslice z n ps => (fillS z.length (List.replicate n (elOf z)) (ps.map fun p => (p.1, p.2.ev T))).map (.sl · .full)
  | .load ag sz x => match x.ev T with
    | .ptr lv s off => match rd lv s with
      | some (.cells cs) => bif ag then part true cs off sz else (cs[off]?).map (lent lv s off)
      | _ => none
    | .elp l i off => match l[i]? with
      | some v => (part ag v.cells off sz).map V.bare
      | none => none
    | _ => none
  | .nilc x => match x.ev T with
    | .ptr lv s off => some (.ptr lv s off)
    | .elp l i off => some (.elp l i off)
    | .fn f c => some (.fn f c)
    | _ => none
  | .bin op x y => (x.ev T).bin op (y.ev T)
  | .eqv neg k x y => (V.alike k (x.ev T) (y.ev T)).map fun b => .bool (bif neg then !b else b)
  | .un op x => (x.ev T).un op
  | .conv k x => match x.ev T with
    | .int _ n => some (.int k (k.wrap n))
    | _ => none
  | .tostr x => match x.ev T with
    | .sl l _ => (allBytes l).map fun b => .str ⟨b.toArray⟩
    | _ => none
  | .mkf f cs => if cs.all (fun c => (c.ev T).capOk) then some (.fn f (cs.map fun c => (c.ev T).bare)) else none
  | .slS x lo hi => match x.ev T with
    | .str s => match bnd 0 T lo, bnd s.size T hi with
      | some l, some h => if l ≤ h ∧ h ≤ s.size then some (.str (s.extract l h)) else none
      | _, _ => none
    | _ => none
  | .sl sz x lo hi mx => match x.ev T with
    | .sl l t => match bnd 0 T lo, bnd l.length T hi with
      | some a, some h =>
        if a ≤ h ∧ h ≤ l.length then
          if szOK sz l then
            match mx with
            | none => some (.sl ((l.take h).drop a) .no)
            | some _ => match bnd 0 T mx with
              | some m => if m = h then some (.sl ((l.take h).drop a) .full) else none
              | none => none
          else none
        else none
      | _, _ => none
    | _ => none
  | .fld off x => match x.ev T with
    | .ptr lv s o => some (.ptr lv s (o + off))
    | .elp l i o => match l[i]? with
      | some v => if o + off < v.cells.length then some (.elp l i (o + off)) else none
      | none => none
    | _ => none
  | .fldv ag off sz x => match x.ev T with
    | .agg l => part ag l off sz
    | _ => none
  | .ixa sz x i => match x.ev T, i.ev T with
    | .sl l _, .int _ n => if 0 ≤ n then (match l[n.toNat]? with
      | some v => if v.cells.length = sz then some (.elp l n.toNat 0) else none
      | none => none) else none
    | .row lv s off len, .int _ n => if 0 ≤ n ∧ n < len ∧ sz = 1 then some (.ptr lv s (off + n.toNat)) else none
    | _, _ => none
  | .ixs x i => match x.ev T, i.ev T with
    | .str s, .int _ n => if 0 ≤ n then (s.data.toList[n.toNat]?).map fun b => .int .u8 b.toNat else none
    | _, _ => none
  | .look c z ok m k => match mapOf rd (m.ev T) with
    | none => none
    | some es => match findV c (k.ev T) es 0 with
      | none => none
      | some (some (_, v, _)) => some (bif ok then .tup [v.low, .bool true] else v.low)
      | some none => some (bif ok then .tup [z, .bool false] else z)
  | .len k x => match k, x.ev T with
    | .sl, .sl l _ => some (.int .i64 l.length)
    | .s, .str s => some (.int .i64 s.size)
    | .sl, .row _ _ _ n => some (.int .i64 n)
    | .m, .map lv s => match rd lv s with
      | some (.map es _) => some (.int .i64 es.length)
      | _ => none
    | _, _ => none
  | .min l => match low64 l T with
    | some (n :: r) => some (.int .i64 (r.foldl (fun a b => if b < a then b else a) n))
    | _ => none
  | .max l => match low64 l T with
    | some (n :: r) => some (.int .i64 (r.foldl (fun a b => if b > a then b else a) n))
    | _ => none
  | .ext x i => match x.ev T with
    | .tup l => (l[i]?).map V.low
    | _ => none
  | _ => none
def hitB (n : Nat) (ds : List Nat) (lv s : Nat) : Bool := Nat.beq lv n && ds.contains s
def V.hit (n : Nat) (ds : List Nat) : V → Bool
  | .ptr lv s _ | .row lv s _ _ | .map lv s => hitB n ds lv s
  | .fn _ (_ :: _) => true
  | _ => false
def Tag.kill (n : Nat) (ds : List Nat) : Tag → Tag
  | .own s => bif ds.contains s then .no else .own s
  | .cell lv s c => bif hitB n ds lv s then .no else .cell lv s c
  | t => t
def V.kill1 (n : Nat) (ds : List Nat) : V → V
  | .ptr lv s off => bif hitB n ds lv s then .any else .ptr lv s off
  | .row lv s off len => bif hitB n ds lv s then .any else .row lv s off len
  | .map lv s => bif hitB n ds lv s then .any else .map lv s
  | .fn f cs => bif cs.any (V.hit n ds) then .any else .fn f cs
  | .sl l t => .sl l (t.kill n ds)
  | v => v
def V.kill0 (n : Nat) (ds : List Nat) : V → V
  | .agg l => .agg (l.map (V.kill1 n ds))
  | v => v.kill1 n ds
def V.kill (n : Nat) (ds : List Nat) : V → V
  | .tup l => .tup (l.map (V.kill0 n ds))
  | v => v.kill0 n ds
def Ob.kill (n : Nat) (ds : List Nat) : Ob → Ob
  | .cells l => .cells (l.map (V.kill1 n ds))
  | .map es c => .map (es.map fun e => (e.1.kill0 n ds, e.2.1.kill0 n ds, e.2.2)) c
def Tab.kill (n : Nat) (ds : List Nat) : Tab → Tab
  | [] => []
  | (j, o) :: r => (j, o.kill n ds) :: Tab.kill n ds r
def Tab.del (ds : List Nat) : Tab → Tab
  | [] => []
  | (j, o) :: r => bif ds.contains j then Tab.del ds r else (j, o) :: Tab.del ds r
def St.prep (ds : List Nat) (st : St) : St := match ds with
  | [] => st
  | ds => { st with T := st.T.mapV (V.kill st.H.length ds), L := (st.L.kill st.H.length ds).del ds }
def made (T : Tm) : AOp → Option Ob
  | .alloc z => some (.cells z)
  | .box x => if (x.ev T).solid then some (.cells ((x.ev T).low.cells)) else none
  | .mkmap => some (.map [] 0)
  | .mksl z n => match n.ev T with
    | .int .i64 n => if 0 ≤ n ∧ n ≤ appMost then some (.cells (List.replicate n.toNat z)) else none
    | _ => none
  | _ => none
def madeV (n d : Nat) : AOp → Ob → V
  | .mkmap, _ => .map n d
  | .mksl _ _, .cells l => .row n d 0 l.length
  | _, _ => .ptr n d 0
def makes : AOp → Bool
  | .alloc _ | .box _ | .mkmap | .mksl _ _ => true
  | _ => false
def V.capU (b : Nat) : V → Bool
  | .ptr lv _ _ | .row lv _ _ _ | .map lv _ => Nat.blt lv b
  | .fn _ (_ :: _) => false
  | _ => true
def V.under1 (b : Nat) : V → Bool
  | .ptr lv _ _ | .row lv _ _ _ | .map lv _ => Nat.blt lv b
  | .fn _ cs => cs.all (V.capU b)
  | _ => true
def V.under0 (b : Nat) : V → Bool
  | .agg l => l.all (V.under1 b)
  | v => v.under1 b
def setCells (o : Ob) (off : Nat) (vs : List V) : Option Ob := match o with
  | .cells cs => if off + vs.length ≤ cs.length then some (.cells (putAt cs off vs)) else none
  | _ => none
def V.kept : V → List V × Option Nat
  | .sl l (.own s) => ([.sl l .held], some s)
  | v => (v.low.cells, none)
def dropHeld (o : Ob) (c : Nat) : Option Ob := match o with
  | .cells cs => match cs[c]? with
    | some (.sl l .held) => some (.cells (cs.set c (.sl l .no)))
    | _ => none
  | _ => none
abbrev ACall := Nat → FuncId → List V → List Tab → Option (V × List Tab)
def appL (sz : Nat) (l : List V) (x : V) : Option (List V) := match x with
  | .sl m _ => if szOK sz l = true ∧ szOK sz m = true ∧ l.length + m.length ≤ appMost then some m else none
  | _ => none
def ret (d : Option Nat) : V → V
  | .sl l (.own s) => match d with | some d => .sl l (.own d) | none => .sl l .no
  | v => v
def putD (T : Tm) : Option Nat → V → Tm
  | some d, v => T.set d v
  | none, _ => T
def isOwn2 (s d : Nat) (t : Tag) : Bool := isOwn s t || isOwn d t
def isCellOwn (lv s c d : Nat) (t : Tag) : Bool := isCellAt lv s c 1 t || isOwn d t
def storeStrip (lv s off sz : Nat) (k : Option Nat) (t : Tag) : Bool := isCellAt lv s off sz t || (match k with | some s => isOwn s t | none => false)
def sopD (st : St) (d : Option Nat) (o : AOp) : Option St := match d with
  | some d =>
    if makes o then
      match made (st.prep [d]).T o with
      | some ob => some { (st.prep [d]) with T := (st.prep [d]).T.set d (madeV st.H.length d o ob), L := (st.prep [d]).L.set d ob }
      | none => none
    else (vop st.obj st.T o).map fun v => { st with T := st.T.set d v }
  | none => if makes o then none else (vop st.obj st.T o).map fun _ => st
def sop (call : ACall) (lk : Nat) (st : St) (d : Option Nat) (o : AOp) : Option St := match o with
  | .store sz a x => match a.ev st.T with
    | .ptr lv s off => match st.obj lv s with
      | some ob =>
        let k := (x.ev st.T).kept
        if (x.ev st.T).solid = true ∧ lk ≤ lv ∧ k.1.length = sz ∧ k.1.all (V.under1 (lv + 1)) = true ∧ k.1.all V.solid = true then
          match setCells ob off k.1 with
          | some ob' => some (({ st with T := putD (st.T.mapV (V.strip (storeStrip lv s off sz k.2))) d .undef } : St).setObj lv s ob')
          | none => none
        else none
      | none => none
    | _ => none
  | .app sz x y => match d, x.ev st.T with
    | some d, .sl l t => match appL sz l (y.ev st.T) with
      | some m => match t with
        | .nil | .full => some { st with T := (st.T.mapV (V.strip (isOwn d))).set d (.sl (l ++ m) (.own d)) }
        | .own s => some { st with T := (st.T.mapV (V.strip (isOwn2 s d))).set d (.sl (l ++ m) (.own d)) }
        | .cell lv s c => match st.obj lv s with
          | some ob => match dropHeld ob c with
            | some ob' => if lk ≤ lv then some (({ st with T := (st.T.mapV (V.strip (isCellOwn lv s c d))).set d (.sl (l ++ m) (.own d)) } : St).setObj lv s ob') else none
            | none => none
          | none => none
        | _ => none
      | none => none
    | _, _ => none
  | .mset e m k v => match m.ev st.T, (k.ev st.T).data, (v.ev st.T).bare with
    | .map lv s, some k, v => match st.obj lv s with
      | some (.map es c) =>
        if lk ≤ lv ∧ v.under0 (lv + 1) = true ∧ v.solid = true then
          match findV e k es 0 with
          | some (some (i, _, b)) => some (({ st with T := putD st.T d .undef } : St).setObj lv s (.map (es.set i (k, v, b)) c))
          | some none => some (({ st with T := putD st.T d .undef } : St).setObj lv s (.map (es ++ [(k, v, c)]) (c + 1)))
          | none => none
        else none
      | _ => none
    | _, _, _ => none
  | .ment e z m k => match m.ev st.T, (k.ev st.T).data with
    | .map lv s, some k => match st.obj lv s with
      | some (.map es c) =>
        if lk ≤ lv then
          match findV e k es 0 with
          | some (some (i, v, b)) => some (({ st with T := putD st.T d (.tup [v, .int .i64 b]) } : St).setObj lv s (.map (es.set i (k, v, b)) c))
          | some none => some (({ st with T := putD st.T d (.tup [z, .int .i64 c]) } : St).setObj lv s (.map (es ++ [(k, z, c)]) (c + 1)))
          | none => none
        else none
      | _ => none
    | _, _ => none
  | .mput m b v => match m.ev st.T, b.ev st.T, (v.ev st.T).bare with
    | .map lv s, .int .i64 b, v => match st.obj lv s with
      | some (.map es c) =>
        if lk ≤ lv ∧ v.under0 (lv + 1) = true ∧ v.solid = true then
          match es.findIdx? (fun e => (e.2.2 : Int) == b) with
          | some i => some (({ st with T := putD st.T d .undef } : St).setObj lv s (.map (es.modify i fun e => (e.1, v, e.2.2)) c))
          | none => none
        else none
      | _ => none
    | _, _, _ => none
  | .mdel e m k => match m.ev st.T, (k.ev st.T).data with
    | .map lv s, some k => match st.obj lv s with
      | some (.map es c) =>
        if lk ≤ lv then
          match findV e k es 0 with
          | some (some (i, _, _)) => some (({ st with T := putD st.T d (.tup []) } : St).setObj lv s (.map (es.eraseIdx i) c))
          | some none => some (({ st with T := putD st.T d (.tup []) } : St).setObj lv s (.map es c))
          | none => none
        else none
      | _ => none
    | _, _ => none
  | .call lock f args => match f.ev st.T with
    | .fn f caps =>
      match call (bif lock then st.H.length + 1 else lk) f ((args.map (·.ev st.T) ++ caps).map V.bare) (st.H ++ [st.L]) with
      | some (r, H') => some { T := putD ((bif lock then st.T else st.T.mapV (V.strip isCell)).mapV (V.strip (match d with | some d => isOwn d | none => fun _ => false))) d (ret d r), L := H'.getLastD [], H := H'.dropLast }
      | none => none
    | _ => none
  | o => sopD st d o
def wants (T : Tm) : Option (Nat × Bool) → Option Bool
  | none => some true
  | some (s, w) => match T.get s with
    | .bool b => some (b == w)
    | .undef => some false
    | _ => none
def seqOps (call : ACall) (lk : Nat) : List AOper → St → Option St
  | [], st => some st
  | o :: l, st => match wants st.T o.g with
    | some true => match sop call lk st o.d o.op with
      | some st' => seqOps call lk l st'
      | none => none
    | some false => seqOps call lk l { st with T := putD st.T o.d .undef }
    | none => none
def pop (call : ACall) (st : St) (T : Tm) (d : Option Nat) (o : AOp) : Option (V × Option Ob) := match o with
  | .call lock f args => match lock, f.ev T with
    | true, .fn f caps => match call (st.H.length + 1) f ((args.map (·.ev T) ++ caps).map V.bare) (st.H ++ [st.L]) with
      | some (r, _) => some (ret d r, none)
      | none => none
    | _, _ => none
  | .app sz x y => match d, x.ev T with
    | some d, .sl l t => match appL sz l (y.ev T) with
      | some m => match t with
        | .nil | .full => some (.sl (l ++ m) (.own d), none)
        | _ => none
      | none => none
    | _, _ => none
  | .appN sz x y => match d, x.ev T with
    | some d, .sl l t => match appL sz l (y.ev T) with
      | some m => match t with
        | .nil | .full => some (.sl (l ++ m) .no, none)
        | _ => none
      | none => none
    | _, _ => none
  | .appF sz x y => match d, x.ev T with
    | some d, .sl l .no => match appL sz l (y.ev T) with
      | some m => some (.sl (l ++ m) (.own d), none)
      | none => none
    | _, _ => none
  | o => if makes o then match d, made T o with
      | some d, some ob => some (madeV st.H.length d o ob, some ob)
      | _, _ => none
    else (vop st.obj T o).map (·, none)
def putL (L : Tab) : Option Nat → Option Ob → Tab
  | some d, some ob => L.set d ob
  | _, _ => L
def parOps (call : ACall) (st : St) : List AOper → Tm → Tab → Option (Tm × Tab)
  | [], T, N => some (T, N)
  | o :: l, T, N => match wants T o.g with
    | some true => match pop call st T o.d o.op with
      | some (v, ob) => parOps call st l (putD T o.d v) (putL N o.d ob)
      | none => none
    | some false => parOps call st l (putD T o.d .undef) N
    | none => none
def prod (o : AOp) : Bool := makes o || (match o with | .app _ _ _ | .appN _ _ _ | .appF _ _ _ | .call _ _ _ => true | _ => false)
def prods : Nat → List AOper → List Nat
  | 0, _ => []
  | _, [] => []
  | m + 1, o :: l => match o.d with
    | some d => if prod o.op then d :: prods m l else prods m l
    | none => prods m l
def runReg (call : ACall) (lk m : Nat) (ops : List AOper) (st : St) : Option St :=
  let st := st.prep (prods m ops)
  match m with
  | 0 => seqOps call lk ops st
  | m => match parOps call st (ops.take m) st.T st.L with
    | some (T, L) => seqOps call lk (ops.drop m) { st with T := T, L := L }
    | none => none
def cellLost (n : Nat) (ls : List Nat) : Tag → Bool
  | .cell lv s _ => Nat.beq lv n && !ls.contains s
  | _ => false
def V.kp (p : Tag → Bool) (v : V) : Nat → V
  | 0 => v.bare
  | 1 => v.strip p
  | d + 2 => match v with
    | .sl l .nil | .sl l .full => .sl l (.own d)
    | v => v.strip p
def Tm.keep (p : Tag → Bool) (T : Tm) : List Nat → Tm
  | [] => []
  | i :: l => (i % 10000, (T.get (i % 10000)).kp p (i / 10000)) :: Tm.keep p T l
def V.holdC : V → V
  | .sl l .nil | .sl l .full => .sl l .held
  | v => v
def Ob.holdC : Ob → Ob
  | .cells l => .cells (l.map V.holdC)
  | o => o
def Tab.keep (L : Tab) : List Nat → Tab
  | [] => []
  | s :: l => match L.get s with
    | some o => (s, o.holdC) :: Tab.keep L l
    | none => Tab.keep L l
def St.keep0 (ts ls : List Nat) (st : St) : St := { st with T := st.T.keep (cellLost st.H.length ls) ts, L := st.L.keep ls }
def V.ren (x d : Nat) : V → V
  | .sl l (.own s) => .sl l (.own (bif Nat.beq s x then d else s))
  | v => v
def ownT : V → Option Nat
  | .sl _ (.own s) => some s
  | _ => none
def Tm.canon1 (T : Tm) (d : Nat) : Option Nat → Tm
  | some x => bif Nat.beq x d then T else T.mapV (V.ren x d)
  | none => T
def Tm.canon (T : Tm) : List Nat → Tm
  | [] => T
  | i :: l => bif Nat.blt i 20000 then Tm.canon T l else Tm.canon (T.canon1 (i / 10000 - 2) (ownT (T.get (i % 10000)))) l
def St.keep (ts ls : List Nat) (st : St) : St := St.keep0 ts ls { st with T := st.T.canon ts }
def run (call : ACall) (lk : Nat) : Nat → ACode → St → Option (AEx × St)
  | 0, _, _ => none
  | n + 1, .skip, st => some (.nrm, st)
  | n + 1, .reg m ops, st => (runReg call lk m ops st).map (.nrm, ·)
  | n + 1, .seq a b, st => match run call lk n a st with
    | some (.nrm, st') => run call lk n b st'
    | r => r
  | n + 1, .cond c a b, st => match c.ev st.T with
    | .bool t => bif t then run call lk n a st else run call lk n b st
    | _ => none
  | n + 1, .block id c, st => match run call lk n c st with
    | some (.exit i, st') => bif Nat.beq i id then some (.nrm, st') else some (.exit i, st')
    | r => r
  | n + 1, .loop c, st => match run call lk n c st with
    | some (.nrm, st') => run call lk n (.loop c) st'
    | r => r
  | n + 1, .exit id, st => some (.exit id, st)
  | n + 1, .ret, st => some (.ret, st)
  | n + 1, .scope c, st => run call lk n c st
  | n + 1, .keep ts ls c, st => run call lk n c (st.keep ts ls)
inductive Res where
  | t (i : Nat)
  | c (s sz : Nat) (ag : Bool)
  deriving Inhabited
structure Fn where
  code : ACode
  res : List Res
  keep : Bool := false
  split : Bool := false
  deriving Inhabited
def outRow (L : Tab) (n : Nat) : V → Option V
  | .row lv s off len => bif Nat.beq lv n then (match L.get s with
    | some (.cells cs) => if off + len ≤ cs.length then (datas ((cs.drop off).take len)).map (.sl · .no) else none
    | _ => none) else some (.row lv s off len)
  | v => if v.under1 n then some v else none
def outRows (L : Tab) (n : Nat) : List V → Option (List V)
  | [] => some []
  | v :: l => match outRow L n v, outRows L n l with
    | some v, some l => some (v :: l)
    | _, _ => none
def V.leave : V → V
  | .sl l (.own s) => .sl l (.own s)
  | v => v.low1
def V.out (keep : Bool) (L : Tab) (n : Nat) : V → Option V
  | .agg l => (outRows L n (l.map V.bare1)).map .agg
  | .tup _ => none
  | v => outRow L n (bif keep then v.leave else v.bare1)
def resV (st : St) : Res → Option V
  | .t i => some (st.T.get i)
  | .c a sz ag => match st.T.get a with
    | .ptr lv s off => match st.obj lv s with
      | some (.cells cs) => part ag cs off sz
      | _ => none
    | _ => none
def resVs (keep : Bool) (st : St) : List Res → Option (List V)
  | [] => some []
  | r :: l => match (resV st r).bind (V.out keep st.L st.H.length), resVs keep st l with
    | some v, some l => some (v :: l)
    | _, _ => none
def argsT : Nat → List V → Tm
  | _, [] => []
  | i, v :: l => (i, v) :: argsT (i + 1) l
def Fn.bare (f : Fn) : Fn := { f with code := f.code.bare, split := false }
structure Mach where
  fns : FuncId → Option Fn
  given : FuncId → Option (Nat → List V → List Tab → Option (V × List Tab))
def enter (call : ACall) (lk k : Nat) (fn : Fn) (args : List V) (H : List Tab) : Option (V × List Tab) := match run call lk k fn.code ⟨argsT 0 args, [], H⟩ with
  | some (.nrm, st) | some (.ret, st) => match resVs fn.keep st fn.res with
    | some [v] => some (v, st.H)
    | some l => some (.tup l, st.H)
    | none => none
  | _ => none
def noRow : List V → Bool
  | .sl [] .no :: _ => true
  | _ => false
def joinN (lk : Nat) (H : List Tab) (a b : Option (V × List Tab)) : Option (V × List Tab) := match a, b with
  | some (.sl [] t, _), some (.sl [] u, _) => bif Nat.ble H.length lk then match t, u with
    | .no, .no => some (.sl [] .no, H)
    | .nil, .own s => some (.sl [] (.own s), H)
    | _, _ => none
    else none
  | _, _ => none
def enterS (call : ACall) (lk k : Nat) (fn : Fn) (args : List V) (H : List Tab) : Option (V × List Tab) :=
  bif fn.split && noRow args then joinN lk H (enter call lk k fn (.sl [] .nil :: args.tail) H) (enter call lk k fn (.sl [] .nn :: args.tail) H) else enter call lk k fn args H
def acall (M : Mach) : Nat → ACall
  | 0, _, _, _, _ => none
  | k + 1, lk, f, args, H => match M.given f with
    | some g => g lk args H
    | none => match M.fns f with
      | none => none
      | some fn => enterS (acall M k) lk k fn args H
end Go.Proofs.YtlacnkjkcikodaaDoor.Am
end
section
set_option linter.unusedVariables false
namespace Go.Proofs.YtlacnkjkcikodaaDoor.Am
open Go
def pure? : V → Bool
  | .bool _ | .int _ _ | .flt _ _ | .str _ | .sl _ _ | .nilf | .fn _ [] => true
  | _ => false
def toV1 : Value → Option V
  | .bool b => some (.bool b)
  | .int k n => some (.int k n)
  | .float k b => some (.flt k b)
  | .string s => some (.str s)
  | .slice none 0 0 => some (.sl [] .nil)
  | .pointer none => some .nilp
  | .nilFunc => some .nilf
  | .map none => some .nilm
  | .func (.func f) ⟨[]⟩ ⟨[]⟩ => some (.fn f [])
  | _ => none
def toVs : List Value → Option (List V)
  | [] => some []
  | v :: l => match toV1 v, toVs l with
    | some v, some l => some (v :: l)
    | _, _ => none
def toV : Value → Option V
  | .agg cs => (toVs cs.toList).map .agg
  | v => toV1 v
section
variable (P : Program)
def zeroV (t : TypeId) : Option V := ((P.info? t).bind (·.zero)).bind toV
def size? (t : TypeId) : Option Nat := (P.info? t).map (·.size)
def agg? (t : TypeId) : Option Bool := (P.underlying t).map fun d => match d with | .struct _ | .array _ _ => true | _ => false
def opd : Operand → Option X
  | .tmp t => some (.t t)
  | .const v => (toV v).map .c
  | .func f => some (.c (.fn f []))
  | .global _ => none
def opds : List Operand → Option (List X)
  | [] => some []
  | x :: l => match opd x, opds l with
    | some x, some l => some (x :: l)
    | _, _ => none
def opdO : Option Operand → Option (Option X)
  | none => some none
  | some x => (opd x).map some
def fieldOf (t : TypeId) (f : Nat) : Option (Nat × Nat × Bool) := match P.underlying t with
  | some (.struct fs) => match fs[f]? with
    | some x => match size? P x.type, agg? P x.type with
      | some s, some a => if s = 0 || !(a || s == 1) then none else some (x.offset, s, a)
      | _, _ => none
    | none => none
  | _ => none
def fields? (t : TypeId) : Bool := match P.underlying t with
  | some (.struct fs) => fs.toList.all fun f => (size? P f.type).isSome
  | _ => false
def elemOf? (t : TypeId) : Option TypeId := match P.underlying t with
  | some (.slice e) => some e
  | _ => none
def small? (t : TypeId) : Bool := match P.info? t with
  | some i => decide (0 < i.bytes) && decide (i.bytes ≤ 4096) && decide (0 < i.size) && decide (i.size ≤ 512)
  | none => false
def buildParts (t : TypeId) : List (Nat × Operand) → Option (List (Nat × Nat × X))
  | [] => some []
  | (i, x) :: l => match fieldOf P t i, opd x, buildParts t l with
    | some (off, s, _), some x, some l => some ((off, s, x) :: l)
    | _, _, _ => none
def sliceParts : List (Nat × Operand) → Option (List (Nat × X))
  | [] => some []
  | (i, x) :: l => match opd x, sliceParts l with
    | some x, some l => some ((i, x) :: l)
    | _, _ => none
def ekOf (t : TypeId) : Option EK := match P.underlying t with
  | some .bool => some .b
  | some (.int _) => some .i
  | some .string => some .s
  | some (.pointer e) => (size? P e).bind fun s => if s = 0 then none else some .p
  | some (.slice _) => some .sl
  | some (.map _ _) => some .m
  | some (.func _ _ _) => some .f
  | _ => none
def keyOf? (t : TypeId) : Option EK := match P.underlying t with
  | some (.int _) => some .i
  | some .string => some .s
  | _ => none
def isAggV : V → Bool
  | .agg _ => true
  | _ => false
def sameTmp : Operand → Operand → Bool
  | .tmp a, .tmp b => a == b
  | _, _ => false
def opOf (eff : List FuncId) (par : Bool) (o : Go.Oper) : Option AOp := match o.op with
  | .move x | .assign x => (opd x).map .mv
  | .pick c a b => match opd c, opd a, opd b with
    | some c, some a, some b => some (.pick c a b)
    | _, _, _ => none
  | .alloc t => (zeroV P t).map fun z => .alloc z.cells
  | .box _ x => (opd x).map .box
  | .build t ps => match zeroV P t, buildParts P t ps.toList with
    | some z, some ps => if fields? P t then some (.build z.cells ps) else none
    | _, _ => none
  | .buildSlice t n ps => match elemOf? P t with
    | some e => match zeroV P e, sliceParts ps.toList with
      | some z, some ps => if small? P e && decide (n ≤ 4096) && z.cells.all pure? && (size? P e == some z.cells.length) then some (.bslice z.cells n ps) else none
      | _, _ => none
    | none => none
  | .load t x => match agg? P t, size? P t, opd x with
    | some a, some s, some x => if a || s == 1 then some (.load a s x) else none
    | _, _, _ => none
  | .store t a x => match size? P t, opd a, opd x with
    | some s, some a, some x => some (.store s a x)
    | _, _, _ => none
  | .nilCheck x => (opd x).map .nilc
  | .binOp op t x y _ => match ekOf P t, opd x, opd y with
    | some k, some x, some y =>
      if k = .i ∨ k = .s then some (.bin op x y) else
        match op with
        | .eql => some (.eqv false k x y)
        | .neq => some (.eqv true k x y)
        | _ => none
    | _, _, _ => none
  | .unOp op _ x => (opd x).map (.un op)
  | .convert s d x => match P.underlying s, P.underlying d, opd x with
    | some (.int _), some (.int k), some x => some (.conv k x)
    | some .string, some .string, some x => some (.same x)
    | some (.slice e), some .string, some x => match P.underlying e with
      | some (.int .u8) => some (.tostr x)
      | _ => none
    | _, _, _ => none
  | .makeFunc (.func f) ⟨[]⟩ cs => (opds cs.toList).map (.mkf f)
  | .makeMap t none => match P.underlying t with
    | some (.map _ _) => some .mkmap
    | _ => none
  | .makeSlice t l c => match elemOf? P t with
    | some e => match zeroV P e, opd l, opd c with
      | some z, some x, some y => if small? P e && size? P e == some 1 && sameTmp l c && !isAggV z then some (.mksl z x) else none
      | _, _, _ => none
    | none => none
  | .slice t x lo hi mx => match P.underlying t, opd x, opdO lo, opdO hi, opdO mx with
    | some .string, some x, some lo, some hi, some none => some (.slS x lo hi)
    | some (.slice e), some x, some lo, some hi, some mx => match size? P e with
      | some s => if mx.isSome && !hi.isSome then none else some (.sl s x lo hi mx)
      | none => none
    | _, _, _, _, _ => none
  | .fieldAddr t x f => match fieldOf P t f, opd x with
    | some (off, _, _), some x => some (.fld off x)
    | _, _ => none
  | .field t x f => match fieldOf P t f, opd x with
    | some (off, s, a), some x => some (.fldv a off s x)
    | _, _ => none
  | .indexAddr t x i => match elemOf? P t, opd x, opd i with
    | some e, some x, some i => (size? P e).map fun s => .ixa s x i
    | _, _, _ => none
  | .index t x i => match P.underlying t, opd x, opd i with
    | some .string, some x, some i => some (.ixs x i)
    | _, _, _ => none
  | .lookup t m k ok => match P.underlying t, opd m, opd k with
    | some (.map kt et), some m, some k => match keyOf? P kt, zeroV P et with
      | some e, some z => some (.look e z ok m k)
      | _, _ => none
    | _, _, _ => none
  | .mapUpdate t m k v => match P.underlying t, opd m, opd k, opd v with
    | some (.map kt _), some m, some k, some v => (keyOf? P kt).map fun e => .mset e m k v
    | _, _, _, _ => none
  | .mapEntry t m k => match P.underlying t, opd m, opd k with
    | some (.map kt et), some m, some k => match keyOf? P kt, zeroV P et with
      | some e, some z => some (.ment e z m k)
      | _, _ => none
    | _, _, _ => none
  | .entryStore _ m s v => match opd m, opd s, opd v with
    | some m, some s, some v => some (.mput m s v)
    | _, _, _ => none
  | .extract x i => (opd x).map (.ext · i)
  | .call { callee := .builtin b, args, argTypes } => match b, opds args.toList, argTypes.toList with
    | .append, some [x, y], [t, u] => match elemOf? P t, P.underlying u with
      | some e, some (.slice _) => match size? P e, zeroV P e with
        | some s, some z => if small? P e && z.cells.length == s then some (.app s x y) else none
        | _, _ => none
      | _, _ => none
    | .len, some [x], [t] => match P.underlying t with
      | some .string => some (.len .s x)
      | some (.slice _) => some (.len .sl x)
      | some (.map _ _) => some (.len .m x)
      | _ => none
    | .min, some l, _ => some (.min l)
    | .max, some l, _ => some (.max l)
    | .delete, some [m, k], [t, _] => match P.underlying t with
      | some (.map kt _) => (keyOf? P kt).map fun e => .mdel e m k
      | _ => none
    | _, _, _ => none
  | .call { callee := .value f, args, .. } => match opd f, opds args.toList with
    | some f, some args => some (.call (match f with | .c (.fn f _) => !eff.contains f | _ => par) f args)
    | _, _ => none
  | _ => none
def operOf (eff : List FuncId) (nt : Nat) (ops : Array Go.Oper) (par : Bool) (o : Go.Oper) : Option AOper := match opOf P eff par o with
  | some op =>
    if o.dst.all (· < nt) then
      match o.guard with
      | none => some ⟨o.dst, none, op⟩
      | some (j, w) => match (ops[j]?).bind (·.dst) with
        | some s => some ⟨o.dst, some (s, w), op⟩
        | none => none
    else none
  | none => none
def opersOf (eff : List FuncId) (nt : Nat) (ops : Array Go.Oper) : Nat → List Go.Oper → Option (List AOper)
  | _, [] => some []
  | m, o :: l => match operOf P eff nt ops (decide (0 < m)) o, opersOf eff nt ops (m - 1) l with
    | some o, some l => some (o :: l)
    | _, _ => none
def AOp.xs : AOp → List X
  | .mv x | .asn x | .box x | .nilc x | .un _ x | .conv _ x | .same x | .tostr x | .fld _ x | .len _ x | .ext x _ | .load _ _ x | .fldv _ _ _ x | .mksl _ x => [x]
  | .pick c a b => [c, a, b]
  | .alloc _ | .mkmap => []
  | .build _ ps => ps.map (·.2.2)
  | .bslice _ _ ps => ps.map (·.2)
  | .store _ x y | .bin _ x y | .eqv _ _ x y | .ixs x y | .app _ x y | .appN _ x y | .appF _ x y | .ixa _ x y | .look _ _ _ x y | .ment _ _ x y | .mdel _ x y => [x, y]
  | .mkf _ l | .min l | .max l => l
  | .slS x lo hi => x :: (lo.toList ++ hi.toList)
  | .sl _ x lo hi mx => x :: (lo.toList ++ hi.toList ++ mx.toList)
  | .mset _ m k v | .mput m k v => [m, k, v]
  | .call _ f l => f :: l
def X.tmp? : X → Option Nat
  | .t i => some i
  | .c _ => none
def AOper.sees (o : AOper) : List Nat := o.op.xs.filterMap X.tmp?
def direct (ops : Array Go.Oper) (i : Nat) : List Nat := match ops[i]? with
  | some o => o.after.toList.filterMap fun e => if Region.binds .any e then some e.on else none
  | none => []
def sweep (ops : Array Go.Oper) : Nat → List Nat → List Nat
  | 0, A => A
  | k + 1, A => if A.contains k then sweep ops k (direct ops k ++ A) else sweep ops k A
def waitsAll (ops : Array Go.Oper) (i : Nat) : Bool := let A := sweep ops i (direct ops i); (List.range i).all fun j => A.contains j
def tailB (ops : Array Go.Oper) (m : Nat) : Bool := (List.range ops.size).all fun i => decide (i < m) || waitsAll ops i
def tailFrom (ops : Array Go.Oper) : Nat → Nat
  | 0 => 0
  | k + 1 => if waitsAll ops k then tailFrom ops k else k + 1
def aheadB (ops : Array Go.Oper) : Bool := (List.range ops.size).all fun i => match ops[i]? with
  | some o => o.after.all fun e => !Region.binds .any e || decide (e.on < i)
  | none => true
def apartB : List Tmp → Bool
  | [] => true
  | t :: l => !l.contains t && apartB l
def seesB (ops : Array Go.Oper) (asn : List AOper) (m : Nat) : Bool := (List.range m).all fun i => match asn[i]? with
  | some o => (List.range m).all fun j => match asn[j]? with
    | some x => match x.d with
      | some d => i == j || !(o.sees.contains d) || (direct ops i).contains j
      | none => true
    | none => true
  | none => true
def guardsB (ops : Array Go.Oper) (m : Nat) : Bool := (List.range m).all fun i => match ops[i]? with
  | some o => match o.guard with
    | none => true
    | some (j, _) => (direct ops i).contains j
  | none => true
def adsts (asn : List AOper) : List Nat := asn.filterMap (·.d)
def drawsB (ops : Array Go.Oper) (asn : List AOper) (m : Nat) : Bool := aheadB ops && apartB (adsts (asn.take m)) && tailB ops m && seesB ops asn m && guardsB ops m
def isAppD (s : Nat) (o : AOper) : Bool := o.d == some s && (match o.op with | .app _ _ _ => true | _ => false)
def secondB (T : List AOper) (o : AOper) : Bool := match o.op with
  | .app _ (.t s) y => T.any (isAppD s) && (T.filter fun q => q.sees.contains s).length == 1 && !(y.tmp? == some s)
  | _ => false
def seconds (T : List AOper) : List Nat := T.filterMap fun o => match o.op with
  | .app _ (.t s) _ => if secondB T o && (T.all fun q => !isAppD s q || !secondB T q) then some s else none
  | _ => none
def chain1 (S : List Nat) (o : AOper) : AOper := match o.op, o.d with
  | .app sz (.t s) y, d => if S.contains s then { o with op := .appF sz (.t s) y } else match d with
    | some d => if S.contains d then { o with op := .appN sz (.t s) y } else o
    | none => o
  | .app sz x y, some d => if S.contains d then { o with op := .appN sz x y } else o
  | _, _ => o
def chainOf (m : Nat) (asn : List AOper) : List AOper := let S := seconds (asn.take m); bif S.isEmpty then asn else (asn.take m).map (chain1 S) ++ asn.drop m
def chainB (ops : Array Go.Oper) (asn : List AOper) (m : Nat) : Bool := (List.range m).all fun j => match asn[j]? with
  | some o => match o.op with
    | .appF _ (.t s) y => !(y.tmp? == some s) && (List.range m).any fun i => (direct ops j).contains i && (match asn[i]? with
      | some b => b.d == some s && (match b.op with | .appN _ _ _ => true | _ => false)
      | none => false)
    | .appF _ _ _ => false
    | .appN _ _ _ => match o.d with
      | some s => (List.range m).all fun k => match asn[k]? with
        | some c => !(c.sees.contains s) || ((match c.op with | .appF _ (.t s') _ => s' == s | _ => false) && (List.range m).all fun k' => k' == k || (match asn[k']? with | some c' => !(c'.sees.contains s) | none => true))
        | none => true
      | none => false
    | _ => true
  | none => true
def freeB (asn : List AOper) (m j : Nat) : Bool := match asn[j]? with
  | some ⟨some _, none, .mv (.t t)⟩ => !(adsts (asn.take (m + 1))).contains t
  | _ => false
def isAppAt (asn : List AOper) (m : Nat) : Bool := match asn[m]? with
  | some ⟨some _, none, .app _ _ _⟩ => true
  | _ => false
def relaxB (ops : Array Go.Oper) (asn : List AOper) (m : Nat) : Bool := Nat.blt 0 m && Nat.blt m ops.size && aheadB ops && apartB (adsts (asn.take (m + 1))) && tailB ops (m + 1) && seesB ops asn (m + 1) && guardsB ops m && (List.range m).all fun j => (sweep ops m (direct ops m)).contains j || freeB asn m j
def regR (eff : List FuncId) (nt : Nat) (ops : Array Go.Oper) (m : Nat) : Option ACode := match opersOf P eff nt ops m ops.toList with
  | some as0 => if isAppAt as0 m && relaxB ops (chainOf m as0) m && isAppAt (chainOf m as0) m && chainB ops (chainOf m as0) m then some (.reg m (chainOf m as0)) else none
  | none => none
def regD (eff : List FuncId) (nt : Nat) (ops : Array Go.Oper) (draw : Bool) : Option ACode :=
    let m := if draw then tailFrom ops ops.size else 0
    match opersOf P eff nt ops m ops.toList with
    | some as0 => let asn := chainOf m as0; if !draw || (drawsB ops asn m && chainB ops asn m) then some (.reg m asn) else none
    | none => none
def codeOf (eff : List FuncId) (nt : Nat) : Go.Code → Option ACode
  | .skip => some .skip
  | .region _ ops draw => match (if draw then regR P eff nt ops (tailFrom ops ops.size - 1) else none) with
    | some c => some c
    | none => regD P eff nt ops draw
  | .seq a b => match codeOf eff nt a, codeOf eff nt b with
    | some a, some b => some (.seq a b)
    | _, _ => none
  | .cond c a b => match opd c, codeOf eff nt a, codeOf eff nt b with
    | some c, some a, some b => some (.cond c a b)
    | _, _, _ => none
  | .block id c => (codeOf eff nt c).map (.block id)
  | .loop c => (codeOf eff nt c).map .loop
  | .exit id => some (.exit id)
  | .ret => some .ret
  | .scope c => (codeOf eff nt c).map .scope
  | .label _ => some .skip
  | _ => none
def resOf : ResultVar → Option Res
  | .tmp t => some (.t t)
  | .cell a t => match size? P t, agg? P t with
    | some s, some g => if g || s == 1 then some (.c a s g) else none
    | _, _ => none
def ressOf : List ResultVar → Option (List Res)
  | [] => some []
  | r :: l => match resOf P r, ressOf l with
    | some r, some l => some (r :: l)
    | _, _ => none
def fnOf (eff keep : List FuncId) (f : FuncId) : Option Fn := match P.funcs[f]? with
  | some fn => match fn.body with
    | some c => match codeOf P eff fn.ntmps c, ressOf P fn.results.toList with
      | some c, some r => if fn.name == "runtime.NumGoroutine" then none else some ⟨c, r, keep.contains f, false⟩
      | _, _ => none
    | none => none
  | none => none
end
end Go.Proofs.YtlacnkjkcikodaaDoor.Am
end
section
set_option linter.unusedVariables false
namespace Go.Proofs.YtlacnkjkcikodaaDoor
open Go Go.RowKit
def Laid (w : World) : Prop := Lib.TabIs Tryd.prog w "internal/strconv.uint64pow10" .u64 Lib.pow10Tab
theorem Laid.below {w w' : World} (h : Laid w) (hb : Below w.heap.size w w') : Laid w' := Lib.tabBelow_of_tabIs h w' hb
theorem laid_gT : Tryd.prog.globalNamed "internal/strconv.uint64pow10" = some 0 := by kernel_rfl
theorem laid_vars : ∀ {ns : List (String × DataW Unit)} {W : World} {ps : List MemPlace}, ("internal/strconv.uint64pow10", Lib.tabData .u64 Lib.pow10Tab) ∈ ns → DataW.LaidVars Tryd.prog W ns ps → Laid W := by
  intro ns
  induction ns with
  | nil => intro W ps h; cases h
  | cons x r ih =>
    intro W ps h hl
    obtain ⟨n, y⟩ := x
    obtain ⟨g', t', cs, fuel, p, q, hg', ht', hvar, hd, hr, he⟩ := hl
    rcases List.mem_cons.1 h with e | e
    · cases e
      obtain rfl := Option.some.inj (laid_gT.symm.trans hg')
      obtain rfl := Option.some.inj ((show (Tryd.prog.globals[0]?).map (·.type) = some 279 by kernel_rfl).symm.trans ht')
      show Lib.TabIs _ _ _ _ _
      unfold Lib.TabIs
      rw [hvar, ← Lib.cells_of_tab (n := 20) Tryd.underlying279 Tryd.underlying270 (by kernel_rfl) (by kernel_rfl) hd]
    · exact ih e hr
theorem laid_of {l : List (String × DataW Unit)} {W : World} (hf : (l.filter fun x => x.2.handleName?.isSome) = []) (hm : ("internal/strconv.uint64pow10", Lib.tabData .u64 Lib.pow10Tab) ∈ l) (h : laidMetH Tryd.prog l W) : Laid W := by
  unfold laidMetH at h
  rw [hf] at h
  obtain ⟨ps, hl, _⟩ := h
  exact laid_vars hm hl
end Go.Proofs.YtlacnkjkcikodaaDoor
end
section
set_option linter.unusedVariables false
set_option linter.unusedSimpArgs false
namespace Go.Proofs.YtlacnkjkcikodaaDoor.Am
open Go
inductive F2 {α β : Type} (R : α → β → Prop) : List α → List β → Prop
  | nil : F2 R [] []
  | cons {a : α} {b : β} {l : List α} {m : List β} (h : R a b) (t : F2 R l m) : F2 R (a :: l) (b :: m)
theorem F2.length {α β : Type} {R : α → β → Prop} {l : List α} {m : List β} (h : F2 R l m) : l.length = m.length := by
  induction h with
  | nil => rfl
  | cons h t ih => simp [ih]
theorem F2.imp {α β : Type} {R S : α → β → Prop} {l : List α} {m : List β} (h : F2 R l m) (f : ∀ a b, a ∈ l → R a b → S a b) : F2 S l m := by
  induction h with
  | nil => exact .nil
  | cons h t ih => exact .cons (f _ _ List.mem_cons_self h) (ih fun a b ha => f a b (List.mem_cons_of_mem _ ha))
theorem F2.append {α β : Type} {R : α → β → Prop} {l l' : List α} {m m' : List β} (h : F2 R l m) (h' : F2 R l' m') : F2 R (l ++ l') (m ++ m') := by
  induction h with
  | nil => exact h'
  | cons h t ih => exact .cons h ih
theorem F2.get {α β : Type} {R : α → β → Prop} {l : List α} {m : List β} (h : F2 R l m) (i : Nat) (a : α) (ha : l[i]? = some a) : ∃ b, m[i]? = some b ∧ R a b := by
  induction h generalizing i with
  | nil => cases ha
  | cons h t ih =>
    cases i with
    | zero => simp only [List.getElem?_cons_zero, Option.some.injEq] at ha; subst ha; exact ⟨_, rfl, h⟩
    | succ i => simp only [List.getElem?_cons_succ] at ha; simpa using ih i ha
theorem F2.of {α β : Type} {R : α → β → Prop} : ∀ (l : List α) (m : List β), l.length = m.length → (∀ (i : Nat) (a : α) (b : β), l[i]? = some a → m[i]? = some b → R a b) → F2 R l m
  | [], [], _, _ => .nil
  | [], _ :: _, h, _ => by simp at h
  | _ :: _, [], h, _ => by simp at h
  | a :: l, b :: m, h, f => .cons (f 0 a b rfl rfl) (F2.of l m (by simpa using h) (fun (i : Nat) a b ha hb => f (i + 1) a b ((List.getElem?_cons_succ).trans ha) ((List.getElem?_cons_succ).trans hb)))
theorem F2.drop {α β : Type} {R : α → β → Prop} {l : List α} {m : List β} (h : F2 R l m) (k : Nat) : F2 R (l.drop k) (m.drop k) := by
  induction h generalizing k with
  | nil => simp; exact .nil
  | cons h t ih =>
    cases k with
    | zero => exact .cons h t
    | succ k => simpa using ih k
theorem F2.take {α β : Type} {R : α → β → Prop} {l : List α} {m : List β} (h : F2 R l m) (k : Nat) : F2 R (l.take k) (m.take k) := by
  induction h generalizing k with
  | nil => simp; exact .nil
  | cons h t ih =>
    cases k with
    | zero => exact .nil
    | succ k => simpa using .cons h (ih k)
theorem F2.map {α β γ : Type} {R : α → β → Prop} {S : γ → β → Prop} {l : List α} {m : List β} (f : α → γ) (h : F2 R l m) (hf : ∀ a b, a ∈ l → R a b → S (f a) b) : F2 S (l.map f) m := by
  induction h with
  | nil => exact .nil
  | cons h t ih => exact .cons (hf _ _ List.mem_cons_self h) (ih fun a b ha => hf a b (List.mem_cons_of_mem _ ha))
inductive Key where
  | tmp (lv s : Nat)
  | cell (lv s c : Nat)
  deriving DecidableEq
structure Pin where
  tab : Nat → Option Obj
  laid : ∀ w : World, (∀ b o, tab b = some o → w.heap[b]? = some o) → Laid w
structure Gh where
  pin : Pin
  mu : Nat → Nat → Option Nat
  fix : Nat → Nat
  owner : Nat → Option Key
def TagR (t : Tag) (A : Option Addr) (n c : Nat) : Prop := match t with
  | .nil => A = none ∧ n = 0 ∧ c = 0
  | .nn => A ≠ none
  | .full => c = n
  | _ => True
abbrev V.pure : V → Bool := pure?
inductive CR (w : World) (g : Gh) : V → Value → Prop
  | bool (b : Bool) : CR w g (.bool b) (.bool b)
  | int (k : IntKind) (n : Int) : CR w g (.int k n) (.int k n)
  | flt (k : FloatKind) (b : Nat) : CR w g (.flt k b) (.float k b)
  | str (s : ByteArray) : CR w g (.str s) (.string s)
  | nilp : CR w g .nilp (.pointer none)
  | nilf : CR w g .nilf .nilFunc
  | nilm : CR w g .nilm (.map none)
  | ptr (lv s off b : Nat) (h : g.mu lv s = some b) : CR w g (.ptr lv s off) (.pointer (some ⟨b, off, none⟩))
  | row (lv s off n c b : Nat) (h : g.mu lv s = some b) (hc : n ≤ c) : CR w g (.row lv s off n) (.slice (some ⟨b, off, none⟩) n c)
  | map (lv s b : Nat) (h : g.mu lv s = some b) : CR w g (.map lv s) (.map (some b))
  | fn (f : FuncId) (caps : List V) (cs : List Value) (hl : cs.length = caps.length) (h : ∀ (i : Nat) (x : V) (v : Value), caps[i]? = some x → cs[i]? = some v → CR w g x v) : CR w g (.fn f caps) (.func (.func f) #[] cs.toArray)
  | sl (l : List V) (t : Tag) (A : Option Addr) (c sz : Nat) (vs : Nat → Nat → Value) (hc : l.length ≤ c) (hn : A = none → c = 0) (ht : TagR t A l.length c) (hp : 0 < sz) (hz : ∀ x ∈ l, x.cells.length = sz) (hd : ∀ x ∈ l, ∀ y ∈ x.cells, y.pure = true)
      (ha : l ≠ [] → ∃ a, A = some a ∧ a.spot = none ∧ a.off + l.length * sz ≤ g.fix a.block ∧ ∀ i j, i < l.length → j < sz → w.cell? ⟨a.block, a.off + i * sz + j, none⟩ = some (vs i j))
      (hr : ∀ (i : Nat) (x : V), l[i]? = some x → ∀ (j : Nat) (y : V), x.cells[j]? = some y → CR w g y (vs i j)) : CR w g (.sl l t) (.slice A l.length c)
  | elp (l : List V) (i off c : Nat) (a : Addr) (x : V) (h : CR w g (.sl l .no) (.slice (some a) l.length c)) (hx : l[i]? = some x) (ho : off < x.cells.length) : CR w g (.elp l i off) (.pointer (some ⟨a.block, a.off + i * x.cells.length + off, none⟩))
  | undef : CR w g .undef undef
  | any (v : Value) : CR w g .any v
def CRs (w : World) (g : Gh) (l : List V) (vs : List Value) : Prop := F2 (CR w g) l vs
def VR0 (w : World) (g : Gh) : V → Value → Prop
  | .agg l, v => ∃ vs : List Value, v = .agg vs.toArray ∧ CRs w g l vs
  | x, v => CR w g x v
def VR (w : World) (g : Gh) : V → Value → Prop
  | .tup l, v => ∃ vs : List Value, v = .tuple vs.toArray ∧ F2 (VR0 w g) l vs
  | x, v => VR0 w g x v
structure Keeps (n : Nat) (w : World) (g : Gh) (w' : World) (g' : Gh) : Prop where
  fix : ∀ b, b < w.heap.size → g.fix b ≤ g'.fix b
  cell : ∀ b o, b < w.heap.size → o < g.fix b → w'.cell? ⟨b, o, none⟩ = w.cell? ⟨b, o, none⟩
  mu : ∀ lv s b, lv < n → g.mu lv s = some b → g'.mu lv s = some b
theorem Keeps.refl (n : Nat) (w : World) (g : Gh) : Keeps n w g w g := ⟨fun _ _ => Nat.le_refl _, fun _ _ _ _ => rfl, fun _ _ _ _ h => h⟩
theorem Keeps.trans {n : Nat} {w w1 w2 : World} {g g1 g2 : Gh} (hs : w.heap.size ≤ w1.heap.size) (h : Keeps n w g w1 g1) (h' : Keeps n w1 g1 w2 g2) : Keeps n w g w2 g2 :=
  ⟨fun b hb => Nat.le_trans (h.fix b hb) (h'.fix b (by omega)), fun b o hb ho => (h'.cell b o (by omega) (Nat.lt_of_lt_of_le ho (h.fix b hb))).trans (h.cell b o hb ho), fun lv s b hl e => h'.mu lv s b hl (h.mu lv s b hl e)⟩
theorem Keeps.mono {m n : Nat} (hmn : m ≤ n) {w w1 : World} {g g1 : Gh} (h : Keeps n w g w1 g1) : Keeps m w g w1 g1 := ⟨h.fix, h.cell, fun lv s b hl => h.mu lv s b (by omega)⟩
theorem cell_lt {w : World} {b o : Nat} {v : Value} (h : w.cell? ⟨b, o, none⟩ = some v) : b < w.heap.size := by
  unfold World.cell? at h
  split at h
  · rename_i hx; exact (Array.getElem?_eq_some_iff.1 hx).1
  · cases h
def V.under (b : Nat) : V → Bool
  | .tup l => l.all (V.under0 b)
  | v => v.under0 b
theorem under_cap {b : Nat} {x : V} (h : x.capU b = true) : x.under1 b = true := by
  cases x <;> simp_all [V.under1, V.capU]
  all_goals (rename_i caps; cases caps <;> simp_all)
theorem V.pure_under {x : V} (h : x.pure = true) (n : Nat) : x.under1 n = true := by
  cases x <;> simp_all [V.pure, pure?, V.under1]
  all_goals (rename_i caps; cases caps <;> simp_all)
theorem row_keep {n : Nat} {w w' : World} {g g' : Gh} (hk : Keeps n w g w' g') {l : List V} {A : Option Addr} {sz : Nat} {vs : Nat → Nat → Value} (hp : 0 < sz)
    (ha : l ≠ [] → ∃ a, A = some a ∧ a.spot = none ∧ a.off + l.length * sz ≤ g.fix a.block ∧ ∀ i j, i < l.length → j < sz → w.cell? ⟨a.block, a.off + i * sz + j, none⟩ = some (vs i j)) :
    l ≠ [] → ∃ a, A = some a ∧ a.spot = none ∧ a.off + l.length * sz ≤ g'.fix a.block ∧ ∀ i j, i < l.length → j < sz → w'.cell? ⟨a.block, a.off + i * sz + j, none⟩ = some (vs i j) := by
  intro hne
  obtain ⟨a, e1, e2, e3, e4⟩ := ha hne
  have h0 : 0 < l.length := List.length_pos_iff.2 hne
  have hb := cell_lt (e4 0 0 h0 hp)
  refine ⟨a, e1, e2, Nat.le_trans e3 (hk.fix _ hb), fun i j hi hj => ?_⟩
  rw [hk.cell _ _ hb]
  · exact e4 i j hi hj
  · have h1 : (i + 1) * sz ≤ l.length * sz := Nat.mul_le_mul_right _ hi
    rw [Nat.add_mul] at h1
    omega
theorem CR.keep {n : Nat} {w w' : World} {g g' : Gh} (hk : Keeps n w g w' g') {x : V} {v : Value} (h : CR w g x v) (hu : x.under1 n = true) : CR w' g' x v := by
  induction h with
  | bool b => exact .bool b
  | int k n => exact .int k n
  | flt k b => exact .flt k b
  | str s => exact .str s
  | nilp => exact .nilp
  | nilf => exact .nilf
  | nilm => exact .nilm
  | ptr lv s off b h => exact .ptr lv s off b (hk.mu lv s b (by simpa [V.under1, Nat.blt_eq] using hu) h)
  | row lv s off n c b h hc => exact .row lv s off n c b (hk.mu lv s b (by simpa [V.under1, Nat.blt_eq] using hu) h) hc
  | map lv s b h => exact .map lv s b (hk.mu lv s b (by simpa [V.under1, Nat.blt_eq] using hu) h)
  | fn f caps cs hl h ih =>
    refine .fn f caps cs hl fun i x v hx hv => ih i x v hx hv ?_
    simp only [V.under1, List.all_eq_true] at hu
    exact under_cap (hu x (List.mem_of_getElem? hx))
  | sl l t A c sz vs hc hn ht hp hz hd ha hr ih =>
    exact .sl l t A c sz vs hc hn ht hp hz hd (row_keep hk hp ha) (fun i x hx j y hy => ih i x hx j y hy (V.pure_under (hd x (List.mem_of_getElem? hx) y (List.mem_of_getElem? hy)) n))
  | elp l i off c a x h hx ho ih => exact .elp l i off c a x (ih rfl) hx ho
  | undef => exact .undef
  | any v => exact .any v
theorem CRs.keep {n : Nat} {w w' : World} {g g' : Gh} (hk : Keeps n w g w' g') {l : List V} {vs : List Value} (h : CRs w g l vs) (hu : l.all (V.under1 n) = true) : CRs w' g' l vs :=
  F2.imp h fun a b ha hr => hr.keep hk (List.all_eq_true.1 hu a ha)
theorem VR0.keep {n : Nat} {w w' : World} {g g' : Gh} (hk : Keeps n w g w' g') {x : V} {v : Value} (h : VR0 w g x v) (hu : x.under0 n = true) : VR0 w' g' x v := by
  unfold VR0 at h ⊢
  split
  · obtain ⟨vs, e, hc⟩ := h
    exact ⟨vs, e, hc.keep hk hu⟩
  · rename_i hx
    split at h
    · exact absurd rfl (hx _)
    · exact CR.keep hk h (by unfold V.under0 at hu; split at hu; exact absurd rfl (hx _); exact hu)
theorem VR.keep {n : Nat} {w w' : World} {g g' : Gh} (hk : Keeps n w g w' g') {x : V} {v : Value} (h : VR w g x v) (hu : x.under n = true) : VR w' g' x v := by
  unfold VR at h ⊢
  split
  · obtain ⟨vs, e, hc⟩ := h
    exact ⟨vs, e, F2.imp hc fun a b ha hr => hr.keep hk (List.all_eq_true.1 hu a ha)⟩
  · rename_i hx
    split at h
    · exact absurd rfl (hx _)
    · exact VR0.keep hk h (by unfold V.under at hu; split at hu; exact absurd rfl (hx _); exact hu)
theorem CR.retag {w : World} {g : Gh} {l : List V} {t t' : Tag} {v : Value} (h : CR w g (.sl l t) v) (ht : ∀ A c, v = .slice A l.length c → TagR t A l.length c → TagR t' A l.length c) : CR w g (.sl l t') v := by
  cases h with
  | sl l t A c sz vs hc hn hta hp hz hd ha hr => exact .sl l t' A c sz vs hc hn (ht A c rfl hta) hp hz hd ha hr
theorem CR.notag {w : World} {g : Gh} {l : List V} {t : Tag} {v : Value} (h : CR w g (.sl l t) v) : CR w g (.sl l .no) v := h.retag fun _ _ _ _ => trivial
theorem CR.low1 {w : World} {g : Gh} {x : V} {v : Value} (h : CR w g x v) : CR w g x.low1 v := by
  cases x <;> try exact h
  rename_i l t
  exact CR.retag h fun A c _ ht => by cases t <;> first | exact ht | trivial
theorem CR.bare1 {w : World} {g : Gh} {x : V} {v : Value} (h : CR w g x v) : CR w g x.bare1 v := by
  cases x <;> try exact h
  exact CR.notag h
theorem CR.one {w : World} {g : Gh} {x : V} {v : Value} (h : CR w g x v) (hx : x.solid = true) : v.cells = #[v] ∧ ∀ l, x ≠ .agg l := by
  cases h <;> first | exact ⟨rfl, fun _ h => by cases h⟩ | cases hx
theorem VR0.cells {w : World} {g : Gh} {x : V} {v : Value} (h : VR0 w g x v) (hx : x.solid = true) : CRs w g x.cells v.cells.toList := by
  cases x with
  | agg l => obtain ⟨vs, rfl, hc⟩ := h; simpa [V.cells, Value.cells] using hc
  | _ => first | (have h1 := CR.one h hx; rw [h1.1]; exact .cons h .nil) | cases hx
theorem VR.vr0 {w : World} {g : Gh} {x : V} {v : Value} (h : VR w g x v) (hx : ∀ l, x ≠ .tup l) : VR0 w g x v := by
  unfold VR at h
  split at h
  · exact absurd rfl (hx _)
  · exact h
theorem VR.cells {w : World} {g : Gh} {x : V} {v : Value} (h : VR w g x v) (hx : x.solid = true) : CRs w g x.cells v.cells.toList :=
  (h.vr0 (fun l e => by subst e; cases hx)).cells hx
theorem VR0.vr {w : World} {g : Gh} {x : V} {v : Value} (h : VR0 w g x v) (hx : ∀ l, x ≠ .tup l) : VR w g x v := by
  unfold VR
  split
  · exact absurd rfl (hx _)
  · exact h
theorem CR.vr {w : World} {g : Gh} {x : V} {v : Value} (h : CR w g x v) : VR w g x v := by
  cases h <;> first | (constructor; done) | (simp only [VR, VR0]; constructor <;> assumption) | skip
  all_goals (simp only [VR, VR0])
  all_goals first | exact .sl _ _ _ _ _ _ ‹_› ‹_› ‹_› ‹_› ‹_› ‹_› ‹_› ‹_› | exact .elp _ _ _ _ _ _ ‹_› ‹_› ‹_›
theorem CR.not_agg {w : World} {g : Gh} {l : List V} {v : Value} (h : CR w g (.agg l) v) : False := by cases h
theorem CR.not_tup {w : World} {g : Gh} {l : List V} {v : Value} (h : CR w g (.tup l) v) : False := by cases h
theorem VR.cr {w : World} {g : Gh} {x : V} {v : Value} (h : VR w g x v) (h1 : ∀ l, x ≠ .tup l) (h2 : ∀ l, x ≠ .agg l) : CR w g x v := by
  have h := h.vr0 h1
  unfold VR0 at h
  split at h
  · exact absurd rfl (h2 _)
  · exact h
theorem VR0.low {w : World} {g : Gh} {x : V} {v : Value} (h : VR0 w g x v) : VR0 w g x.low v := by
  cases x with
  | agg l => obtain ⟨vs, rfl, hc⟩ := h; exact ⟨vs, rfl, F2.map _ hc fun a b _ h => h.low1⟩
  | sl l t => exact CR.low1 h
  | _ => exact h
theorem VR0.bare {w : World} {g : Gh} {x : V} {v : Value} (h : VR0 w g x v) : VR0 w g x.bare v := by
  cases x with
  | agg l => obtain ⟨vs, rfl, hc⟩ := h; exact ⟨vs, rfl, F2.map _ hc fun a b _ h => h.bare1⟩
  | sl l t => exact CR.bare1 h
  | _ => exact h
theorem VR.bare {w : World} {g : Gh} {x : V} {v : Value} (h : VR w g x v) : VR w g x.bare v := by
  cases x with
  | tup l => exact h
  | agg l => exact VR0.bare (x := .agg l) h
  | sl l t => exact VR0.bare (x := .sl l t) h
  | _ => exact h
theorem VR.low {w : World} {g : Gh} {x : V} {v : Value} (h : VR w g x v) : VR w g x.low v := by
  cases x with
  | tup l => exact h
  | agg l => exact VR0.low (x := .agg l) h
  | sl l t => exact VR0.low (x := .sl l t) h
  | _ => exact h
theorem CR.strip {w : World} {g : Gh} (p : Tag → Bool) {x : V} {v : Value} (h : CR w g x v) : CR w g (x.strip p) v := by
  cases x <;> try exact h
  rename_i l t
  refine CR.retag h fun A c _ ht => ?_
  cases p t <;> first | exact ht | trivial
theorem VR.strip {w : World} {g : Gh} (p : Tag → Bool) {x : V} {v : Value} (h : VR w g x v) : VR w g (x.strip p) v := by
  cases x with
  | sl l t => exact CR.strip p h
  | _ => exact h
end Go.Proofs.YtlacnkjkcikodaaDoor.Am
end
section
set_option linter.unusedVariables false
set_option linter.unusedSimpArgs false
namespace Go.Proofs.YtlacnkjkcikodaaDoor.Am
open Go
theorem nbeq {i j : Nat} (h : i ≠ j) : Nat.beq i j = false := by
  cases e : Nat.beq i j with
  | false => rfl
  | true => exact absurd (Nat.eq_of_beq_eq_true e) h
def objAt (Hs : List Tab) (lv s : Nat) : Option Ob := (Hs[lv]?).bind (·.get s)
theorem St.obj_eq (st : St) (lv s : Nat) : st.obj lv s = objAt (st.H ++ [st.L]) lv s := by
  unfold St.obj objAt
  by_cases h : lv = st.H.length
  · subst h; simp
  · have h1 : Nat.beq lv st.H.length = false := nbeq h
    rw [h1, cond_false]
    by_cases h2 : lv < st.H.length
    · rw [List.getElem?_append_left h2]
    · rw [List.getElem?_eq_none (by omega), List.getElem?_eq_none (by simp; omega)]
theorem objAt_lt {Hs : List Tab} {lv s : Nat} {o : Ob} (h : objAt Hs lv s = some o) : lv < Hs.length := by
  unfold objAt at h
  rcases Nat.lt_or_ge lv Hs.length with h1 | h1
  · exact h1
  · rw [List.getElem?_eq_none h1] at h; cases h
def EntR (w : World) (g : Gh) (e : V × V × Nat) (e' : MapEntry) : Prop := VR0 w g e.1 e'.key ∧ VR0 w g e.2.1 e'.val ∧ e'.born = e.2.2
def ObR (w : World) (g : Gh) (b : Nat) : Ob → Prop
  | .cells l => ∃ (cs : Array Value) (e : TypeId), w.heap[b]? = some (.cells cs e (0, 0)) ∧ CRs w g l cs.toList
  | .map es clock => ∃ es' : Array MapEntry, w.heap[b]? = some (.map es' clock) ∧ F2 (EntR w g) es es'.toList
def Ob.under (b : Nat) : Ob → Bool
  | .cells l => l.all (V.under1 b)
  | .map es _ => es.all fun e => e.1.under0 b && e.2.1.under0 b
def OwnOK (w : World) (g : Gh) (k : Key) (l : List V) (v : Value) : Prop := ∃ A c, v = .slice A l.length c ∧
  (c = l.length ∨ ∃ a sz, A = some a ∧ l ≠ [] ∧ 0 < sz ∧ (∀ x ∈ l, x.cells.length = sz) ∧ a.spot = none ∧ g.fix a.block = a.off + l.length * sz ∧ g.owner a.block = some k ∧ ∃ (cs : Array Value) (e : TypeId), w.heap[a.block]? = some (.cells cs e (0, 0)) ∧ a.off + c * sz ≤ cs.size)
structure GOK (w : World) (g : Gh) : Prop where
  inj : ∀ lv s lv' s' b, g.mu lv s = some b → g.mu lv' s' = some b → lv = lv' ∧ s = s'
  lt : ∀ lv s b, g.mu lv s = some b → b < w.heap.size
  ow : ∀ b k, g.owner b = some k → b < w.heap.size ∧ ∀ lv s, g.mu lv s ≠ some b
  pin : ∀ b o, g.pin.tab b = some o → w.heap[b]? = some o ∧ g.owner b = none ∧ ∀ lv s, g.mu lv s ≠ some b
theorem GOK.laid {w : World} {g : Gh} (h : GOK w g) : Laid w := g.pin.laid w fun b o hb => (h.pin b o hb).1
theorem heap_lt {w : World} {b : Nat} {o : Obj} (h : w.heap[b]? = some o) : b < w.heap.size := by
  rcases Nat.lt_or_ge b w.heap.size with h1 | h1
  · exact h1
  · rw [Array.getElem?_eq_none h1] at h; cases h
structure HR (w : World) (g : Gh) (Hs : List Tab) : Prop where
  ob : ∀ lv s o, objAt Hs lv s = some o → o.under (lv + 1) = true ∧ ∃ b, g.mu lv s = some b ∧ g.fix b = 0 ∧ ObR w g b o
  own : ∀ lv s cs c l, objAt Hs lv s = some (.cells cs) → cs[c]? = some (.sl l .held) → ∃ b ccs e v, g.mu lv s = some b ∧ w.heap[b]? = some (.cells ccs e (0, 0)) ∧ ccs[c]? = some v ∧ OwnOK w g (.cell lv s c) l v
structure TR (w : World) (g : Gh) (n : Nat) (Hs : List Tab) (T : Tm) (tmps : Array Value) : Prop where
  v : ∀ i, VR w g (T.get i) (tmps.getD i undef)
  un : ∀ i, (T.get i).under (n + 1) = true
  own : ∀ i l s, T.get i = .sl l (.own s) → OwnOK w g (.tmp n s) l (tmps.getD i undef)
  cell : ∀ i l lv s c, T.get i = .sl l (.cell lv s c) → ∃ cs b ccs e, objAt Hs lv s = some (.cells cs) ∧ cs[c]? = some (.sl l .held) ∧ g.mu lv s = some b ∧ w.heap[b]? = some (.cells ccs e (0, 0)) ∧ ccs[c]? = some (tmps.getD i undef)
def Touch (lk n : Nat) (g : Gh) (b : Nat) : Prop := (∃ lv s, lk ≤ lv ∧ g.mu lv s = some b) ∨ (∃ lv s c, lk ≤ lv ∧ g.owner b = some (.cell lv s c)) ∨ (∃ lv s, n ≤ lv ∧ g.owner b = some (.tmp lv s))
structure Fr (lk n : Nat) (w : World) (g : Gh) (w' : World) (g' : Gh) : Prop where
  size : w.heap.size ≤ w'.heap.size
  keeps : Keeps n w g w' g'
  same : ∀ b, b < w.heap.size → ¬ Touch lk n g b → w'.heap[b]? = w.heap[b]? ∧ g'.fix b = g.fix b ∧ g'.owner b = g.owner b
  mu : ∀ lv s b, g'.mu lv s = some b → g.mu lv s = some b ∨ w.heap.size ≤ b
  mulk : ∀ lv s, lv < lk → g'.mu lv s = g.mu lv s
  own : ∀ b lv s, lv < n → g'.owner b = some (.tmp lv s) → g.owner b = some (.tmp lv s)
  gok : GOK w' g'
  io : w'.os = w.os ∧ w'.tape = w.tape ∧ w'.output = w.output
theorem Fr.refl {w : World} {g : Gh} (lk n : Nat) (h : GOK w g) : Fr lk n w g w g := ⟨Nat.le_refl _, .refl _ _ _, fun _ _ _ => ⟨rfl, rfl, rfl⟩, fun _ _ _ h => .inl h, fun _ _ _ => rfl, fun _ _ _ _ h => h, h, rfl, rfl, rfl⟩
theorem Fr.trans {lk n : Nat} {w w1 w2 : World} {g g1 g2 : Gh} (h : Fr lk n w g w1 g1) (h' : Fr lk n w1 g1 w2 g2) : Fr lk n w g w2 g2 := by
  refine ⟨Nat.le_trans h.size h'.size, h.keeps.trans h.size h'.keeps, fun b hb ht => ?_, fun lv s b hm => ?_, fun lv s hl => (h'.mulk lv s hl).trans (h.mulk lv s hl), fun b lv s hl ho => h.own b lv s hl (h'.own b lv s hl ho), h'.gok, h'.io.1.trans h.io.1, h'.io.2.1.trans h.io.2.1, h'.io.2.2.trans h.io.2.2⟩
  · obtain ⟨e1, e2, e3⟩ := h.same b hb ht
    have h2 : ¬ Touch lk n g1 b := by
      rintro (⟨lv, s, hl, hm⟩ | ⟨lv, s, c, hl, ho⟩ | ⟨lv, s, hl, ho⟩)
      · rcases h.mu lv s b hm with h3 | h3
        · exact ht (.inl ⟨lv, s, hl, h3⟩)
        · omega
      · exact ht (.inr (.inl ⟨lv, s, c, hl, e3 ▸ ho⟩))
      · exact ht (.inr (.inr ⟨lv, s, hl, e3 ▸ ho⟩))
    obtain ⟨f1, f2, f3⟩ := h'.same b (Nat.lt_of_lt_of_le hb h.size) h2
    exact ⟨f1.trans e1, f2.trans e2, f3.trans e3⟩
  · rcases h'.mu lv s b hm with h3 | h3
    · exact h.mu lv s b h3
    · exact .inr (Nat.le_trans h.size h3)
theorem Fr.mono {lk lk' m n : Nat} (hl : lk ≤ lk') (hn : n ≤ m) {w w' : World} {g g' : Gh} (h : Fr lk' m w g w' g') : Fr lk n w g w' g' :=
  ⟨h.size, h.keeps.mono hn, fun b hb ht => h.same b hb (by
    rintro (⟨lv, s, hl2, hm⟩ | ⟨lv, s, c, hl2, ho⟩ | ⟨lv, s, hl2, ho⟩)
    · exact ht (.inl ⟨lv, s, by omega, hm⟩)
    · exact ht (.inr (.inl ⟨lv, s, c, by omega, ho⟩))
    · exact ht (.inr (.inr ⟨lv, s, by omega, ho⟩))), h.mu, fun lv s hlv => h.mulk lv s (by omega), fun b lv s hlv ho => h.own b lv s (by omega) ho, h.gok, h.io⟩
theorem V.capU_mono {b c : Nat} (hbc : b ≤ c) {x : V} (h : x.capU b = true) : x.capU c = true := by
  cases x <;> simp_all [V.capU, Nat.blt_eq] <;> try omega
  rename_i caps; cases caps <;> simp_all
theorem V.under1_mono {b c : Nat} (hbc : b ≤ c) {x : V} (h : x.under1 b = true) : x.under1 c = true := by
  cases x <;> simp_all [V.under1, Nat.blt_eq] <;> try omega
  exact fun x hx => V.capU_mono hbc (h x hx)
theorem V.under0_mono {b c : Nat} (hbc : b ≤ c) {x : V} (h : x.under0 b = true) : x.under0 c = true := by
  unfold V.under0 at h ⊢
  split
  · simp only [List.all_eq_true] at h ⊢
    exact fun x hx => V.under1_mono hbc (h x hx)
  · rename_i hx
    split at h
    · exact absurd rfl (hx _)
    · exact V.under1_mono hbc h
theorem V.under_mono {b c : Nat} (hbc : b ≤ c) {x : V} (h : x.under b = true) : x.under c = true := by
  unfold V.under at h ⊢
  split
  · simp only [List.all_eq_true] at h ⊢
    exact fun x hx => V.under0_mono hbc (h x hx)
  · rename_i hx
    split at h
    · exact absurd rfl (hx _)
    · exact V.under0_mono hbc h
theorem ObR.keep {n : Nat} {w w' : World} {g g' : Gh} (hk : Keeps n w g w' g') {b : Nat} (hb : w'.heap[b]? = w.heap[b]?) {o : Ob} (h : ObR w g b o) (hu : o.under n = true) : ObR w' g' b o := by
  cases o with
  | cells l => obtain ⟨cs, e, h1, h2⟩ := h; exact ⟨cs, e, hb.trans h1, h2.keep hk hu⟩
  | map es clock =>
    obtain ⟨es', h1, h2⟩ := h
    refine ⟨es', hb.trans h1, F2.imp h2 fun a b ha hr => ?_⟩
    have hu2 := List.all_eq_true.1 hu a ha
    rw [Bool.and_eq_true] at hu2
    exact ⟨hr.1.keep hk hu2.1, hr.2.1.keep hk hu2.2, hr.2.2⟩
theorem OwnOK.keep {w w' : World} {g g' : Gh} {k : Key} {l : List V} {v : Value} (h : OwnOK w g k l v) (hs : ∀ b, g.owner b = some k → w'.heap[b]? = w.heap[b]? ∧ g'.fix b = g.fix b ∧ g'.owner b = g.owner b) : OwnOK w' g' k l v := by
  obtain ⟨A, c, e, h⟩ := h
  refine ⟨A, c, e, h.imp id ?_⟩
  rintro ⟨a, sz, e1, e2, e3, e4, e5, e6, e7, cs, e, h1, h2⟩
  obtain ⟨f1, f2, f3⟩ := hs _ e7
  exact ⟨a, sz, e1, e2, e3, e4, e5, f2.trans e6, f3.trans e7, cs, e, f1.trans h1, h2⟩
section
variable {w w' : World} {g g' : Gh} {Hs : List Tab}
theorem HR.keep {lk m : Nat} (hg : GOK w g) (h : HR w g Hs) (hf : Fr lk m w g w' g') (hl : Hs.length ≤ lk) (hm : Hs.length ≤ m) : HR w' g' Hs := by
  have hun : ∀ lv s b, lv < Hs.length → g.mu lv s = some b → w'.heap[b]? = w.heap[b]? ∧ g'.fix b = g.fix b ∧ g'.mu lv s = some b := by
    intro lv s b hlv hmu
    have ht : ¬ Touch lk m g b := by
      rintro (⟨lv', s', h1, h2⟩ | ⟨lv', s', c, h1, ho⟩ | ⟨lv', s', h1, ho⟩)
      · have := (hg.inj _ _ _ _ _ hmu h2).1; omega
      · exact (hg.ow _ _ ho).2 _ _ hmu
      · exact (hg.ow _ _ ho).2 _ _ hmu
    obtain ⟨f1, f2, f3⟩ := hf.same b (hg.lt _ _ _ hmu) ht
    exact ⟨f1, f2, hf.keeps.mu lv s b (by omega) hmu⟩
  refine ⟨fun lv s o ho => ?_, fun lv s cs c l ho hc => ?_⟩
  · obtain ⟨hu, b, e1, e2, e3⟩ := h.ob lv s o ho
    have hlv := objAt_lt ho
    obtain ⟨f1, f2, f3⟩ := hun lv s b hlv e1
    exact ⟨hu, b, f3, f2.trans e2, e3.keep (hf.keeps.mono (m := lv + 1) (by omega)) f1 hu⟩
  · obtain ⟨b, ccs, e, v, e1, e2, e3, e4⟩ := h.own lv s cs c l ho hc
    have hlv := objAt_lt ho
    obtain ⟨f1, f2, f3⟩ := hun lv s b hlv e1
    refine ⟨b, ccs, e, v, f3, f1.trans e2, e3, e4.keep fun b2 ho2 => ?_⟩
    refine hf.same b2 (hg.ow _ _ ho2).1 ?_
    rintro (⟨lv', s', h1, h2⟩ | ⟨lv', s', c', h1, ho3⟩ | ⟨lv', s', h1, ho3⟩)
    · exact (hg.ow _ _ ho2).2 _ _ h2
    · rw [ho2] at ho3; cases ho3; omega
    · rw [ho2] at ho3; cases ho3
theorem TR.keep {lk n : Nat} {T : Tm} {tmps : Array Value} (hg : GOK w g) (h : TR w g n Hs T tmps) (hf : Fr lk (n + 1) w g w' g') (hlen : Hs.length = n + 1) (hc : n + 1 ≤ lk ∨ ∀ i l lv s c, T.get i ≠ .sl l (.cell lv s c)) : TR w' g' n Hs T tmps := by
  refine ⟨fun i => (h.v i).keep hf.keeps (h.un i), h.un, fun i l s hi => (h.own i l s hi).keep fun b ho => ?_, fun i l lv s c hi => ?_⟩
  · refine hf.same b (hg.ow _ _ ho).1 ?_
    rintro (⟨lv', s', h1, h2⟩ | ⟨lv', s', c', h1, ho3⟩ | ⟨lv', s', h1, ho3⟩)
    · exact (hg.ow _ _ ho).2 _ _ h2
    · rw [ho] at ho3; cases ho3
    · rw [ho] at ho3; cases ho3; omega
  · rcases hc with hc | hc
    · obtain ⟨cs, b, ccs, e, e1, e2, e3, e4, e5⟩ := h.cell i l lv s c hi
      have hlv := objAt_lt e1
      have ht : ¬ Touch lk (n + 1) g b := by
        rintro (⟨lv', s', h1, h2⟩ | ⟨lv', s', c, h1, ho⟩ | ⟨lv', s', h1, ho⟩)
        · have := (hg.inj _ _ _ _ _ e3 h2).1; omega
        · exact (hg.ow _ _ ho).2 _ _ e3
        · exact (hg.ow _ _ ho).2 _ _ e3
      obtain ⟨f1, f2, f3⟩ := hf.same b (hg.lt _ _ _ e3) ht
      exact ⟨cs, b, ccs, e, e1, e2, hf.keeps.mu lv s b (by omega) e3, f1.trans e4, e5⟩
    · exact absurd hi (hc i l lv s c)
end
structure SR (st : St) (g : Gh) (N : Nat) (a : Act) (w : World) : Prop where
  gok : GOK w g
  hr : HR w g (st.H ++ [st.L])
  tr : TR w g st.H.length (st.H ++ [st.L]) st.T a.tmps
  n : a.tmps.size = N
  df : a.defers = []
theorem SR.keep {st : St} {g g' : Gh} {N : Nat} {a : Act} {w w' : World} (h : SR st g N a w) (hf : Fr (st.H.length + 1) (st.H.length + 1) w g w' g') : SR st g' N a w' :=
  ⟨hf.gok, h.hr.keep h.gok hf (by simp) (by simp), h.tr.keep h.gok hf (by simp) (.inl (Nat.le_refl _)), h.n, h.df⟩
theorem Tm.get_set (T : Tm) (i j : Nat) (v : V) : (T.set i v).get j = bif Nat.beq j i then v else T.get j := rfl
theorem Tm.get_mapV (f : V → V) (hf : f .any = .any) (T : Tm) (i : Nat) : (T.mapV f).get i = f (T.get i) := by
  induction T with
  | nil => simp [Tm.mapV, Tm.get, hf]
  | cons p r ih =>
    obtain ⟨k, u⟩ := p
    simp only [Tm.mapV, Tm.get]
    by_cases h : i = k
    · subst h; simp
    · simp [nbeq h, ih]
theorem Tab.get_set (T : Tab) (i j : Nat) (v : Ob) : (T.set i v).get j = bif Nat.beq j i then some v else T.get j := by
  induction T with
  | nil => simp [Tab.set, Tab.get]
  | cons p r ih =>
    obtain ⟨k, u⟩ := p
    simp only [Tab.set]
    by_cases h : i = k
    · subst h
      simp only [Nat.beq_refl, cond_true, Tab.get]
      by_cases h2 : j = i
      · subst h2; simp
      · simp [nbeq h2]
    · rw [nbeq h, cond_false, Tab.get, ih, Tab.get]
      by_cases h2 : j = k
      · subst h2; simp [nbeq (Ne.symm h)]
      · simp [nbeq h2]
theorem getD_put (a : Act) (d : Nat) (v : Value) (hd : d < a.tmps.size) (i : Nat) : (a.put (some d) v).tmps.getD i undef = if i = d then v else a.tmps.getD i undef := by
  simp only [Act.put, Array.getD_eq_getD_getElem?]
  by_cases h : i = d
  · subst h; rw [Array.getElem?_setIfInBounds_self_of_lt hd]; simp
  · rw [Array.getElem?_setIfInBounds_ne (Ne.symm h), if_neg h]
def V.free : V → Bool
  | .sl _ (.own _) | .sl _ (.cell _ _ _) => false
  | _ => true
theorem SR.put {st : St} {g : Gh} {N : Nat} {a : Act} {w : World} (h : SR st g N a w) {d : Nat} (hd : d < N) {x : V} {v : Value} (hx : VR w g x v) (hu : x.under (st.H.length + 1) = true)
    (hown : ∀ l s, x = .sl l (.own s) → OwnOK w g (.tmp st.H.length s) l v)
    (hcell : ∀ l lv s c, x = .sl l (.cell lv s c) → ∃ cs b ccs e, objAt (st.H ++ [st.L]) lv s = some (.cells cs) ∧ cs[c]? = some (.sl l .held) ∧ g.mu lv s = some b ∧ w.heap[b]? = some (.cells ccs e (0, 0)) ∧ ccs[c]? = some v) :
    SR { st with T := st.T.set d x } g N (a.put (some d) v) w := by
  have hg : ∀ i, (st.T.set d x).get i = if i = d then x else st.T.get i := fun i => by
    rw [Tm.get_set]
    by_cases h : i = d
    · subst h; simp
    · simp [nbeq h, h]
  have hp := getD_put a d v (by rw [h.n]; exact hd)
  refine ⟨h.gok, h.hr, ⟨fun i => ?_, fun i => ?_, fun i l s hi => ?_, fun i l lv s c hi => ?_⟩, by simp [Act.put, h.n], h.df⟩
  · simp only [hg, hp]; split
    · exact hx
    · exact h.tr.v i
  · simp only [hg]; split
    · exact hu
    · exact h.tr.un i
  · simp only [hg] at hi; simp only [hp]; split at hi
    · rename_i e; rw [if_pos e]; exact hown l s hi
    · rename_i e; rw [if_neg e]; exact h.tr.own i l s hi
  · simp only [hg] at hi; simp only [hp]; split at hi
    · rename_i e; rw [if_pos e]; exact hcell l lv s c hi
    · rename_i e; rw [if_neg e]; exact h.tr.cell i l lv s c hi
theorem SR.putF {st : St} {g : Gh} {N : Nat} {a : Act} {w : World} (h : SR st g N a w) {d : Nat} (hd : d < N) {x : V} {v : Value} (hx : VR w g x v) (hu : x.under (st.H.length + 1) = true) (hf : x.free = true) :
    SR { st with T := st.T.set d x } g N (a.put (some d) v) w :=
  h.put hd hx hu (fun l s e => by subst e; cases hf) (fun l lv s c e => by subst e; cases hf)
end Go.Proofs.YtlacnkjkcikodaaDoor.Am
end
section
set_option linter.unusedVariables false
set_option linter.unusedSimpArgs false
namespace Go.Proofs.YtlacnkjkcikodaaDoor.Am
open Go
structure Lv (w : World) (g : Gh) (n : Nat) (Hs : List Tab) (x : V) (v : Value) : Prop where
  own : ∀ l s, x = .sl l (.own s) → OwnOK w g (.tmp n s) l v
  cell : ∀ l lv s c, x = .sl l (.cell lv s c) → ∃ cs b ccs e, objAt Hs lv s = some (.cells cs) ∧ cs[c]? = some (.sl l .held) ∧ g.mu lv s = some b ∧ w.heap[b]? = some (.cells ccs e (0, 0)) ∧ ccs[c]? = some v
theorem Lv.free {w : World} {g : Gh} {n : Nat} {Hs : List Tab} {x : V} {v : Value} (h : x.free = true) : Lv w g n Hs x v :=
  ⟨fun l s e => (by subst e; cases h), fun l lv s c e => (by subst e; cases h)⟩
structure OK (w : World) (g : Gh) (n : Nat) (Hs : List Tab) (x : V) (v : Value) : Prop where
  vr : VR w g x v
  un : x.under (n + 1) = true
  lv : Lv w g n Hs x v
theorem TR.ok {w : World} {g : Gh} {n : Nat} {Hs : List Tab} {T : Tm} {tmps : Array Value} (h : TR w g n Hs T tmps) (i : Nat) : OK w g n Hs (T.get i) (tmps.getD i undef) :=
  ⟨h.v i, h.un i, h.own i, h.cell i⟩
theorem toV1_sound {w : World} {g : Gh} {v : Value} {x : V} (h : toV1 v = some x) : CR w g x v ∧ x.pure = true ∨ CR w g x v ∧ (x = .nilp ∨ x = .nilm) := by
  unfold toV1 at h
  split at h <;> cases h
  · exact .inl ⟨.bool _, rfl⟩
  · exact .inl ⟨.int _ _, rfl⟩
  · exact .inl ⟨.flt _ _, rfl⟩
  · exact .inl ⟨.str _, rfl⟩
  · exact .inl ⟨.sl [] .nil none 0 1 (fun _ _ => undef) (Nat.le_refl _) (fun _ => rfl) ⟨rfl, rfl, rfl⟩ (by decide) (by simp) (by simp) (fun h => absurd rfl h) (by simp), rfl⟩
  · exact .inr ⟨.nilp, .inl rfl⟩
  · exact .inl ⟨.nilf, rfl⟩
  · exact .inr ⟨.nilm, .inr rfl⟩
  · exact .inl ⟨.fn _ [] [] rfl (by simp), rfl⟩
theorem toV1_under {v : Value} {x : V} (h : toV1 v = some x) (n : Nat) : x.under1 n = true ∧ x.free = true ∧ (∀ l, x ≠ .tup l) ∧ (∀ l, x ≠ .agg l) := by
  unfold toV1 at h
  split at h <;> cases h <;> simp [V.under1, V.free]
theorem toVs_sound {w : World} {g : Gh} {n : Nat} : ∀ {l : List Value} {xs : List V}, toVs l = some xs → CRs w g xs l ∧ xs.all (V.under1 n) = true
  | [], xs, h => by cases h; exact ⟨.nil, rfl⟩
  | v :: l, xs, h => by
    simp only [toVs] at h
    split at h
    · rename_i x ys h1 h2
      cases h
      have := toVs_sound (w := w) (g := g) (n := n) h2
      refine ⟨.cons (by rcases toV1_sound (w := w) (g := g) h1 with h | h <;> exact h.1) this.1, ?_⟩
      rw [List.all_cons, (toV1_under h1 n).1, this.2]; rfl
    · cases h
theorem toV_sound {w : World} {g : Gh} {v : Value} {x : V} (h : toV v = some x) (n : Nat) : VR0 w g x v ∧ x.under0 n = true ∧ x.free = true ∧ (∀ l, x ≠ .tup l) ∧ CRs w g x.cells v.cells.toList ∧ x.cells.all (V.under1 n) = true := by
  unfold toV at h
  split at h
  · rename_i cs
    obtain ⟨xs, h1, rfl⟩ := Option.map_eq_some_iff.1 h
    have := toVs_sound (w := w) (g := g) (n := n) h1
    exact ⟨⟨cs.toList, by simp, this.1⟩, this.2, rfl, by simp, this.1, this.2⟩
  · rename_i hx
    have h1 := toV1_under h n
    have h2 : CR w g x v := by rcases toV1_sound (w := w) (g := g) h with h | h <;> exact h.1
    have h3 : v.cells = #[v] := by cases v <;> first | rfl | exact absurd rfl (hx _)
    have h4 : x.cells = [x] := by cases x <;> first | rfl | exact absurd rfl (h1.2.2.2 _)
    refine ⟨?_, ?_, h1.2.1, h1.2.2.1, by rw [h3, h4]; exact .cons h2 .nil, by rw [h4]; simp [h1.1]⟩
    · cases x <;> first | exact h2 | exact absurd rfl (h1.2.2.2 _)
    · cases x <;> first | exact h1.1 | exact absurd rfl (h1.2.2.2 _)
section
variable {P : Program} {w : World} {g : Gh} {n : Nat} {Hs : List Tab} {T : Tm} {a : Act}
theorem opd_sound (hT : ∀ i, OK w g n Hs (T.get i) (a.tmps.getD i undef)) {x : Operand} {X : Am.X} (h : opd x = some X) : OK w g n Hs (X.ev T) (a.eval x) := by
  cases x with
  | tmp t => cases h; exact hT t
  | const v =>
    obtain ⟨y, h1, rfl⟩ := Option.map_eq_some_iff.1 h
    have := toV_sound (w := w) (g := g) h1 (n + 1)
    exact ⟨this.1.vr this.2.2.2.1, by have h2 := this.2.1; have h3 := this.2.2.2.1; cases y <;> first | exact h2 | exact absurd rfl (h3 _), Lv.free this.2.2.1⟩
  | func f => cases h; exact ⟨.fn f [] [] rfl (by simp), rfl, Lv.free rfl⟩
  | global f => cases h
def Val (P : Program) (w : World) (g : Gh) (n : Nat) (Hs : List Tab) (a : Act) (o : Go.Oper) (x : V) : Prop :=
  ∃ val w' g', (execOp a.eval o).run P w = .ok (.value val) w' ∧ Fr (n + 1) (n + 1) w g w' g' ∧ OK w' g' n Hs x val
theorem Val.now {o : Go.Oper} {x : V} {val : Value} (hg : GOK w g) (h : (execOp a.eval o).run P w = .ok (.value val) w) (hv : OK w g n Hs x val) : Val P w g n Hs a o x := ⟨val, w, g, h, Fr.refl _ _ hg, hv⟩
theorem run_sizeOf' {t : TypeId} {s : Nat} (h : size? P t = some s) (w : World) : (sizeOf t).run P w = .ok s w := by
  obtain ⟨i, hi, rfl⟩ := Option.map_eq_some_iff.1 h
  simp [sizeOf, typeInfo, hi]
theorem run_isAgg' {t : TypeId} {b : Bool} (h : agg? P t = some b) (w : World) : (isAgg t).run P w = .ok b w := by
  obtain ⟨d, hd, rfl⟩ := Option.map_eq_some_iff.1 h
  unfold isAgg
  rw [Sem.run_bind, run_underlying hd w]
  cases d <;> simp
theorem add_zero_addr (b o k : Nat) : (⟨b, o, none⟩ : Addr).add k = ⟨b, o + k, none⟩ := by unfold Addr.add; split <;> simp_all
theorem addr_eta {a : Addr} (h : a.spot = none) (k : Nat) : a.add k = ⟨a.block, a.off + k, none⟩ := by
  obtain ⟨b, o, s⟩ := a; simp only at h; subst h; exact add_zero_addr b o k
theorem run_loadCells' (b o : Nat) (vs : List Value) (h : w.rangeAt b o vs) : (loadCells ⟨b, o, none⟩ vs.length).run P w = .ok vs.toArray w :=
  run_loadCells_list (P := P) w ⟨b, o, none⟩ vs (fun j v hv => by rw [Addr.add_mid]; exact h j v hv)
theorem run_loadVar' {t : TypeId} {ag : Bool} {s : Nat} (ha : agg? P t = some ag) (hs : size? P t = some s) (b o : Nat) (vs : List Value) (hl : vs.length = s) (h : w.rangeAt b o vs) (h1 : ag = false → s = 1) :
    (loadVar t ⟨b, o, none⟩).run P w = .ok (bif ag then .agg vs.toArray else vs.getD 0 undef) w := by
  unfold loadVar
  rw [Sem.run_bind, run_isAgg' ha]
  cases ag with
  | true =>
    subst hl
    simp only [Result.andThen_ok, if_true, Sem.run_bind, run_sizeOf' hs, run_loadCells' b o vs h, Sem.run_pure, cond_true]
  | false =>
    have hs1 := h1 rfl
    match vs, hl with
    | [v], _ =>
      have := h 0 v rfl
      simp only [Nat.add_zero] at this
      simp [this]
    | [], hl => simp at hl; omega
    | _ :: _ :: _, hl => simp at hl; omega
theorem VR.sl {l : List V} {t : Tag} {v : Value} (h : VR w g (.sl l t) v) : CR w g (.sl l t) v := h
theorem VR.ptr {lv s off : Nat} {v : Value} (h : VR w g (.ptr lv s off) v) : ∃ b, g.mu lv s = some b ∧ v = .pointer (some ⟨b, off, none⟩) := by
  have h : CR w g (.ptr lv s off) v := h
  cases h with
  | ptr lv s off b hm => exact ⟨b, hm, rfl⟩
theorem CR.of_elp {l : List V} {i off : Nat} {v : Value} (h : VR w g (.elp l i off) v) : CR w g (.elp l i off) v := h
theorem VR.int {k : IntKind} {m : Int} {v : Value} (h : VR w g (.int k m) v) : v = .int k m := by
  have h : CR w g (.int k m) v := h
  cases h; rfl
theorem VR.bool {b : Bool} {v : Value} (h : VR w g (.bool b) v) : v = .bool b := by
  have h : CR w g (.bool b) v := h
  cases h; rfl
theorem VR.str {s : ByteArray} {v : Value} (h : VR w g (.str s) v) : v = .string s := by
  have h : CR w g (.str s) v := h
  cases h; rfl
theorem elp_at {l : List V} {i off : Nat} {v : Value} (h : CR w g (.elp l i off) v) : ∃ (x : V) (b o : Nat) (vs : List Value), l[i]? = some x ∧ off < x.cells.length ∧ v = .pointer (some ⟨b, o + off, none⟩) ∧ vs.length = x.cells.length ∧ w.rangeAt b o vs ∧ CRs w g x.cells vs ∧ ∀ y ∈ x.cells, y.pure = true := by
  cases h with
  | elp l i off c a x h hx ho =>
    cases h with
    | sl l t A c sz vs hc hn ht hp hz hd ha hr =>
      have hm := List.mem_of_getElem? hx
      have hi : i < l.length := (List.getElem?_eq_some_iff.1 hx).1
      obtain ⟨a', e1, e2, e3, e4⟩ := ha (List.ne_nil_of_mem hm)
      cases e1
      have hsz := hz x hm
      refine ⟨x, a.block, a.off + i * x.cells.length, (List.range x.cells.length).map (vs i), hx, ho, rfl, by simp, ?_, ?_, hd x hm⟩
      · intro j v hj
        obtain ⟨hj1, hj2⟩ := List.getElem?_eq_some_iff.1 hj
        simp only [List.length_map, List.length_range] at hj1
        rw [List.getElem_map, List.getElem_range] at hj2
        rw [hsz]; rw [← hj2]
        exact e4 i j hi (by omega)
      · refine F2.of _ _ (by simp) fun j y v hy hv => ?_
        obtain ⟨hj1, hj2⟩ := List.getElem?_eq_some_iff.1 hv
        rw [List.getElem_map, List.getElem_range] at hj2
        rw [← hj2]
        exact hr i x hx j y hy
theorem part_sound {cs : List V} {vs : List Value} (h : CRs w g cs vs) {ag : Bool} {off sz : Nat} {y : V} (hp : part ag cs off sz = some y) (h1 : ag = false → sz = 1) :
    ∃ us : List Value, us = (vs.drop off).take sz ∧ us.length = sz ∧ VR w g y (bif ag then .agg us.toArray else us.getD 0 undef) := by
  have hl := h.length
  unfold part at hp
  cases ag with
  | true =>
    simp only [cond_true] at hp
    split at hp
    · rename_i hle
      cases hp
      refine ⟨_, rfl, by simp; omega, ?_⟩
      exact ⟨_, rfl, F2.map _ ((h.drop off).take sz) fun a b _ h => h.low1⟩
    · cases hp
  | false =>
    obtain ⟨z, hz, rfl⟩ := Option.map_eq_some_iff.1 hp
    obtain ⟨u, hu, hr⟩ := h.get off z hz
    have hs := h1 rfl
    subst hs
    obtain ⟨ho, hu2⟩ := List.getElem?_eq_some_iff.1 hu
    have hd : (vs.drop off).take 1 = [u] := by rw [List.drop_eq_getElem_cons ho, hu2]; rfl
    refine ⟨_, rfl, by rw [hd]; rfl, ?_⟩
    rw [hd]
    exact hr.low1.vr
theorem V.low1_free (x : V) : x.low1.free = true := by
  cases x <;> try rfl
  rename_i l t; cases t <;> rfl
theorem V.low_free (x : V) : x.low.free = true := by
  cases x <;> try rfl
  rename_i l t; cases t <;> rfl
theorem V.bare_free (x : V) : x.bare.free = true := by
  cases x <;> rfl
theorem part_free {ag : Bool} {cs : List V} {off sz : Nat} {y : V} (hp : part ag cs off sz = some y) : y.free = true := by
  unfold part at hp
  cases ag with
  | true => simp only [cond_true] at hp; split at hp <;> cases hp; rfl
  | false =>
    obtain ⟨z, hz, rfl⟩ := Option.map_eq_some_iff.1 hp
    exact z.low1_free
theorem V.low1_under {x : V} {b : Nat} (h : x.under1 b = true) : x.low1.under1 b = true := by
  cases x <;> exact h
theorem V.bare1_under {x : V} {b : Nat} (h : x.under1 b = true) : x.bare1.under1 b = true := by
  cases x <;> exact h
theorem V.low_under {x : V} {b : Nat} (h : x.under b = true) : x.low.under b = true := by
  cases x <;> try exact h
  simp only [V.low, V.under, V.under0, List.all_eq_true, List.mem_map, forall_exists_index, and_imp] at h ⊢
  rintro _ y hy rfl
  exact V.low1_under (h y hy)
theorem V.bare_under {x : V} {b : Nat} (h : x.under b = true) : x.bare.under b = true := by
  cases x <;> try exact h
  simp only [V.bare, V.under, V.under0, List.all_eq_true, List.mem_map, forall_exists_index, and_imp] at h ⊢
  rintro _ y hy rfl
  exact V.bare1_under (h y hy)
theorem V.under1_under {x : V} {b : Nat} (h : x.under1 b = true) (h1 : ∀ l, x ≠ .agg l) (h2 : ∀ l, x ≠ .tup l) : x.under b = true := by
  cases x <;> first | exact h | exact absurd rfl (h1 _) | exact absurd rfl (h2 _)
theorem part_under {ag : Bool} {cs : List V} {vs : List Value} (hc : CRs w g cs vs) {off sz b : Nat} {y : V} (hp : part ag cs off sz = some y) (h : cs.all (V.under1 b) = true) : y.under b = true := by
  unfold part at hp
  rw [List.all_eq_true] at h
  cases ag with
  | true =>
    simp only [cond_true] at hp; split at hp <;> cases hp
    simp only [V.under, V.under0, List.all_eq_true, List.mem_map, forall_exists_index, and_imp]
    rintro _ y hy rfl
    exact V.low1_under (h y (List.mem_of_mem_drop (List.mem_of_mem_take hy)))
  | false =>
    obtain ⟨z, hz, rfl⟩ := Option.map_eq_some_iff.1 hp
    obtain ⟨v, hv, hr⟩ := hc.get _ z hz
    have hu := V.low1_under (h z (List.mem_of_getElem? hz))
    refine V.under1_under hu (fun l e => ?_) (fun l e => ?_)
    · cases z <;> cases e; exact hr.not_agg
    · cases z <;> cases e; exact hr.not_tup
theorem rangeAt_block {b : Nat} {cs : Array Value} {e : TypeId} {fr : Nat × Nat} (h : w.heap[b]? = some (.cells cs e fr)) (off sz : Nat) : w.rangeAt b off ((cs.toList.drop off).take sz) := by
  intro j v hj
  rw [List.getElem?_take] at hj
  split at hj
  · rw [List.getElem?_drop] at hj
    unfold World.cell?
    simp only [h]
    simpa using hj
  · cases hj
theorem load_sound (hg : GOK w g) (hH : HR w g Hs) (hn : Hs.length = n + 1) (hT : ∀ i, OK w g n Hs (T.get i) (a.tmps.getD i undef)) {o : Go.Oper} {t : TypeId} {x : Operand} (ho : o.op = .load t x) {ag : Bool} {sz : Nat} {X : Am.X} (h1 : agg? P t = some ag) (h2 : size? P t = some sz) (h3 : opd x = some X) (h4 : ag = false → sz = 1) {y : V}
    (hv : vop (objAt Hs) T (.load ag sz X) = some y) : Val P w g n Hs a o y := by
  have hx := opd_sound hT h3
  simp only [vop] at hv
  split at hv
  · rename_i lv s off he
    rw [he] at hx
    obtain ⟨b, hmu, hxv⟩ := hx.vr.ptr
    split at hv
    · rename_i cs hob
      obtain ⟨hun, b', hmu', hfix, cs', e, hb, hcr⟩ := hH.ob lv s _ hob
      obtain rfl : b' = b := by rw [hmu] at hmu'; exact (Option.some.inj hmu').symm
      have hlv := objAt_lt hob
      have hrun : ∀ us : List Value, us = (cs'.toList.drop off).take sz → us.length = sz → (execOp a.eval o).run P w = .ok (.value (bif ag then .agg us.toArray else us.getD 0 undef)) w := by
        intro us hus hl
        simp only [execOp, ho, hxv, Instr.loadAt, Instr.sureAddr, Sem.run_bind, Sem.run_pure, Result.andThen_ok, run_loadVar' h1 h2 b' off us hl (by rw [hus]; exact rangeAt_block hb off sz) h4]
      cases ag with
      | true =>
        simp only [cond_true] at hv
        obtain ⟨us, hus, hl, hvr⟩ := part_sound hcr hv h4
        exact Val.now hg (hrun us hus hl) ⟨hvr, V.under_mono (by omega) (part_under hcr hv hun), Lv.free (part_free hv)⟩
      | false =>
        simp only [cond_false] at hv
        obtain ⟨z, hz, rfl⟩ := Option.map_eq_some_iff.1 hv
        obtain ⟨u, hu, hr⟩ := hcr.get off z hz
        have hs := h4 rfl
        subst hs
        obtain ⟨ho2, hu2⟩ := List.getElem?_eq_some_iff.1 hu
        have hd : (cs'.toList.drop off).take 1 = [u] := by rw [List.drop_eq_getElem_cons ho2, hu2]; rfl
        have hzu : z.under1 (lv + 1) = true := List.all_eq_true.1 hun z (List.mem_of_getElem? hz)
        have hna : ∀ l, z ≠ .agg l := fun l e => by subst e; exact hr.not_agg
        have hnt : ∀ l, z ≠ .tup l := fun l e => by subst e; exact hr.not_tup
        refine Val.now hg (hrun [u] hd.symm rfl) ⟨?_, ?_, ?_⟩
        · simp only [cond_false, List.getD_cons_zero]
          cases z <;> first | exact hr.vr | skip
          rename_i l t
          refine CR.vr (CR.retag hr fun A c _ ht => ?_)
          cases t <;> first | exact ht | trivial
        · refine V.under_mono (b := lv + 1) (by omega) ?_
          cases z <;> first | exact hzu | exact absurd rfl (hna _) | exact absurd rfl (hnt _)
        · simp only [cond_false, List.getD_cons_zero]
          refine ⟨fun l s' e => ?_, fun l lv' s' c' e => ?_⟩
          · cases z with
            | sl l2 t => cases t <;> simp [lent, Tag.low] at e
            | _ => cases e
          · cases z with
            | sl l2 t =>
              cases t <;> simp [lent, Tag.low] at e
              obtain ⟨rfl, rfl, rfl, rfl⟩ := e
              refine ⟨cs, b', cs', _, hob, hz, hmu, hb, ?_⟩
              simpa using hu
            | _ => cases e
    · cases hv
  · rename_i l i off he
    rw [he] at hx
    split at hv
    · rename_i x' hx'
      obtain ⟨y', hy', rfl⟩ := Option.map_eq_some_iff.1 hv
      obtain ⟨x2, b, o2, vs, e1, e2, e3, e4, e5, e6, e7⟩ := elp_at (CR.of_elp hx.vr)
      rw [hx'] at e1
      cases e1
      obtain ⟨us, hus, hl, hvr⟩ := part_sound e6 hy' h4
      refine Val.now (val := bif ag then .agg us.toArray else us.getD 0 undef) hg ?_ ⟨hvr.bare, V.bare_under (part_under e6 hy' (List.all_eq_true.2 fun y hy => V.pure_under (e7 y hy) _)), Lv.free (V.bare_free _)⟩
      simp only [execOp, ho, e3, Instr.loadAt, Instr.sureAddr, Sem.run_bind, Sem.run_pure, Result.andThen_ok]
      rw [run_loadVar' h1 h2 b (o2 + off) us hl ?_ h4]
      · rfl
      · intro j v hj
        rw [hus, List.getElem?_take] at hj
        split at hj
        · rw [List.getElem?_drop] at hj
          rw [Nat.add_assoc]
          exact e5 _ _ hj
        · cases hj
    · cases hv
  · cases hv
end
end Go.Proofs.YtlacnkjkcikodaaDoor.Am
end
section
set_option linter.unusedVariables false
set_option linter.unusedSimpArgs false
namespace Go.Proofs.YtlacnkjkcikodaaDoor.Am
open Go
section
variable {P : Program} {w : World} {g : Gh} {n : Nat} {Hs : List Tab} {T : Tm} {a : Act} {o : Go.Oper}
theorem mv_sound (hg : GOK w g) (hT : ∀ i, OK w g n Hs (T.get i) (a.tmps.getD i undef)) {x : Operand} (ho : o.op = .move x ∨ o.op = .assign x) {X : Am.X} (h3 : opd x = some X) {y : V} (hv : vop (objAt Hs) T (.mv X) = some y) : Val P w g n Hs a o y := by
  simp only [vop] at hv
  cases hv
  exact Val.now hg (by rcases ho with ho | ho <;> simp only [execOp, ho, Sem.run_pure]) (opd_sound hT h3)
theorem pick_sound (hg : GOK w g) (hT : ∀ i, OK w g n Hs (T.get i) (a.tmps.getD i undef)) {c x z : Operand} (ho : o.op = .pick c x z) {C X Z : Am.X} (h1 : opd c = some C) (h2 : opd x = some X) (h3 : opd z = some Z) {y : V} (hv : vop (objAt Hs) T (.pick C X Z) = some y) : Val P w g n Hs a o y := by
  have hc := opd_sound hT h1
  have hx := opd_sound hT h2
  have hz := opd_sound hT h3
  simp only [vop] at hv
  split at hv
  · rename_i t ht
    cases hv
    rw [ht] at hc
    have := hc.vr.bool
    refine Val.now (val := if t = true then a.eval x else a.eval z) hg (by simp only [execOp, ho, this, asBool, Sem.run_bind, Sem.run_pure, Result.andThen_ok]) ?_
    cases t <;> simp <;> assumption
  · cases hv
theorem same_sound (hg : GOK w g) (hT : ∀ i, OK w g n Hs (T.get i) (a.tmps.getD i undef)) {s d : TypeId} {x : Operand} (ho : o.op = .convert s d x) (hs : P.underlying s = some .string) (hd : P.underlying d = some .string) {X : Am.X} (h3 : opd x = some X) {y : V} (hv : vop (objAt Hs) T (.same X) = some y) : Val P w g n Hs a o y := by
  have hx := opd_sound hT h3
  simp only [vop] at hv
  split at hv <;> cases hv
  rename_i t ht
  rw [ht] at hx
  have := hx.vr.str
  exact Val.now hg (by simp only [execOp, ho, this, convert, run_underlying hs, run_underlying hd, Sem.run_bind, Sem.run_pure, Result.andThen_ok]) (this ▸ hx)
theorem conv_sound (hg : GOK w g) (hT : ∀ i, OK w g n Hs (T.get i) (a.tmps.getD i undef)) {s d : TypeId} {x : Operand} (ho : o.op = .convert s d x) {k k' : IntKind} (hs : P.underlying s = some (.int k')) (hd : P.underlying d = some (.int k)) {X : Am.X} (h3 : opd x = some X) {y : V} (hv : vop (objAt Hs) T (.conv k X) = some y) : Val P w g n Hs a o y := by
  have hx := opd_sound hT h3
  simp only [vop] at hv
  split at hv
  · rename_i k2 m hm
    cases hv
    rw [hm] at hx
    have := hx.vr.int
    exact Val.now hg (by simp only [execOp, ho, this, convert, run_underlying hs, run_underlying hd, Sem.run_bind, Sem.run_pure, Result.andThen_ok, Conv.intToInt]) ⟨CR.int _ _, rfl, Lv.free rfl⟩
  · cases hv
theorem fld_sound (hg : GOK w g) (hT : ∀ i, OK w g n Hs (T.get i) (a.tmps.getD i undef)) {t : TypeId} {f : Nat} {x : Operand} (ho : o.op = .fieldAddr t x f) {off s : Nat} {ag : Bool} (hf : fieldOf P t f = some (off, s, ag)) {X : Am.X} (h3 : opd x = some X) {y : V} (hv : vop (objAt Hs) T (.fld off X) = some y) : Val P w g n Hs a o y := by
  have hx := opd_sound hT h3
  obtain ⟨fs, fd, hu, hfd, hoff, hs, hne⟩ : ∃ fs fd, P.underlying t = some (.struct fs) ∧ fs[f]? = some fd ∧ fd.offset = off ∧ size? P fd.type = some s ∧ s ≠ 0 := by
    unfold fieldOf at hf
    split at hf
    · rename_i fs hu
      split at hf
      · rename_i fd hfd
        split at hf
        · rename_i s' ag' hs ha
          split at hf
          · cases hf
          · rename_i hne
            simp only [Option.some.injEq, Prod.mk.injEq] at hf
            obtain ⟨rfl, rfl, rfl⟩ := hf
            simp only [Bool.or_eq_true, decide_eq_true_eq, not_or] at hne
            exact ⟨fs, fd, hu, hfd, rfl, hs, hne.1⟩
        · cases hf
      · cases hf
    · cases hf
  have hrun : ∀ b k, a.eval x = .pointer (some ⟨b, k, none⟩) → (execOp a.eval o).run P w = .ok (.value (.pointer (some ⟨b, k + off, none⟩))) w := by
    intro b k he
    simp only [execOp, ho, he, Instr.fieldAt, run_underlying hu, Sem.run_bind, Sem.run_pure, Result.andThen_ok, hfd, Instr.sureAddr, fieldPlace, run_sizeOf' hs, if_neg hne, add_zero_addr, hoff]
  simp only [vop] at hv
  split at hv
  · rename_i lv s' k he
    cases hv
    rw [he] at hx
    obtain ⟨b, hmu, hxv⟩ := hx.vr.ptr
    exact Val.now hg (hrun b k hxv) ⟨CR.ptr _ _ _ _ hmu, hx.un, Lv.free rfl⟩
  · rename_i l i k he
    rw [he] at hx
    have hc := CR.of_elp hx.vr
    split at hv
    case h_2 => cases hv
    rename_i x2 hx2
    split at hv
    case isFalse => cases hv
    rename_i hcell
    cases hv
    generalize hxv : a.eval x = v at *
    cases hc with
    | elp _ _ _ c a' x' hr hx' hk =>
      have := hrun _ _ rfl
      rw [Nat.add_assoc] at this
      exact Val.now hg this ⟨CR.elp l i (k + off) c a' x' hr hx' (by rw [hx2] at hx'; cases hx'; exact hcell), rfl, Lv.free rfl⟩
  · cases hv
theorem nilc_sound (hg : GOK w g) (hT : ∀ i, OK w g n Hs (T.get i) (a.tmps.getD i undef)) {x : Operand} (ho : o.op = .nilCheck x) {X : Am.X} (h3 : opd x = some X) {y : V} (hv : vop (objAt Hs) T (.nilc X) = some y) : Val P w g n Hs a o y := by
  have hx := opd_sound hT h3
  simp only [vop] at hv
  split at hv <;> cases hv
  · rename_i lv s k he
    rw [he] at hx
    obtain ⟨b, hmu, hxv⟩ := hx.vr.ptr
    exact Val.now (val := a.eval x) hg (by simp only [execOp, ho, hxv, Sem.run_pure]) hx
  · rename_i l i k he
    rw [he] at hx
    have hc := CR.of_elp hx.vr
    refine Val.now (val := a.eval x) hg ?_ hx
    generalize hxv : a.eval x = v at *
    cases hc
    simp only [execOp, ho, hxv, Sem.run_pure]
  · rename_i f c he
    rw [he] at hx
    have hc : CR w g (.fn f c) (a.eval x) := hx.vr
    refine Val.now (val := a.eval x) hg ?_ hx
    generalize hxv : a.eval x = v at *
    cases hc
    simp only [execOp, ho, hxv, Sem.run_pure]
theorem ext_sound (hg : GOK w g) (hT : ∀ i, OK w g n Hs (T.get i) (a.tmps.getD i undef)) {i : Nat} {x : Operand} (ho : o.op = .extract x i) {X : Am.X} (h3 : opd x = some X) {y : V} (hv : vop (objAt Hs) T (.ext X i) = some y) : Val P w g n Hs a o y := by
  have hx := opd_sound hT h3
  simp only [vop] at hv
  split at hv
  · rename_i l he
    rw [he] at hx
    obtain ⟨vs, e, hf⟩ := hx.vr
    obtain ⟨z, hz, rfl⟩ := Option.map_eq_some_iff.1 hv
    obtain ⟨v, hv1, hr⟩ := hf.get i z hz
    have hzu : z.under0 (n + 1) = true := List.all_eq_true.1 hx.un z (List.mem_of_getElem? hz)
    have hnt : ∀ l, z ≠ .tup l := fun l e => by subst e; exact CR.not_tup hr
    refine Val.now (val := v) hg ?_ ⟨(hr.vr hnt).low, V.low_under ?_, Lv.free (V.low_free _)⟩
    · have : (vs.toArray)[i]? = some v := by simpa using hv1
      simp only [execOp, ho, e, Instr.extract, this, Sem.run_bind, Sem.run_pure, Result.andThen_ok]
    · cases z <;> first | exact hzu | exact absurd rfl (hnt _)
  · cases hv
theorem un_sound (hg : GOK w g) (hT : ∀ i, OK w g n Hs (T.get i) (a.tmps.getD i undef)) {p : UnOp} {t : TypeId} {x : Operand} (ho : o.op = .unOp p t x) {X : Am.X} (h3 : opd x = some X) {y : V} (hv : vop (objAt Hs) T (.un p X) = some y) : Val P w g n Hs a o y := by
  have hx := opd_sound hT h3
  simp only [vop, V.un] at hv
  split at hv
  · rename_i b he
    rw [he] at hx
    have := hx.vr.bool
    split at hv <;> cases hv
    exact Val.now hg (by simp only [execOp, ho, this, Op.unary, Sem.run_bind, Sem.run_pure, Result.andThen_ok]) ⟨CR.bool _, rfl, Lv.free rfl⟩
  · rename_i k m he
    rw [he] at hx
    have := hx.vr.int
    split at hv <;> cases hv
    exact Val.now hg (by simp only [execOp, ho, this, Op.unary, Op.intArith, Sem.run_bind, Sem.run_pure, Result.andThen_ok]) ⟨CR.int _ _, rfl, Lv.free rfl⟩
  · cases hv
theorem fldv_sound (hg : GOK w g) (hT : ∀ i, OK w g n Hs (T.get i) (a.tmps.getD i undef)) {t : TypeId} {f : Nat} {x : Operand} (ho : o.op = .field t x f) {fs : Array Field} {fd : Field} (hu : P.underlying t = some (.struct fs)) (hfd : fs[f]? = some fd) {s : Nat} {ag : Bool} (hs : size? P fd.type = some s) (ha : agg? P fd.type = some ag) (h1 : ag = false → s = 1) {X : Am.X} (h3 : opd x = some X) {y : V} (hv : vop (objAt Hs) T (.fldv ag fd.offset s X) = some y) : Val P w g n Hs a o y := by
  have hx := opd_sound hT h3
  simp only [vop] at hv
  split at hv
  · rename_i l he
    rw [he] at hx
    obtain ⟨vs, e, hc⟩ := hx.vr
    obtain ⟨us, hus, hl, hvr⟩ := part_sound hc hv h1
    refine Val.now (val := bif ag then .agg us.toArray else us.getD 0 undef) hg ?_ ⟨hvr, part_under hc hv hx.un, Lv.free (part_free hv)⟩
    simp only [execOp, ho, e, Instr.field, run_underlying hu, hfd, asAgg, Go.part, run_isAgg' ha, Sem.run_bind, Sem.run_pure, Result.andThen_ok]
    cases ag with
    | true =>
      simp only [if_true, run_sizeOf' hs, Sem.run_bind, Sem.run_pure, Result.andThen_ok, cond_true]
      have : (vs.toArray.extract fd.offset (fd.offset + s)) = us.toArray := by
        rw [hus]
        apply Array.ext'
        simp [List.take_drop, Nat.add_comm]
      rw [this]
    | false =>
      have h2 := h1 rfl
      subst h2
      simp only [Bool.false_eq_true, if_false, cond_false]
      match us, hl with
      | [u], _ =>
        have h4 : vs[fd.offset]? = some u := by
          have := congrArg (fun l => l[0]?) hus
          simp [List.getElem?_take, List.getElem?_drop] at this
          exact this.symm
        have h5 : (vs.toArray)[fd.offset]? = some u := by simpa using h4
        simp only [h5, Sem.run_pure, Result.andThen_ok, List.getD_cons_zero]
  · cases hv
end
end Go.Proofs.YtlacnkjkcikodaaDoor.Am
end
section
set_option linter.unusedVariables false
set_option linter.unusedSimpArgs false
namespace Go.Proofs.YtlacnkjkcikodaaDoor.Am
open Go
section
variable {P : Program} {w : World} {g : Gh} {n : Nat} {Hs : List Tab} {T : Tm} {a : Act} {o : Go.Oper}
theorem ok_int {k : IntKind} {m : Int} : OK w g n Hs (.int k m) (.int k m) := ⟨CR.int _ _, rfl, Lv.free rfl⟩
theorem ok_bool {b : Bool} : OK w g n Hs (.bool b) (.bool b) := ⟨CR.bool _, rfl, Lv.free rfl⟩
theorem ok_str {s : ByteArray} : OK w g n Hs (.str s) (.string s) := ⟨CR.str _, rfl, Lv.free rfl⟩
theorem run_eqGuard {p : BinOp} {t : TypeId} {x y : Operand} {u v : Value} (h : ∀ cs, u ≠ .agg cs) (h2 : u ≠ .nilIface) : (eqGuard p t x y u v).run P w = .ok () w := by
  unfold eqGuard
  cases p <;> simp
  all_goals cases u <;> simp_all
theorem bin_sound (hg : GOK w g) (hT : ∀ i, OK w g n Hs (T.get i) (a.tmps.getD i undef)) {p : BinOp} {t t' : TypeId} {x z : Operand} (ho : o.op = .binOp p t x z t') {X Z : Am.X} (h3 : opd x = some X) (h4 : opd z = some Z) {y : V} (hv : vop (objAt Hs) T (.bin p X Z) = some y) : Val P w g n Hs a o y := by
  have hx := opd_sound hT h3
  have hz := opd_sound hT h4
  simp only [vop, V.bin] at hv
  split at hv
  · rename_i k m k' m' e1 e2
    rw [e1] at hx
    rw [e2] at hz
    have f1 := hx.vr.int
    have f2 := hz.vr.int
    split at hv
    case isFalse => cases hv
    rename_i hk
    subst hk
    have hq := run_eqGuard (P := P) (w := w) (p := p) (t := t) (x := x) (y := z) (u := .int k m) (v := .int k m') (by simp) (by simp)
    unfold intBin at hv
    split at hv <;> (try split at hv) <;> cases hv
    all_goals first
      | (refine Val.now hg ?_ ok_int; simp only [execOp, ho, f1, f2, hq, binOp, Op.intArith, Op.intCmp, Sem.run_bind, Sem.run_pure, Result.andThen_ok, ne_eq, not_true_eq_false, if_false, if_true]; done)
      | (refine Val.now hg ?_ ok_bool; simp only [execOp, ho, f1, f2, hq, binOp, Op.intArith, Op.intCmp, Sem.run_bind, Sem.run_pure, Result.andThen_ok, ne_eq, not_true_eq_false, if_false, if_true]; done)
      | (rename_i h0; refine Val.now hg ?_ ok_int; simp only [execOp, ho, f1, f2, hq, binOp, Sem.run_bind, Sem.run_pure, Result.andThen_ok, ne_eq, not_true_eq_false, if_false]; unfold Op.intDiv; rw [if_neg h0]; rfl)
  · rename_i s s' e1 e2
    rw [e1] at hx
    rw [e2] at hz
    have f1 := hx.vr.str
    have f2 := hz.vr.str
    have hq := run_eqGuard (P := P) (w := w) (p := p) (t := t) (x := x) (y := z) (u := .string s) (v := .string s') (by simp) (by simp)
    unfold strBin at hv
    split at hv
    · split at hv
      · cases hv
      · rename_i h0
        cases hv
        exact Val.now hg (by simp only [execOp, ho, f1, f2, hq, binOp, Op.stringOp, if_neg h0, Sem.run_bind, Sem.run_pure, Result.andThen_ok]) ok_str
    · cases hv
      exact Val.now hg (by simp only [execOp, ho, f1, f2, hq, binOp, Op.stringOp, Sem.run_bind, Sem.run_pure, Result.andThen_ok]) ok_bool
    · cases hv
      exact Val.now hg (by simp only [execOp, ho, f1, f2, hq, binOp, Op.stringOp, Sem.run_bind, Sem.run_pure, Result.andThen_ok]) ok_bool
    · cases hv
  · cases hv
theorem ba_beq (s t : ByteArray) : (s == t) = (s.toList == t.toList) := by
  show (s.data == t.data) = _
  rw [ByteArray.toList_eq, ByteArray.toList_eq, Bool.eq_iff_iff, beq_iff_eq, beq_iff_eq, Array.toList_inj]
theorem len_sound (hg : GOK w g) (hH : HR w g Hs) (hT : ∀ i, OK w g n Hs (T.get i) (a.tmps.getD i undef)) {x : Operand} {t : TypeId} (ho : o.op = .call { callee := .builtin .len, args := #[x], argTypes := #[t] }) {k : EK} (ht : match k with | .s => P.underlying t = some .string | .sl => ∃ e, P.underlying t = some (.slice e) | .m => ∃ k e, P.underlying t = some (.map k e) | _ => True) {X : Am.X} (h3 : opd x = some X) {y : V} (hv : vop (objAt Hs) T (.len k X) = some y) : Val P w g n Hs a o y := by
  have hx := opd_sound hT h3
  have hrun : ∀ (d : TypeDesc) (m : Int), P.underlying t = some d → (Builtin.len_ #[t] o.type #[a.eval x]).run P w = .ok (goInt m) w → (execOp a.eval o).run P w = .ok (.value (.int .i64 m)) w := by
    intro d m hd hr
    simp only [execOp, ho, resolve, invoke, builtin, Sem.run_bind, Sem.run_pure, Result.andThen_ok, List.map_toArray, List.map_cons, List.map_nil, hr]
    rfl
  simp only [vop] at hv
  split at hv
  · rename_i l tg he
    cases hv
    rw [he] at hx
    obtain ⟨e, hd⟩ := ht
    have hc : CR w g (.sl l tg) (a.eval x) := hx.vr
    refine Val.now hg (hrun _ l.length hd ?_) ok_int
    generalize a.eval x = v at hc
    cases hc
    simp [Builtin.len_, run_underlying hd]
  · rename_i s he
    cases hv
    rw [he] at hx
    have hd : P.underlying t = some .string := ht
    refine Val.now hg (hrun _ s.size hd ?_) ok_int
    rw [hx.vr.str]
    simp [Builtin.len_, run_underlying hd]
  · rename_i lv s off m he
    cases hv
    rw [he] at hx
    obtain ⟨e, hd⟩ := ht
    have hc : CR w g (.row lv s off m) (a.eval x) := hx.vr
    refine Val.now hg (hrun _ m hd ?_) ok_int
    generalize a.eval x = v at hc
    cases hc
    simp [Builtin.len_, run_underlying hd]
  · rename_i lv s he
    rw [he] at hx
    split at hv
    · rename_i es ck hob
      cases hv
      obtain ⟨k, e, hd⟩ := ht
      have hc : CR w g (.map lv s) (a.eval x) := hx.vr
      refine Val.now hg (hrun _ es.length hd ?_) ok_int
      generalize a.eval x = v at hc
      cases hc with
      | map lv s b hm =>
        obtain ⟨hun, b', hmu', hfix, es', hb, hF⟩ := hH.ob lv s _ hob
        rw [hm] at hmu'; cases hmu'
        have := hF.length
        simp [Builtin.len_, run_underlying hd, getObj, Sem.run, hb, this]
    · cases hv
  · cases hv
theorem low64_sound (hT : ∀ i, OK w g n Hs (T.get i) (a.tmps.getD i undef)) : ∀ {xs : List Operand} {Xs : List Am.X} {l : List Int}, opds xs = some Xs → low64 Xs T = some l → xs.map a.eval = l.map (Value.int .i64)
  | [], Xs, l, h, hl => by cases h; cases hl; rfl
  | x :: xs, Xs, l, h, hl => by
    simp only [opds] at h
    split at h
    · rename_i X Ys h1 h2
      cases h
      simp only [low64] at hl
      split at hl
      · rename_i m l' e1 e2
        cases hl
        have hx := opd_sound hT h1
        rw [e1] at hx
        rw [List.map_cons, List.map_cons, hx.vr.int, low64_sound hT h2 e2]
      · cases hl
    · cases h
theorem foldM_min : ∀ (r : List Int) (m : Int), ((r.map (Value.int .i64)).foldlM Builtin.min2 (Value.int .i64 m)).run P w = .ok (.int .i64 (r.foldl (fun a b => if b < a then b else a) m)) w
  | [], m => rfl
  | x :: r, m => by
    rw [List.map_cons, List.foldlM_cons, Sem.run_bind]
    simp only [Builtin.min2, Sem.run_pure, Result.andThen_ok, List.foldl_cons]
    exact foldM_min r _
theorem foldM_max : ∀ (r : List Int) (m : Int), ((r.map (Value.int .i64)).foldlM Builtin.max2 (Value.int .i64 m)).run P w = .ok (.int .i64 (r.foldl (fun a b => if b > a then b else a) m)) w
  | [], m => rfl
  | x :: r, m => by
    rw [List.map_cons, List.foldlM_cons, Sem.run_bind]
    simp only [Builtin.max2, Sem.run_pure, Result.andThen_ok, List.foldl_cons]
    exact foldM_max r _
theorem min_sound (hg : GOK w g) (hT : ∀ i, OK w g n Hs (T.get i) (a.tmps.getD i undef)) {args : Array Operand} {ts : Array TypeId} (ho : o.op = .call { callee := .builtin .min, args := args, argTypes := ts }) {Xs : List Am.X} (h3 : opds args.toList = some Xs) {y : V} (hv : vop (objAt Hs) T (.min Xs) = some y) : Val P w g n Hs a o y := by
  simp only [vop] at hv
  split at hv
  · rename_i m r hl
    cases hv
    have := low64_sound hT h3 hl
    refine Val.now hg ?_ ok_int
    simp only [execOp, ho, resolve, invoke, builtin, Sem.run_bind, Sem.run_pure, Result.andThen_ok, Builtin.min_, Array.toList_map, this, List.map_cons]
    rw [foldM_min]; rfl
  · cases hv
theorem max_sound (hg : GOK w g) (hT : ∀ i, OK w g n Hs (T.get i) (a.tmps.getD i undef)) {args : Array Operand} {ts : Array TypeId} (ho : o.op = .call { callee := .builtin .max, args := args, argTypes := ts }) {Xs : List Am.X} (h3 : opds args.toList = some Xs) {y : V} (hv : vop (objAt Hs) T (.max Xs) = some y) : Val P w g n Hs a o y := by
  simp only [vop] at hv
  split at hv
  · rename_i m r hl
    cases hv
    have := low64_sound hT h3 hl
    refine Val.now hg ?_ ok_int
    simp only [execOp, ho, resolve, invoke, builtin, Sem.run_bind, Sem.run_pure, Result.andThen_ok, Builtin.max_, Array.toList_map, this, List.map_cons]
    rw [foldM_max]; rfl
  · cases hv
theorem ixs_sound (hg : GOK w g) (hT : ∀ i, OK w g n Hs (T.get i) (a.tmps.getD i undef)) {t : TypeId} {x z : Operand} (ho : o.op = .index t x z) (ht : P.underlying t = some .string) {X Z : Am.X} (h3 : opd x = some X) (h4 : opd z = some Z) {y : V} (hv : vop (objAt Hs) T (.ixs X Z) = some y) : Val P w g n Hs a o y := by
  have hx := opd_sound hT h3
  have hz := opd_sound hT h4
  simp only [vop] at hv
  split at hv
  · rename_i s k m e1 e2
    rw [e1] at hx
    rw [e2] at hz
    split at hv
    · rename_i h0
      obtain ⟨b, hb, rfl⟩ := Option.map_eq_some_iff.1 hv
      refine Val.now hg ?_ ok_int
      have hb2 : s[m.toNat]? = some b := by
        obtain ⟨hl, he⟩ := List.getElem?_eq_some_iff.1 hb
        have hl2 : m.toNat < s.size := hl
        rw [getElem?_pos s m.toNat hl2, ← he]; rfl
      simp only [execOp, ho, hx.vr.str, hz.vr.int, Instr.index, asIntOf, run_underlying ht, Sem.run_bind, Sem.run_pure, Result.andThen_ok, if_pos h0, hb2]
    · cases hv
  · cases hv
theorem ixa_sound (hg : GOK w g) (hT : ∀ i, OK w g n Hs (T.get i) (a.tmps.getD i undef)) {t e : TypeId} {x z : Operand} (ho : o.op = .indexAddr t x z) (ht : P.underlying t = some (.slice e)) {sz : Nat} (hs : size? P e = some sz) {X Z : Am.X} (h3 : opd x = some X) (h4 : opd z = some Z) {y : V} (hv : vop (objAt Hs) T (.ixa sz X Z) = some y) : Val P w g n Hs a o y := by
  have hx := opd_sound hT h3
  have hz := opd_sound hT h4
  simp only [vop] at hv
  split at hv
  · rename_i l tg k m e1 e2
    rw [e1] at hx
    rw [e2] at hz
    split at hv
    case isFalse => cases hv
    rename_i h0
    split at hv
    case h_2 => cases hv
    rename_i x' hx'
    split at hv
    case isFalse => cases hv
    rename_i hsz
    cases hv
    have hc : CR w g (.sl l tg) (a.eval x) := hx.vr
    have hz2 := hz.vr.int
    have hi : m.toNat < l.length := (List.getElem?_eq_some_iff.1 hx').1
    have hne : l ≠ [] := List.ne_nil_of_mem (List.mem_of_getElem? hx')
    generalize hxe : a.eval x = v at hc
    have hc2 := hc.notag
    cases hc with
    | sl _ _ A c sz' vs hc hn hta hp hzz hd ha hr =>
      obtain ⟨ad, rfl, hsp, hfx, hcell⟩ := ha hne
      have hs' := hzz _ (List.mem_of_getElem? hx')
      refine Val.now (val := .pointer (some ⟨ad.block, ad.off + m.toNat * sz, none⟩)) hg ?_ ⟨?_, rfl, Lv.free rfl⟩
      · simp only [execOp, ho, hxe, hz2, Instr.indexAt, asIntOf, run_underlying ht, run_sizeOf' hs, Sem.run_bind, Sem.run_pure, Result.andThen_ok]
        rw [if_pos ⟨h0, by omega⟩]
        simp only [run_sizeOf' hs, Sem.run_bind, Sem.run_pure, Result.andThen_ok, addr_eta hsp]
      · have := CR.elp (w := w) (g := g) l m.toNat 0 c ad x' hc2 hx' (by omega)
        rw [hsz, Nat.add_zero] at this
        exact this
  · rename_i lv s off len k m e1 e2
    rw [e1] at hx
    rw [e2] at hz
    split at hv
    case isFalse => cases hv
    rename_i hb
    cases hv
    have hc : CR w g (.row lv s off len) (a.eval x) := hx.vr
    have hz2 := hz.vr.int
    have hun := hx.un
    generalize hxe : a.eval x = v at hc
    cases hc with
    | row _ _ _ _ c b hm hc =>
      refine Val.now (val := .pointer (some ⟨b, off + m.toNat, none⟩)) hg ?_ ⟨CR.ptr _ _ _ _ hm, hun, Lv.free rfl⟩
      simp only [execOp, ho, hxe, hz2, Instr.indexAt, asIntOf, run_underlying ht, run_sizeOf' hs, Sem.run_bind, Sem.run_pure, Result.andThen_ok]
      rw [if_pos ⟨hb.1, by omega⟩]
      obtain rfl := hb.2.2
      simp only [run_sizeOf' hs, Sem.run_bind, Sem.run_pure, Result.andThen_ok, add_zero_addr, Nat.mul_one]
  · cases hv
end
end Go.Proofs.YtlacnkjkcikodaaDoor.Am
end
section
set_option linter.unusedVariables false
set_option linter.unusedSimpArgs false
namespace Go.Proofs.YtlacnkjkcikodaaDoor.Am
open Go
section
variable {P : Program} {w : World} {g : Gh} {n : Nat} {Hs : List Tab} {T : Tm} {a : Act} {o : Go.Oper}
theorem sliceBound' {v : Value} {k : IntKind} {i : Int} {y : Nat} {code : BoundsCode} (hv : v = .int k i) (h0 : 0 ≤ i) (h1 : i ≤ y) : (Instr.sliceBound v y code).run P w = .ok i.toNat w := by
  subst hv
  simp [Instr.sliceBound, asIntOf, h0, h1]
theorem bnd_sound (hT : ∀ i, OK w g n Hs (T.get i) (a.tmps.getD i undef)) {x : Option Operand} {X : Option Am.X} (h : opdO x = some X) {d m : Nat} (hb : bnd d T X = some m) : (x = none ∧ m = d) ∨ ∃ y k i, x = some y ∧ a.eval y = .int k i ∧ 0 ≤ i ∧ i.toNat = m := by
  cases x with
  | none => cases h; cases hb; exact .inl ⟨rfl, rfl⟩
  | some y =>
    obtain ⟨Y, hy, rfl⟩ := Option.map_eq_some_iff.1 h
    have := opd_sound hT hy
    simp only [bnd] at hb
    split at hb
    · rename_i k i e
      split at hb
      · rename_i h0
        cases hb
        rw [e] at this
        exact .inr ⟨y, k, i, rfl, this.vr.int, h0, rfl⟩
      · cases hb
    · cases hb
theorem bounds2 (hT : ∀ i, OK w g n Hs (T.get i) (a.tmps.getD i undef)) {lo hi : Option Operand} {Lo Hi : Option Am.X} (h1 : opdO lo = some Lo) (h2 : opdO hi = some Hi) {isS : Bool} {len cap l h : Nat} (hl : bnd 0 T Lo = some l) (hh : bnd len T Hi = some h) (hlh : l ≤ h) (hhl : h ≤ len) (hcap : len ≤ cap) :
    (Instr.sliceBounds isS len cap (lo.map a.eval) (hi.map a.eval) none).run P w = .ok (l, h, cap) w := by
  have e1 := bnd_sound hT h1 hl
  have e2 := bnd_sound hT h2 hh
  unfold Instr.sliceBounds
  rcases e2 with ⟨rfl, rfl⟩ | ⟨y, k, i, rfl, ey, i0, rfl⟩
  · rcases e1 with ⟨rfl, rfl⟩ | ⟨y', k', i', rfl, ey', i0', rfl⟩
    · simp
    · simp [sliceBound' (P := P) (w := w) ey' i0' (show i' ≤ (h : Int) by omega)]
  · rcases e1 with ⟨rfl, rfl⟩ | ⟨y', k', i', rfl, ey', i0', rfl⟩
    · simp [sliceBound' (P := P) (w := w) ey i0 (show i ≤ (cap : Int) by omega)]
    · simp [sliceBound' (P := P) (w := w) ey i0 (show i ≤ (cap : Int) by omega), sliceBound' (P := P) (w := w) (y := i.toNat) ey' i0' (by omega)]
theorem slS_sound (hg : GOK w g) (hT : ∀ i, OK w g n Hs (T.get i) (a.tmps.getD i undef)) {t : TypeId} {x : Operand} {lo hi : Option Operand} (ho : o.op = .slice t x lo hi none) (ht : P.underlying t = some .string) {X : Am.X} {Lo Hi : Option Am.X} (h3 : opd x = some X) (h1 : opdO lo = some Lo) (h2 : opdO hi = some Hi) {y : V} (hv : vop (objAt Hs) T (.slS X Lo Hi) = some y) : Val P w g n Hs a o y := by
  have hx := opd_sound hT h3
  simp only [vop] at hv
  split at hv
  · rename_i s he
    rw [he] at hx
    split at hv
    · rename_i l h hl hh
      split at hv
      · rename_i hb
        cases hv
        have hr := bounds2 (P := P) hT h1 h2 (isS := false) (cap := s.size) hl hh hb.1 hb.2 (Nat.le_refl _)
        refine Val.now hg ?_ ok_str
        simp only [execOp, ho, hx.vr.str, Instr.sliceAt, run_underlying ht, Sem.run_bind, Sem.run_pure, Result.andThen_ok, Instr.slice, Option.map_none, Option.isSome_none, Bool.false_eq_true, if_false, hr]
      · cases hv
    · cases hv
  · cases hv
theorem CR.part {l : List V} {tg : Tag} {A : Option Addr} {c : Nat} (h : CR w g (.sl l tg) (.slice A l.length c)) (p q m sz : Nat) (hpq : p ≤ q) (hq : q ≤ l.length) (hm : q ≤ m) (hmc : m ≤ c) (hz : ∀ x ∈ l, x.cells.length = sz) (tg' : Tag) (ht : tg' = .no ∨ tg' = .full ∧ m = q) :
    CR w g (.sl ((l.take q).drop p) tg') (.slice (if m = p then A else A.map (·.add (p * sz))) (q - p) (m - p)) := by
  have hlen : ((l.take q).drop p).length = q - p := by simp; omega
  have key : ∀ B : Option Addr, (B = none → A = none) → ((l.take q).drop p ≠ [] → ∀ a, A = some a → a.spot = none → B = some ⟨a.block, a.off + p * sz, none⟩) → CR w g (.sl ((l.take q).drop p) tg') (.slice B (q - p) (m - p)) := by
    intro B hB hB2
    cases h with
    | sl _ _ _ _ sz' vs hc hn hta hp hzz hd ha hr =>
      have := CR.sl (w := w) (g := g) ((l.take q).drop p) tg' B (m - p) sz' (fun i j => vs (p + i) j) (by omega) (fun hb => by have := hn (hB hb); omega) ?_ hp (fun x hx => hzz x (List.mem_of_mem_take (List.mem_of_mem_drop hx))) (fun x hx => hd x (List.mem_of_mem_take (List.mem_of_mem_drop hx))) ?_ ?_
      · rw [hlen] at this; exact this
      · rcases ht with rfl | ⟨rfl, rfl⟩
        · trivial
        · rw [hlen]; rfl
      · intro hne
        have hne2 : l ≠ [] := fun e => by subst e; simp at hne
        obtain ⟨a, e1, e2, e3, e4⟩ := ha hne2
        obtain ⟨x, hx⟩ := List.exists_mem_of_ne_nil l hne2
        have hss : sz' = sz := (hzz x hx).symm.trans (hz x hx)
        subst hss
        refine ⟨_, hB2 hne a e1 e2, rfl, ?_, fun i j hi hj => ?_⟩
        · rw [hlen]
          have h1 : p * sz' + (q - p) * sz' = q * sz' := by rw [← Nat.add_mul]; congr 1; omega
          have h2 : q * sz' ≤ l.length * sz' := Nat.mul_le_mul_right _ hq
          simp only; omega
        · have h3 := e4 (p + i) j (by omega) hj
          rw [Nat.add_mul] at h3
          rw [← h3]
          congr 2
          simp only; omega
      · intro i x hx j y hy
        rw [List.getElem?_drop, List.getElem?_take] at hx
        split at hx
        · exact hr (p + i) x hx j y hy
        · cases hx
  split
  · rename_i e
    refine key A id fun hne a ha hs => ?_
    exfalso; apply hne
    apply List.eq_nil_of_length_eq_zero
    omega
  · refine key _ (fun h => by cases A <;> simp_all) fun hne a ha hs => ?_
    subst ha
    simp [addr_eta hs]
theorem sl_sound (hg : GOK w g) (hT : ∀ i, OK w g n Hs (T.get i) (a.tmps.getD i undef)) {t e : TypeId} {x : Operand} {lo hi mx : Option Operand} (ho : o.op = .slice t x lo hi mx) (ht : P.underlying t = some (.slice e)) {sz : Nat} (hs : size? P e = some sz) {X : Am.X} {Lo Hi Mx : Option Am.X} (h3 : opd x = some X) (h1 : opdO lo = some Lo) (h2 : opdO hi = some Hi) (h5 : opdO mx = some Mx) (hmh : mx.isSome = true → hi.isSome = true) {y : V} (hv : vop (objAt Hs) T (.sl sz X Lo Hi Mx) = some y) : Val P w g n Hs a o y := by
  have hx := opd_sound hT h3
  simp only [vop] at hv
  split at hv
  · rename_i l tg he
    rw [he] at hx
    split at hv
    case h_2 => cases hv
    rename_i p q hl hh
    split at hv
    case isFalse => cases hv
    rename_i hb
    split at hv
    case isFalse => cases hv
    rename_i hzz
    have hz : ∀ x ∈ l, x.cells.length = sz := fun x hx => by have := List.all_eq_true.1 hzz x hx; simpa using this
    have hc : CR w g (.sl l tg) (a.eval x) := hx.vr
    generalize hxe : a.eval x = v at hc
    obtain ⟨A, c, rfl, hlc⟩ : ∃ A c, v = .slice A l.length c ∧ l.length ≤ c := by cases hc; exact ⟨_, _, rfl, ‹_›⟩
    split at hv
    · cases hv
      obtain rfl : mx = none := by
        cases mx with
        | none => rfl
        | some m => obtain ⟨_, _, h⟩ := Option.map_eq_some_iff.1 h5; cases h
      have hr := bounds2 (P := P) hT h1 h2 (isS := true) (cap := c) hl hh hb.1 hb.2 hlc
      refine Val.now (val := .slice (if c = p then A else A.map (·.add (p * sz))) (q - p) (c - p)) hg ?_ ⟨hc.part p q c sz hb.1 hb.2 (by omega) (Nat.le_refl _) hz .no (.inl rfl), rfl, Lv.free rfl⟩
      simp only [execOp, ho, hxe, Instr.sliceAt, run_underlying ht, Sem.run_bind, Sem.run_pure, Result.andThen_ok, Instr.slice, Option.map_none, hr, run_sizeOf' hs]
    · rename_i MX
      split at hv
      case h_2 => cases hv
      rename_i m hm
      split at hv
      case isFalse => cases hv
      rename_i hmq
      subst hmq
      cases hv
      obtain ⟨mo, rfl⟩ : ∃ mo, mx = some mo := by
        cases mx with
        | none => cases h5
        | some m => exact ⟨m, rfl⟩
      obtain ⟨hio, rfl⟩ := Option.isSome_iff_exists.1 (hmh rfl)
      have e1 := bnd_sound hT h1 hl
      have e2 := bnd_sound hT h2 hh
      have e3 := bnd_sound hT h5 hm
      rcases e2 with ⟨h, -⟩ | ⟨_, k2, i2, eh, ey2, i20, i21⟩
      · cases h
      cases eh
      rcases e3 with ⟨h, -⟩ | ⟨_, k3, i3, eh, ey3, i30, i31⟩
      · cases h
      cases eh
      have hr : (Instr.sliceBounds true l.length c (lo.map a.eval) ((some hio).map a.eval) ((some mo).map a.eval)).run P w = .ok (p, m, m) w := by
        unfold Instr.sliceBounds
        rcases e1 with ⟨rfl, rfl⟩ | ⟨y', k', i', rfl, ey', i0', rfl⟩
        · simp [sliceBound' (P := P) (w := w) ey3 i30 (show i3 ≤ (c : Int) by omega), i31, sliceBound' (P := P) (w := w) (y := m) ey2 i20 (by omega), i21]
        · simp [sliceBound' (P := P) (w := w) ey3 i30 (show i3 ≤ (c : Int) by omega), i31, sliceBound' (P := P) (w := w) (y := m) ey2 i20 (by omega), i21, sliceBound' (P := P) (w := w) (y := m) ey' i0' (by omega)]
      refine Val.now (val := .slice (if m = p then A else A.map (·.add (p * sz))) (m - p) (m - p)) hg ?_ ⟨hc.part p m m sz hb.1 hb.2 (Nat.le_refl _) (by omega) hz .full (.inr ⟨rfl, rfl⟩), rfl, Lv.free rfl⟩
      simp only [execOp, ho, hxe, Instr.sliceAt, run_underlying ht, Sem.run_bind, Sem.run_pure, Result.andThen_ok, Instr.slice, hr, run_sizeOf' hs]
  · cases hv
end
end Go.Proofs.YtlacnkjkcikodaaDoor.Am
end
section
set_option linter.unusedVariables false
set_option linter.unusedSimpArgs false
namespace Go.Proofs.YtlacnkjkcikodaaDoor.Am
open Go
section
variable {P : Program} {w : World} {g : Gh} {n : Nat} {Hs : List Tab} {T : Tm} {a : Act} {o : Go.Oper}
theorem opds_sound (hT : ∀ i, OK w g n Hs (T.get i) (a.tmps.getD i undef)) : ∀ {xs : List Operand} {Xs : List Am.X}, opds xs = some Xs → F2 (OK w g n Hs) (Xs.map (·.ev T)) (xs.map a.eval)
  | [], Xs, h => by cases h; exact .nil
  | x :: xs, Xs, h => by
    simp only [opds] at h
    split at h
    · rename_i X Ys h1 h2
      cases h
      exact .cons (opd_sound hT h1) (opds_sound hT h2)
    · cases h
theorem V.bare_cap {x : V} {b : Nat} (h : x.under b = true) (hc : x.capOk = true) : x.bare.capU b = true := by
  cases x with
  | fn f caps => cases caps <;> simp_all [V.bare, V.bare1, V.capU, V.capOk]
  | _ => simp_all [V.bare, V.bare1, V.under, V.under0, V.under1, V.capU, V.capOk]
theorem mkf_sound (hg : GOK w g) (hT : ∀ i, OK w g n Hs (T.get i) (a.tmps.getD i undef)) {f : FuncId} {cs : Array Operand} (ho : o.op = .makeFunc (.func f) #[] cs) {Xs : List Am.X} (h3 : opds cs.toList = some Xs) {y : V} (hv : vop (objAt Hs) T (.mkf f Xs) = some y) : Val P w g n Hs a o y := by
  have hx := opds_sound hT h3
  simp only [vop] at hv
  split at hv
  case isFalse => cases hv
  rename_i hall
  cases hv
  rw [List.all_eq_true] at hall
  refine Val.now (val := .func (.func f) #[] (cs.toList.map a.eval).toArray) hg ?_ ⟨CR.fn f _ _ ?_ fun i x v hi hv => ?_, ?_, Lv.free rfl⟩
  · simp only [execOp, ho, Instr.makeFunc, Sem.run_bind, Sem.run_pure, Result.andThen_ok]
    rw [show Array.map a.eval cs = (List.map a.eval cs.toList).toArray by apply Array.ext'; simp, show Array.map a.eval #[] = #[] by simp]
  · have := hx.length; simpa using this.symm
  · rw [List.getElem?_map] at hi
    obtain ⟨X, hX, rfl⟩ := Option.map_eq_some_iff.1 hi
    obtain ⟨v', hv', hok⟩ := hx.get i (X.ev T) (by rw [List.getElem?_map, hX]; rfl)
    rw [hv] at hv'; cases hv'
    have hc := hall X (List.mem_of_getElem? hX)
    have hb := hok.vr.bare
    have hb2 : (∀ l, (X.ev T).bare ≠ .tup l) ∧ ∀ l, (X.ev T).bare ≠ .agg l := by
      generalize X.ev T = z at hc
      cases z <;> simp_all [V.bare, V.bare1, V.capOk]
    exact hb.cr hb2.1 hb2.2
  · simp only [V.under, V.under0, V.under1, List.all_eq_true, List.mem_map, forall_exists_index, and_imp]
    rintro _ X hX rfl
    obtain ⟨i, hi⟩ := List.getElem?_of_mem hX
    obtain ⟨v', hv', hok⟩ := hx.get i (X.ev T) (by rw [List.getElem?_map, hi]; rfl)
    exact V.bare_cap hok.un (hall X hX)
theorem ekOf_spec {k : EK} {t : TypeId} (hk : ekOf P t = some k) : match k with
    | .b => P.underlying t = some .bool
    | .i => ∃ k, P.underlying t = some (.int k)
    | .s => P.underlying t = some .string
    | .p => ∃ e s, P.underlying t = some (.pointer e) ∧ size? P e = some s ∧ s ≠ 0
    | .sl => ∃ e, P.underlying t = some (.slice e)
    | .m => ∃ k e, P.underlying t = some (.map k e)
    | .f => ∃ p r v, P.underlying t = some (.func p r v) := by
  unfold ekOf at hk
  split at hk
  · cases hk; assumption
  · cases hk; exact ⟨_, ‹_›⟩
  · cases hk; assumption
  · obtain ⟨s, h1, h2⟩ := Option.bind_eq_some_iff.1 hk
    split at h2
    · cases h2
    · cases h2; exact ⟨_, s, ‹_›, h1, ‹_›⟩
  · cases hk; exact ⟨_, ‹_›⟩
  · cases hk; exact ⟨_, _, ‹_›⟩
  · cases hk; exact ⟨_, _, _, ‹_›⟩
  · cases hk
theorem equal_sound {k : EK} {t : TypeId} (hk : ekOf P t = some k) {x y : V} {u v : Value} {b : Bool} (hx : VR w g x u) (hy : VR w g y v) (h : V.alike k x y = some b) : (∀ d, (Op.equalIn (d + 1) t u v).run P w = .ok b w) := by
  have hs := ekOf_spec hk
  intro d
  unfold V.alike at h
  split at h
  all_goals first | (cases h; done) | skip
  · cases h
    have e1 := hx.bool; have e2 := hy.bool
    subst e1 e2
    have hs : P.underlying t = some .bool := hs
    simp [Op.equalIn, run_underlying hs]
  · split at h
    · cases h
      have e1 := hx.int; have e2 := hy.int
      subst e1 e2
      obtain ⟨k', hs⟩ := hs
      simp [Op.equalIn, run_underlying hs]
      simp_all
    · cases h
  · cases h
    have e1 := hx.str; have e2 := hy.str
    subst e1 e2
    have hs : P.underlying t = some .string := hs
    simp [Op.equalIn, run_underlying hs, ba_beq]
  all_goals
    have hx : CR w g _ u := hx
    have hy : CR w g _ v := hy
    first
    | (obtain ⟨e, s, hs, h2, h3⟩ := hs
       cases h; cases hx; cases hy
       simp [Op.equalIn, run_underlying hs]; done)
    | (obtain ⟨p, r, q, hs⟩ := hs
       cases h; cases hx; cases hy
       simp [Op.equalIn, run_underlying hs]; done)
    | (obtain ⟨p, r, hs⟩ := hs
       cases h; cases hx; cases hy
       simp [Op.equalIn, run_underlying hs]; done)
    | skip
  all_goals
    obtain ⟨e, hs⟩ := hs
    cases h
    cases hx with
    | sl _ _ A c sz vs hc hn ht hp hz hd ha hr =>
      cases hy with
      | sl _ _ A' c' sz' vs' hc' hn' ht' hp' hz' hd' ha' hr' =>
        have ht' : A' = none ∧ _ := ht'
        obtain ⟨rfl, -⟩ := ht'
        first
        | (have ht : A = none ∧ _ := ht
           obtain ⟨rfl, -⟩ := ht
           simp [Op.equalIn, run_underlying hs]; done)
        | (have ht : A ≠ none := ht
           cases A with
           | none => exact absurd rfl ht
           | some ad => simp [Op.equalIn, run_underlying hs])
        | (obtain ⟨ad, rfl, -⟩ := ha (by simp)
           simp [Op.equalIn, run_underlying hs])
def plainU : Value → Bool
  | .bool _ | .pointer _ | .slice _ _ _ | .map _ | .func _ _ _ | .nilFunc => true
  | _ => false
theorem plainU_eql {t : TypeId} {u v : Value} (h : plainU u = true) : binOp .eql t u v = (do pure (.bool (← Op.equal t u v))) := by
  cases u <;> simp [plainU] at h <;> rfl
theorem plainU_neq {t : TypeId} {u v : Value} (h : plainU u = true) : binOp .neq t u v = (do pure (.bool (!(← Op.equal t u v)))) := by
  cases u <;> simp [plainU] at h <;> rfl
theorem alike_plain {k : EK} {x y : V} {u : Value} {b : Bool} (hki : k ≠ .i ∧ k ≠ .s) (hx : VR w g x u) (h : V.alike k x y = some b) : plainU u = true := by
  unfold V.alike at h
  split at h
  all_goals first | (cases h; done) | (exact absurd rfl hki.1) | (exact absurd rfl hki.2) | skip
  all_goals
    have hx : CR w g _ u := hx
    cases hx <;> rfl
theorem eqv_sound (hg : GOK w g) (hT : ∀ i, OK w g n Hs (T.get i) (a.tmps.getD i undef)) {p : BinOp} {t t' : TypeId} {x z : Operand} (ho : o.op = .binOp p t x z t') {k : EK} (hk : ekOf P t = some k) (hki : k ≠ .i ∧ k ≠ .s) (neg : Bool) (hp : p = bif neg then .neq else .eql) {X Z : Am.X} (h3 : opd x = some X) (h4 : opd z = some Z) {y : V} (hv : vop (objAt Hs) T (.eqv neg k X Z) = some y) : Val P w g n Hs a o y := by
  have hx := opd_sound hT h3
  have hz := opd_sound hT h4
  simp only [vop] at hv
  obtain ⟨b, hb, rfl⟩ := Option.map_eq_some_iff.1 hv
  have he := equal_sound hk hx.vr hz.vr hb 9999
  have hpl := alike_plain hki hx.vr hb
  have hq := run_eqGuard (P := P) (w := w) (p := p) (t := t) (x := x) (y := z) (u := a.eval x) (v := a.eval z) (by intro cs e; rw [e] at hpl; cases hpl) (by intro e; rw [e] at hpl; cases hpl)
  refine Val.now hg ?_ ok_bool
  have heq : (Op.equal t (a.eval x) (a.eval z)).run P w = .ok b w := he
  cases neg
  · have hp : p = .eql := hp
    subst hp
    simp only [execOp, ho, hq, plainU_eql hpl, heq, Sem.run_bind, Sem.run_pure, Result.andThen_ok, cond_false]
  · have hp : p = .neq := hp
    subst hp
    simp only [execOp, ho, hq, plainU_neq hpl, heq, Sem.run_bind, Sem.run_pure, Result.andThen_ok, cond_true]
theorem allBytes_sound {l : List V} {bs : List UInt8} (h : allBytes l = some bs) : ∃ ns : List Int, l = ns.map (V.int .u8) ∧ bs = ns.map (fun n => UInt8.ofNat n.toNat) := by
  induction l generalizing bs with
  | nil => cases h; exact ⟨[], rfl, rfl⟩
  | cons x l ih =>
    unfold allBytes at h
    split at h
    · rename_i e; cases e
    · rename_i m l' e
      cases e
      obtain ⟨bs', h1, rfl⟩ := Option.map_eq_some_iff.1 h
      obtain ⟨ns, rfl, rfl⟩ := ih h1
      exact ⟨m :: ns, rfl, rfl⟩
    · cases h
theorem push_foldl (ns : List Int) (s : ByteArray) : ns.foldl (fun r n => r.push (UInt8.ofNat n.toNat)) s = ⟨s.data ++ (ns.map fun n => UInt8.ofNat n.toNat).toArray⟩ := by
  induction ns generalizing s with
  | nil => simp
  | cons m ns ih =>
    rw [List.foldl_cons, ih]
    congr 1
    show (s.data.push _) ++ _ = _
    apply Array.ext'; simp
theorem tostr_sound (hg : GOK w g) (hT : ∀ i, OK w g n Hs (T.get i) (a.tmps.getD i undef)) {s d e : TypeId} {x : Operand} (ho : o.op = .convert s d x) (hs : P.underlying s = some (.slice e)) (he : P.underlying e = some (.int .u8)) (hd : P.underlying d = some .string) {X : Am.X} (h3 : opd x = some X) {y : V} (hv : vop (objAt Hs) T (.tostr X) = some y) : Val P w g n Hs a o y := by
  have hx := opd_sound hT h3
  simp only [vop] at hv
  split at hv
  · rename_i l tg hl
    rw [hl] at hx
    obtain ⟨bs, hb, rfl⟩ := Option.map_eq_some_iff.1 hv
    obtain ⟨ns, rfl, rfl⟩ := allBytes_sound hb
    have hc : CR w g (.sl (ns.map (V.int .u8)) tg) (a.eval x) := hx.vr
    generalize hxe : a.eval x = v at hc
    refine Val.now (val := .string ⟨(ns.map fun n => UInt8.ofNat n.toNat).toArray⟩) hg ?_ ok_str
    have hrun : ∀ u, (Conv.bytesToString v).run P w = .ok u w → (execOp a.eval o).run P w = .ok (.value u) w := by
      intro u hu
      cases hc with
      | sl _ _ A c sz vs hc hn hta hp hzz hd' ha hr =>
        cases A <;> simp only [execOp, ho, hxe, convert, run_underlying hs, run_underlying hd, run_underlying he, Sem.run_bind, Sem.run_pure, Result.andThen_ok, hu]
    apply hrun
    cases hc with
    | sl _ _ A c sz vs hc hn hta hp hzz hd' ha hr =>
      by_cases hne : ns = []
      · subst hne
        cases A with
        | none => rfl
        | some ad =>
          have := run_bytesToString (P := P) w ad 0 c [] rfl
          exact this
      · obtain ⟨ad, rfl, hsp, hfx, hcell⟩ := ha (by simpa using hne)
        have hs1 : sz = 1 := by
          obtain ⟨m, hm⟩ := List.exists_mem_of_ne_nil ns hne
          exact (hzz (.int .u8 m) (List.mem_map.2 ⟨m, hm, rfl⟩)).symm
        subst hs1
        have hl : (loadCells ad (ns.map (V.int .u8)).length).run P w = .ok (ns.map (Value.int .u8)).toArray w := by
          have := run_loadCells_list (P := P) w ad (ns.map (Value.int .u8)) (fun j v hj => by
            rw [List.getElem?_map] at hj
            obtain ⟨m, hm, rfl⟩ := Option.map_eq_some_iff.1 hj
            have hjl := (List.getElem?_eq_some_iff.1 hm).1
            have h1 := hcell j 0 (by simpa using hjl) (by decide)
            have h2 := hr j (.int .u8 m) (by rw [List.getElem?_map, hm]; rfl) 0 (.int .u8 m) rfl
            rw [addr_eta hsp]
            rw [Nat.mul_one, Nat.add_zero] at h1
            rw [h1]
            generalize vs j 0 = q at h2
            cases h2; rfl)
          simpa using this
        have := run_bytesToString (P := P) w ad _ c ns hl
        rw [this, push_foldl]
        congr 3
        apply Array.ext'; simp
  · cases hv
end
end Go.Proofs.YtlacnkjkcikodaaDoor.Am
end
section
set_option linter.unusedVariables false
set_option linter.unusedSimpArgs false
namespace Go.Proofs.YtlacnkjkcikodaaDoor.Am
open Go
theorem foldl_set_list : ∀ (vs : List Value) (k off : Nat) (cells : Array Value) (i : Nat), ((vs.zipIdx k).foldl (fun cs p => cs.setIfInBounds (off + p.2) p.1) cells)[i]? = if off + k ≤ i ∧ i < off + k + vs.length ∧ i < cells.size then vs[i - (off + k)]? else cells[i]?
  | [], k, off, cells, i => by simp; intro h1 h2; omega
  | v :: vs, k, off, cells, i => by
    rw [List.zipIdx_cons, List.foldl_cons, foldl_set_list vs (k + 1) off _ i]
    simp only [List.length_cons, Array.size_setIfInBounds]
    by_cases h1 : i = off + k
    · subst h1
      by_cases h2 : off + k < cells.size
      · rw [if_neg (by omega), if_pos ⟨by omega, by omega, h2⟩, Array.getElem?_setIfInBounds_self_of_lt h2]; simp
      · rw [if_neg (by omega), if_neg (by omega), Array.getElem?_eq_none (by simp; omega), Array.getElem?_eq_none (by omega)]
    · rw [Array.getElem?_setIfInBounds_ne (by omega)]
      by_cases h2 : off + (k + 1) ≤ i ∧ i < off + (k + 1) + vs.length ∧ i < cells.size
      · rw [if_pos h2, if_pos ⟨by omega, by omega, h2.2.2⟩]
        rw [show i - (off + k) = (i - (off + (k + 1))) + 1 by omega, List.getElem?_cons_succ]
      · rw [if_neg h2, if_neg (by omega)]
theorem foldl_set_size : ∀ (l : List (Value × Nat)) (off : Nat) (cells : Array Value), (l.foldl (fun cs p => cs.setIfInBounds (off + p.2) p.1) cells).size = cells.size
  | [], _, _ => rfl
  | p :: l, off, cells => by rw [List.foldl_cons, foldl_set_size l]; simp
theorem fill_one {place : Nat → Option (Nat × Nat)} {i off s : Nat} {v : Value} {cells : Array Value} {rest : List (Nat × Value)} (hp : place i = some (off, s)) (hv : v.cells.size = s) (hb : off + s ≤ cells.size) :
    ∃ cells', Instr.fill place cells ((i, v) :: rest) = Instr.fill place cells' rest ∧ cells'.size = cells.size ∧ ∀ k, cells'[k]? = if off ≤ k ∧ k < off + s then v.cells.toList[k - off]? else cells[k]? := by
  refine ⟨(v.cells.zipIdx.foldl (fun cs (c, j) => cs.setIfInBounds (off + j) c) cells), ?_, ?_, fun k => ?_⟩
  · rw [Instr.fill, hp]
    simp only
    rw [if_neg (by simp [hv]; omega)]
  · rw [← Array.foldl_toList]
    exact foldl_set_size _ off cells
  · rw [← Array.foldl_toList, Array.toList_zipIdx]
    have := foldl_set_list v.cells.toList 0 off cells k
    simp only [Nat.add_zero, Array.length_toList, hv] at this
    rw [show (fun (x : Array Value) (x_1 : Value × Nat) => match x_1 with | (c, j) => x.setIfInBounds (off + j) c) = (fun cs p => cs.setIfInBounds (off + p.2) p.1) from rfl, this]
    by_cases h : off ≤ k ∧ k < off + s
    · rw [if_pos ⟨h.1, h.2, by omega⟩, if_pos h]
    · rw [if_neg (fun h' => h ⟨h'.1, h'.2.1⟩), if_neg h]
section
variable {P : Program} {w : World} {g : Gh} {n : Nat} {Hs : List Tab} {T : Tm} {a : Act} {o : Go.Oper}
theorem V.bare_solid {x : V} (h : x.solid = true) : x.bare.solid = true := by cases x <;> exact h
theorem V.bare_len (x : V) : x.bare.cells.length = x.cells.length := by
  cases x <;> simp [V.bare, V.bare1, V.cells]
theorem fill_ok {place : Nat → Option (Nat × Nat)} : ∀ (ps : List (Nat × Nat × V)) (qs : List (Nat × Value)) (cs cs' : List V) (cells : Array Value), F2 (fun p q => place q.1 = some (p.1, p.2.1) ∧ VR w g p.2.2 q.2) ps qs → CRs w g cs cells.toList → fill cs ps = some cs' → ∃ cells' : Array Value, Instr.fill place cells qs = some cells' ∧ CRs w g cs' cells'.toList
  | [], _, cs, cs', cells, hf, hc, h => by
    cases hf; cases h; exact ⟨cells, rfl, hc⟩
  | (off, s, v) :: ps, _, cs, cs', cells, hf, hc, h => by
    cases hf with
    | cons hpq ht =>
      rename_i q qs
      obtain ⟨i, u⟩ := q
      simp only [fill] at h
      split at h
      case isFalse => cases h
      rename_i hcond
      obtain ⟨h1, h2, h3⟩ := hcond
      have hpl : place i = some (off, s) := hpq.1
      have hcu := hpq.2.cells h1
      have hcb := hpq.2.bare.cells (V.bare_solid h1)
      have hl := hc.length
      simp only [Array.length_toList] at hl
      have hlu := hcu.length
      simp only [Array.length_toList] at hlu
      obtain ⟨cells', e1, e2, e3⟩ := fill_one (rest := qs) hpl (v := u) (cells := cells) (by omega) (by omega)
      have hc' : CRs w g (putAt cs off v.bare.cells) cells'.toList := by
        have hbl := V.bare_len v
        refine F2.of _ _ (by simp [putAt, e2]; omega) fun k y z hy hz => ?_
        rw [Array.getElem?_toList, e3 k] at hz
        unfold putAt at hy
        by_cases hk1 : k < off
        · rw [if_neg (by omega)] at hz
          rw [List.append_assoc, List.getElem?_append_left (by simp; omega), List.getElem?_take, if_pos hk1] at hy
          obtain ⟨z', hz', hr⟩ := hc.get k y hy
          rw [Array.getElem?_toList, hz] at hz'; cases hz'; exact hr
        · by_cases hk2 : k < off + s
          · rw [if_pos ⟨by omega, hk2⟩] at hz
            rw [List.append_assoc, List.getElem?_append_right (by simp; omega), List.getElem?_append_left (by simp; omega)] at hy
            simp only [List.length_take, Nat.min_eq_left (show off ≤ cs.length by omega)] at hy
            obtain ⟨z', hz', hr⟩ := hcb.get (k - off) y hy
            rw [hz] at hz'; cases hz'; exact hr
          · rw [if_neg (by omega)] at hz
            rw [List.getElem?_append_right (by simp; omega)] at hy
            simp only [List.length_append, List.length_take, Nat.min_eq_left (show off ≤ cs.length by omega), List.getElem?_drop] at hy
            obtain ⟨z', hz', hr⟩ := hc.get k y (by rw [← hy]; congr 1; omega)
            rw [Array.getElem?_toList, hz] at hz'; cases hz'; exact hr
      obtain ⟨c2, f1, f2⟩ := fill_ok ps qs _ cs' cells' ht hc' h
      exact ⟨c2, e1.trans f1, f2⟩
theorem fill_under : ∀ (ps : List (Nat × Nat × V)) (cs cs' : List V) (b : Nat), fill cs ps = some cs' → cs.all (V.under1 b) = true → (∀ p ∈ ps, p.2.2.under b = true) → cs'.all (V.under1 b) = true
  | [], cs, cs', b, h, hc, _ => by cases h; exact hc
  | (off, s, v) :: ps, cs, cs', b, h, hc, hp => by
    simp only [fill] at h
    split at h
    case isFalse => cases h
    rename_i hcond
    refine fill_under ps _ cs' b h ?_ (fun p h => hp p (List.mem_cons_of_mem _ h))
    have hv := V.bare_under (hp _ List.mem_cons_self)
    simp only at hv
    have hvc : v.bare.cells.all (V.under1 b) = true := by
      have h1 := V.bare_solid hcond.1
      cases hb : v.bare <;> rw [hb] at hv h1 <;> first | (simpa [V.cells, V.under, V.under0] using hv) | cases h1
    simp only [putAt, List.all_append, Bool.and_eq_true]
    simp only [List.all_eq_true] at hc hvc ⊢
    exact ⟨⟨fun x hx => hc x (List.mem_of_mem_take hx), hvc⟩, fun x hx => hc x (List.mem_of_mem_drop hx)⟩
theorem buildParts_sound {t : TypeId} {fs : Array Field} (hu : P.underlying t = some (.struct fs)) (hT : ∀ i, OK w g n Hs (T.get i) (a.tmps.getD i undef)) {places : Array (Nat × Nat)} (hpl : ∀ (i : Nat) (fd : Field) (s : Nat), fs[i]? = some fd → size? P fd.type = some s → places[i]? = some (fd.offset, s)) :
    ∀ {ps : List (Nat × Operand)} {qs : List (Nat × Nat × Am.X)}, buildParts P t ps = some qs → F2 (fun p q => places[q.1]? = some (p.1, p.2.1) ∧ VR w g p.2.2 q.2) (qs.map fun p => (p.1, p.2.1, p.2.2.ev T)) (ps.map fun p => (p.1, a.eval p.2)) ∧ ∀ p ∈ qs.map fun p => (p.1, p.2.1, p.2.2.ev T), p.2.2.under (n + 1) = true
  | [], qs, h => by cases h; exact ⟨.nil, by simp⟩
  | (i, x) :: ps, qs, h => by
    simp only [buildParts] at h
    split at h
    · rename_i off s ag X qs' h1 h2 h3
      cases h
      obtain ⟨f1, f2⟩ := buildParts_sound hu hT hpl h3
      have hx := opd_sound hT h2
      refine ⟨.cons ⟨?_, hx.vr⟩ f1, fun p hp => ?_⟩
      · unfold fieldOf at h1
        rw [hu] at h1
        simp only at h1
        split at h1
        · rename_i fd hfd
          split at h1
          · rename_i s' a' e1 e2
            split at h1
            · cases h1
            · simp only [Option.some.injEq, Prod.mk.injEq] at h1
              obtain ⟨rfl, rfl, rfl⟩ := h1
              exact hpl i fd _ hfd e1
          · cases h1
        · cases h1
      · rw [List.map_cons] at hp
        rcases List.mem_cons.1 hp with rfl | hp
        · exact hx.un
        · exact f2 p hp
    · cases h
theorem run_places (fs : Array Field) (hall : ∀ fd ∈ fs, (size? P fd.type).isSome = true) : ∃ places : Array (Nat × Nat), (fs.mapM fun f => (do pure (f.offset, ← sizeOf f.type) : Sem (Nat × Nat))).run P w = .ok places w ∧ ∀ (i : Nat) (fd : Field) (s : Nat), fs[i]? = some fd → size? P fd.type = some s → places[i]? = some (fd.offset, s) := by
  have key : ∀ (l : List Field), (∀ fd ∈ l, (size? P fd.type).isSome = true) → ∃ pl : List (Nat × Nat), (l.mapM fun f => (do pure (f.offset, ← sizeOf f.type) : Sem (Nat × Nat))).run P w = .ok pl w ∧ ∀ (i : Nat) (fd : Field) (s : Nat), l[i]? = some fd → size? P fd.type = some s → pl[i]? = some (fd.offset, s) := by
    intro l
    induction l with
    | nil => intro _; exact ⟨[], by simp [List.mapM_nil], by simp⟩
    | cons f l ih =>
      intro h
      obtain ⟨pl, h1, h2⟩ := ih fun fd hf => h fd (List.mem_cons_of_mem _ hf)
      obtain ⟨s, hs⟩ := Option.isSome_iff_exists.1 (h f List.mem_cons_self)
      refine ⟨(f.offset, s) :: pl, ?_, fun i fd s' hi hs' => ?_⟩
      · rw [List.mapM_cons]
        simp only [Sem.run_bind, run_sizeOf' hs, Sem.run_pure, Result.andThen_ok, h1]
      · cases i with
        | zero =>
          simp only [List.getElem?_cons_zero, Option.some.injEq] at hi
          subst hi
          rw [hs] at hs'; cases hs'; rfl
        | succ i =>
          simp only [List.getElem?_cons_succ] at hi ⊢
          exact h2 i fd s' hi hs'
  obtain ⟨pl, h1, h2⟩ := key fs.toList (fun fd h => hall fd (by simpa using h))
  refine ⟨pl.toArray, ?_, fun i fd s hi hs => by simpa using h2 i fd s (by simpa using hi) hs⟩
  rw [Array.mapM_eq_mapM_toList]
  simp only [Sem.run_map, h1, Result.andThen_ok]
theorem build_sound (hg : GOK w g) (hT : ∀ i, OK w g n Hs (T.get i) (a.tmps.getD i undef)) {t : TypeId} {ps : Array (Nat × Operand)} (ho : o.op = .build t ps) {fs : Array Field} (hu : P.underlying t = some (.struct fs)) (hall : ∀ fd ∈ fs, (size? P fd.type).isSome = true) {z : V} (hz : zeroV P t = some z) {qs : List (Nat × Nat × Am.X)} (hq : buildParts P t ps.toList = some qs) {y : V} (hv : vop (objAt Hs) T (.build z.cells qs) = some y) : Val P w g n Hs a o y := by
  simp only [vop] at hv
  obtain ⟨cs, hcs, rfl⟩ := Option.map_eq_some_iff.1 hv
  obtain ⟨zv, hzi, hzv⟩ := Option.bind_eq_some_iff.1 hz
  obtain ⟨i, hi, hzz⟩ := Option.bind_eq_some_iff.1 hzi
  have hzs := toV_sound (w := w) (g := g) hzv (n + 1)
  obtain ⟨places, hp1, hp2⟩ := run_places (P := P) (w := w) fs hall
  obtain ⟨f1, f2⟩ := buildParts_sound hu hT hp2 hq
  obtain ⟨cells, c1, c2⟩ := fill_ok (place := (places[·]?)) _ _ _ _ zv.cells f1 hzs.2.2.2.2.1 hcs
  refine Val.now (val := .agg cells) hg ?_ ⟨⟨cells.toList, by simp, c2⟩, fill_under _ _ _ _ hcs hzs.2.2.2.2.2 f2, Lv.free rfl⟩
  have hzero : (zeroValue t).run P w = .ok zv w := by simp [zeroValue, typeInfo, hi, hzz]
  simp only [execOp, ho, Instr.build, run_underlying hu, hzero, Sem.run_bind, Sem.run_pure, Result.andThen_ok, hp1]
  rw [show (Array.map (fun x => match x with | (i, x) => (i, a.eval x)) ps).toList = ps.toList.map (fun p => (p.1, a.eval p.2)) by simp, c1]
  rfl
end
end Go.Proofs.YtlacnkjkcikodaaDoor.Am
end
section
set_option linter.unusedVariables false
set_option linter.unusedSimpArgs false
namespace Go.Proofs.YtlacnkjkcikodaaDoor.Am
open Go
def Gh.lay (g : Gh) (b m : Nat) (k : Option Key) : Gh := { g with fix := fun x => if x = b then m else g.fix x, owner := fun x => if x = b then k else g.owner x }
theorem heap_alloc (w : World) (ob : Obj) (b : Nat) : (w.alloc ob).heap[b]? = if b = w.heap.size then some ob else w.heap[b]? := by
  show (w.heap.push ob)[b]? = _
  rw [Array.getElem?_push]
theorem heap_alloc_lt {w : World} {ob : Obj} {b : Nat} (h : b < w.heap.size) : (w.alloc ob).heap[b]? = w.heap[b]? := by rw [heap_alloc, if_neg (by omega)]
theorem cell_of_heap {w w' : World} {b : Nat} (h : w'.heap[b]? = w.heap[b]?) (o : Nat) : w'.cell? ⟨b, o, none⟩ = w.cell? ⟨b, o, none⟩ := by unfold World.cell?; rw [h]
theorem lay_fr {w : World} {g : Gh} (hg : GOK w g) (lk n : Nat) (ob : Obj) (m : Nat) (k : Option Key) (hk : ∀ lv s, k = some (.tmp lv s) → n ≤ lv) : Fr lk n w g (w.alloc ob) (g.lay w.heap.size m k) := by
  have hsz : (w.alloc ob).heap.size = w.heap.size + 1 := by show (w.heap.push ob).size = _; simp
  refine ⟨by omega, ⟨fun b hb => ?_, fun b o hb _ => cell_of_heap (heap_alloc_lt hb) o, fun _ _ _ _ h => h⟩, fun b hb _ => ⟨heap_alloc_lt hb, ?_, ?_⟩, fun lv s b h => .inl h, fun _ _ _ => rfl, fun b lv s hlv ho => ?_, ⟨hg.inj, fun lv s b h => ?_, fun b k' h => ?_, fun b o h => ?_⟩, rfl, rfl, rfl⟩
  · simp only [Gh.lay]; rw [if_neg (by omega)]; exact Nat.le_refl _
  · simp only [Gh.lay]; rw [if_neg (by omega)]
  · simp only [Gh.lay]; rw [if_neg (by omega)]
  · simp only [Gh.lay] at ho
    split at ho
    · have := hk lv s ho; omega
    · exact ho
  · have := hg.lt lv s b h; omega
  · simp only [Gh.lay] at h
    split at h
    · rename_i e; subst e
      exact ⟨by omega, fun lv s hm => by have := hg.lt lv s _ hm; omega⟩
    · have := hg.ow b k' h
      exact ⟨by omega, this.2⟩
  · obtain ⟨h1, h2, h3⟩ := hg.pin b o h
    have hb := heap_lt h1
    exact ⟨(heap_alloc_lt hb).trans h1, by simp only [Gh.lay]; rw [if_neg (by omega)]; exact h2, h3⟩
structure RowR (w : World) (g : Gh) (sz : Nat) (l : List V) (cs : Array Value) : Prop where
  len : l.length * sz ≤ cs.size
  el : ∀ (i : Nat) (x : V), l[i]? = some x → x.cells.length = sz ∧ (∀ y ∈ x.cells, y.pure = true) ∧ ∀ (j : Nat) (y : V), x.cells[j]? = some y → ∃ v, cs[i * sz + j]? = some v ∧ CR w g y v
theorem RowR.keep {n : Nat} {w w' : World} {g g' : Gh} (hk : Keeps n w g w' g') {sz : Nat} {l : List V} {cs : Array Value} (h : RowR w g sz l cs) : RowR w' g' sz l cs :=
  ⟨h.len, fun i x hx => ⟨(h.el i x hx).1, (h.el i x hx).2.1, fun j y hy => by
    obtain ⟨v, h1, h2⟩ := (h.el i x hx).2.2 j y hy
    exact ⟨v, h1, h2.keep hk (V.pure_under ((h.el i x hx).2.1 y (List.mem_of_getElem? hy)) n)⟩⟩⟩
theorem RowR.sl {w : World} {g : Gh} {sz : Nat} {l : List V} {cs : Array Value} (h : RowR w g sz l cs) (hp : 0 < sz) {b : Nat} {e : TypeId} {fr : Nat × Nat} (hb : w.heap[b]? = some (.cells cs e fr)) (hf : l.length * sz ≤ g.fix b) {c : Nat} (hc : l.length ≤ c) {t : Tag} (ht : TagR t (some ⟨b, 0, none⟩) l.length c) : CR w g (.sl l t) (.slice (some ⟨b, 0, none⟩) l.length c) := by
  have hm : ∀ x ∈ l, ∃ i : Nat, l[i]? = some x := fun x hx => List.getElem?_of_mem hx
  refine .sl l t _ c sz (fun i j => cs.getD (i * sz + j) undef) hc (fun h => by cases h) ht hp (fun x hx => ?_) (fun x hx => ?_) (fun _ => ⟨_, rfl, rfl, by simpa using hf, fun i j hi hj => ?_⟩) (fun i x hx j y hy => ?_)
  · obtain ⟨i, hi⟩ := hm x hx; exact (h.el i x hi).1
  · obtain ⟨i, hi⟩ := hm x hx; exact (h.el i x hi).2.1
  · have h1 : (i + 1) * sz ≤ l.length * sz := Nat.mul_le_mul_right _ hi
    rw [Nat.add_mul] at h1
    have h2 := h.len
    unfold World.cell?
    simp only [hb, Nat.zero_add]
    have : i * sz + j < cs.size := by omega
    simp [Array.getD_eq_getD_getElem?, Array.getElem?_eq_getElem this]
  · obtain ⟨v, h1, h2⟩ := (h.el i x hx).2.2 j y hy
    simp only [Array.getD_eq_getD_getElem?, h1, Option.getD_some]
    exact h2
section
variable {P : Program} {w : World} {g : Gh} {n : Nat} {Hs : List Tab} {T : Tm} {a : Act} {o : Go.Oper}
theorem data1_sound {x y : V} {v : Value} (h : x.data1 = some y) (hr : CR w g x v) : CR w g y v ∧ y.pure = true ∧ y.cells = [y] ∧ v.cells = #[v] := by
  unfold V.data1 at h
  split at h <;> cases h
  all_goals first | exact ⟨hr, rfl, rfl, (CR.one hr rfl).1⟩ | exact ⟨hr.notag, rfl, rfl, (CR.one hr rfl).1⟩
theorem datas_sound : ∀ {l m : List V} {vs : List Value}, datas l = some m → CRs w g l vs → CRs w g m vs ∧ (∀ y ∈ m, y.pure = true)
  | [], m, vs, h, hc => by cases h; cases hc; exact ⟨.nil, by simp⟩
  | x :: l, m, vs, h, hc => by
    simp only [datas] at h
    split at h
    · rename_i y m' h1 h2
      cases h
      cases hc with
      | cons hx ht =>
        have d1 := data1_sound h1 hx
        have d2 := datas_sound h2 ht
        exact ⟨.cons d1.1 d2.1, fun z hz => by
          rcases List.mem_cons.1 hz with rfl | hz
          · exact d1.2.1
          · exact d2.2 z hz⟩
    · cases h
theorem data_sound {x y : V} {v : Value} (h : x.data = some y) (hr : VR w g x v) : CRs w g y.cells v.cells.toList ∧ (∀ z ∈ y.cells, z.pure = true) ∧ VR0 w g y v := by
  unfold V.data at h
  split at h
  · rename_i l
    obtain ⟨m, hm, rfl⟩ := Option.map_eq_some_iff.1 h
    obtain ⟨vs, rfl, hc⟩ := hr
    have := datas_sound hm hc
    exact ⟨by simpa [V.cells, Value.cells] using this.1, this.2, ⟨vs, rfl, this.1⟩⟩
  · rename_i hx
    have hna : ∀ l, x ≠ .agg l := hx
    have hnt : ∀ l, x ≠ .tup l := fun l e => by subst e; cases h
    have hc := hr.cr hnt hna
    have := data1_sound h hc
    refine ⟨by rw [this.2.2.1, this.2.2.2]; exact .cons this.1 .nil, by rw [this.2.2.1]; simpa using this.2.1, ?_⟩
    cases y <;> first | exact this.1.not_agg.elim | exact this.1
theorem fillS_ok {sz : Nat} (hsz : 0 < sz) {e : TypeId} : ∀ (ps : List (Nat × V)) (qs : List (Nat × Value)) (l l' : List V) (cells : Array Value), F2 (fun p q => p.1 = q.1 ∧ VR w g p.2 q.2) ps qs → RowR w g sz l cells → cells.size = l.length * sz → fillS sz l ps = some l' → ∃ cells' : Array Value, Instr.fill (fun i => some (i * sz, sz)) cells qs = some cells' ∧ RowR w g sz l' cells' ∧ l'.length = l.length ∧ cells'.size = cells.size
  | [], _, l, l', cells, hf, hc, hl, h => by cases hf; cases h; exact ⟨cells, rfl, hc, rfl, rfl⟩
  | (i, v) :: ps, _, l, l', cells, hf, hc, hlen, h => by
    cases hf with
    | cons hpq ht =>
      rename_i q qs
      obtain ⟨i', u⟩ := q
      obtain ⟨rfl, hvr⟩ := hpq
      simp only [fillS] at h
      split at h
      case h_2 => cases h
      rename_i v' hd
      split at h
      case isFalse => cases h
      rename_i hcond
      obtain ⟨hvl, hil⟩ := hcond
      have hdd := data_sound hd hvr
      have hlu := hdd.1.length
      simp only [Array.length_toList] at hlu
      have hb : i * sz + sz ≤ cells.size := by
        have h1 : (i + 1) * sz ≤ l.length * sz := Nat.mul_le_mul_right _ hil
        rw [Nat.add_mul] at h1; omega
      obtain ⟨cells', e1, e2, e3⟩ := fill_one (place := fun i => some (i * sz, sz)) (rest := qs) (i := i) rfl (v := u) (cells := cells) (by omega) hb
      have hc' : RowR w g sz (l.set i v') cells' := by
        refine ⟨by rw [e2, List.length_set]; exact hc.len, fun k x hx => ?_⟩
        rw [List.getElem?_set] at hx
        split at hx
        · rename_i hik
          subst hik
          cases hx
          refine ⟨hvl, hdd.2.1, fun j y hy => ?_⟩
          obtain ⟨z, hz, hr⟩ := hdd.1.get j y hy
          have hj := (List.getElem?_eq_some_iff.1 hy).1
          refine ⟨z, ?_, hr⟩
          rw [e3, if_pos ⟨by omega, by omega⟩, show i * sz + j - i * sz = j by omega]
          exact hz
        · rename_i hik
          obtain ⟨f1, f2, f3⟩ := hc.el k x hx
          refine ⟨f1, f2, fun j y hy => ?_⟩
          obtain ⟨z, hz, hr⟩ := f3 j y hy
          have hj := (List.getElem?_eq_some_iff.1 hy).1
          refine ⟨z, ?_, hr⟩
          rw [e3, if_neg, hz]
          rintro ⟨g1, g2⟩
          rcases Nat.lt_or_ge k i with h1 | h1
          · have h2 : (k + 1) * sz ≤ i * sz := Nat.mul_le_mul_right _ h1
            rw [Nat.add_mul] at h2; omega
          · have h2 : (i + 1) * sz ≤ k * sz := Nat.mul_le_mul_right _ (by omega)
            rw [Nat.add_mul] at h2; omega
      obtain ⟨c2, f1, f2, f3, f4⟩ := fillS_ok hsz (e := e) ps qs _ l' cells' ht hc' (by rw [e2, List.length_set]; exact hlen) h
      exact ⟨c2, e1.trans f1, f2, by rw [f3, List.length_set], f4.trans e2⟩
theorem elOf_cells {z : List V} {vs : List Value} (h : CRs w g z vs) (h0 : 0 < z.length) : (elOf z).cells = z.map V.bare1 := by
  unfold elOf
  split
  · rename_i v
    cases h with
    | cons hx ht =>
      have : ∀ l, v ≠ .agg l := fun l e => by subst e; exact hx.not_agg
      cases v <;> first | rfl | exact absurd rfl (this _)
  · rfl
theorem zeros_row {z : List V} {zv : Array Value} (h : CRs w g z zv.toList) (hp : z.all pure? = true) (h0 : 0 < z.length) (m : Nat) : RowR w g z.length (List.replicate m (elOf z)) ((Array.range (m * z.length)).map (fun x => zv[x % zv.size]!)) ∧ ((Array.range (m * z.length)).map (fun x => zv[x % zv.size]!)).size = m * z.length := by
  have hl := h.length
  simp only [Array.length_toList] at hl
  have hc := elOf_cells h h0
  refine ⟨⟨by simp, fun i x hx => ?_⟩, by simp⟩
  obtain ⟨hi, rfl⟩ := List.getElem?_eq_some_iff.1 hx
  simp only [List.length_replicate] at hi
  rw [List.getElem_replicate, hc]
  refine ⟨by simp, fun y hy => ?_, fun j y hy => ?_⟩
  · obtain ⟨y', hy', rfl⟩ := List.mem_map.1 hy
    have := List.all_eq_true.1 hp y' hy'
    cases y' <;> first | exact this | rfl
  · rw [List.getElem?_map] at hy
    obtain ⟨y', hy', rfl⟩ := Option.map_eq_some_iff.1 hy
    obtain ⟨v, hv, hr⟩ := h.get j y' hy'
    have hj := (List.getElem?_eq_some_iff.1 hy').1
    refine ⟨v, ?_, hr.bare1⟩
    have h1 : (i + 1) * z.length ≤ m * z.length := Nat.mul_le_mul_right _ hi
    rw [Nat.add_mul] at h1
    have h2 : i * z.length + j < m * z.length := by omega
    have h3 : (i * z.length + j) % zv.size = j := by
      rw [← hl, Nat.mul_comm, Nat.mul_add_mod, Nat.mod_eq_of_lt hj]
    have h4 : zv[j]? = some v := by simpa using hv
    have h5 : zv[j]! = v := by rw [getElem!_def, h4]
    simp [h2, h3, h5]
theorem sliceParts_sound (hT : ∀ i, OK w g n Hs (T.get i) (a.tmps.getD i undef)) : ∀ {ps : List (Nat × Operand)} {qs : List (Nat × Am.X)}, sliceParts ps = some qs → F2 (fun p q => p.1 = q.1 ∧ VR w g p.2 q.2) (qs.map fun p => (p.1, p.2.ev T)) (ps.map fun p => (p.1, a.eval p.2))
  | [], qs, h => by cases h; exact .nil
  | (i, x) :: ps, qs, h => by
    simp only [sliceParts] at h
    split at h
    · rename_i X qs' h1 h2
      cases h
      exact .cons ⟨rfl, (opd_sound hT h1).vr⟩ (sliceParts_sound hT h2)
    · cases h
theorem bslice_sound (hg : GOK w g) (hT : ∀ i, OK w g n Hs (T.get i) (a.tmps.getD i undef)) {t e : TypeId} {m : Nat} {ps : Array (Nat × Operand)} (ho : o.op = .buildSlice t m ps) (ht : P.underlying t = some (.slice e)) {z : V} (hz : zeroV P e = some z) (hs : size? P e = some z.cells.length) (hsm : 0 < z.cells.length ∧ z.cells.length ≤ 512) (hm : m ≤ 4096) (hp : z.cells.all pure? = true) {qs : List (Nat × Am.X)} (hq : sliceParts ps.toList = some qs) {y : V} (hv : vop (objAt Hs) T (.bslice z.cells m qs) = some y) : Val P w g n Hs a o y := by
  simp only [vop] at hv
  obtain ⟨l, hl, rfl⟩ := Option.map_eq_some_iff.1 hv
  obtain ⟨zv, hzi, hzv⟩ := Option.bind_eq_some_iff.1 hz
  obtain ⟨i, hi, hzz⟩ := Option.bind_eq_some_iff.1 hzi
  have hzs := toV_sound (w := w) (g := g) hzv (n + 1)
  have hzero : (zeroValue e).run P w = .ok zv w := by simp [zeroValue, typeInfo, hi, hzz]
  obtain ⟨r1, r2⟩ := zeros_row hzs.2.2.2.2.1 hp hsm.1 m
  obtain ⟨cells, c1, c2, c3, c4⟩ := fillS_ok hsm.1 (e := e) _ _ _ l _ (sliceParts_sound hT hq) r1 (by rw [r2, List.length_replicate]) hl
  rw [List.length_replicate] at c3
  have hfr := lay_fr hg (n + 1) (n + 1) (.cells cells e) (l.length * z.cells.length) none (fun _ _ e => by cases e)
  have hw : (w.alloc (.cells cells e)).heap[w.heap.size]? = some (.cells cells e (0, 0)) := by rw [heap_alloc, if_pos rfl]
  have hcr := RowR.sl (t := .full) (c2.keep hfr.keeps) hsm.1 hw (by simp [Gh.lay]) (Nat.le_refl _) rfl
  refine ⟨.slice (some ⟨w.heap.size, 0, none⟩) l.length l.length, w.alloc (.cells cells e), g.lay w.heap.size (l.length * z.cells.length) none, ?_, hfr, ⟨hcr, rfl, Lv.free rfl⟩⟩
  have hbig : ¬ (m * z.cells.length > 2 ^ 24) := by
    have : m * z.cells.length ≤ 4096 * 512 := Nat.mul_le_mul hm hsm.2
    omega
  simp only [execOp, ho, Instr.buildSlice, run_underlying ht, run_sizeOf' hs, Sem.run_bind, Sem.run_pure, Result.andThen_ok, if_neg hbig]
  rw [show (Array.map (fun x => match x with | (i, x) => (i, a.eval x)) ps).toList = ps.toList.map (fun p => (p.1, a.eval p.2)) by simp]
  rw [c3]
  by_cases h0 : m * z.cells.length = 0
  · have hm0 : m = 0 := by rcases Nat.mul_eq_zero.1 h0 with h | h <;> omega
    subst hm0
    have : ((Array.range (0 * z.cells.length)).map (fun x => (#[] : Array Value)[x % (#[] : Array Value).size]!)) = ((Array.range (0 * z.cells.length)).map (fun x => zv.cells[x % zv.cells.size]!)) := by simp
    simp only [Nat.zero_mul, if_true, Sem.run_pure, Result.andThen_ok, Sem.run_bind] at this ⊢
    rw [this]
    simp only [Nat.zero_mul] at c1
    rw [c1]
    rfl
  · simp only [if_neg h0, Sem.run_bind, hzero, Sem.run_pure, Result.andThen_ok]
    rw [c1]
    rfl
end
end Go.Proofs.YtlacnkjkcikodaaDoor.Am
end
section
set_option linter.unusedVariables false
set_option linter.unusedSimpArgs false
namespace Go.Proofs.YtlacnkjkcikodaaDoor.Am
open Go
section
variable {P : Program} {w : World} {g : Gh} {n : Nat} {Hs : List Tab} {T : Tm} {a : Act} {o : Go.Oper}
theorem keyOf_spec {kt : TypeId} {c : EK} (h : keyOf? P kt = some c) : (c = .i ∧ ∃ k, P.underlying kt = some (.int k)) ∨ (c = .s ∧ P.underlying kt = some .string) := by
  unfold keyOf? at h
  split at h
  · cases h; exact .inl ⟨rfl, _, ‹_›⟩
  · cases h; exact .inr ⟨rfl, ‹_›⟩
  · cases h
theorem run_checkKey {kt : TypeId} {c : EK} (h : keyOf? P kt = some c) (emp : Bool) (d : Nat) (v : Value) : (Instr.checkKey emp (d + 1) kt v).run P w = .ok () w := by
  rcases keyOf_spec h with ⟨-, k, hk⟩ | ⟨-, hk⟩ <;> simp [Instr.checkKey, run_underlying hk]
theorem same_key {kt : TypeId} {c : EK} (h : keyOf? P kt = some c) {d : TypeDesc} (hd : P.underlying kt = some d) {x y : V} {u v : Value} {b : Bool} (hx : VR w g x u) (hy : VR w g y v) (ha : V.alike c x y = some b) : Instr.sameNow d u v = some b ∧ (b = true → u = v) ∧ (∀ m, Instr.sameBits (m + 1) u u = true) := by
  unfold V.alike at ha
  rcases keyOf_spec h with ⟨rfl, k, hk⟩ | ⟨rfl, hk⟩
  · rw [hk] at hd; cases hd
    split at ha <;> (try contradiction)
    split at ha
    · cases ha
      rename_i e; subst e
      rw [hx.int, hy.int]
      refine ⟨by simp [Instr.sameNow], fun h => ?_, fun m => by simp [Instr.sameBits]⟩
      rw [eq_of_beq h]
    · cases ha
  · rw [hk] at hd; cases hd
    split at ha <;> (try contradiction)
    rename_i s s' _
    cases ha
    rw [hx.str, hy.str]
    refine ⟨by simp [Instr.sameNow, ba_beq], fun h => ?_, fun m => by simp [Instr.sameBits, ba_beq]⟩
    rw [← ba_beq] at h
    have h : (s.data == s'.data) = true := h
    have h := eq_of_beq h
    obtain ⟨s⟩ := s; obtain ⟨s'⟩ := s'
    simp only at h
    rw [h]
theorem findV_sound {kt : TypeId} {c : EK} (h : keyOf? P kt = some c) {d : TypeDesc} (hd : P.underlying kt = some d) {x : V} {u : Value} (hx : VR w g x u) : ∀ {es : List (V × V × Nat)} {es' : List MapEntry} (i : Nat), F2 (EntR w g) es es' → ∀ {r}, findV c x es i = some r →
    match r with
    | none => Instr.findNow d u es' i = some none
    | some (j, v, b) => ∃ e' e, i ≤ j ∧ Instr.findNow d u es' i = some (some (j, e'.val)) ∧ es'[j - i]? = some e' ∧ es[j - i]? = some e ∧ e.2.1 = v ∧ e.2.2 = b ∧ e'.key = u ∧ VR0 w g v e'.val ∧ e'.born = b
  | [], _, i, hf, r, hr => by cases hf; cases hr; rfl
  | e :: es, _, i, hf, r, hr => by
    cases hf with
    | cons he ht =>
      rename_i e' es'
      simp only [findV] at hr
      cases ha : V.alike c x e.1 with
      | none => rw [ha] at hr; cases hr
      | some b =>
        have hk : VR w g e.1 e'.key := he.1.vr (fun l e1 => by rw [e1] at ha; revert ha; unfold V.alike; split <;> simp_all)
        obtain ⟨s1, s2, s3⟩ := same_key h hd hx hk ha
        rw [ha] at hr
        cases b with
        | true =>
          simp only at hr
          cases hr
          refine ⟨e', e, Nat.le_refl _, ?_, by simp, by simp, rfl, rfl, (s2 rfl).symm, he.2.1, he.2.2⟩
          simp [Instr.findNow, s1]
        | false =>
          simp only at hr
          have ih := findV_sound h hd hx (i + 1) ht hr
          have hfn : Instr.findNow d u (e' :: es') i = Instr.findNow d u es' (i + 1) := by simp [Instr.findNow, s1]
          rw [hfn]
          cases r with
          | none => exact ih
          | some p =>
            obtain ⟨j, v, b⟩ := p
            obtain ⟨f', f, i1, i2, i3, i4, i5⟩ := ih
            refine ⟨f', f, by omega, i2, ?_, ?_, i5⟩
            · rw [show j - i = (j - (i + 1)) + 1 by omega, List.getElem?_cons_succ]; exact i3
            · rw [show j - i = (j - (i + 1)) + 1 by omega, List.getElem?_cons_succ]; exact i4
theorem run_findKey {kt : TypeId} {d : TypeDesc} (hd : P.underlying kt = some d) {u : Value} {es : List MapEntry} {r : Option (Nat × Value)} (h : Instr.findNow d u es 0 = some r) : (Instr.findKey kt u es).run P w = .ok r w := by
  simp [Instr.findKey, run_underlying hd, h]
theorem VR0.low_under {x : V} {b : Nat} (h : x.under0 b = true) (hx : ∀ l, x ≠ .tup l) : x.low.under0 b = true := by
  cases x with
  | agg l =>
    simp only [V.low, V.under0, List.all_eq_true, List.mem_map, forall_exists_index, and_imp] at h ⊢
    rintro _ y hy rfl
    exact V.low1_under (h y hy)
  | tup l => exact absurd rfl (hx l)
  | sl l t => rfl
  | _ => exact h
theorem look_sound (hg : GOK w g) (hH : HR w g Hs) (hn : Hs.length = n + 1) (hT : ∀ i, OK w g n Hs (T.get i) (a.tmps.getD i undef)) {t kt et : TypeId} {x z : Operand} {ok : Bool} (ho : o.op = .lookup t x z ok) (ht : P.underlying t = some (.map kt et)) {c : EK} (hk : keyOf? P kt = some c) {zv : V} (hz : zeroV P et = some zv) {X Z : Am.X} (h3 : opd x = some X) (h4 : opd z = some Z) {y : V} (hv : vop (objAt Hs) T (.look c zv ok X Z) = some y) : Val P w g n Hs a o y := by
  have hx := opd_sound hT h3
  have hkey := opd_sound hT h4
  obtain ⟨zval, hzi, hzv⟩ := Option.bind_eq_some_iff.1 hz
  obtain ⟨inf, hi, hzz⟩ := Option.bind_eq_some_iff.1 hzi
  have hzs := toV_sound (w := w) (g := g) hzv (n + 1)
  have hzero : (zeroValue et).run P w = .ok zval w := by simp [zeroValue, typeInfo, hi, hzz]
  obtain ⟨d, hd⟩ : ∃ d, P.underlying kt = some d := by rcases keyOf_spec hk with ⟨-, k, h⟩ | ⟨-, h⟩ <;> exact ⟨_, h⟩
  simp only [vop] at hv
  split at hv
  · cases hv
  · rename_i es hes
    obtain ⟨es', he1, he2, he3⟩ : ∃ es' : Array MapEntry, F2 (EntR w g) es es'.toList ∧ (∀ e ∈ es, e.2.1.under0 (n + 1) = true) ∧ (a.eval x = .map none ∧ es' = #[] ∨ ∃ b ck, a.eval x = .map (some b) ∧ w.heap[b]? = some (.map es' ck)) := by
      unfold mapOf at hes
      split at hes
      · rename_i e
        cases hes
        rw [e] at hx
        have hc : CR w g .nilm (a.eval x) := hx.vr
        refine ⟨#[], .nil, by simp, .inl ⟨?_, rfl⟩⟩
        generalize a.eval x = v at hc
        cases hc; rfl
      · rename_i lv s e
        split at hes
        · rename_i es2 ck hob
          cases hes
          rw [e] at hx
          have hc : CR w g (.map lv s) (a.eval x) := hx.vr
          obtain ⟨hun, b, hmu, hfix, es', hb, hF⟩ := hH.ob lv s _ hob
          have hlv := objAt_lt hob
          refine ⟨es', hF, fun e he => ?_, .inr ⟨b, ck, ?_, hb⟩⟩
          · have := List.all_eq_true.1 hun e he
            rw [Bool.and_eq_true] at this
            exact V.under0_mono (by omega) this.2
          · generalize a.eval x = v at hc
            cases hc with
            | map _ _ b' hm =>
              rw [hmu] at hm; cases hm; rfl
        · cases hes
      · cases hes
    have hfin : ∀ (r : Option (Nat × Value)), Instr.findNow d (a.eval z) es'.toList 0 = some r → (execOp a.eval o).run P w = .ok (.value (let p := match r with | some (_, v) => (v, true) | none => (zval, false); if ok then .tuple #[p.1, .bool p.2] else p.1)) w := by
      intro r hr
      rcases he3 with ⟨he3, rfl⟩ | ⟨b, ck, he3, hb⟩
      · have hr2 : r = none := by simpa [Instr.findNow] using hr.symm
        subst hr2
        simp only [execOp, ho, he3, Instr.lookup, run_underlying ht, Sem.run_bind, Sem.run_pure, Result.andThen_ok, run_checkKey hk, run_findKey hd hr, hzero]
      · simp only [execOp, ho, he3, Instr.lookup, run_underlying ht, Sem.run_bind, Sem.run_pure, Result.andThen_ok, getObj, Sem.run, hb, run_checkKey hk, run_findKey hd hr]
        cases r with
        | none => simp only [Sem.run_bind, hzero, Result.andThen_ok, Sem.run_pure]
        | some p => obtain ⟨j, v⟩ := p; (try simp only [Sem.run_pure, Result.andThen_ok]); (try rfl)
    split at hv
    · cases hv
    · rename_i j v b hfv
      obtain ⟨e', e, h1, h2, h3', h4', h5, h6, h7, h8, h9⟩ := findV_sound hk hd hkey.vr 0 he1 hfv
      have hvu : v.under0 (n + 1) = true := by
        have := he2 e (List.mem_of_getElem? h4')
        rw [h5] at this; exact this
      have hvt : ∀ l, v ≠ .tup l := fun l e1 => by rw [e1] at h8; exact CR.not_tup h8
      have hlt : ∀ l, v.low ≠ .tup l := fun l e1 => by cases v <;> simp [V.low, V.low1] at e1; exact hvt _ rfl
      have hlu := VR0.low_under hvu hvt
      cases hv
      refine Val.now hg (hfin _ h2) ?_
      cases ok with
      | true => exact ⟨⟨[e'.val, .bool true], rfl, .cons h8.low (.cons (CR.bool _) .nil)⟩, by (show (v.low.under0 (n + 1) && true) = true); rw [hlu]; rfl, Lv.free rfl⟩
      | false =>
        refine ⟨h8.low.vr hlt, ?_, Lv.free (V.low_free _)⟩
        show v.low.under (n + 1) = true
        unfold V.under
        split
        · rename_i l e; exact absurd e (hlt l)
        · exact hlu
    · rename_i hfv
      have h2 := findV_sound hk hd hkey.vr 0 he1 hfv
      cases hv
      refine Val.now hg (hfin _ h2) ?_
      cases ok with
      | true => exact ⟨⟨[zval, .bool false], rfl, .cons hzs.1 (.cons (CR.bool _) .nil)⟩, by (show (zv.under0 (n + 1) && true) = true); rw [hzs.2.1]; rfl, Lv.free rfl⟩
      | false =>
        refine ⟨hzs.1.vr hzs.2.2.2.1, ?_, Lv.free hzs.2.2.1⟩
        show zv.under (n + 1) = true
        unfold V.under
        split
        · exact absurd rfl (hzs.2.2.2.1 _)
        · exact hzs.2.1
end
end Go.Proofs.YtlacnkjkcikodaaDoor.Am
end
section
set_option linter.unusedVariables false
set_option linter.unusedSimpArgs false
set_option linter.constructorNameAsVariable false
namespace Go.Proofs.YtlacnkjkcikodaaDoor.Am
open Go
section
variable {P : Program} {w : World} {g : Gh} {n : Nat} {Hs : List Tab} {T : Tm} {a : Act} {o : Go.Oper}
theorem fieldOf_spec {t : TypeId} {f off s : Nat} {ag : Bool} (h : fieldOf P t f = some (off, s, ag)) : ∃ fs fd, P.underlying t = some (.struct fs) ∧ fs[f]? = some fd ∧ fd.offset = off ∧ size? P fd.type = some s ∧ agg? P fd.type = some ag ∧ (ag = false → s = 1) := by
  unfold fieldOf at h
  split at h
  · rename_i fs hu
    split at h
    · rename_i fd hfd
      split at h
      · rename_i s' ag' hs ha
        split at h
        · cases h
        · rename_i hne
          simp only [Option.some.injEq, Prod.mk.injEq] at h
          obtain ⟨rfl, rfl, rfl⟩ := h
          refine ⟨fs, fd, hu, hfd, rfl, hs, ha, fun e => ?_⟩
          subst e
          have : ¬s' = 0 ∧ s' = 1 := by simpa using hne
          exact this.2
      · cases h
    · cases h
  · cases h
theorem small_spec {e : TypeId} (h : small? P e = true) : ∃ i, P.info? e = some i ∧ 0 < i.bytes ∧ i.bytes ≤ 4096 ∧ 0 < i.size ∧ i.size ≤ 512 := by
  unfold small? at h
  split at h
  · rename_i i hi
    simp only [Bool.and_eq_true, decide_eq_true_eq] at h
    exact ⟨i, hi, h.1.1.1, h.1.1.2, h.1.2, h.2⟩
  · cases h
theorem vop_sound (hg : GOK w g) (hH : HR w g Hs) (hn : Hs.length = n + 1) (hT : ∀ i, OK w g n Hs (T.get i) (a.tmps.getD i undef)) {eff : List FuncId} {par : Bool} {op : AOp} (ho : opOf P eff par o = some op) {y : V} (hv : vop (objAt Hs) T op = some y) : Val P w g n Hs a o y := by
  unfold opOf at ho
  split at ho
  · rename_i x e
    obtain ⟨X, hX, rfl⟩ := Option.map_eq_some_iff.1 ho
    exact mv_sound hg hT (.inl e) hX hv
  · rename_i x e
    obtain ⟨X, hX, rfl⟩ := Option.map_eq_some_iff.1 ho
    exact mv_sound hg hT (.inr e) hX hv
  · rename_i c x z e
    split at ho
    · cases ho; exact pick_sound hg hT e ‹_› ‹_› ‹_› hv
    · cases ho
  · obtain ⟨X, hX, rfl⟩ := Option.map_eq_some_iff.1 ho
    simp [vop] at hv
  · obtain ⟨X, hX, rfl⟩ := Option.map_eq_some_iff.1 ho
    simp [vop] at hv
  · rename_i t ps e
    split at ho
    · split at ho
      · rename_i h1 h2 h3
        cases ho
        unfold fields? at h3
        split at h3
        · rename_i fs hu
          exact build_sound hg hT e hu (fun fd hfd => List.all_eq_true.1 h3 fd (by simpa using hfd)) h1 h2 hv
        · cases h3
      · cases ho
    · cases ho
  · rename_i t m ps e
    split at ho
    · rename_i el he
      split at ho
      · rename_i z qs hz hq
        split at ho
        · rename_i hc
          cases ho
          simp only [Bool.and_eq_true, decide_eq_true_eq, beq_iff_eq] at hc
          obtain ⟨i, hi, h1, h2, h3, h4⟩ := small_spec hc.1.1.1
          have hs : size? P el = some i.size := by simp [size?, hi]
          have hsz : i.size = z.cells.length := by have := hs.symm.trans hc.2; exact Option.some.inj this
          have ht : P.underlying t = some (.slice el) := by
            unfold elemOf? at he
            split at he <;> cases he; assumption
          exact bslice_sound hg hT e ht hz hc.2 ⟨by omega, by omega⟩ hc.1.1.2 hc.1.2 hq hv
        · cases ho
      · cases ho
    · cases ho
  · rename_i t x e
    split at ho
    · split at ho
      · rename_i h1 h2 h3 h4
        cases ho
        exact load_sound hg hH hn hT e h1 h2 h3 (fun ha => by subst ha; simpa using h4) hv
      · cases ho
    · cases ho
  · split at ho
    · cases ho; simp [vop] at hv
    · cases ho
  · rename_i x e
    obtain ⟨X, hX, rfl⟩ := Option.map_eq_some_iff.1 ho
    exact nilc_sound hg hT e hX hv
  · rename_i p t x z t' e
    split at ho
    · rename_i k X Z hk hX hZ
      split at ho
      · cases ho; exact bin_sound hg hT e hX hZ hv
      · rename_i hki
        split at ho <;> cases ho
        · exact eqv_sound hg hT e hk ⟨fun h => hki (.inl h), fun h => hki (.inr h)⟩ false rfl hX hZ hv
        · exact eqv_sound hg hT e hk ⟨fun h => hki (.inl h), fun h => hki (.inr h)⟩ true rfl hX hZ hv
    · cases ho
  · rename_i p t x e
    obtain ⟨X, hX, rfl⟩ := Option.map_eq_some_iff.1 ho
    exact un_sound hg hT e hX hv
  · rename_i s d x e
    split at ho
    · cases ho; exact conv_sound hg hT e ‹_› ‹_› ‹_› hv
    · cases ho; exact same_sound hg hT e ‹_› ‹_› ‹_› hv
    · split at ho
      · cases ho; exact tostr_sound hg hT e ‹_› ‹_› ‹_› ‹_› hv
      · cases ho
    · cases ho
  · rename_i f cs e
    obtain ⟨Xs, hX, rfl⟩ := Option.map_eq_some_iff.1 ho
    exact mkf_sound hg hT e hX hv
  · split at ho
    · cases ho; simp [vop] at hv
    · cases ho
  · split at ho
    · split at ho
      · split at ho
        · cases ho; simp [vop] at hv
        · cases ho
      · cases ho
    · cases ho
  · rename_i t x lo hi mx e
    split at ho
    · rename_i h1 h2 h3 h4 h5
      cases ho
      obtain rfl : mx = none := by
        cases mx with
        | none => rfl
        | some m => obtain ⟨_, _, h⟩ := Option.map_eq_some_iff.1 h5; cases h
      exact slS_sound hg hT e h1 h2 h3 h4 hv
    · rename_i el h1 h2 h3 h4 h5
      split at ho
      · rename_i s hs
        split at ho
        · cases ho
        · rename_i hc
          cases ho
          refine sl_sound hg hT e h1 hs h2 h3 h4 h5 (fun hm => ?_) hv
          cases hi with
          | some x => rfl
          | none =>
            cases h4
            obtain ⟨m, rfl⟩ := Option.isSome_iff_exists.1 hm
            obtain ⟨Y, hY, rfl⟩ := Option.map_eq_some_iff.1 h5
            simp at hc
      · cases ho
    · cases ho
  · rename_i t x f e
    split at ho
    · cases ho; exact fld_sound hg hT e ‹_› ‹_› hv
    · cases ho
  · rename_i t x f e
    split at ho
    · rename_i h1 h2
      cases ho
      obtain ⟨fs, fd, hu, hfd, rfl, hs, ha, h1'⟩ := fieldOf_spec h1
      exact fldv_sound hg hT e hu hfd hs ha h1' h2 hv
    · cases ho
  · rename_i t x i e
    split at ho
    · rename_i el X I he hX hI
      obtain ⟨s, hs, rfl⟩ := Option.map_eq_some_iff.1 ho
      have ht : P.underlying t = some (.slice el) := by
        unfold elemOf? at he
        split at he <;> cases he; assumption
      exact ixa_sound hg hT e ht hs hX hI hv
    · cases ho
  · rename_i t x i e
    split at ho
    · cases ho; exact ixs_sound hg hT e ‹_› ‹_› ‹_› hv
    · cases ho
  · rename_i t m k ok e
    split at ho
    · split at ho
      · cases ho; exact look_sound hg hH hn hT e ‹_› ‹_› ‹_› ‹_› ‹_› hv
      · cases ho
    · cases ho
  · split at ho
    · obtain ⟨s, hs, rfl⟩ := Option.map_eq_some_iff.1 ho; simp [vop] at hv
    · cases ho
  · split at ho
    · split at ho
      · cases ho; simp [vop] at hv
      · cases ho
    · cases ho
  · split at ho
    · cases ho; simp [vop] at hv
    · cases ho
  · rename_i x i e
    obtain ⟨X, hX, rfl⟩ := Option.map_eq_some_iff.1 ho
    exact ext_sound hg hT e hX hv
  · rename_i b args ats e
    split at ho
    · split at ho
      · split at ho
        · split at ho
          · cases ho; simp [vop] at hv
          · cases ho
        · cases ho
      · cases ho
    · rename_i x t hx hts
      have hts2 : ats = #[t] := by apply Array.ext'; simpa using hts
      obtain ⟨xo, hxo⟩ : ∃ xo, args.toList = [xo] := by
        match h : args.toList, hx with
        | [xo], _ => exact ⟨xo, rfl⟩
        | [], hx => cases hx
        | xo :: y :: r, hx =>
          exfalso
          simp only [opds] at hx
          split at hx
          · rename_i h1 h2; split at h2 <;> cases h2; cases hx
          · cases hx
      have hargs : args = #[xo] := by apply Array.ext'; simpa using hxo
      have hX : opd xo = some x := by
        rw [hxo] at hx
        simp only [opds] at hx
        split at hx
        · rename_i h1 h2; cases h2; cases hx; exact h1
        · cases hx
      subst hts2 hargs
      split at ho <;> cases ho
      · exact len_sound hg hH hT e (by assumption) hX hv
      · exact len_sound hg hH hT e (k := .sl) ⟨_, ‹_›⟩ hX hv
      · exact len_sound hg hH hT e (k := .m) ⟨_, _, ‹_›⟩ hX hv
    · cases ho; exact min_sound hg hT e ‹_› hv
    · cases ho; exact max_sound hg hT e ‹_› hv
    · split at ho
      · obtain ⟨s, hs, rfl⟩ := Option.map_eq_some_iff.1 ho; simp [vop] at hv
      · cases ho
    · cases ho
  · split at ho
    · cases ho; simp [vop] at hv
    · cases ho
  · cases ho
end
end Go.Proofs.YtlacnkjkcikodaaDoor.Am
end
section
set_option linter.unusedVariables false
set_option linter.unusedSimpArgs false
set_option linter.constructorNameAsVariable false
namespace Go.Proofs.YtlacnkjkcikodaaDoor.Am
open Go
structure KeepsX (n : Nat) (ds : List Nat) (w : World) (g : Gh) (w' : World) (g' : Gh) : Prop where
  fix : ∀ b, b < w.heap.size → g.fix b ≤ g'.fix b
  cell : ∀ b o, b < w.heap.size → o < g.fix b → w'.cell? ⟨b, o, none⟩ = w.cell? ⟨b, o, none⟩
  mu : ∀ lv s, lv < n + 1 → hitB n ds lv s = false → g'.mu lv s = g.mu lv s
theorem KeepsX.keeps {n : Nat} {ds : List Nat} {w w' : World} {g g' : Gh} (h : KeepsX n ds w g w' g') : Keeps n w g w' g' :=
  ⟨h.fix, h.cell, fun lv s b hl e => (h.mu lv s (by omega) (by unfold hitB; rw [nbeq (by omega : lv ≠ n)]; rfl)).trans e⟩
theorem cap_cases {x : V} {n : Nat} {ds : List Nat} (h : x.hit n ds = false) : (∀ lv s, (∃ off, x = .ptr lv s off) ∨ (∃ off m, x = .row lv s off m) ∨ x = .map lv s → hitB n ds lv s = false) ∧ ∀ f c l, x ≠ .fn f (c :: l) := by
  cases x <;> simp_all [V.hit]
  rename_i f caps; cases caps <;> simp_all
section
variable {n : Nat} {ds : List Nat} {w w' : World} {g g' : Gh}
theorem CR.nohit (hk : KeepsX n ds w g w' g') {x : V} {v : Value} (h : CR w g x v) (hu : x.capU (n + 1) = true) (hh : x.hit n ds = false) : CR w' g' x v := by
  obtain ⟨h1, h2⟩ := cap_cases hh
  cases h with
  | ptr lv s off b h => exact .ptr lv s off b ((hk.mu lv s (by simpa [V.capU, Nat.blt_eq] using hu) (h1 lv s (.inl ⟨_, rfl⟩))).trans h)
  | row lv s off m c b h hc => exact .row lv s off m c b ((hk.mu lv s (by simpa [V.capU, Nat.blt_eq] using hu) (h1 lv s (.inr (.inl ⟨_, _, rfl⟩)))).trans h) hc
  | map lv s b h => exact .map lv s b ((hk.mu lv s (by simpa [V.capU, Nat.blt_eq] using hu) (h1 lv s (.inr (.inr rfl)))).trans h)
  | fn f caps cs hl h =>
    cases caps with
    | nil => exact .fn f [] cs hl (by simp)
    | cons c l => exact absurd rfl (h2 f c l)
  | bool b => exact .bool b
  | int k n => exact .int k n
  | flt k b => exact .flt k b
  | str s => exact .str s
  | nilp => exact .nilp
  | nilf => exact .nilf
  | nilm => exact .nilm
  | undef => exact .undef
  | any v => exact .any v
  | sl l t A c sz vs hc hn ht hp hz hd ha hr => exact (CR.sl l t A c sz vs hc hn ht hp hz hd ha hr).keep hk.keeps rfl
  | elp l i off c a x h hx ho => exact (CR.elp l i off c a x h hx ho).keep hk.keeps rfl
theorem CR.killed (hk : KeepsX n ds w g w' g') {x : V} {v : Value} (h : CR w g x v) (hu : x.under1 (n + 1) = true) : CR w' g' (x.kill1 n ds) v := by
  cases x with
  | ptr lv s off =>
    simp only [V.kill1]
    cases hh : hitB n ds lv s with
    | true => exact .any _
    | false => exact CR.nohit hk h hu hh
  | row lv s off m =>
    simp only [V.kill1]
    cases hh : hitB n ds lv s with
    | true => exact .any _
    | false => exact CR.nohit hk h hu hh
  | map lv s =>
    simp only [V.kill1]
    cases hh : hitB n ds lv s with
    | true => exact .any _
    | false => exact CR.nohit hk h hu hh
  | fn f caps =>
    simp only [V.kill1]
    cases hh : caps.any (V.hit n ds) with
    | true => exact .any _
    | false =>
      cases h with
      | fn _ _ cs hl h =>
        refine .fn f caps cs hl fun i x v hx hv => ?_
        have hm := List.mem_of_getElem? hx
        refine CR.nohit hk (h i x v hx hv) (List.all_eq_true.1 hu x hm) ?_
        cases h3 : x.hit n ds with
        | false => rfl
        | true => rw [List.any_eq_true.2 ⟨x, hm, h3⟩] at hh; cases hh
  | sl l t =>
    refine (CR.retag h fun A c _ ht => ?_).keep hk.keeps rfl
    cases t with
    | own s => simp only [Tag.kill]; cases ds.contains s <;> trivial
    | cell lv s c' => simp only [Tag.kill]; cases hitB n ds lv s <;> trivial
    | _ => exact ht
  | elp l i off => exact h.keep hk.keeps rfl
  | agg l => exact h.not_agg.elim
  | tup l => exact h.not_tup.elim
  | bool b => exact h.keep hk.keeps rfl
  | int k m => exact h.keep hk.keeps rfl
  | flt k b => exact h.keep hk.keeps rfl
  | str s => exact h.keep hk.keeps rfl
  | nilp => exact h.keep hk.keeps rfl
  | nilf => exact h.keep hk.keeps rfl
  | nilm => exact h.keep hk.keeps rfl
  | undef => exact h.keep hk.keeps rfl
  | any => exact .any _
theorem V.kill1_under {x : V} {b : Nat} (h : x.under1 b = true) : (x.kill1 n ds).under1 b = true := by
  cases x with
  | ptr lv s off => simp only [V.kill1]; cases hitB n ds lv s <;> first | exact h | rfl
  | row lv s off m => simp only [V.kill1]; cases hitB n ds lv s <;> first | exact h | rfl
  | map lv s => simp only [V.kill1]; cases hitB n ds lv s <;> first | exact h | rfl
  | fn f cs => simp only [V.kill1]; cases cs.any (V.hit n ds) <;> first | exact h | rfl
  | _ => exact h
theorem V.kill1_agg {x : V} (h : ∀ l, x ≠ .agg l) (l : List V) : x.kill1 n ds ≠ .agg l := by
  cases x with
  | ptr lv s off => simp only [V.kill1]; cases hitB n ds lv s <;> simp
  | row lv s off m => simp only [V.kill1]; cases hitB n ds lv s <;> simp
  | map lv s => simp only [V.kill1]; cases hitB n ds lv s <;> simp
  | fn f cs => simp only [V.kill1]; cases cs.any (V.hit n ds) <;> simp
  | agg m => exact absurd rfl (h m)
  | _ => simp [V.kill1]
theorem V.kill1_tup {x : V} (h : ∀ l, x ≠ .tup l) (l : List V) : x.kill1 n ds ≠ .tup l := by
  cases x with
  | ptr lv s off => simp only [V.kill1]; cases hitB n ds lv s <;> simp
  | row lv s off m => simp only [V.kill1]; cases hitB n ds lv s <;> simp
  | map lv s => simp only [V.kill1]; cases hitB n ds lv s <;> simp
  | fn f cs => simp only [V.kill1]; cases cs.any (V.hit n ds) <;> simp
  | tup m => exact absurd rfl (h m)
  | _ => simp [V.kill1]
theorem V.kill0_eq {x : V} (h : ∀ l, x ≠ .agg l) : x.kill0 n ds = x.kill1 n ds := by cases x <;> first | rfl | exact absurd rfl (h _)
theorem V.kill_eq {x : V} (h : ∀ l, x ≠ .tup l) : x.kill n ds = x.kill0 n ds := by cases x <;> first | rfl | exact absurd rfl (h _)
theorem V.under0_eq {x : V} {b : Nat} (h : ∀ l, x ≠ .agg l) : x.under0 b = x.under1 b := by cases x <;> first | rfl | exact absurd rfl (h _)
theorem V.under_eq {x : V} {b : Nat} (h : ∀ l, x ≠ .tup l) : x.under b = x.under0 b := by cases x <;> first | rfl | exact absurd rfl (h _)
theorem VR0_eq {x : V} {v : Value} (h : ∀ l, x ≠ .agg l) : VR0 w g x v = CR w g x v := by cases x <;> first | rfl | exact absurd rfl (h _)
theorem VR_eq {x : V} {v : Value} (h : ∀ l, x ≠ .tup l) : VR w g x v = VR0 w g x v := by cases x <;> first | rfl | exact absurd rfl (h _)
theorem V.kill0_tup {x : V} (h : ∀ l, x ≠ .tup l) (l : List V) : x.kill0 n ds ≠ .tup l := by
  by_cases ha : ∃ m, x = .agg m
  · obtain ⟨m, rfl⟩ := ha; simp [V.kill0]
  · rw [V.kill0_eq fun m e => ha ⟨m, e⟩]; exact V.kill1_tup h l
theorem VR0.killed (hk : KeepsX n ds w g w' g') {x : V} {v : Value} (h : VR0 w g x v) (hu : x.under0 (n + 1) = true) : VR0 w' g' (x.kill0 n ds) v := by
  by_cases ha : ∃ m, x = .agg m
  · obtain ⟨m, rfl⟩ := ha
    obtain ⟨vs, rfl, hc⟩ := h
    exact ⟨vs, rfl, F2.map _ hc fun a b ha hr => hr.killed hk (List.all_eq_true.1 hu a ha)⟩
  · have ha : ∀ l, x ≠ .agg l := fun l e => ha ⟨l, e⟩
    rw [VR0_eq ha] at h
    rw [V.under0_eq ha] at hu
    rw [V.kill0_eq ha, VR0_eq (V.kill1_agg ha)]
    exact h.killed hk hu
theorem VR.killed (hk : KeepsX n ds w g w' g') {x : V} {v : Value} (h : VR w g x v) (hu : x.under (n + 1) = true) : VR w' g' (x.kill n ds) v := by
  by_cases ha : ∃ m, x = .tup m
  · obtain ⟨m, rfl⟩ := ha
    obtain ⟨vs, rfl, hc⟩ := h
    exact ⟨vs, rfl, F2.map _ hc fun a b ha hr => hr.killed hk (List.all_eq_true.1 hu a ha)⟩
  · have ha : ∀ l, x ≠ .tup l := fun l e => ha ⟨l, e⟩
    rw [VR_eq ha] at h
    rw [V.under_eq ha] at hu
    rw [V.kill_eq ha, VR_eq (V.kill0_tup ha)]
    exact h.killed hk hu
theorem V.kill0_under {x : V} {b : Nat} (h : x.under0 b = true) : (x.kill0 n ds).under0 b = true := by
  by_cases ha : ∃ m, x = .agg m
  · obtain ⟨m, rfl⟩ := ha
    simp only [V.kill0, V.under0, List.all_eq_true, List.mem_map, forall_exists_index, and_imp] at h ⊢
    rintro _ z hz rfl
    exact V.kill1_under (h z hz)
  · have ha : ∀ l, x ≠ .agg l := fun l e => ha ⟨l, e⟩
    rw [V.under0_eq ha] at h
    rw [V.kill0_eq ha, V.under0_eq (V.kill1_agg ha)]
    exact V.kill1_under h
theorem V.kill_under {x : V} {b : Nat} (h : x.under b = true) : (x.kill n ds).under b = true := by
  by_cases ha : ∃ m, x = .tup m
  · obtain ⟨m, rfl⟩ := ha
    simp only [V.kill, V.under, List.all_eq_true, List.mem_map, forall_exists_index, and_imp] at h ⊢
    rintro _ z hz rfl
    exact V.kill0_under (h z hz)
  · have ha : ∀ l, x ≠ .tup l := fun l e => ha ⟨l, e⟩
    rw [V.under_eq ha] at h
    rw [V.kill_eq ha, V.under_eq (V.kill0_tup ha)]
    exact V.kill0_under h
theorem ObR.killed (hk : KeepsX n ds w g w' g') {b : Nat} (hb : w'.heap[b]? = w.heap[b]?) {o : Ob} (h : ObR w g b o) (hu : o.under (n + 1) = true) : ObR w' g' b (o.kill n ds) := by
  cases o with
  | cells l =>
    obtain ⟨cs, e, h1, h2⟩ := h
    exact ⟨cs, e, hb.trans h1, F2.map _ h2 fun a b ha hr => hr.killed hk (List.all_eq_true.1 hu a ha)⟩
  | map es clock =>
    obtain ⟨es', h1, h2⟩ := h
    refine ⟨es', hb.trans h1, F2.map _ h2 fun a b ha hr => ?_⟩
    have hu2 := List.all_eq_true.1 hu a ha
    rw [Bool.and_eq_true] at hu2
    exact ⟨hr.1.killed hk hu2.1, hr.2.1.killed hk hu2.2, hr.2.2⟩
theorem Ob.kill_under {o : Ob} {b : Nat} (h : o.under b = true) : (o.kill n ds).under b = true := by
  cases o with
  | cells l =>
    simp only [Ob.kill, Ob.under, List.all_eq_true, List.mem_map, forall_exists_index, and_imp] at h ⊢
    rintro _ z hz rfl
    exact V.kill1_under (h z hz)
  | map es c =>
    simp only [Ob.kill, Ob.under, List.all_eq_true, List.mem_map, forall_exists_index, and_imp, Bool.and_eq_true] at h ⊢
    rintro _ z hz rfl
    exact ⟨V.kill0_under (h z hz).1, V.kill0_under (h z hz).2⟩
theorem Tab.get_kill (L : Tab) (s : Nat) : (L.kill n ds).get s = (L.get s).map (Ob.kill n ds) := by
  induction L with
  | nil => rfl
  | cons p r ih =>
    obtain ⟨j, o⟩ := p
    simp only [Tab.kill, Tab.get]
    cases Nat.beq s j <;> simp [ih]
end
end Go.Proofs.YtlacnkjkcikodaaDoor.Am
end
section
set_option linter.unusedVariables false
set_option linter.unusedSimpArgs false
set_option linter.constructorNameAsVariable false
namespace Go.Proofs.YtlacnkjkcikodaaDoor.Am
open Go
def Gh.make (g : Gh) (n d b : Nat) : Gh := { pin := g.pin, mu := fun lv s => if lv = n ∧ s = d then some b else g.mu lv s, fix := fun x => if x = b then 0 else g.fix x, owner := g.owner }
theorem hitB_one {n d lv s : Nat} : hitB n [d] lv s = decide (lv = n ∧ s = d) := by
  unfold hitB
  by_cases h1 : lv = n
  · subst h1
    by_cases h2 : s = d
    · subst h2; simp
    · simp [h2, Ne.symm h2]
  · rw [nbeq h1]; simp [h1]
section
variable {w : World} {g : Gh} {n d : Nat}
theorem make_fr (hg : GOK w g) (lk : Nat) (ob : Obj) (hlk : lk ≤ n := by first | assumption | omega) : Fr lk n w g (w.alloc ob) (g.make n d w.heap.size) ∧ KeepsX n [d] w g (w.alloc ob) (g.make n d w.heap.size) ∧ ∀ b, b < w.heap.size → (w.alloc ob).heap[b]? = w.heap[b]? ∧ (g.make n d w.heap.size).fix b = g.fix b ∧ (g.make n d w.heap.size).owner b = g.owner b := by
  have hsz : (w.alloc ob).heap.size = w.heap.size + 1 := by show (w.heap.push ob).size = _; simp
  have hsame : ∀ b, b < w.heap.size → (w.alloc ob).heap[b]? = w.heap[b]? ∧ (g.make n d w.heap.size).fix b = g.fix b ∧ (g.make n d w.heap.size).owner b = g.owner b := fun b hb => ⟨heap_alloc_lt hb, by simp only [Gh.make]; rw [if_neg (by omega)], rfl⟩
  have hX : KeepsX n [d] w g (w.alloc ob) (g.make n d w.heap.size) := ⟨fun b hb => by rw [(hsame b hb).2.1]; exact Nat.le_refl _, fun b o hb _ => cell_of_heap (hsame b hb).1 o, fun lv s _ hh => by
    rw [hitB_one] at hh
    simp only [Gh.make]
    rw [if_neg (by simpa using hh)]⟩
  refine ⟨⟨by omega, hX.keeps, fun b hb _ => hsame b hb, fun lv s b h => ?_, fun lv s hl => by simp only [Gh.make]; rw [if_neg (by omega)], fun _ _ _ _ h => h, ⟨fun lv s lv' s' b h h' => ?_, fun lv s b h => ?_, fun b k h => ?_, fun b o h => ?_⟩, rfl, rfl, rfl⟩, hX, hsame⟩
  · simp only [Gh.make] at h
    split at h
    · cases h; exact .inr (Nat.le_refl _)
    · exact .inl h
  · simp only [Gh.make] at h h'
    split at h <;> split at h'
    · rename_i h1 h2; omega
    · cases h; have := hg.lt _ _ _ h'; omega
    · cases h'; have := hg.lt _ _ _ h; omega
    · exact hg.inj _ _ _ _ _ h h'
  · simp only [Gh.make] at h
    split at h
    · cases h; omega
    · have := hg.lt _ _ _ h; omega
  · have := hg.ow b k h
    refine ⟨by omega, fun lv s hm => ?_⟩
    simp only [Gh.make] at hm
    split at hm
    · cases hm; omega
    · exact this.2 lv s hm
  · obtain ⟨h1, h2, h3⟩ := hg.pin b o h
    have hb := heap_lt h1
    refine ⟨(hsame b hb).1.trans h1, h2, fun lv s hm => ?_⟩
    simp only [Gh.make] at hm
    split at hm
    · cases hm; omega
    · exact h3 lv s hm
end
theorem kill_own {n : Nat} {ds : List Nat} {x : V} {l : List V} {s : Nat} (h : x.kill n ds = .sl l (.own s)) : x = .sl l (.own s) := by
  have h1 : ∀ m, x ≠ .tup m := fun m e => by subst e; cases h
  have h2 : ∀ m, x ≠ .agg m := fun m e => by subst e; cases h
  rw [V.kill_eq h1, V.kill0_eq h2] at h
  cases x with
  | sl l' t =>
    simp only [V.kill1, V.sl.injEq] at h
    obtain ⟨rfl, h⟩ := h
    cases t with
    | own s' => simp only [Tag.kill] at h; cases hd : ds.contains s' <;> rw [hd] at h <;> cases h; rfl
    | cell a b c => simp only [Tag.kill] at h; cases hd : hitB n ds a b <;> rw [hd] at h <;> cases h
    | _ => cases h
  | ptr lv s' off => simp only [V.kill1] at h; cases hd : hitB n ds lv s' <;> rw [hd] at h <;> cases h
  | row lv s' off m => simp only [V.kill1] at h; cases hd : hitB n ds lv s' <;> rw [hd] at h <;> cases h
  | map lv s' => simp only [V.kill1] at h; cases hd : hitB n ds lv s' <;> rw [hd] at h <;> cases h
  | fn f cs => simp only [V.kill1] at h; cases hd : cs.any (V.hit n ds) <;> rw [hd] at h <;> cases h
  | _ => cases h
theorem kill_cell {n : Nat} {ds : List Nat} {x : V} {l : List V} {lv s c : Nat} (h : x.kill n ds = .sl l (.cell lv s c)) : x = .sl l (.cell lv s c) ∧ hitB n ds lv s = false := by
  have h1 : ∀ m, x ≠ .tup m := fun m e => by subst e; cases h
  have h2 : ∀ m, x ≠ .agg m := fun m e => by subst e; cases h
  rw [V.kill_eq h1, V.kill0_eq h2] at h
  cases x with
  | sl l' t =>
    simp only [V.kill1, V.sl.injEq] at h
    obtain ⟨rfl, h⟩ := h
    cases t with
    | own s' => simp only [Tag.kill] at h; cases hd : ds.contains s' <;> rw [hd] at h <;> cases h
    | cell a b c => simp only [Tag.kill] at h; cases hd : hitB n ds a b <;> rw [hd] at h <;> cases h; exact ⟨rfl, hd⟩
    | _ => cases h
  | ptr lv s' off => simp only [V.kill1] at h; cases hd : hitB n ds lv s' <;> rw [hd] at h <;> cases h
  | row lv s' off m => simp only [V.kill1] at h; cases hd : hitB n ds lv s' <;> rw [hd] at h <;> cases h
  | map lv s' => simp only [V.kill1] at h; cases hd : hitB n ds lv s' <;> rw [hd] at h <;> cases h
  | fn f cs => simp only [V.kill1] at h; cases hd : cs.any (V.hit n ds) <;> rw [hd] at h <;> cases h
  | _ => cases h
theorem kill1_held {n : Nat} {ds : List Nat} {x : V} {l : List V} (h : x.kill1 n ds = .sl l .held) : x = .sl l .held := by
  cases x with
  | sl l' t =>
    simp only [V.kill1, V.sl.injEq] at h
    obtain ⟨rfl, h⟩ := h
    cases t with
    | own s' => simp only [Tag.kill] at h; cases hd : ds.contains s' <;> rw [hd] at h <;> cases h
    | cell a b c => simp only [Tag.kill] at h; cases hd : hitB n ds a b <;> rw [hd] at h <;> cases h
    | held => rfl
    | _ => cases h
  | ptr lv s' off => simp only [V.kill1] at h; cases hd : hitB n ds lv s' <;> rw [hd] at h <;> cases h
  | row lv s' off m => simp only [V.kill1] at h; cases hd : hitB n ds lv s' <;> rw [hd] at h <;> cases h
  | map lv s' => simp only [V.kill1] at h; cases hd : hitB n ds lv s' <;> rw [hd] at h <;> cases h
  | fn f cs => simp only [V.kill1] at h; cases hd : cs.any (V.hit n ds) <;> rw [hd] at h <;> cases h
  | _ => cases h
theorem objAt_old {H : List Tab} {L : Tab} {lv s : Nat} (h : lv < H.length) : objAt (H ++ [L]) lv s = (H[lv]?).bind (·.get s) := by
  unfold objAt; rw [List.getElem?_append_left h]
theorem objAt_now {H : List Tab} {L : Tab} {s : Nat} : objAt (H ++ [L]) H.length s = L.get s := by
  unfold objAt; simp
theorem Tab.get_set_if (L : Tab) (i j : Nat) (v : Ob) : (L.set i v).get j = if j = i then some v else L.get j := by
  rw [Tab.get_set]
  by_cases h : j = i
  · subst h; simp
  · simp [nbeq h, h]
theorem Tab.get_del (ds : List Nat) (L : Tab) (s : Nat) : (L.del ds).get s = if ds.contains s then none else L.get s := by
  induction L with
  | nil => simp [Tab.del, Tab.get]
  | cons p r ih =>
    obtain ⟨k, u⟩ := p
    simp only [Tab.del]
    by_cases h : s = k
    · subst h
      cases hc : ds.contains s <;> simp_all [Tab.get]
    · cases hc : ds.contains k <;> simp [Tab.get, nbeq h, ih]
theorem Tm.get_set_if (T : Tm) (i j : Nat) (v : V) : (T.set i v).get j = if j = i then v else T.get j := by
  rw [Tm.get_set]
  by_cases h : j = i
  · subst h; simp
  · simp [nbeq h, h]
theorem make_SR {st : St} {g : Gh} {N : Nat} {a : Act} {w : World} (h : SR st g N a w) {d : Nat} (hd : d < N) {ob : Ob} {x : V} {v : Value} {obj : Obj}
    (hx : VR (w.alloc obj) (g.make st.H.length d w.heap.size) x v) (hxu : x.under (st.H.length + 1) = true) (hxf : x.free = true)
    (hob : ObR (w.alloc obj) (g.make st.H.length d w.heap.size) w.heap.size ob) (hou : ob.under (st.H.length + 1) = true) (hoh : ∀ (cs : List V) (c : Nat) (l : List V), ob = .cells cs → cs[c]? ≠ some (V.sl l .held)) :
    SR { (st.prep [d]) with T := (st.prep [d]).T.set d x, L := (st.prep [d]).L.set d ob } (g.make st.H.length d w.heap.size) N (a.put (some d) v) (w.alloc obj) := by
  obtain ⟨hfr, hX, hsame⟩ := make_fr (n := st.H.length) (d := d) h.gok 0 obj (Nat.zero_le _)
  have hown : ∀ k l v, OwnOK w g k l v → OwnOK (w.alloc obj) (g.make st.H.length d w.heap.size) k l v := fun k l v ho => ho.keep fun b hb => hsame b (h.gok.ow b k hb).1
  have hlen : (st.H ++ [st.L]).length = st.H.length + 1 := by simp
  have hobj : ∀ lv s o, objAt (st.H ++ [((st.L.kill st.H.length [d]).del [d]).set d ob]) lv s = some o → (lv = st.H.length ∧ s = d ∧ o = ob) ∨ (lv < st.H.length ∧ objAt (st.H ++ [st.L]) lv s = some o) ∨ (lv = st.H.length ∧ s ≠ d ∧ ∃ o0, objAt (st.H ++ [st.L]) lv s = some o0 ∧ o = o0.kill st.H.length [d]) := by
    intro lv s o ho
    have hl := objAt_lt ho
    simp only [List.length_append, List.length_singleton] at hl
    rcases Nat.lt_or_ge lv st.H.length with h1 | h1
    · right; left
      refine ⟨h1, ?_⟩
      rw [objAt_old h1] at ho ⊢; exact ho
    · obtain rfl : lv = st.H.length := by omega
      rw [objAt_now, Tab.get_set_if] at ho
      split at ho
      · rename_i e; cases ho; exact .inl ⟨rfl, e, rfl⟩
      · rename_i e
        rw [Tab.get_del, if_neg (by simpa using e), Tab.get_kill] at ho
        obtain ⟨o0, h2, rfl⟩ := Option.map_eq_some_iff.1 ho
        exact .inr (.inr ⟨rfl, e, o0, by rw [objAt_now]; exact h2, rfl⟩)
  have hmu : ∀ lv s, ¬ (lv = st.H.length ∧ s = d) → (g.make st.H.length d w.heap.size).mu lv s = g.mu lv s := fun lv s hn => by simp only [Gh.make]; rw [if_neg hn]
  have hmud : (g.make st.H.length d w.heap.size).mu st.H.length d = some w.heap.size := by simp [Gh.make]
  have hT : ∀ i, ((st.T.mapV (V.kill st.H.length [d])).set d x).get i = if i = d then x else (st.T.get i).kill st.H.length [d] := fun i => by
    rw [Tm.get_set_if, Tm.get_mapV _ rfl]
  have hp := getD_put a d v (by rw [h.n]; exact hd)
  refine ⟨hfr.gok, ⟨fun lv s o ho => ?_, fun lv s cs c l ho hc => ?_⟩, ⟨fun i => ?_, fun i => ?_, fun i l s hi => ?_, fun i l lv s c hi => ?_⟩, by simp [Act.put, h.n], h.df⟩
  · rcases hobj lv s o ho with ⟨rfl, rfl, rfl⟩ | ⟨h1, h2⟩ | ⟨rfl, h1, o0, h2, rfl⟩
    · exact ⟨hou, _, hmud, by simp [Gh.make], hob⟩
    · obtain ⟨hu, b, e1, e2, e3⟩ := h.hr.ob lv s o h2
      have hb := h.gok.lt _ _ _ e1
      exact ⟨hu, b, by rw [hmu lv s (by omega)]; exact e1, (hsame b hb).2.1.trans e2, e3.keep (hX.keeps.mono (m := lv + 1) (by omega)) (hsame b hb).1 hu⟩
    · obtain ⟨hu, b, e1, e2, e3⟩ := h.hr.ob _ s o0 h2
      have hb := h.gok.lt _ _ _ e1
      exact ⟨Ob.kill_under hu, b, by rw [hmu _ s (fun e => h1 e.2)]; exact e1, (hsame b hb).2.1.trans e2, e3.killed hX (hsame b hb).1 hu⟩
  · rcases hobj lv s _ ho with ⟨rfl, rfl, e⟩ | ⟨h1, h2⟩ | ⟨rfl, h1, o0, h2, e⟩
    · exact absurd hc (hoh cs c l e.symm)
    · obtain ⟨b, ccs, e, v, e1, e2, e3, e4⟩ := h.hr.own lv s cs c l h2 hc
      exact ⟨b, ccs, e, v, by rw [hmu lv s (by omega)]; exact e1, (hsame b (h.gok.lt _ _ _ e1)).1.trans e2, e3, hown _ _ _ e4⟩
    · cases o0 with
      | map es ck => cases e
      | cells cs0 =>
        simp only [Ob.kill, Ob.cells.injEq] at e
        subst e
        rw [List.getElem?_map] at hc
        obtain ⟨x0, hx0, hxe⟩ := Option.map_eq_some_iff.1 hc
        have := kill1_held hxe
        subst this
        obtain ⟨b, ccs, e, v, e1, e2, e3, e4⟩ := h.hr.own _ s cs0 c l h2 hx0
        exact ⟨b, ccs, e, v, by rw [hmu _ s (fun e => h1 e.2)]; exact e1, (hsame b (h.gok.lt _ _ _ e1)).1.trans e2, e3, hown _ _ _ e4⟩
  · show VR _ _ (((st.T.mapV (V.kill st.H.length [d])).set d x).get i) _
    rw [hT, hp]
    split
    · exact hx
    · exact (h.tr.v i).killed hX (h.tr.un i)
  · show (((st.T.mapV (V.kill st.H.length [d])).set d x).get i).under _ = true
    rw [hT]
    split
    · exact hxu
    · exact V.kill_under (h.tr.un i)
  · have hi : ((st.T.mapV (V.kill st.H.length [d])).set d x).get i = .sl l (.own s) := hi
    rw [hT] at hi
    rw [hp]
    split at hi
    · subst hi; cases hxf
    · rename_i e; rw [if_neg e]
      exact hown _ _ _ (h.tr.own i l s (kill_own hi))
  · have hi : ((st.T.mapV (V.kill st.H.length [d])).set d x).get i = .sl l (.cell lv s c) := hi
    rw [hT] at hi
    rw [hp]
    split at hi
    · subst hi; cases hxf
    · rename_i e; rw [if_neg e]
      obtain ⟨e1, hh⟩ := kill_cell hi
      obtain ⟨cs, b, ccs, e, f1, f2, f3, f4, f5⟩ := h.tr.cell i l lv s c e1
      rw [hitB_one] at hh
      have hh : ¬ (lv = st.H.length ∧ s = d) := by simpa using hh
      have hlv := objAt_lt f1
      simp only [List.length_append, List.length_singleton] at hlv
      have hb := h.gok.lt _ _ _ f3
      show ∃ cs b ccs e, objAt (st.H ++ [((st.L.kill st.H.length [d]).del [d]).set d ob]) lv s = some (.cells cs) ∧ _
      rcases Nat.lt_or_ge lv st.H.length with h1 | h1
      · refine ⟨cs, b, ccs, e, ?_, f2, by rw [hmu _ _ hh]; exact f3, (hsame b hb).1.trans f4, f5⟩
        rw [objAt_old h1] at f1 ⊢; exact f1
      · obtain rfl : lv = st.H.length := by omega
        refine ⟨cs.map (V.kill1 st.H.length [d]), b, ccs, e, ?_, by rw [List.getElem?_map, f2]; rfl, by rw [hmu _ _ hh]; exact f3, (hsame b hb).1.trans f4, f5⟩
        rw [objAt_now] at f1
        rw [objAt_now, Tab.get_set_if, if_neg (fun e => hh ⟨rfl, e⟩), Tab.get_del, if_neg (by simpa using fun e => hh ⟨rfl, e⟩), Tab.get_kill, f1]; rfl
end Go.Proofs.YtlacnkjkcikodaaDoor.Am
end
section
set_option linter.unusedVariables false
set_option linter.unusedSimpArgs false
set_option linter.constructorNameAsVariable false
namespace Go.Proofs.YtlacnkjkcikodaaDoor.Am
open Go
def StepOK (P : Program) (lk : Nat) (st st' : St) (g : Gh) (N : Nat) (a : Act) (w : World) (o : Go.Oper) : Prop :=
  ∃ nx w' g' a', (execOp a.eval o).run P w = .ok nx w' ∧ ((∃ v, nx = .value v ∧ a' = a.put o.dst v) ∨ (nx = .skip ∧ a' = a.put o.dst undef)) ∧ SR st' g' N a' w' ∧ Fr lk st.H.length w g w' g' ∧ st'.H.length = st.H.length
section
variable {P : Program} {w : World} {g : Gh} {T : Tm} {a : Act}
theorem opd_vr {n : Nat} (hT : ∀ i, VR w g (T.get i) (a.tmps.getD i undef)) (hU : ∀ i, (T.get i).under (n + 1) = true) {x : Operand} {X : Am.X} (h : opd x = some X) : VR w g (X.ev T) (a.eval x) ∧ (X.ev T).under (n + 1) = true := by
  cases x with
  | tmp t => cases h; exact ⟨hT t, hU t⟩
  | const v =>
    obtain ⟨y, h1, rfl⟩ := Option.map_eq_some_iff.1 h
    have := toV_sound (w := w) (g := g) h1 (n + 1)
    exact ⟨this.1.vr this.2.2.2.1, by rw [X.ev, V.under_eq this.2.2.2.1]; exact this.2.1⟩
  | func f => cases h; exact ⟨CR.fn f [] [] rfl (by simp), rfl⟩
  | global f => cases h
end
theorem low1_held {x : V} {l : List V} : x.low1 ≠ .sl l .held := by
  cases x <;> simp [V.low1]
  rename_i t; cases t <;> simp [Tag.low]
theorem V.low_solid {x : V} (h : x.solid = true) : x.low.solid = true := by cases x <;> exact h
theorem low_cells_held {x : V} {c : Nat} {l : List V} : x.solid = true → x.low.cells[c]? ≠ some (.sl l .held) := by
  intro hs h
  cases x with
  | agg m =>
    simp only [V.low, V.cells, List.getElem?_map] at h
    obtain ⟨y, hy, e⟩ := Option.map_eq_some_iff.1 h
    exact low1_held e
  | sl m t =>
    simp only [V.low, V.low1, V.cells] at h
    cases c with
    | zero => simp at h; cases t <;> simp [Tag.low] at h
    | succ c => simp at h
  | tup m => cases hs
  | _ =>
    simp only [V.low, V.low1, V.cells] at h
    cases c <;> simp at h
theorem toV1_held {v : Value} {x : V} (h : toV1 v = some x) (l : List V) : x ≠ .sl l .held := by
  unfold toV1 at h
  split at h <;> cases h <;> simp
theorem toVs_held : ∀ {l : List Value} {xs : List V}, toVs l = some xs → ∀ x ∈ xs, ∀ m, x ≠ .sl m .held
  | [], xs, h => by cases h; simp
  | v :: l, xs, h => by
    simp only [toVs] at h
    split at h
    · rename_i x ys h1 h2
      cases h
      intro y hy m
      rcases List.mem_cons.1 hy with rfl | hy
      · exact toV1_held h1 m
      · exact toVs_held h2 y hy m
    · cases h
theorem toV_held {v : Value} {x : V} (h : toV v = some x) : ∀ y ∈ x.cells, ∀ l, y ≠ .sl l .held := by
  unfold toV at h
  split at h
  · obtain ⟨xs, h1, rfl⟩ := Option.map_eq_some_iff.1 h
    exact toVs_held h1
  · have h1 := toV1_held h
    have h2 := (toV1_under h 0).2.2.2
    cases x <;> first | exact absurd rfl (h2 _) | (intro y hy l; simp only [V.cells, List.mem_singleton] at hy; subst hy; exact h1 l)
theorem newRow_run {P : Program} {w : World} (e : TypeId) (cs : Array Value) : (newRow e cs).run P w = .ok ⟨w.heap.size, 0, none⟩ (w.alloc (.cells cs e)) := rfl
theorem makes_inv {P : Program} {o : Go.Oper} {eff : List FuncId} {par : Bool} {op : AOp} (ho : opOf P eff par o = some op) (hm : makes op = true) :
    (∃ t z, o.op = .alloc t ∧ zeroV P t = some z ∧ op = .alloc z.cells) ∨ (∃ t x X, o.op = .box t x ∧ opd x = some X ∧ op = .box X) ∨ (∃ t k e, o.op = .makeMap t none ∧ P.underlying t = some (.map k e) ∧ op = .mkmap) ∨
    ∃ t e l c z X, o.op = .makeSlice t l c ∧ P.underlying t = some (.slice e) ∧ zeroV P e = some z ∧ opd l = some X ∧ op = .mksl z X ∧ small? P e = true ∧ size? P e = some 1 ∧ sameTmp l c = true ∧ isAggV z = false := by
  unfold opOf at ho
  split at ho
  case h_4 => obtain ⟨X, hX, rfl⟩ := Option.map_eq_some_iff.1 ho; exact .inl ⟨_, _, ‹_›, hX, rfl⟩
  case h_5 => obtain ⟨X, hX, rfl⟩ := Option.map_eq_some_iff.1 ho; exact .inr (.inl ⟨_, _, _, ‹_›, hX, rfl⟩)
  all_goals first
    | (obtain ⟨X, hX, rfl⟩ := Option.map_eq_some_iff.1 ho; cases hm; done)
    | skip
  all_goals first
    | (split at ho <;> first | (cases ho; cases hm; done) | (cases ho; done) | skip)
    | skip
  all_goals first
    | (cases ho; exact .inr (.inr (.inl ⟨_, _, _, ‹_›, ‹_›, rfl⟩)))
    | (obtain ⟨X, hX, rfl⟩ := Option.map_eq_some_iff.1 ho; cases hm; done)
    | (split at ho <;> first | (cases ho; cases hm; done) | (cases ho; done) | skip)
    | (cases ho; done)
  all_goals first
    | (obtain ⟨X, hX, rfl⟩ := Option.map_eq_some_iff.1 ho; cases hm; done)
    | (split at ho <;> first | (cases ho; cases hm; done) | (cases ho; done) | (obtain ⟨X, hX, rfl⟩ := Option.map_eq_some_iff.1 ho; cases hm; done) | skip)
    | (cases ho; done)
  all_goals (try (split at ho <;> first | (cases ho; cases hm; done) | (cases ho; done)))
  rename_i t0 l0 c0 e0 oo el he o1 o2 o3 z X Y hz hX hY hc
  cases ho
  simp only [Bool.and_eq_true, beq_iff_eq, Bool.not_eq_true'] at hc
  have ht : P.underlying t0 = some (.slice el) := by
    unfold elemOf? at he
    split at he <;> cases he; assumption
  exact .inr (.inr (.inr ⟨t0, el, l0, c0, z, X, e0, ht, hz, hX, rfl, hc.1.1.1, hc.1.1.2, hc.1.2, hc.2⟩))
theorem made_at {P : Program} {g : Gh} {a : Act} {w : World} {n : Nat} {T : Tm} {o : Go.Oper} {eff : List FuncId} {par : Bool} {op : AOp} (ho : opOf P eff par o = some op) (hm : makes op = true) {d : Nat} (hT1 : ∀ obj i, VR (w.alloc obj) (g.make n d w.heap.size) (T.get i) (a.tmps.getD i undef)) (hU1 : ∀ i, (T.get i).under (n + 1) = true) {ob : Ob} (hob : made T op = some ob) :
    ∃ obj v, (execOp a.eval o).run P w = .ok (.value v) (w.alloc obj) ∧ VR (w.alloc obj) (g.make n d w.heap.size) (madeV n d op ob) v ∧ (madeV n d op ob).under (n + 1) = true ∧ (madeV n d op ob).free = true ∧ ObR (w.alloc obj) (g.make n d w.heap.size) w.heap.size ob ∧ ob.under (n + 1) = true ∧ ∀ (cs : List V) (c : Nat) (l : List V), ob = .cells cs → cs[c]? ≠ some (V.sl l .held) := by
  have fin : ∀ (cs : Array Value) (e : TypeId) (l : List V) (x : V) (v : Value), ob = .cells l → (execOp a.eval o).run P w = .ok (.value v) (w.alloc (.cells cs e)) → CRs (w.alloc (.cells cs e)) (g.make n d w.heap.size) l cs.toList → l.all (V.under1 (n + 1)) = true → (∀ y ∈ l, ∀ m, y ≠ .sl m .held) → madeV n d op ob = x → VR (w.alloc (.cells cs e)) (g.make n d w.heap.size) x v → x.under (n + 1) = true → x.free = true → ∃ obj v, (execOp a.eval o).run P w = .ok (.value v) (w.alloc obj) ∧ VR (w.alloc obj) (g.make n d w.heap.size) (madeV n d op ob) v ∧ (madeV n d op ob).under (n + 1) = true ∧ (madeV n d op ob).free = true ∧ ObR (w.alloc obj) (g.make n d w.heap.size) w.heap.size ob ∧ ob.under (n + 1) = true ∧ ∀ (cs : List V) (c : Nat) (l : List V), ob = .cells cs → cs[c]? ≠ some (V.sl l .held) := by
    intro cs e l x v hl hrun hcr hun hhd hxe hx hxu hxf
    refine ⟨_, v, hrun, by rw [hxe]; exact hx, by rw [hxe]; exact hxu, by rw [hxe]; exact hxf, ?_, by rw [hl]; exact hun, fun cs c l' e hc => ?_⟩
    · rw [hl]; exact ⟨cs, e, by rw [heap_alloc, if_pos rfl], hcr⟩
    · rw [hl] at e; cases e
      exact hhd _ (List.mem_of_getElem? hc) _ rfl
  have hmu : (g.make n d w.heap.size).mu n d = some w.heap.size := by simp [Gh.make]
  have hpu : ∀ off, (V.ptr n d off).under (n + 1) = true := fun off => by simp [V.under, V.under0, V.under1, Nat.blt_eq]
  rcases makes_inv ho hm with ⟨t, z, e, hz, rfl⟩ | ⟨t, x, X, e, hX, rfl⟩ | ⟨t, kt, et, e, ht, rfl⟩ | ⟨t, el, l, c, z, X, e, ht, hz, hX, rfl, hsm, hs1, hst, hna⟩
  · obtain ⟨zv, hzi, hzv⟩ := Option.bind_eq_some_iff.1 hz
    obtain ⟨i, hi, hzz⟩ := Option.bind_eq_some_iff.1 hzi
    cases hob
    have hzs := toV_sound (w := w.alloc (.cells zv.cells t)) (g := g.make n d w.heap.size) hzv (n + 1)
    refine fin zv.cells t z.cells (.ptr n d 0) (.pointer (some ⟨w.heap.size, 0, none⟩)) rfl ?_ hzs.2.2.2.2.1 hzs.2.2.2.2.2 (toV_held hzv) rfl (CR.ptr _ _ _ _ hmu) (hpu 0) rfl
    have hzero : (zeroValue t).run P w = .ok zv w := by simp [zeroValue, typeInfo, hi, hzz]
    simp only [execOp, e, Instr.alloc, Sem.run_bind, hzero, Sem.run_pure, Result.andThen_ok, newVar, newRow_run]
  · simp only [made] at hob
    split at hob
    case isFalse => cases hob
    rename_i hsol
    cases hob
    obtain ⟨hv, hu⟩ := opd_vr (hT1 (.cells (a.eval x).cells t)) hU1 hX
    have hb := hv.low.cells (V.low_solid hsol)
    have hbu : ((X.ev T).low).cells.all (V.under1 (n + 1)) = true := by
      have h1 := V.low_under hu
      have h2 := V.low_solid hsol
      cases hq : (X.ev T).low <;> rw [hq] at h1 h2 <;> first | (simpa [V.cells, V.under, V.under0] using h1) | cases h2
    refine fin (a.eval x).cells t _ (.ptr n d 0) (.pointer (some ⟨w.heap.size, 0, none⟩)) rfl ?_ hb hbu (fun y hy m e => ?_) rfl (CR.ptr _ _ _ _ hmu) (hpu 0) rfl
    · simp only [execOp, e, Instr.box, Sem.run_bind, Sem.run_pure, Result.andThen_ok, newVar, newRow_run]
    · subst e
      obtain ⟨c, hc⟩ := List.getElem?_of_mem hy
      exact low_cells_held hsol hc
  · cases hob
    have hmk : (execOp a.eval o).run P w = .ok (.value (.map (some w.heap.size))) (w.alloc (.map #[] 0)) := by
      simp only [execOp, e, Instr.makeMap, Option.map_none, Sem.run_bind, Sem.run_pure, Result.andThen_ok, run_newObj]
      rfl
    refine ⟨_, _, hmk, CR.map _ _ _ hmu, by simp [madeV, V.under, V.under0, V.under1, Nat.blt_eq], rfl, ?_, rfl, fun cs c l' e hc => by cases e⟩
    exact ⟨#[], by rw [heap_alloc, if_pos rfl], .nil⟩
  · obtain ⟨zv, hzi, hzv⟩ := Option.bind_eq_some_iff.1 hz
    obtain ⟨i, hi, hzz⟩ := Option.bind_eq_some_iff.1 hzi
    simp only [made] at hob
    split at hob
    case h_2 => cases hob
    rename_i m hXe
    split at hob
    case isFalse => cases hob
    rename_i hm0
    cases hob
    obtain ⟨j, hj1, hj2, hj3, hj4, hj5⟩ := small_spec hsm
    rw [hi] at hj1; cases hj1
    have hl : l = c := by
      unfold sameTmp at hst
      split at hst
      · simp only [beq_iff_eq] at hst; rw [hst]
      · cases hst
    subst hl
    obtain ⟨hv, hu⟩ := opd_vr (hT1 (.cells (Array.replicate m.toNat zv) el)) hU1 hX
    rw [hXe] at hv
    have hlv := hv.int
    have hzs := toV_sound (w := w.alloc (.cells (Array.replicate m.toNat zv) el)) (g := g.make n d w.heap.size) hzv (n + 1)
    have hz1 : zv.cells = #[zv] ∧ z.cells = [z] := by
      refine ⟨?_, by cases z <;> first | rfl | cases hna⟩
      cases zv <;> first | rfl | skip
      unfold toV at hzv
      simp only at hzv
      obtain ⟨xs, -, rfl⟩ := Option.map_eq_some_iff.1 hzv
      cases hna
    have hzc : CR (w.alloc (.cells (Array.replicate m.toNat zv) el)) (g.make n d w.heap.size) z zv := by
      have := hzs.2.2.2.2.1
      rw [hz1.1, hz1.2] at this
      cases this with
      | cons h t => exact h
    refine fin (Array.replicate m.toNat zv) el (List.replicate m.toNat z) (.row n d 0 m.toNat) (.slice (some ⟨w.heap.size, 0, none⟩) m.toNat m.toNat) rfl ?_ ?_ ?_ ?_ (by simp [madeV]) (CR.row _ _ _ _ _ _ hmu (Nat.le_refl _)) (by simp [V.under, V.under0, V.under1, Nat.blt_eq]) rfl
    · have hzero : (zeroValue el).run P w = .ok zv w := by simp [zeroValue, typeInfo, hi, hzz]
      have hti : (typeInfo el).run P w = .ok i w := by simp [typeInfo, hi]
      have hw : IntKind.i64.wrap m = m := IntWalk.i64_in _ (by have := hm0.2; have := hm0.1; unfold appMost at *; omega)
      have hb : ¬ ((i.bytes : Int) * m > 2 ^ 48) := by
        have h1 := hm0.2
        unfold appMost at h1
        have h2 : (i.bytes : Int) * m ≤ 4096 * 1000000000 := Int.mul_le_mul (by omega) (by omega) hm0.1 (by omega)
        omega
      have harr : (Array.range m.toNat).map (fun x => (#[zv] : Array Value)[x % (#[zv] : Array Value).size]!) = Array.replicate m.toNat zv := by
        apply Array.ext (by simp)
        intro k h1 h2
        simp [Nat.mod_one]
      have hs1' : i.size = 1 := by simpa [size?, hi] using hs1
      simp only [execOp, e, Instr.makeSlice, run_underlying ht, asInt, asIntOf, hlv, Sem.run_bind, Sem.run_pure, Result.andThen_ok, hti, hw]
      rw [if_neg (by simp only [Bool.or_eq_true, decide_eq_true_eq, not_or]; omega)]
      simp only [run_askRoom, Result.andThen_ok, run_sizeOf' hs1, Nat.mul_one, Sem.run_bind, Sem.run_pure]
      by_cases h0 : m.toNat = 0
      · rw [if_pos h0]
        simp only [Sem.run_pure, Result.andThen_ok, newRow_run, Sem.run_bind]
        rw [h0]
        simp [Array.range]
      · rw [if_neg h0]
        simp only [Sem.run_bind, hzero, Sem.run_pure, Result.andThen_ok, newRow_run, hz1.1, harr]
    · refine F2.of _ _ (by simp) fun i x v hx hv => ?_
      have h1 := List.mem_of_getElem? hx
      have h2 := List.mem_of_getElem? hv
      simp only [List.mem_replicate] at h1
      simp only [Array.toList_replicate, List.mem_replicate] at h2
      rw [h1.2, h2.2]; exact hzc
    · have := hzs.2.2.2.2.2
      rw [hz1.2] at this
      simp only [List.all_cons, List.all_nil, Bool.and_true] at this
      simp only [List.all_eq_true, List.mem_replicate]
      rintro x ⟨-, rfl⟩; exact this
    · intro y hy m' e
      have h1 := (List.mem_replicate.1 hy).2
      subst h1
      exact toV_held hzv y (by rw [hz1.2]; simp) m' e
theorem made_sound {P : Program} {lk : Nat} {st : St} {g : Gh} {N : Nat} {a : Act} {w : World} (h : SR st g N a w) (hlk : lk ≤ st.H.length) {o : Go.Oper} {eff : List FuncId} {par : Bool} {op : AOp} (ho : opOf P eff par o = some op) (hm : makes op = true) {d : Nat} (hd : o.dst = some d) (hdN : d < N) {ob : Ob} (hob : made (st.prep [d]).T op = some ob) :
    StepOK P lk st { (st.prep [d]) with T := (st.prep [d]).T.set d (madeV st.H.length d op ob), L := (st.prep [d]).L.set d ob } g N a w o := by
  obtain ⟨obj, v, hrun, h1, h2, h3, h4, h5, h6⟩ := made_at (d := d) (T := (st.prep [d]).T) (n := st.H.length) ho hm (fun obj i => by
      show VR _ _ ((st.T.mapV (V.kill st.H.length [d])).get i) _
      rw [Tm.get_mapV _ rfl]; exact (h.tr.v i).killed (make_fr h.gok 0 obj (Nat.zero_le _)).2.1 (h.tr.un i)) (fun i => by
      show ((st.T.mapV (V.kill st.H.length [d])).get i).under _ = true
      rw [Tm.get_mapV _ rfl]; exact V.kill_under (h.tr.un i)) hob
  refine ⟨_, _, g.make st.H.length d w.heap.size, a.put o.dst v, hrun, .inl ⟨v, rfl, rfl⟩, ?_, (make_fr h.gok lk _).1, rfl⟩
  rw [hd]
  exact make_SR h hdN h1 h2 h3 h4 h5 h6
end Go.Proofs.YtlacnkjkcikodaaDoor.Am
end
section
set_option linter.unusedVariables false
set_option linter.unusedSimpArgs false
set_option linter.constructorNameAsVariable false
namespace Go.Proofs.YtlacnkjkcikodaaDoor.Am
open Go
theorem setObj_at {st : St} {lv s : Nat} {o : Ob} (hl : lv < st.H.length + 1) (lv' s' : Nat) : objAt ((st.setObj lv s o).H ++ [(st.setObj lv s o).L]) lv' s' = if lv' = lv ∧ s' = s then some o else objAt (st.H ++ [st.L]) lv' s' := by
  unfold St.setObj
  by_cases h : lv = st.H.length
  · subst h
    simp only [Nat.beq_refl, cond_true]
    by_cases h2 : lv' = st.H.length
    · subst h2
      rw [objAt_now, objAt_now, Tab.get_set_if]
      simp
    · rw [if_neg (fun h => h2 h.1)]
      unfold objAt
      by_cases h3 : lv' < st.H.length
      · rw [List.getElem?_append_left h3, List.getElem?_append_left h3]
      · rw [List.getElem?_eq_none (by simp; omega), List.getElem?_eq_none (by simp; omega)]
  · rw [nbeq h]
    simp only [cond_false]
    have hlen : (st.H.modify lv fun t => t.set s o).length = st.H.length := by simp
    by_cases h3 : lv' < st.H.length
    · rw [objAt_old (by omega), objAt_old h3, List.getElem?_modify]
      by_cases h2 : lv' = lv
      · subst h2
        rw [List.getElem?_eq_getElem h3]
        simp only [if_true, Option.map_eq_map, Option.map_some, Option.bind_some, Tab.get_set_if, true_and]
      · rw [if_neg (fun h => h2 h.1)]
        cases st.H[lv']? <;> simp [Ne.symm h2]
    · rw [if_neg (by omega)]
      by_cases h2 : lv' = st.H.length
      · subst h2
        rw [objAt_now]
        conv => lhs; rw [← hlen]
        rw [objAt_now]
      · unfold objAt
        rw [List.getElem?_eq_none (by simp; omega), List.getElem?_eq_none (by simp; omega)]
theorem setObj_len {st : St} {lv s : Nat} {o : Ob} : (st.setObj lv s o).H.length = st.H.length := by
  unfold St.setObj
  cases Nat.beq lv st.H.length <;> simp
theorem setObj_T {st : St} {lv s : Nat} {o : Ob} : (st.setObj lv s o).T = st.T := by
  unfold St.setObj
  cases Nat.beq lv st.H.length <;> simp
theorem HR_chg {w w' : World} {g g' : Gh} {Hs Hs' : List Tab} {m lv s : Nat} {ob' : Ob} (h : HR w g Hs) (hobj : ∀ lv' s', objAt Hs' lv' s' = if lv' = lv ∧ s' = s then some ob' else objAt Hs lv' s') (hk : Keeps m w g w' g') (hm : Hs.length ≤ m)
    (hoth : ∀ lv' s' o b', ¬(lv' = lv ∧ s' = s) → objAt Hs lv' s' = some o → g.mu lv' s' = some b' → w'.heap[b']? = w.heap[b']? ∧ g'.fix b' = g.fix b')
    (hown : ∀ lv' s' c l v, ¬(lv' = lv ∧ s' = s) → OwnOK w g (.cell lv' s' c) l v → OwnOK w' g' (.cell lv' s' c) l v)
    (hnew : ob'.under (lv + 1) = true ∧ ∃ b, g'.mu lv s = some b ∧ g'.fix b = 0 ∧ ObR w' g' b ob')
    (hheld : ∀ (cs : List V) (c : Nat) (l : List V), ob' = .cells cs → cs[c]? = some (.sl l .held) → ∃ b ccs e v, g'.mu lv s = some b ∧ w'.heap[b]? = some (.cells ccs e (0, 0)) ∧ ccs[c]? = some v ∧ OwnOK w' g' (.cell lv s c) l v) : HR w' g' Hs' := by
  refine ⟨fun lv' s' o ho => ?_, fun lv' s' cs c l ho hc => ?_⟩
  · rw [hobj] at ho
    split at ho
    · rename_i e; obtain ⟨rfl, rfl⟩ := e; cases ho; exact hnew
    · rename_i e
      obtain ⟨hu, b, e1, e2, e3⟩ := h.ob lv' s' o ho
      have hl := objAt_lt ho
      obtain ⟨f1, f2⟩ := hoth lv' s' o b e ho e1
      exact ⟨hu, b, hk.mu lv' s' b (by omega) e1, f2.trans e2, e3.keep (hk.mono (m := lv' + 1) (by omega)) f1 hu⟩
  · rw [hobj] at ho
    split at ho
    · rename_i e; obtain ⟨rfl, rfl⟩ := e; cases ho; exact hheld cs c l rfl hc
    · rename_i e
      obtain ⟨b, ccs, e', v, e1, e2, e3, e4⟩ := h.own lv' s' cs c l ho hc
      have hl := objAt_lt ho
      obtain ⟨f1, f2⟩ := hoth lv' s' _ b e ho e1
      exact ⟨b, ccs, e', v, hk.mu lv' s' b (by omega) e1, f1.trans e2, e3, hown _ _ _ _ _ e e4⟩
theorem setCells_io (b : Nat) : ∀ (vs : List Value) (o : Nat) (w : World), (w.setCells b o vs).os = w.os ∧ (w.setCells b o vs).tape = w.tape ∧ (w.setCells b o vs).output = w.output
  | [], o, w => ⟨rfl, rfl, rfl⟩
  | v :: r, o, w => by
    obtain ⟨h1, h2, h3⟩ := setCells_io b r (o + 1) (w.setCell ⟨b, o, none⟩ v)
    have h : (w.setCell ⟨b, o, none⟩ v).os = w.os ∧ (w.setCell ⟨b, o, none⟩ v).tape = w.tape ∧ (w.setCell ⟨b, o, none⟩ v).output = w.output := by
      unfold World.setCell; split <;> exact ⟨rfl, rfl, rfl⟩
    exact ⟨h1.trans h.1, h2.trans h.2.1, h3.trans h.2.2⟩
theorem setCells_heap {b : Nat} {e : TypeId} {fr : Nat × Nat} : ∀ (vs : List Value) (o : Nat) (w : World) (cs : Array Value), w.heap[b]? = some (.cells cs e fr) → o + vs.length ≤ cs.size →
    ∃ cs' : Array Value, (w.setCells b o vs).heap[b]? = some (.cells cs' e fr) ∧ cs'.size = cs.size ∧ (∀ k, cs'[k]? = if o ≤ k ∧ k < o + vs.length then vs[k - o]? else cs[k]?) ∧ (∀ b', b' ≠ b → (w.setCells b o vs).heap[b']? = w.heap[b']?) ∧ (w.setCells b o vs).heap.size = w.heap.size
  | [], o, w, cs, hb, hl => ⟨cs, hb, rfl, fun k => by rw [if_neg (by simp only [List.length_nil]; omega)], fun _ _ => rfl, rfl⟩
  | v :: vs, o, w, cs, hb, hl => by
    have h1 : (w.setCell ⟨b, o, none⟩ v).heap[b]? = some (.cells (cs.setIfInBounds o v) e fr) := by
      unfold World.setCell
      simp [Array.getElem?_modify, hb]
    have h2 : ∀ b', b' ≠ b → (w.setCell ⟨b, o, none⟩ v).heap[b']? = w.heap[b']? := fun b' hb' => by
      unfold World.setCell
      simp [Array.getElem?_modify, Ne.symm hb']
    have h3 : (w.setCell ⟨b, o, none⟩ v).heap.size = w.heap.size := by unfold World.setCell; simp
    simp only [List.length_cons] at hl
    obtain ⟨cs', f1, f2, f3, f4, f5⟩ := setCells_heap vs (o + 1) _ _ h1 (by simp; omega)
    refine ⟨cs', f1, by simpa using f2, fun k => ?_, fun b' hb' => (f4 b' hb').trans (h2 b' hb'), f5.trans h3⟩
    rw [f3]
    by_cases hk : k = o
    · subst hk
      rw [if_neg (by omega), if_pos (by simp), Array.getElem?_setIfInBounds_self_of_lt (by omega)]; simp
    · by_cases h : o + 1 ≤ k ∧ k < o + 1 + vs.length
      · rw [if_pos h, if_pos (by simp; omega), show k - o = (k - (o + 1)) + 1 by omega, List.getElem?_cons_succ]
      · rw [if_neg h, if_neg (by simp; omega), Array.getElem?_setIfInBounds_ne (Ne.symm hk)]
theorem CR.oneCell {w : World} {g : Gh} {x : V} {v : Value} (h : CR w g x v) (hx : x.solid = true) : v.oneCell' = true := by
  cases h <;> first | rfl | cases hx
theorem putAt_get {cs : List V} {off : Nat} {vs : List V} (h : off + vs.length ≤ cs.length) (k : Nat) : (putAt cs off vs)[k]? = if off ≤ k ∧ k < off + vs.length then vs[k - off]? else cs[k]? := by
  unfold putAt
  by_cases hk1 : k < off
  · rw [if_neg (by omega), List.append_assoc, List.getElem?_append_left (by simp; omega), List.getElem?_take, if_pos hk1]
  · by_cases hk2 : k < off + vs.length
    · rw [if_pos ⟨by omega, hk2⟩, List.append_assoc, List.getElem?_append_right (by simp; omega), List.getElem?_append_left (by simp; omega)]
      simp only [List.length_take, Nat.min_eq_left (show off ≤ cs.length by omega)]
    · rw [if_neg (by omega), List.getElem?_append_right (by simp; omega)]
      simp only [List.length_append, List.length_take, Nat.min_eq_left (show off ≤ cs.length by omega), List.getElem?_drop]
      congr 1; omega
def Gh.give (g : Gh) (k k' : Option Key) : Gh := { g with owner := fun x => if g.owner x = k ∧ k ≠ none then k' else g.owner x }
theorem strip_own {p : Tag → Bool} {x : V} {l : List V} {s : Nat} (h : x.strip p = .sl l (.own s)) : x = .sl l (.own s) ∧ p (.own s) = false := by
  cases x <;> simp only [V.strip] at h <;> try cases h
  rename_i m t
  simp only [V.sl.injEq] at h
  obtain ⟨rfl, h⟩ := h
  cases hp : p t <;> rw [hp] at h <;> cases h
  exact ⟨rfl, hp⟩
theorem strip_cell {p : Tag → Bool} {x : V} {l : List V} {lv s c : Nat} (h : x.strip p = .sl l (.cell lv s c)) : x = .sl l (.cell lv s c) ∧ p (.cell lv s c) = false := by
  cases x <;> simp only [V.strip] at h <;> try cases h
  rename_i m t
  simp only [V.sl.injEq] at h
  obtain ⟨rfl, h⟩ := h
  cases hp : p t <;> rw [hp] at h <;> cases h
  exact ⟨rfl, hp⟩
theorem strip_under {p : Tag → Bool} {x : V} {b : Nat} (h : x.under b = true) : (x.strip p).under b = true := by
  cases x <;> exact h
theorem store_sound {P : Program} {lk : Nat} {st st' : St} {g : Gh} {N : Nat} {a : Act} {w : World} (h : SR st g N a w) {o : Go.Oper} (hdN : ∀ d, o.dst = some d → d < N) {t : TypeId} {x z : Operand} (ho : o.op = .store t x z) {sz : Nat} (hs : size? P t = some sz) {X Z : Am.X} (h3 : opd x = some X) (h4 : opd z = some Z) {call : ACall} (hv : sop call lk st o.dst (.store sz X Z) = some st') : StepOK P lk st st' g N a w o := by
  have hx := opd_sound (fun i => h.tr.ok i) h3
  have hz := opd_sound (fun i => h.tr.ok i) h4
  simp only [sop] at hv
  split at hv
  case h_2 => cases hv
  rename_i lv s off hXe
  split at hv
  case h_2 => cases hv
  rename_i ob hob
  split at hv
  case isFalse => cases hv
  rename_i hcond
  obtain ⟨hsol, hlk, hlen, hund, hcsol⟩ := hcond
  split at hv
  case h_2 => cases hv
  rename_i ob' hset
  cases hv
  rw [hXe] at hx
  obtain ⟨b, hmu, hxv⟩ := hx.vr.ptr
  rw [St.obj_eq] at hob
  have hlv := objAt_lt hob
  simp only [List.length_append, List.length_singleton] at hlv
  obtain ⟨hun, b2, hmu2, hfix, hor⟩ := h.hr.ob lv s ob hob
  rw [hmu] at hmu2; cases hmu2
  cases ob with
  | map es ck => cases hset
  | cells cs =>
    simp only [setCells] at hset
    split at hset
    case isFalse => cases hset
    rename_i hfit
    cases hset
    obtain ⟨ccs, e, hb, hcr⟩ := hor
    have hcl := hcr.length
    simp only [Array.length_toList] at hcl
    have hzc := hz.vr.cells hsol
    have hkept : CRs w g (Z.ev st.T).kept.1 (a.eval z).cells.toList ∧ ∀ c l, (Z.ev st.T).kept.1[c]? = some (.sl l .held) → ∃ so, Z.ev st.T = .sl l (.own so) ∧ (Z.ev st.T).kept.2 = some so ∧ c = 0 ∧ (Z.ev st.T).kept.1 = [.sl l .held] := by
      generalize hq : Z.ev st.T = q at hzc hsol
      by_cases hown : ∃ l so, q = .sl l (.own so)
      · obtain ⟨l, so, rfl⟩ := hown
        have hzq : CR w g (.sl l (.own so)) (a.eval z) := by have := hz.vr; rw [hq] at this; exact this
        refine ⟨?_, fun c l' hc => ?_⟩
        · rw [(CR.one hzq rfl).1]
          exact .cons (hzq.retag fun _ _ _ _ => trivial) .nil
        · simp only [V.kept] at hc
          cases c with
          | zero => simp at hc; subst hc; exact ⟨so, rfl, rfl, rfl, rfl⟩
          | succ c => simp at hc
      · have hk : q.kept = (q.low.cells, none) := by
          cases q <;> try rfl
          rename_i l t; cases t <;> first | rfl | exact absurd ⟨_, _, rfl⟩ hown
        rw [hk]
        refine ⟨?_, fun c l' hc => absurd hc (low_cells_held hsol)⟩
        have hzq : VR w g q (a.eval z) := by have := hz.vr; rw [hq] at this; exact this
        exact hzq.low.cells (V.low_solid hsol)
    obtain ⟨hkc, hkh⟩ := hkept
    have hvl : (a.eval z).cells.toList.length = sz := by rw [← hkc.length]; exact hlen
    have hone : ∀ u ∈ (a.eval z).cells.toList, u.oneCell' = true := by
      intro u hu
      obtain ⟨i, hi⟩ := List.getElem?_of_mem hu
      have hlt := (List.getElem?_eq_some_iff.1 hi).1
      obtain ⟨u', hu', hr⟩ := hkc.get i ((Z.ev st.T).kept.1[i]'(by omega)) (List.getElem?_eq_getElem _)
      rw [hi] at hu'; cases hu'
      exact hr.oneCell (List.all_eq_true.1 hcsol _ (List.getElem_mem _))
    obtain ⟨ccs', f1, f2, f3, f4, f5⟩ := setCells_heap (a.eval z).cells.toList off w ccs hb (by omega)
    have hio := setCells_io b (a.eval z).cells.toList off w
    generalize hw' : w.setCells b off (a.eval z).cells.toList = w' at f1 f4 f5 hio
    obtain ⟨k, hk⟩ : ∃ k : Option Key, k = (Z.ev st.T).kept.2.map (Key.tmp st.H.length) := ⟨_, rfl⟩
    obtain ⟨g', hg'⟩ : ∃ g', g' = g.give k (some (.cell lv s off)) := ⟨_, rfl⟩
    have gmu : g'.mu = g.mu := by rw [hg']; rfl
    have gfix : g'.fix = g.fix := by rw [hg']; rfl
    have gown : ∀ x, g'.owner x = if g.owner x = k ∧ k ≠ none then some (.cell lv s off) else g.owner x := fun x => by rw [hg']; rfl
    have hkk : ∀ q, k = some q → ∃ so, q = .tmp st.H.length so ∧ (Z.ev st.T).kept.2 = some so := by
      intro q hq
      rw [hk] at hq
      obtain ⟨so, h1, rfl⟩ := Option.map_eq_some_iff.1 hq
      exact ⟨so, rfl, h1⟩
    have gown2 : ∀ x q, g.owner x = some q → (∀ so, q ≠ .tmp st.H.length so) → g'.owner x = some q := by
      intro x q hq hne
      rw [gown, if_neg, hq]
      rintro ⟨e1, e2⟩
      rw [hq] at e1
      obtain ⟨so, e3, -⟩ := hkk q e1.symm
      exact hne so e3
    have hmublk : ∀ b', g.owner b' ≠ none → b' ≠ b := by
      intro b' hb' e
      subst e
      cases hq : g.owner b' with
      | none => exact hb' hq
      | some q => exact (h.gok.ow b' q hq).2 lv s hmu
    have hkeeps : ∀ m, Keeps m w g w' g' := fun m => ⟨fun b' _ => by rw [gfix]; exact Nat.le_refl _, fun b' o' _ ho' => by
      refine cell_of_heap (f4 b' fun e => ?_) o'
      subst e; rw [hfix] at ho'; omega, fun _ _ _ _ h => by rw [gmu]; exact h⟩
    have hgok : GOK w' g' := ⟨fun a1 a2 a3 a4 a5 => by rw [gmu]; exact h.gok.inj a1 a2 a3 a4 a5, fun a1 a2 a3 => by rw [gmu, f5]; exact h.gok.lt a1 a2 a3, fun b' q hq => by
      have : ∃ q', g.owner b' = some q' := by
        rw [gown] at hq
        split at hq
        · rename_i e
          cases hk2 : k with
          | none => exact absurd hk2 e.2
          | some q' => exact ⟨q', e.1.trans hk2⟩
        · exact ⟨q, hq⟩
      obtain ⟨q', hq'⟩ := this
      have := h.gok.ow b' q' hq'
      rw [f5, gmu]; exact this, fun b' o hb' => by
      have hb' : g.pin.tab b' = some o := by rw [hg'] at hb'; exact hb'
      obtain ⟨p1, p2, p3⟩ := h.gok.pin b' o hb'
      refine ⟨(f4 b' fun e => by subst e; exact p3 _ _ hmu).trans p1, ?_, fun lv s => by rw [gmu]; exact p3 lv s⟩
      rw [gown, p2]; split
      · rename_i e; exact absurd e.1.symm e.2
      · rfl⟩
    have hcellOwn : ∀ lv' s' c l v, OwnOK w g (.cell lv' s' c) l v → OwnOK w' g' (.cell lv' s' c) l v := by
      intro lv' s' c l v hh
      refine hh.keep fun b2 hb2 => ⟨f4 b2 (hmublk b2 (by rw [hb2]; simp)), by rw [gfix], ?_⟩
      rw [gown2 b2 _ hb2 (by intro so; simp), hb2]
    have htmpOwn : ∀ s2 l v, (Z.ev st.T).kept.2 ≠ some s2 → OwnOK w g (.tmp st.H.length s2) l v → OwnOK w' g' (.tmp st.H.length s2) l v := by
      intro s2 l v hne hh
      refine hh.keep fun b2 hb2 => ⟨f4 b2 (hmublk b2 (by rw [hb2]; simp)), by rw [gfix], ?_⟩
      rw [gown, if_neg]
      rintro ⟨e1, e2⟩
      rw [hb2] at e1
      obtain ⟨so, e3, e4⟩ := hkk _ e1.symm
      cases e3; exact hne e4
    have hput := putAt_get hfit
    have hknd : (Z.ev st.T).kept.1.length = (a.eval z).cells.toList.length := by rw [hvl]; exact hlen
    have hHR : HR w' g' (((({ st with T := putD (st.T.mapV (V.strip (storeStrip lv s off sz (Z.ev st.T).kept.2))) o.dst .undef } : St).setObj lv s (.cells (putAt cs off (Z.ev st.T).kept.1))).H) ++ [((({ st with T := putD (st.T.mapV (V.strip (storeStrip lv s off sz (Z.ev st.T).kept.2))) o.dst .undef } : St).setObj lv s (.cells (putAt cs off (Z.ev st.T).kept.1))).L)]) := by
      refine HR_chg (m := st.H.length + 1) h.hr (setObj_at (by simpa using hlv)) (hkeeps _) (by simp) (fun lv' s' o' b' hne ho' hm' => ?_) (fun lv' s' c l v _ => hcellOwn lv' s' c l v) ⟨?_, b, by rw [gmu]; exact hmu, by rw [gfix]; exact hfix, ccs', e, f1, ?_⟩ (fun cs2 c l hcs hc => ?_)
      · refine ⟨f4 b' fun e => ?_, by rw [gfix]⟩
        subst e
        exact hne (h.gok.inj _ _ _ _ _ hm' hmu)
      · simp only [Ob.under, putAt, List.all_append, Bool.and_eq_true]
        have hun2 : cs.all (V.under1 (lv + 1)) = true := hun
        rw [List.all_eq_true] at hun2
        exact ⟨⟨List.all_eq_true.2 fun y hy => hun2 y (List.mem_of_mem_take hy), hund⟩, List.all_eq_true.2 fun y hy => hun2 y (List.mem_of_mem_drop hy)⟩
      · refine F2.of _ _ ?_ fun i y u hy hu => ?_
        · have hf2 : ccs'.toList.length = cs.length := by rw [Array.length_toList, f2, ← hcl]
          rw [hf2]
          unfold putAt
          simp only [List.length_append, List.length_take, List.length_drop]
          omega
        · rw [hput] at hy
          rw [Array.getElem?_toList, f3] at hu
          rw [hknd] at hy
          split at hy
          · rename_i hr
            rw [if_pos hr] at hu
            obtain ⟨u', hu', hcr'⟩ := hkc.get _ y hy
            rw [hu] at hu'; cases hu'
            exact hcr'.keep (hkeeps (lv + 1)) (List.all_eq_true.1 hund y (List.mem_of_getElem? hy))
          · rename_i hr
            rw [if_neg hr] at hu
            obtain ⟨u', hu', hcr'⟩ := hcr.get _ y hy
            rw [Array.getElem?_toList, hu] at hu'; cases hu'
            have hun2 : cs.all (V.under1 (lv + 1)) = true := hun
            exact hcr'.keep (hkeeps (lv + 1)) (List.all_eq_true.1 hun2 y (List.mem_of_getElem? hy))
      · simp only [Ob.cells.injEq] at hcs
        subst hcs
        rw [hput, hknd] at hc
        split at hc
        · rename_i hr
          obtain ⟨so, e1, e2, e3, e4⟩ := hkh _ l hc
          obtain rfl : c = off := by omega
          have hcells : (a.eval z).cells = #[a.eval z] := by
            have : CR w g (.sl l (.own so)) (a.eval z) := by have := hz.vr; rw [e1] at this; exact this
            exact (CR.one this rfl).1
          refine ⟨b, ccs', e, a.eval z, by rw [gmu]; exact hmu, f1, ?_, ?_⟩
          · rw [f3, hcells]; simp
          · obtain ⟨A, cc, ev, hh⟩ := hz.lv.own l so e1
            refine ⟨A, cc, ev, hh.imp id ?_⟩
            rintro ⟨ad, sz', q1, q2, q3, q4, q5, q6, q7, qcs, qe, q8, q9⟩
            refine ⟨ad, sz', q1, q2, q3, q4, q5, by rw [gfix]; exact q6, ?_, qcs, qe, (f4 _ (hmublk _ (by rw [q7]; simp))).trans q8, q9⟩
            rw [gown, if_pos]
            rw [q7, hk, e2]
            exact ⟨rfl, by simp⟩
        · rename_i hr
          obtain ⟨b3, ccs3, e3, v3, q1, q2, q3, q4⟩ := h.hr.own lv s cs c l hob hc
          rw [hmu] at q1; cases q1
          rw [hb] at q2; cases q2
          exact ⟨b, ccs', e, v3, by rw [gmu]; exact hmu, f1, by rw [f3, if_neg hr]; exact q3, hcellOwn _ _ _ _ _ q4⟩
    have hput2 : ∀ i, (a.put o.dst undef).tmps.getD i undef = if o.dst = some i then undef else a.tmps.getD i undef := by
      intro i
      cases hd : o.dst with
      | none => simp [Act.put]
      | some d =>
        rw [getD_put a d undef (by rw [h.n]; exact hdN d hd)]
        by_cases e : i = d
        · subst e; simp
        · rw [if_neg e, if_neg (by simpa using Ne.symm e)]
    have hT2 : ∀ i, (putD (st.T.mapV (V.strip (storeStrip lv s off sz (Z.ev st.T).kept.2))) o.dst .undef).get i = if o.dst = some i then .undef else (st.T.get i).strip (storeStrip lv s off sz (Z.ev st.T).kept.2) := by
      intro i
      cases hd : o.dst with
      | none => simp only [putD]; rw [Tm.get_mapV _ rfl]; simp
      | some d =>
        simp only [putD]
        rw [Tm.get_set_if, Tm.get_mapV _ rfl]
        by_cases e : i = d
        · subst e; simp
        · rw [if_neg e, if_neg (by simpa using Ne.symm e)]
    refine ⟨.skip, w', g', a.put o.dst undef, ?_, .inr ⟨rfl, rfl⟩, ⟨hgok, hHR, ⟨fun i => ?_, fun i => ?_, fun i l s2 hi => ?_, fun i l lv' s' c hi => ?_⟩, ?_, ?_⟩, ⟨by rw [f5]; exact Nat.le_refl _, hkeeps _, fun b' hb' ht => ⟨f4 b' fun e => ht (.inl ⟨lv, s, hlk, by rw [e]; exact hmu⟩), by rw [gfix], ?_⟩, fun lv' s' b' hm => .inl (by rw [gmu] at hm; exact hm), fun _ _ _ => by rw [gmu], fun x lv' s' _ ho => by
      rw [gown] at ho
      split at ho
      · cases ho
      · exact ho, hgok, hio⟩, setObj_len⟩
    · have hrun := run_storeCells_cells (P := P) b off (a.eval z).cells.toList 0 w (fun j hj => by
        have : off + j < ccs.size := by omega
        simp [World.cell?, hb, this]) (fun j hj => by simp [World.frozen?, hb]) hone
      simp only [Nat.add_zero] at hrun
      simp only [execOp, ho, hxv, Instr.storeAt, Instr.sureAddr, storeVar, run_sizeOf' hs, Sem.run_bind, Sem.run_pure, Result.andThen_ok]
      rw [if_neg (by simp only [ne_eq, Decidable.not_not]; rw [← hvl, Array.length_toList])]
      rw [hrun, hw']; rfl
    · rw [setObj_T, hput2]; show VR _ _ (Tm.get (putD _ _ _) i) _; rw [hT2]
      split
      · exact CR.undef
      · exact ((h.tr.v i).strip _).keep (hkeeps _) (strip_under (h.tr.un i))
    · rw [setObj_T, setObj_len]; show V.under _ (Tm.get (putD _ _ _) i) = true; rw [hT2]
      split
      · rfl
      · exact strip_under (h.tr.un i)
    · rw [setObj_T] at hi
      have hi : Tm.get (putD _ _ _) i = _ := hi
      rw [hT2] at hi
      rw [hput2, setObj_len]
      split at hi
      · cases hi
      · rename_i e; rw [if_neg e]
        obtain ⟨e1, e2⟩ := strip_own hi
        refine htmpOwn s2 l _ (fun hq => ?_) (h.tr.own i l s2 e1)
        rw [hq] at e2
        simp [storeStrip, isOwn] at e2
    · rw [setObj_T] at hi
      have hi : Tm.get (putD _ _ _) i = _ := hi
      rw [hT2] at hi
      rw [hput2]
      split at hi
      · cases hi
      · rename_i e; rw [if_neg e]
        obtain ⟨e1, e2⟩ := strip_cell hi
        obtain ⟨cs2, b2, ccs2, e3, q1, q2, q3, q4, q5⟩ := h.tr.cell i l lv' s' c e1
        by_cases hsame : lv' = lv ∧ s' = s
        · obtain ⟨rfl, rfl⟩ := hsame
          rw [hob] at q1; cases q1
          rw [hmu] at q3; cases q3
          rw [hb] at q4; cases q4
          have hout : ¬ (off ≤ c ∧ c < off + sz) := by
            intro hr
            simp only [storeStrip, Bool.or_eq_false_iff] at e2
            have := e2.1
            have h1 : Nat.ble off c = true := by rw [Nat.ble_eq]; exact hr.1
            have h2 : Nat.blt c (off + sz) = true := by rw [Nat.blt_eq]; exact hr.2
            simp [isCellAt, h1, h2] at this
          refine ⟨_, b, ccs', _, by rw [setObj_at (by simpa using hlv), if_pos ⟨rfl, rfl⟩], ?_, by rw [gmu]; exact hmu, f1, ?_⟩
          · rw [hput, if_neg (by rw [hknd, hvl]; exact hout)]; exact q2
          · rw [f3, if_neg (by rw [hvl]; exact hout)]; exact q5
        · refine ⟨cs2, b2, ccs2, e3, by rw [setObj_at (by simpa using hlv), if_neg hsame]; exact q1, q2, by rw [gmu]; exact q3, (f4 b2 fun e => ?_).trans q4, q5⟩
          subst e
          exact hsame (h.gok.inj _ _ _ _ _ q3 hmu)
    · rw [← h.n]; cases o.dst <;> simp [Act.put]
    · have := h.df; cases o.dst <;> exact this
    · rw [gown, if_neg]
      rintro ⟨e1, e2⟩
      cases hq : k with
      | none => exact e2 hq
      | some q =>
        obtain ⟨so, e3, -⟩ := hkk q hq
        exact ht (.inr (.inr ⟨st.H.length, so, Nat.le_refl _, by rw [e1, hq, e3]⟩))
end Go.Proofs.YtlacnkjkcikodaaDoor.Am
end
section
set_option linter.unusedVariables false
set_option linter.unusedSimpArgs false
set_option linter.constructorNameAsVariable false
namespace Go.Proofs.YtlacnkjkcikodaaDoor.Am
open Go
theorem pure_one {w : World} {g : Gh} {x : V} {v : Value} (h : CR w g x v) (hp : x.pure = true) : v.oneCell' = true := by
  cases h <;> first | rfl | cases hp
theorem row_cells {w : World} {g : Gh} {l : List V} {t : Tag} {A : Option Addr} {c : Nat} (h : CR w g (.sl l t) (.slice A l.length c)) (hne : l ≠ []) :
    ∃ (a : Addr) (sz : Nat) (vs : List Value), A = some a ∧ a.spot = none ∧ 0 < sz ∧ (∀ x ∈ l, x.cells.length = sz) ∧ vs.length = l.length * sz ∧ (∀ (j : Nat) (v : Value), vs[j]? = some v → w.cell? (a.add j) = some v) ∧ RowR w g sz l vs.toArray ∧ (∀ v ∈ vs, v.oneCell' = true) ∧ a.off + l.length * sz ≤ g.fix a.block := by
  cases h with
  | sl _ _ _ _ sz vs hc hn hta hp hzz hd ha hr =>
    obtain ⟨a, e1, e2, e3, e4⟩ := ha hne
    have key : ∀ (k : Nat), k < l.length * sz → k / sz < l.length ∧ k % sz < sz ∧ k / sz * sz + k % sz = k := fun k hk =>
      ⟨Nat.div_lt_of_lt_mul (by rw [Nat.mul_comm]; exact hk), Nat.mod_lt _ hp, by rw [Nat.mul_comm]; exact Nat.div_add_mod k sz⟩
    refine ⟨a, sz, (List.range (l.length * sz)).map fun k => vs (k / sz) (k % sz), e1, e2, hp, hzz, by simp, fun j v hj => ?_, ⟨by simp, fun i x hx => ⟨hzz x (List.mem_of_getElem? hx), hd x (List.mem_of_getElem? hx), fun j y hy => ?_⟩⟩, fun v hv => ?_, e3⟩
    · rw [List.getElem?_map] at hj
      obtain ⟨k, hk, rfl⟩ := Option.map_eq_some_iff.1 hj
      obtain ⟨hk1, hk2⟩ := List.getElem?_eq_some_iff.1 hk
      simp only [List.length_range] at hk1
      rw [List.getElem_range] at hk2
      subst hk2
      obtain ⟨f1, f2, f3⟩ := key j hk1
      have := e4 _ _ f1 f2
      rw [addr_eta e2, ← this]
      congr 2
      rw [Nat.add_assoc, f3]
    · have hi := (List.getElem?_eq_some_iff.1 hx).1
      have hj := (List.getElem?_eq_some_iff.1 hy).1
      rw [hzz x (List.mem_of_getElem? hx)] at hj
      have h1 : (i + 1) * sz ≤ l.length * sz := Nat.mul_le_mul_right _ hi
      rw [Nat.add_mul] at h1
      have h2 : i * sz + j < l.length * sz := by omega
      refine ⟨vs i j, ?_, hr i x hx j y hy⟩
      have h3 : (i * sz + j) / sz = i := by
        rw [Nat.add_comm, Nat.add_mul_div_right _ _ hp, Nat.div_eq_of_lt hj, Nat.zero_add]
      have h4 : (i * sz + j) % sz = j := by
        rw [Nat.add_comm, Nat.add_mul_mod_self_right, Nat.mod_eq_of_lt hj]
      simp [h2, h3, h4]
    · obtain ⟨k, hk, rfl⟩ := List.mem_map.1 hv
      simp only [List.mem_range] at hk
      obtain ⟨f1, f2, f3⟩ := key k hk
      have hx : l[k / sz]? = some l[k / sz] := List.getElem?_eq_getElem f1
      have hl := hzz _ (List.getElem_mem f1)
      have hy : l[k / sz].cells[k % sz]? = some (l[k / sz].cells[k % sz]'(by omega)) := List.getElem?_eq_getElem _
      exact pure_one (hr _ _ hx _ _ hy) (hd _ (List.getElem_mem f1) _ (List.getElem_mem _))
theorem RowR.app {w : World} {g : Gh} {sz : Nat} {l m : List V} {a b : Array Value} (h : RowR w g sz l a) (h' : RowR w g sz m b) (ha : a.size = l.length * sz) (rest : Array Value) : RowR w g sz (l ++ m) (a ++ b ++ rest) := by
  refine ⟨by have := h'.len; simp only [Array.size_append, List.length_append, Nat.add_mul]; omega, fun i x hx => ?_⟩
  by_cases hi : i < l.length
  · rw [List.getElem?_append_left hi] at hx
    obtain ⟨f1, f2, f3⟩ := h.el i x hx
    refine ⟨f1, f2, fun j y hy => ?_⟩
    obtain ⟨v, hv, hr⟩ := f3 j y hy
    have := (Array.getElem?_eq_some_iff.1 hv).1
    exact ⟨v, by rw [Array.append_assoc, Array.getElem?_append_left this]; exact hv, hr⟩
  · rw [List.getElem?_append_right (by omega)] at hx
    obtain ⟨f1, f2, f3⟩ := h'.el _ x hx
    refine ⟨f1, f2, fun j y hy => ?_⟩
    obtain ⟨v, hv, hr⟩ := f3 j y hy
    have h1 := (Array.getElem?_eq_some_iff.1 hv).1
    refine ⟨v, ?_, hr⟩
    have h2 : i * sz + j - a.size = (i - l.length) * sz + j := by
      rw [ha, Nat.sub_mul]
      have : l.length * sz ≤ i * sz := Nat.mul_le_mul_right _ (by omega)
      omega
    have h3 : a.size ≤ i * sz + j := by
      rw [ha]
      have : l.length * sz ≤ i * sz := Nat.mul_le_mul_right _ (by omega)
      omega
    rw [Array.append_assoc, Array.getElem?_append_right h3, h2, Array.getElem?_append_left h1]; exact hv
structure AppOK (P : Program) (w : World) (g : Gh) (k kd : Key) (l m : List V) (run : Result Value) : Prop where
  ex : ∃ val w' g', run = .ok val w' ∧ CR w' g' (.sl (l ++ m) .no) val ∧ OwnOK w' g' kd (l ++ m) val ∧ GOK w' g' ∧ w.heap.size ≤ w'.heap.size ∧ (∀ q, Keeps q w g w' g') ∧ g'.mu = g.mu ∧ (∀ b, b < w.heap.size → g.owner b ≠ some k → w'.heap[b]? = w.heap[b]? ∧ g'.fix b = g.fix b ∧ g'.owner b = g.owner b) ∧ (∀ b q, g'.owner b = some q → q = kd ∨ g.owner b = some q) ∧ w'.os = w.os ∧ w'.tape = w.tape ∧ w'.output = w.output
theorem GOK.drew {w : World} {g : Gh} (h : GOK w g) : GOK w.drew g := ⟨h.inj, h.lt, h.ow, h.pin⟩
theorem grown {w : World} {g : Gh} (hg : GOK w g) (kd : Key) {sz : Nat} (hsz : 0 < sz) {l m : List V} {olds news : List Value} (hl : RowR w g sz l olds.toArray) (hm : RowR w g sz m news.toArray) (hol : olds.length = l.length * sz) (hne : l ++ m ≠ []) (e : TypeId) (rest : Array Value) (c : Nat) (hc : l.length + m.length ≤ c) (hcs : c * sz ≤ olds.length + news.length + rest.size) {k : Key} {P : Program} :
    AppOK P w g k kd l m (.ok (.slice (some ⟨w.heap.size, 0, none⟩) (l.length + m.length) c) (w.drew.alloc (.cells (olds.toArray ++ news.toArray ++ rest) e))) := by
  have hfr := lay_fr hg.drew 0 0 (.cells (olds.toArray ++ news.toArray ++ rest) e) ((l ++ m).length * sz) (some kd) (fun _ _ _ => Nat.zero_le _)
  have hds : w.drew.heap.size = w.heap.size := rfl
  have hk0 : ∀ q, Keeps q w g (w.drew.alloc (.cells (olds.toArray ++ news.toArray ++ rest) e)) (g.lay w.heap.size ((l ++ m).length * sz) (some kd)) := fun q => ⟨hfr.keeps.fix, hfr.keeps.cell, fun _ _ _ _ h => h⟩
  have hrow : RowR w g sz (l ++ m) (olds.toArray ++ news.toArray ++ rest) := hl.app hm (by simpa using hol) rest
  have hw : (w.drew.alloc (.cells (olds.toArray ++ news.toArray ++ rest) e)).heap[w.heap.size]? = some (.cells (olds.toArray ++ news.toArray ++ rest) e (0, 0)) := by rw [heap_alloc, if_pos hds.symm]
  have hcr := RowR.sl (t := .no) (hrow.keep (hk0 0)) hsz hw (by simp [Gh.lay]) (c := c) (by simpa using hc) trivial
  have hlen : (l ++ m).length = l.length + m.length := by simp
  refine ⟨_, _, g.lay w.heap.size ((l ++ m).length * sz) (some kd), rfl, ?_, ⟨_, c, by rw [hlen], .inr ⟨⟨w.heap.size, 0, none⟩, sz, rfl, hne, hsz, fun x hx => ?_, rfl, by simp [Gh.lay], by simp [Gh.lay], _, e, hw, by simp; omega⟩⟩, hfr.gok, hfr.size, hk0, rfl, fun b hb _ => ⟨by rw [heap_alloc, if_neg (by rw [hds]; omega)]; rfl, by simp only [Gh.lay]; rw [if_neg (by omega)], by simp only [Gh.lay]; rw [if_neg (by omega)]⟩, fun b q hq => ?_, rfl, rfl, rfl⟩
  rotate_left 2
  · simp only [Gh.lay] at hq
    split at hq
    · exact .inl (Option.some.inj hq).symm
    · exact .inr hq
  · simp only [hlen] at hcr ⊢; exact hcr
  · obtain ⟨i, hi⟩ := List.getElem?_of_mem hx
    exact (hrow.el i x hi).1
theorem RowR.slAt {w : World} {g : Gh} {sz : Nat} {l : List V} {cs : Array Value} (h : RowR w g sz l cs) (hp : 0 < sz) {b off : Nat} (hb : ∀ (k : Nat) (v : Value), cs[k]? = some v → w.cell? ⟨b, off + k, none⟩ = some v) (hf : off + l.length * sz ≤ g.fix b) {c : Nat} (hc : l.length ≤ c) {t : Tag} (ht : TagR t (some ⟨b, off, none⟩) l.length c) : CR w g (.sl l t) (.slice (some ⟨b, off, none⟩) l.length c) := by
  have hm : ∀ x ∈ l, ∃ i : Nat, l[i]? = some x := fun x hx => List.getElem?_of_mem hx
  refine .sl l t _ c sz (fun i j => cs.getD (i * sz + j) undef) hc (fun h => by cases h) ht hp (fun x hx => ?_) (fun x hx => ?_) (fun _ => ⟨_, rfl, rfl, hf, fun i j hi hj => ?_⟩) (fun i x hx j y hy => ?_)
  · obtain ⟨i, hi⟩ := hm x hx; exact (h.el i x hi).1
  · obtain ⟨i, hi⟩ := hm x hx; exact (h.el i x hi).2.1
  · have h1 : (i + 1) * sz ≤ l.length * sz := Nat.mul_le_mul_right _ hi
    rw [Nat.add_mul] at h1
    have h2 := h.len
    have h3 : i * sz + j < cs.size := by omega
    have := hb (i * sz + j) cs[i * sz + j] (Array.getElem?_eq_getElem h3)
    rw [Nat.add_assoc]
    simpa [Array.getD_eq_getD_getElem?, Array.getElem?_eq_getElem h3] using this
  · obtain ⟨v, h1, h2⟩ := (h.el i x hx).2.2 j y hy
    simp only [Array.getD_eq_getD_getElem?, h1, Option.getD_some]
    exact h2
theorem GOK.give {w : World} {g : Gh} (h : GOK w g) (k : Key) (k' : Option Key) : GOK w (g.give (some k) k') := by
  refine ⟨h.inj, h.lt, fun b q hq => ?_, fun b o hb => ?_⟩
  · simp only [Gh.give] at hq
    split at hq
    · rename_i e; exact h.ow b k e.1
    · exact h.ow b q hq
  · obtain ⟨p1, p2, p3⟩ := h.pin b o hb
    refine ⟨p1, ?_, p3⟩
    simp only [Gh.give, p2]
    simp
theorem app_types {P : Program} {w : World} {t u e e' ty : TypeId} (ht : P.underlying t = some (.slice e)) (hu : P.underlying u = some (.slice e')) (x y : Value) : (Builtin.append_ #[t, u] ty #[x, y]).run P w = (Builtin.append_ #[t, t] ty #[x, y]).run P w := by
  unfold Builtin.append_
  cases x <;> simp [run_underlying ht, run_underlying hu]
theorem app_run {P : Program} {w : World} {g : Gh} (hg : GOK w g) {t u e e' ty : TypeId} (ht : P.underlying t = some (.slice e)) (hu : P.underlying u = some (.slice e')) {inf : TypeInfo} (hi : P.info? e = some inf) {zv : Value} (hz : inf.zero = some zv) (hzs : zv.cells.size = inf.size) (hb : 0 < inf.bytes ∧ inf.bytes ≤ 4096) (hs : 0 < inf.size)
    {l m : List V} {tg tg' : Tag} {A B : Option Addr} {c cB : Nat} (hl : CR w g (.sl l tg) (.slice A l.length c)) (hm : CR w g (.sl m tg') (.slice B m.length cB)) (hlw : ∀ x ∈ l, x.cells.length = inf.size) (hmw : ∀ x ∈ m, x.cells.length = inf.size) (hmost : l.length + m.length ≤ appMost) {k kd : Key} (hown : OwnOK w g k l (.slice A l.length c)) :
    AppOK P w g k kd l m ((Builtin.append_ #[t, u] ty #[.slice A l.length c, .slice B m.length cB]).run P w) := by
  rw [app_types ht hu]
  have hfits : (l.length + m.length) * inf.bytes ≤ 140737488355328 := by
    have := Nat.mul_le_mul hmost hb.2
    unfold appMost at this; omega
  have h63 : ((l.length + m.length : Nat) : Int) ≤ 9223372036854775807 := by unfold appMost at hmost; omega
  by_cases hm0 : m = []
  · subst hm0
    have hrun : (Builtin.append_ #[t, t] ty #[.slice A l.length c, .slice B 0 cB]).run P w = .ok (.slice A l.length c) w := by
      have hlc : l.length ≤ c := by cases hl; assumption
      have hfc : (Builtin.firstCells inf.size 0 (.slice B 0 cB)).run P w = .ok #[] w := by
        cases B with
        | none => exact run_firstCells_none _ _ _ _ _
        | some ad => exact run_firstCells_some (P := P) w inf.size 0 ad 0 cB [] (by simp) (by simp)
      cases A <;> simp [Builtin.append_, run_underlying ht, sizeOf, typeInfo, hi, Builtin.lenOf, hfc, hlc, storeCells]
    rw [show ([] : List V).length = 0 from rfl, hrun]
    have hkk : ∀ q, Keeps q w g w (g.give (some k) (some kd)) := fun q => ⟨fun _ _ => Nat.le_refl _, fun _ _ _ _ => rfl, fun _ _ _ _ h => h⟩
    refine ⟨_, w, g.give (some k) (some kd), rfl, ?_, ?_, hg.give k _, Nat.le_refl _, hkk, rfl, fun b _ hb => ⟨rfl, rfl, by simp only [Gh.give]; rw [if_neg (fun e => hb e.1)]⟩, fun b q hq => by
      simp only [Gh.give] at hq
      split at hq
      · exact .inl (Option.some.inj hq).symm
      · exact .inr hq, rfl, rfl, rfl⟩
    · rw [List.append_nil]; exact hl.notag.keep (hkk 0) rfl
    · rw [List.append_nil]
      obtain ⟨A', c', e1, hh⟩ := hown
      cases e1
      refine ⟨A, c, rfl, hh.imp id ?_⟩
      rintro ⟨a, sz, q1, q2, q3, q4, q5, q6, q7, cs, qe, q8, q9⟩
      exact ⟨a, sz, q1, q2, q3, q4, q5, q6, by simp [Gh.give, q7], cs, qe, q8, q9⟩
  · have hmp : 0 < m.length := List.length_pos_iff.2 hm0
    obtain ⟨b, szm, news, rfl, hbs, hszm, hmw', hnl, hnc, hnr, hno, hnf⟩ := row_cells hm hm0
    have hsm : szm = inf.size := by
      obtain ⟨x, hx⟩ := List.exists_mem_of_ne_nil m hm0
      rw [← hmw' x hx, hmw x hx]
    subst hsm
    have holds : ∃ olds : List Value, olds.length = l.length * inf.size ∧ RowR w g inf.size l olds.toArray ∧ (∀ a, A = some a → ∀ (j : Nat) (v : Value), olds[j]? = some v → w.cell? (a.add j) = some v) ∧ (A = none → l = []) := by
      by_cases hl0 : l = []
      · subst hl0
        exact ⟨[], by simp, ⟨by simp, by simp⟩, by simp, fun _ => rfl⟩
      · obtain ⟨a, szl, olds, rfl, h1, h2, h3, h4, h5, h6, h7, h8⟩ := row_cells hl hl0
        have hsl : szl = inf.size := by
          obtain ⟨x, hx⟩ := List.exists_mem_of_ne_nil l hl0
          rw [← h3 x hx, hlw x hx]
        subst hsl
        exact ⟨olds, h4, h6, fun a' e => by cases e; exact h5, fun e => by cases e⟩
    obtain ⟨olds, hol, hor, hoc, hon⟩ := holds
    have hne : l ++ m ≠ [] := by simp [hm0]
    by_cases hroom : l.length + m.length ≤ c
    ·
      obtain ⟨A', c', e1, hh⟩ := hown
      cases e1
      rcases hh with hh | ⟨a, sz, rfl, q2, q3, q4, q5, q6, q7, cs, qe, q8, q9⟩
      · omega
      · have hszs : sz = inf.size := by
          obtain ⟨x, hx⟩ := List.exists_mem_of_ne_nil l q2
          rw [← q4 x hx, hlw x hx]
        subst hszs
        obtain ⟨ab, ao, asp⟩ := a
        simp only at q5 q6 q7 q8 q9
        subst q5
        have hsz1 : (l.length + m.length) * inf.size ≤ c * inf.size := Nat.mul_le_mul_right _ hroom
        rw [Nat.add_mul] at hsz1
        have hrun := run_append_room_cells (P := P) (w := w) t ty e inf ht hi ab ao l.length c b m.length cB news hnl hnc hno hroom (fun j hj => by
          have : ao + l.length * inf.size + j < cs.size := by omega
          simp [World.cell?, q8, this]) (fun j hj => by simp [World.frozen?, q8])
        rw [hrun]
        obtain ⟨cs', f1, f2, f3, f4, f5⟩ := setCells_heap news (ao + l.length * inf.size) w cs q8 (by omega)
        have hio := setCells_io ab news (ao + l.length * inf.size) w
        generalize hw' : w.setCells ab (ao + l.length * inf.size) news = w' at f1 f4 f5 hio
        obtain ⟨g', hg'⟩ : ∃ g' : Gh, g' = { g with fix := fun x => if x = ab then ao + (l.length + m.length) * inf.size else g.fix x, owner := fun x => if x = ab then some kd else g.owner x } := ⟨_, rfl⟩
        have gmu : g'.mu = g.mu := by rw [hg']
        have gfix : ∀ x, g'.fix x = if x = ab then ao + (l.length + m.length) * inf.size else g.fix x := fun x => by rw [hg']
        have gown : ∀ x, g'.owner x = if x = ab then some kd else g.owner x := fun x => by rw [hg']
        have hkk : ∀ q, Keeps q w g w' g' := fun q => ⟨fun x _ => by
            rw [gfix]; split
            · rename_i e; subst e; rw [q6, Nat.add_mul]; omega
            · exact Nat.le_refl _, fun x o hx ho => by
            by_cases e : x = ab
            · subst e
              unfold World.cell?
              simp only [f1, q8]
              have := f3 o
              rw [if_neg (by omega)] at this
              simpa using this
            · exact cell_of_heap (f4 x e) o, fun _ _ _ _ h => by rw [gmu]; exact h⟩
        have hgok : GOK w' g' := ⟨fun a1 a2 a3 a4 a5 => by rw [gmu]; exact hg.inj a1 a2 a3 a4 a5, fun a1 a2 a3 => by rw [gmu, f5]; exact hg.lt a1 a2 a3, fun x q hq => by
          rw [gown] at hq
          rw [f5, gmu]
          split at hq
          · rename_i e; subst e; exact hg.ow x k q7
          · exact hg.ow x q hq, fun x o hx => by
          have hx : g.pin.tab x = some o := by rw [hg'] at hx; exact hx
          obtain ⟨p1, p2, p3⟩ := hg.pin x o hx
          have hne : x ≠ ab := fun e => by subst e; rw [p2] at q7; cases q7
          exact ⟨(f4 x hne).trans p1, by rw [gown, if_neg hne]; exact p2, fun lv s => by rw [gmu]; exact p3 lv s⟩⟩
        have hrow : RowR w' g' inf.size (l ++ m) (olds.toArray ++ news.toArray ++ #[]) := (hor.app hnr (by simpa using hol) #[]).keep (hkk 0)
        have hcr := RowR.slAt (t := .no) hrow hs (b := ab) (off := ao) (fun kk v hv => by
          simp only [Array.append_empty] at hv
          rw [Array.getElem?_append] at hv
          unfold World.cell?
          simp only [f1]
          have h3 := f3 (ao + kk)
          split at hv
          · rename_i hlt
            simp only [List.size_toArray] at hlt
            rw [if_neg (by omega)] at h3
            have := hoc _ rfl kk v (by simpa using hv)
            rw [add_zero_addr] at this
            unfold World.cell? at this
            simp only [q8] at this
            simp only [Option.isSome_none, Bool.false_eq_true, if_false] at this ⊢
            rw [h3]; exact this
          · rename_i hlt
            simp only [List.size_toArray, hol] at hlt hv
            have hv2 : news[kk - l.length * inf.size]? = some v := by simpa using hv
            have hlt2 := (List.getElem?_eq_some_iff.1 hv2).1
            rw [if_pos (by omega)] at h3
            simp only [Option.isSome_none, Bool.false_eq_true, if_false]
            rw [h3, ← hv2]; congr 1; omega) (by rw [gfix, if_pos rfl]; simp) (c := c) (by simpa using hroom) trivial
        have hlen : (l ++ m).length = l.length + m.length := by simp
        refine ⟨_, w', g', rfl, ?_, ⟨some ⟨ab, ao, none⟩, c, by rw [hlen], .inr ⟨⟨ab, ao, none⟩, inf.size, rfl, hne, hs, fun x hx => ?_, rfl, by rw [gfix, if_pos rfl, hlen], by rw [gown, if_pos rfl], cs', qe, f1, by rw [f2]; exact q9⟩⟩, hgok, by rw [f5]; exact Nat.le_refl _, hkk, gmu, fun x hx hxo => ?_, fun x q hq => by
          rw [gown] at hq
          split at hq
          · exact .inl (Option.some.inj hq).symm
          · exact .inr hq, hio⟩
        · rw [hlen] at hcr; exact hcr
        · rcases List.mem_append.1 hx with h | h
          · exact hlw x h
          · exact hmw x h
        · have hxa : x ≠ ab := fun e => hxo (by rw [e]; exact q7)
          exact ⟨f4 x hxa, by rw [gfix, if_neg hxa], by rw [gown, if_neg hxa]⟩
    ·
      have hcs : ∀ c', l.length + m.length ≤ c' → c' * inf.size ≤ olds.length + news.length + (Builtin.zeroCells zv.cells (c' - (l.length + m.length))).size := by
        intro c' hc'
        rw [size_zeroCells, hzs, hol, hnl, ← Nat.add_mul, ← Nat.add_mul]
        exact Nat.mul_le_mul_right _ (by omega)
      cases A with
      | none =>
        have hln := hon rfl
        subst hln
        obtain rfl : olds = [] := List.eq_nil_of_length_eq_zero (by simpa using hol)
        have hc0 : c = 0 := by cases hl with | sl _ _ _ _ sz vs hc hn => exact hn rfl
        subst hc0
        have hrun := run_append_nil (P := P) w t ty e inf zv ht hi hz b m.length cB news hnl hnc hmp (by simpa using h63) (by simp at hfits; omega)
        rw [show ([] : List V).length = 0 from rfl, hrun]
        have := grown (P := P) (k := k) hg kd hs hor hnr hol hne e (Builtin.zeroCells zv.cells (grownCap w m.length 0 e - m.length)) (grownCap w m.length 0 e) (by simpa using grownCap_ge w m.length 0 e) (by have := hcs (grownCap w m.length 0 e) (by simpa using grownCap_ge w m.length 0 e); simpa using this)
        simpa using this
      | some a =>
        have hrun := run_append_grow (P := P) w t ty e inf zv ht hi hz a l.length c olds hol (hoc a rfl) b m.length cB news hnl hnc (by omega) h63 (growslice_fits (by omega) hfits)
        rw [hrun]
        exact grown (P := P) (k := k) hg kd hs hor hnr hol hne e _ (grownCap w (l.length + m.length) c e) (grownCap_ge w (l.length + m.length) c e) (hcs _ (grownCap_ge w (l.length + m.length) c e))
end Go.Proofs.YtlacnkjkcikodaaDoor.Am
end
section
set_option linter.unusedVariables false
set_option linter.unusedSimpArgs false
set_option linter.constructorNameAsVariable false
namespace Go.Proofs.YtlacnkjkcikodaaDoor.Am
open Go
theorem HR_same {w w' : World} {g g' : Gh} {Hs : List Tab} {m : Nat} (h : HR w g Hs) (hk : Keeps m w g w' g') (hm : Hs.length ≤ m)
    (hoth : ∀ lv' s' o b', objAt Hs lv' s' = some o → g.mu lv' s' = some b' → w'.heap[b']? = w.heap[b']? ∧ g'.fix b' = g.fix b')
    (hown : ∀ lv' s' c l v, OwnOK w g (.cell lv' s' c) l v → OwnOK w' g' (.cell lv' s' c) l v) : HR w' g' Hs := by
  refine ⟨fun lv' s' o ho => ?_, fun lv' s' cs c l ho hc => ?_⟩
  · obtain ⟨hu, b, e1, e2, e3⟩ := h.ob lv' s' o ho
    have hl := objAt_lt ho
    obtain ⟨f1, f2⟩ := hoth lv' s' o b ho e1
    exact ⟨hu, b, hk.mu lv' s' b (by omega) e1, f2.trans e2, e3.keep (hk.mono (m := lv' + 1) (by omega)) f1 hu⟩
  · obtain ⟨b, ccs, e', v, e1, e2, e3, e4⟩ := h.own lv' s' cs c l ho hc
    have hl := objAt_lt ho
    obtain ⟨f1, f2⟩ := hoth lv' s' _ b ho e1
    exact ⟨b, ccs, e', v, hk.mu lv' s' b (by omega) e1, f1.trans e2, e3, hown _ _ _ _ _ e4⟩
theorem app_inv {P : Program} {o : Go.Oper} {eff : List FuncId} {par : Bool} {sz : Nat} {X Y : Am.X} (ho : opOf P eff par o = some (.app sz X Y)) :
    ∃ x y t u e e' z, o.op = .call { callee := .builtin .append, args := #[x, y], argTypes := #[t, u] } ∧ opd x = some X ∧ opd y = some Y ∧ P.underlying t = some (.slice e) ∧ P.underlying u = some (.slice e') ∧ size? P e = some sz ∧ zeroV P e = some z ∧ small? P e = true ∧ z.cells.length = sz := by
  unfold opOf at ho
  split at ho
  case h_27 b args ats e0 =>
    split at ho
    · rename_i x y t u hargs hats
      split at ho
      · rename_i el e' he hu
        split at ho
        · rename_i s z hs hz
          split at ho
          · rename_i hc
            cases ho
            simp only [Bool.and_eq_true, beq_iff_eq] at hc
            obtain ⟨xo, yo, h1, h2, h3⟩ : ∃ xo yo, args.toList = [xo, yo] ∧ opd xo = some X ∧ opd yo = some Y := by
              match h : args.toList, hargs with
              | [], hargs => cases hargs
              | [a1], hargs =>
                simp only [opds] at hargs
                split at hargs
                · rename_i h1 h2; cases h2; cases hargs
                · cases hargs
              | [a1, a2], hargs =>
                simp only [opds] at hargs
                split at hargs
                · rename_i h1 h2
                  split at h2
                  · rename_i h3 h4; cases h4; cases h2; cases hargs; exact ⟨a1, a2, rfl, h1, h3⟩
                  · cases h2
                · cases hargs
              | a1 :: a2 :: a3 :: r, hargs =>
                exfalso
                simp only [opds] at hargs
                split at hargs
                · rename_i h1 h2
                  split at h2
                  · rename_i h3 h4
                    split at h4
                    · cases h4; cases h2; cases hargs
                    · cases h4
                  · cases h2
                · cases hargs
            have ht : P.underlying t = some (.slice el) := by
              unfold elemOf? at he
              split at he <;> cases he; assumption
            refine ⟨xo, yo, t, u, el, e', z, ?_, h2, h3, ht, hu, hs, hz, hc.1, hc.2⟩
            rw [e0]
            congr 2
            · apply Array.ext'; simpa using h1
            · apply Array.ext'; simpa using hats
          · cases ho
        · cases ho
      · cases ho
    · split at ho <;> cases ho
    · cases ho
    · cases ho
    · split at ho
      · obtain ⟨_, _, h⟩ := Option.map_eq_some_iff.1 ho; cases h
      · cases ho
    · cases ho
  all_goals first
    | (obtain ⟨_, _, h⟩ := Option.map_eq_some_iff.1 ho; cases h; done)
    | (cases ho; done)
    | skip
  all_goals first
    | (split at ho <;> first | (cases ho; done) | (obtain ⟨_, _, h⟩ := Option.map_eq_some_iff.1 ho; cases h; done) | skip)
    | skip
  all_goals first
    | (split at ho <;> first | (cases ho; done) | (obtain ⟨_, _, h⟩ := Option.map_eq_some_iff.1 ho; cases h; done) | skip)
    | skip
  all_goals first
    | (split at ho <;> first | (cases ho; done) | (obtain ⟨_, _, h⟩ := Option.map_eq_some_iff.1 ho; cases h; done) | skip)
    | skip
structure AppAt (P : Program) (w : World) (g : Gh) (k kd : Key) (a : Act) (o : Go.Oper) (l m : List V) : Prop where
  ex : ∃ val w' g', (execOp a.eval o).run P w = .ok (.value val) w' ∧ CR w' g' (.sl (l ++ m) .no) val ∧ OwnOK w' g' kd (l ++ m) val ∧ GOK w' g' ∧ w.heap.size ≤ w'.heap.size ∧ (∀ q, Keeps q w g w' g') ∧ g'.mu = g.mu ∧ (∀ b, b < w.heap.size → g.owner b ≠ some k → w'.heap[b]? = w.heap[b]? ∧ g'.fix b = g.fix b ∧ g'.owner b = g.owner b) ∧ (∀ b q, g'.owner b = some q → q = kd ∨ g.owner b = some q) ∧ w'.os = w.os ∧ w'.tape = w.tape ∧ w'.output = w.output
theorem app_at {P : Program} {w : World} {g : Gh} {n : Nat} {Hs : List Tab} {T : Tm} {a : Act} (hg : GOK w g) (hT : ∀ i, OK w g n Hs (T.get i) (a.tmps.getD i undef)) {o : Go.Oper} {eff : List FuncId} {par : Bool} {sz : Nat} {X Y : Am.X} (ho : opOf P eff par o = some (.app sz X Y)) {l m : List V} {tg : Tag} (hX : X.ev T = .sl l tg) (hm : appL sz l (Y.ev T) = some m) (kd : Key) {k : Key} (hown : ∀ v, CR w g (.sl l tg) v → (∀ l' s, X.ev T = .sl l' (.own s) → OwnOK w g (.tmp n s) l' v) → Lv w g n Hs (X.ev T) v → (∀ s, X = .t s → v = a.tmps.getD s undef) → OwnOK w g k l v) : AppAt P w g k kd a o l m := by
  obtain ⟨x, y, t, u, e, e', z, e0, hx, hy, ht, hu, hs, hz, hsm, hzl⟩ := app_inv ho
  have hxo := opd_sound hT hx
  have hyo := opd_sound hT hy
  obtain ⟨zv, hzi, hzv⟩ := Option.bind_eq_some_iff.1 hz
  obtain ⟨inf, hi, hzz⟩ := Option.bind_eq_some_iff.1 hzi
  have hzs := toV_sound (w := w) (g := g) hzv (n + 1)
  have hszs : inf.size = sz := by simpa [size?, hi] using hs
  have hzl2 : zv.cells.size = inf.size := by
    have := hzs.2.2.2.2.1.length
    simp only [Array.length_toList] at this
    rw [← this, hzl, hszs]
  obtain ⟨j, hj1, hj2, hj3, hj4, hj5⟩ := small_spec hsm
  rw [hi] at hj1; cases hj1
  unfold appL szOK at hm
  split at hm
  case h_2 => cases hm
  rename_i m' tg' hY
  split at hm
  case isFalse => cases hm
  rename_i hc
  cases hm
  obtain ⟨hc1, hc2, hc3⟩ := hc
  have hw : ∀ (q : List V), q.all (fun v => v.cells.length == sz) = true → ∀ x ∈ q, x.cells.length = inf.size := fun q hq x hx => by
    have := List.all_eq_true.1 hq x hx
    rw [hszs]; simpa using this
  have hcx : CR w g (.sl l tg) (a.eval x) := by have := hxo.vr; rw [hX] at this; exact this
  have hcy : CR w g (.sl m tg') (a.eval y) := by have := hyo.vr; rw [hY] at this; exact this
  have ho' := hown _ hcx (fun l' s h => hxo.lv.own l' s h) hxo.lv (fun s e => by
    subst e
    cases x <;> simp only [opd] at hx <;> first | (cases hx; done) | skip
    · cases hx; rfl
    · obtain ⟨_, _, hx⟩ := Option.map_eq_some_iff.1 hx; cases hx)
  have hsl : ∀ (q : List V) (tq : Tag) (v : Value), CR w g (.sl q tq) v → ∃ A c, v = .slice A q.length c := fun q tq v hq => by cases hq; exact ⟨_, _, rfl⟩
  obtain ⟨A, c, hA⟩ := hsl _ _ _ hcx
  obtain ⟨B, cB, hB⟩ := hsl _ _ _ hcy
  rw [hA] at hcx ho'
  rw [hB] at hcy
  obtain ⟨val, w', g', r1, r2⟩ := (app_run (ty := o.type) (kd := kd) hg ht hu hi hzz hzl2 ⟨hj2, hj3⟩ hj4 hcx hcy (hw l hc1) (hw m hc2) hc3 ho').ex
  refine ⟨val, w', g', ?_, r2⟩
  simp only [execOp, e0, resolve, invoke, builtin, Sem.run_bind, Sem.run_pure, Result.andThen_ok, List.map_toArray, List.map_cons, List.map_nil, hA, hB, r1]
theorem strip_mapV {T : Tm} {p : Tag → Bool} {i : Nat} : (T.mapV (V.strip p)).get i = (T.get i).strip p := Tm.get_mapV _ rfl _ _
theorem app_sound {P : Program} {lk : Nat} {st st' : St} {g : Gh} {N : Nat} {a : Act} {w : World} (h : SR st g N a w) {o : Go.Oper} (hdN : ∀ d, o.dst = some d → d < N) {eff : List FuncId} {par : Bool} {sz : Nat} {X Y : Am.X} (ho : opOf P eff par o = some (.app sz X Y)) {call : ACall} (hv : sop call lk st o.dst (.app sz X Y) = some st') : StepOK P lk st st' g N a w o := by
  simp only [sop] at hv
  split at hv
  case h_2 => cases hv
  rename_i d l tg hd hX
  split at hv
  case h_2 => cases hv
  rename_i m hm
  have hdn := hdN d hd
  have hp := fun v => getD_put a d v (by rw [h.n]; exact hdn)
  have key : ∀ (k : Key) (Hs' : St) (p : Tag → Bool), AppAt P w g k (.tmp st.H.length d) a o l m → (∀ s, p (.own s) = false → (Key.tmp st.H.length s) ≠ k) → Hs'.T = (st.T.mapV (V.strip p)).set d (.sl (l ++ m) (.own d)) → Hs'.H.length = st.H.length →
      (∀ w' g', (∀ q, Keeps q w g w' g') → g'.mu = g.mu → (∀ b, b < w.heap.size → g.owner b ≠ some k → w'.heap[b]? = w.heap[b]? ∧ g'.fix b = g.fix b ∧ g'.owner b = g.owner b) → HR w' g' (Hs'.H ++ [Hs'.L])) →
      (∀ lv s c cs l', p (.cell lv s c) = false → objAt (st.H ++ [st.L]) lv s = some (.cells cs) → cs[c]? = some (.sl l' .held) → ∃ cs', objAt (Hs'.H ++ [Hs'.L]) lv s = some (.cells cs') ∧ cs'[c]? = some (.sl l' .held)) →
      (∀ b, g.owner b = some k → Touch lk st.H.length g b) → StepOK P lk st Hs' g N a w o := by
    rintro k Hs' p ⟨val, w', g', r1, r2, r3, r4, r5, r6, r7, r8, r9, r10⟩ hpk hT' hlen hHR hcell htouch
    have hobj : ∀ lv s b, g.mu lv s = some b → w'.heap[b]? = w.heap[b]? := fun lv s b hmu => (r8 b (h.gok.lt _ _ _ hmu) (fun e => (h.gok.ow _ _ e).2 _ _ hmu)).1
    refine ⟨.value val, w', g', a.put o.dst val, r1, .inl ⟨val, rfl, rfl⟩, ⟨r4, hHR w' g' r6 r7 r8, ⟨fun i => ?_, fun i => ?_, fun i l' s hi => ?_, fun i l' lv s c hi => ?_⟩, ?_, ?_⟩, ⟨r5, r6 _, fun b hb ht => r8 b hb fun e => ht (htouch b e), fun lv s b hm => .inl (by rw [r7] at hm; exact hm), fun _ _ _ => by rw [r7], fun b lv s hl ho => (r9 b _ ho).resolve_left (by intro e; simp only [Key.tmp.injEq] at e; omega), r4, r10⟩, hlen⟩
    · rw [hT', hd, hp, Tm.get_set_if, strip_mapV]
      split
      · exact r2.retag fun _ _ _ _ => trivial
      · exact ((h.tr.v i).strip _).keep (r6 _) (strip_under (h.tr.un i))
    · rw [hT', hlen, Tm.get_set_if, strip_mapV]
      split
      · rfl
      · exact strip_under (h.tr.un i)
    · rw [hT', Tm.get_set_if, strip_mapV] at hi
      rw [hd, hp, hlen]
      split at hi
      · rename_i e; rw [if_pos e]; cases hi; exact r3
      · rename_i e; rw [if_neg e]
        obtain ⟨e1, e2⟩ := strip_own hi
        refine (h.tr.own i l' s e1).keep fun b hb => r8 b (h.gok.ow _ _ hb).1 ?_
        rw [hb]; exact fun e => hpk s e2 (Option.some.inj e)
    · rw [hT', Tm.get_set_if, strip_mapV] at hi
      rw [hd, hp]
      split at hi
      · cases hi
      · rename_i e; rw [if_neg e]
        obtain ⟨e1, e2⟩ := strip_cell hi
        obtain ⟨cs, b, ccs, e3, q1, q2, q3, q4, q5⟩ := h.tr.cell i l' lv s c e1
        obtain ⟨cs', f1, f2⟩ := hcell lv s c cs l' e2 q1 q2
        exact ⟨cs', b, ccs, e3, f1, f2, by rw [r7]; exact q3, (hobj _ _ _ q3).trans q4, q5⟩
    · rw [hd]; simp [Act.put, h.n]
    · rw [hd]; exact h.df
  have hHRs : ∀ (k : Key), (∀ lv s c, k ≠ .cell lv s c) → ∀ w' g', (∀ q, Keeps q w g w' g') → g'.mu = g.mu → (∀ b, b < w.heap.size → g.owner b ≠ some k → w'.heap[b]? = w.heap[b]? ∧ g'.fix b = g.fix b ∧ g'.owner b = g.owner b) → HR w' g' (st.H ++ [st.L]) := by
    intro k hk w' g' r6 r7 r8
    refine HR_same (m := st.H.length + 1) h.hr (r6 _) (by simp) (fun lv s o' b _ hmu => ?_) (fun lv s c l' v hh => hh.keep fun b hb => r8 b (h.gok.ow _ _ hb).1 ?_)
    · have := r8 b (h.gok.lt _ _ _ hmu) (fun e => (h.gok.ow _ _ e).2 _ _ hmu)
      exact ⟨this.1, this.2.1⟩
    · rw [hb]; exact fun e => hk lv s c (Option.some.inj e).symm
  have hfree : ∀ (hc : ∀ v, CR w g (.sl l tg) v → ∃ A, v = .slice A l.length l.length), AppAt P w g (.tmp st.H.length d) (.tmp st.H.length d) a o l m := fun hc =>
    app_at h.gok (fun i => h.tr.ok i) ho hX hm (.tmp st.H.length d) (fun v hcv _ _ _ => by obtain ⟨A, rfl⟩ := hc v hcv; exact ⟨A, _, rfl, .inl rfl⟩)
  split at hv
  · cases hv
    refine key _ _ (isOwn d) (hfree fun v hcv => ?_) (fun s hs e => by cases e; simp [isOwn] at hs) rfl rfl (hHRs _ (by simp)) (fun lv s c cs l' _ q1 q2 => ⟨cs, q1, q2⟩) (fun b hb => .inr (.inr ⟨_, d, Nat.le_refl _, hb⟩))
    cases hcv with
    | sl _ _ A c sz' vs hc hn hta =>
      have hta : A = none ∧ l.length = 0 ∧ c = 0 := hta
      obtain ⟨-, e1, e2⟩ := hta
      exact ⟨A, by rw [e1, e2]⟩
  · cases hv
    refine key _ _ (isOwn d) (hfree fun v hcv => ?_) (fun s hs e => by cases e; simp [isOwn] at hs) rfl rfl (hHRs _ (by simp)) (fun lv s c cs l' _ q1 q2 => ⟨cs, q1, q2⟩) (fun b hb => .inr (.inr ⟨_, d, Nat.le_refl _, hb⟩))
    cases hcv with
    | sl _ _ A c sz' vs hc hn hta =>
      have hta : c = l.length := hta
      exact ⟨A, by rw [hta]⟩
  · rename_i s
    cases hv
    refine key (.tmp st.H.length s) _ (isOwn2 s d) (app_at h.gok (fun i => h.tr.ok i) ho hX hm (.tmp st.H.length d) (fun v _ hown _ _ => hown l s hX)) (fun s' hs e => by cases e; simp [isOwn2, isOwn] at hs) rfl rfl (hHRs _ (by simp)) (fun lv s' c cs l' _ q1 q2 => ⟨cs, q1, q2⟩) (fun b hb => .inr (.inr ⟨_, s, Nat.le_refl _, hb⟩))
  · rename_i lv s c
    split at hv
    case h_2 => cases hv
    rename_i ob hob
    split at hv
    case h_2 => cases hv
    rename_i ob' hdrop
    split at hv
    case isFalse => cases hv
    rename_i hlk
    cases hv
    rw [St.obj_eq] at hob
    have hlv := objAt_lt hob
    unfold dropHeld at hdrop
    split at hdrop
    case h_2 => cases hdrop
    rename_i cs
    split at hdrop
    case h_2 => cases hdrop
    rename_i l2 hl2
    cases hdrop
    have hat := fun (w' : World) (g' : Gh) => setObj_at (st := ({ st with T := (st.T.mapV (V.strip (isCellOwn lv s c d))).set d (.sl (l ++ m) (.own d)) } : St)) (lv := lv) (s := s) (o := .cells (cs.set c (.sl l2 .no))) (by simpa using hlv)
    refine key (.cell lv s c) _ (isCellOwn lv s c d) (app_at h.gok (fun i => h.tr.ok i) ho hX hm (.tmp st.H.length d) (fun v _ _ hlvv _ => ?_)) (fun s' hs e => by cases e) setObj_T setObj_len ?_ (fun lv' s' c' cs' l' hp' q1 q2 => ?_) (fun b hb => .inr (.inl ⟨lv, s, c, hlk, hb⟩))
    · obtain ⟨cs', b, ccs, e, q1, q2, q3, q4, q5⟩ := hlvv.cell l lv s c hX
      obtain ⟨b2, ccs2, e2, v2, f1, f2, f3, f4⟩ := h.hr.own lv s cs' c l q1 q2
      rw [q3] at f1; cases f1
      rw [q4] at f2; cases f2
      rw [q5] at f3; cases f3
      exact f4
    · intro w' g' r6 r7 r8
      obtain ⟨hun, b, hmu, hfix, ccs, e, hb, hcr⟩ := h.hr.ob lv s _ hob
      have hbs := r8 b (h.gok.lt _ _ _ hmu) (fun e => (h.gok.ow _ _ e).2 _ _ hmu)
      have hun2 : cs.all (V.under1 (lv + 1)) = true := hun
      refine HR_chg (m := st.H.length + 1) h.hr (hat w' g') (r6 _) (by simp) (fun lv' s' o' b' _ _ hm' => ?_) (fun lv' s' c' l' v hne hh => hh.keep fun b' hb' => r8 b' (h.gok.ow _ _ hb').1 ?_) ⟨?_, b, by rw [r7]; exact hmu, hbs.2.1.trans hfix, ccs, e, hbs.1.trans hb, ?_⟩ (fun cs2 c2 l' hcs hc2 => ?_)
      · have := r8 b' (h.gok.lt _ _ _ hm') (fun e => (h.gok.ow _ _ e).2 _ _ hm')
        exact ⟨this.1, this.2.1⟩
      · rw [hb']; intro e; cases e; exact hne ⟨rfl, rfl⟩
      · show (cs.set c (.sl l2 .no)).all _ = true
        rw [List.all_eq_true] at hun2 ⊢
        intro y hy
        rcases List.mem_or_eq_of_mem_set hy with h1 | h1
        · exact hun2 y h1
        · subst h1; rfl
      · refine F2.of _ _ (by rw [List.length_set]; exact hcr.length) fun i y u hy hu => ?_
        rw [List.getElem?_set] at hy
        split at hy
        · rename_i e1
          subst e1
          split at hy
          · cases hy
            obtain ⟨u', hu', hr⟩ := hcr.get _ _ hl2
            rw [hu] at hu'; cases hu'
            exact (hr.retag (t' := .no) fun _ _ _ _ => trivial).keep (r6 0) rfl
          · cases hy
        · obtain ⟨u', hu', hr⟩ := hcr.get _ _ hy
          rw [hu] at hu'; cases hu'
          exact hr.keep (r6 (lv + 1)) (List.all_eq_true.1 hun2 y (List.mem_of_getElem? hy))
      · simp only [Ob.cells.injEq] at hcs
        subst hcs
        rw [List.getElem?_set] at hc2
        split at hc2
        · split at hc2 <;> cases hc2
        · rename_i hne
          obtain ⟨b2, ccs2, e2, v2, f1, f2, f3, f4⟩ := h.hr.own lv s cs c2 l' hob hc2
          rw [hmu] at f1; cases f1
          rw [hb] at f2; cases f2
          refine ⟨b, ccs, e, v2, by rw [r7]; exact hmu, hbs.1.trans hb, f3, f4.keep fun b' hb' => r8 b' (h.gok.ow _ _ hb').1 ?_⟩
          rw [hb']; intro e; cases e; exact hne rfl
    · rw [hat w g]
      split
      · rename_i e
        obtain ⟨rfl, rfl⟩ := e
        rw [hob] at q1; cases q1
        refine ⟨_, rfl, ?_⟩
        rw [List.getElem?_set, if_neg, q2]
        intro e; subst e
        have h1 : Nat.ble c c = true := by rw [Nat.ble_eq]; exact Nat.le_refl _
        have h2 : Nat.blt c (c + 1) = true := by rw [Nat.blt_eq]; omega
        simp [isCellOwn, isCellAt, h1, h2] at hp'
      · exact ⟨cs', q1, q2⟩
  · cases hv
end Go.Proofs.YtlacnkjkcikodaaDoor.Am
end
