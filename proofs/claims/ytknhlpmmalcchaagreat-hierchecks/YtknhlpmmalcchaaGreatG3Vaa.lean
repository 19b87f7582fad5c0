/- A small interpreter of its own for translated Go code: values whose addresses are names,a heap of named objects,and what each operation does to them. It proves nothing of a program by itself: V2 and its followers show that the machine does the same. -/
import Derived.Calls
import Derived.Orders
import Derived.Scope
import Derived.Below
import Derived.Laws.IdiomCopy
import Derived.Deep.Draws
import Derived.Laws.StructEq
import Derived.WalkSpells
import Derived.Laws.Tables
import Derived.Laws.BytesArg
import Derived.MapKept
import Derived.WideKeyRuns
import Derived.Laws.NewFold
import Derived.Tactics
set_option linter.all false
set_option linter.unusedVariables false
set_option linter.unusedSimpArgs false
namespace Go.VAI
open Go

inductive ACap where
 | exact (n:Nat)
 | room (sz:Nat)
 deriving DecidableEq,Inhabited

def ACap.top:ACap→Nat→Nat
 | .exact n,_=>n
 | .room _,len=>len

inductive AVal where
 | int (k:IntKind) (n:Int)
 | bool (b:Bool)
 | str (s:ByteArray)
 | ptr (id off:Nat)
 | nilPtr
 | slice (id off len:Nat) (cap:ACap)
 | nilSlice
 | map (id:Nat)
 | nilMap
 | func (fn:Fn) (first captured:List AVal)
 | nilFunc
 | iface (t:TypeId) (v:AVal)
 | nilIface
 | agg (cs:List AVal)
 | tuple (vs:List AVal)
 | bot
 deriving Inhabited

namespace AVal
def isCell:AVal→Bool
 | .agg _ | .tuple _ | .bot=>false
 | _=>true
def cells:AVal→Option (List AVal)
 | .agg cs=>some cs
 | .tuple _=>none
 | .bot=>none
 | v=>some [v]
mutual
def beq:AVal→AVal→Bool
 | .int k a,.int l b=>decide (k=l) && decide (a=b)
 | .bool a,.bool b=>a == b
 | .str a,.str b=>decide (a=b)
 | .ptr a b,.ptr c d=>decide (a=c) && decide (b=d)
 | .nilPtr,.nilPtr=>true
 | .slice a b c d,.slice e f g h=>decide (a=e) && decide (b=f) && decide (c=g) && decide (d=h)
 | .nilSlice,.nilSlice=>true
 | .map a,.map b=>decide (a=b)
 | .nilMap,.nilMap=>true
 | .func f a b,.func g c d=>decide (f=g) && beqs a c && beqs b d
 | .nilFunc,.nilFunc=>true
 | .iface t v,.iface u w=>decide (t=u) && beq v w
 | .nilIface,.nilIface=>true
 | .agg a,.agg b=>beqs a b
 | .tuple a,.tuple b=>beqs a b
 | _,_=>false
def beqs:List AVal→List AVal→Bool
 | [],[]=>true
 | a :: as,b :: bs=>beq a b && beqs as bs
 | _,_=>false
end
end AVal

inductive AObj where
 | cells (c:List AVal) (rw:Bool)
 | amap (es:List (AVal × AVal))
 deriving Inhabited

structure AHeap where
 obj:Nat→Option AObj
 next:Nat

namespace AHeap
def upd (H:AHeap) (id:Nat) (o:Option AObj):AHeap:={ obj:=fun i=>if i=id then o else H.obj i,next:=H.next }
def new (H:AHeap) (o:AObj):AHeap:={ obj:=fun i=>if i=H.next then some o else H.obj i,next:=H.next+1 }
def cells? (H:AHeap) (id:Nat):Option (List AVal) :=
 match H.obj id with
 | some (.cells c _)=>some c
 | _=>none
def rw? (H:AHeap) (id:Nat):Option (List AVal) :=
 match H.obj id with
 | some (.cells c true)=>some c
 | _=>none
def map? (H:AHeap) (id:Nat):Option (List (AVal × AVal)) :=
 match H.obj id with
 | some (.amap es)=>some es
 | _=>none
end AHeap

abbrev xJ:=List AVal
def yA:xJ→Nat→AVal
 | [],_=>.bot
 | v :: _,0=>v
 | _ :: t,n+1=>yA t n
def tset:xJ→Nat→AVal→xJ
 | [],_,_=>[]
 | _ :: t,0,x=>x :: t
 | v :: t,n+1,x=>v :: tset t n x
def tput (t:xJ):Option Nat→AVal→xJ
 | some d,v=>tset t d v
 | none,_=>t
def keep:List Bool→xJ→xJ
 | _,[]=>[]
 | [],_ :: t=>.bot :: keep [] t
 | true :: bs,v :: t=>v :: keep bs t
 | false :: bs,_ :: t=>.bot :: keep bs t

def bnd {α β:Type} (x:Option α) (f:α→Option β):Option β :=
 match x with
 | none=>none
 | some a=>f a

inductive AOpd where
 | tmp (i:Nat)
 | con (v:AVal)
 deriving Inhabited
def AOpd.ev (t:xJ):AOpd→AVal
 | .tmp i=>yA t i
 | .con v=>v

inductive FK where
 | int | bool | str
 deriving DecidableEq,Inhabited

inductive KeyK where
 | one (k:FK)
 | many (ks:List FK)
 deriving DecidableEq,Inhabited

inductive EqK where
 | prim
 | plain
 | flat (ks:List FK)
 | nilP | nilS | nilM | nilF | nilI
 deriving DecidableEq,Inhabited

inductive AOp where
 | move (x:AOpd)
 | pick (c a b:AOpd)
 | alloc (zs:List AVal)
 | box (n:Nat) (x:AOpd)
 | build (zs:List AVal) (parts:List (Nat × Nat × AOpd))
 | buildSlice (zs:List AVal) (len:Nat) (parts:List (Nat × Nat × AOpd))
 | load1 (x:AOpd)
 | loadN (n:Nat) (x:AOpd)
 | store (n:Nat) (x v:AOpd)
 | nilCheck (x:AOpd)
 | bin (op:BinOp) (e:EqK) (x y:AOpd)
 | un (op:UnOp) (x:AOpd)
 | toInt (k:IntKind) (x:AOpd)
 | same (x:AOpd)
 | sameBytes (x:AOpd)
 | bytesToStr (x:AOpd)
 | mkIface (t:TypeId) (x:AOpd)
 | mkFunc (fn:Fn) (first captured:List AOpd)
 | mkMap
 | mkSlice (zs:List AVal) (bytes:Nat) (len cap:AOpd)
 | slice (sz:Nat) (x:AOpd) (lo hi mx:Option AOpd)
 | sliceStr (x:AOpd) (lo hi:Option AOpd)
 | fieldAddr (off:Nat) (x:AOpd)
 | indexAddrS (sz:Nat) (x i:AOpd)
 | indexAddrA (len sz:Nat) (x i:AOpd)
 | field (off sz:Nat) (agg:Bool) (x:AOpd)
 | indexA (len sz:Nat) (agg:Bool) (x i:AOpd)
 | indexStr (x i:AOpd)
 | lookup (flat:KeyK) (zero:AVal) (x i:AOpd) (ok:Bool)
 | mapUpdate (flat:KeyK) (m k v:AOpd)
 | extract (x:AOpd) (i:Nat)
 | lenS (x:AOpd)
 | lenStr (x:AOpd)
 | lenM (x:AOpd)
 | max (xs:List AOpd)
 | min (xs:List AOpd)
 | append (sz bytes:Nat) (s x:AOpd)
 | call (f:Nat) (args:List AOpd)
 | callv (f:AOpd) (args:List AOpd)
 deriving Inhabited

structure AOper where
 dst:Option Nat
 op:AOp
 guard:Option (Nat × Bool)
 deriving Inhabited

inductive DStep where
 | op (i:Nat) (o:AOper)
 | re (i:Nat) (o:AOper)
 deriving Inhabited

inductive ACode where
 | skip
 | region (ops:List AOper)
 | dregion (before:List (List Nat)) (steps:List DStep)
 | seq (a b:ACode)
 | cond (c:AOpd) (thn els:ACode)
 | block (id:Nat) (body:ACode)
 | loop (live out:List Bool) (body:ACode)
 | join (out:List Bool) (body:ACode)
 | exit (id:Nat)
 | scope (body:ACode) (l:Nat) (rest:ACode)
 | goto (l:Nat)
 | ret
 deriving Inhabited

inductive AExit where
 | normal
 | exit (id:Nat)
 | goto (l:Nat)
 | ret
 deriving DecidableEq,Inhabited

def idx (l:List AVal) (i:Nat):Option AVal:=l[i]?

def aload1 (H:AHeap):AVal→Option AVal
 | .ptr id off=>bnd (H.cells? id) fun c=>c[off]?
 | _=>none
def aloadN (H:AHeap) (n:Nat):AVal→Option AVal
 | .ptr id off=>bnd (H.cells? id) fun c=>if off+n≤c.length then some (.agg ((c.drop off).take n)) else none
 | _=>none
def yV (c:List AVal) (off:Nat) (vs:List AVal):List AVal:=c.take off++vs++c.drop (off+vs.length)
def storeCells (H:AHeap) (id off:Nat) (vs:List AVal):Option AHeap :=
 bnd (H.rw? id) fun c=>if off+vs.length≤c.length then some (H.upd id (some (.cells (yV c off vs) true))) else none
def astore (H:AHeap) (n:Nat) (p v:AVal):Option AHeap :=
 bnd v.cells fun vs=>if vs.length=n then (match p with | .ptr id off=>storeCells H id off vs | _=>none) else none
def afill (cs:List AVal):List (Nat × Nat × AVal)→Option (List AVal)
 | []=>some cs
 | (off,sz,v) :: rest =>
  bnd v.cells fun vs=>if vs.length=sz∧off+sz≤cs.length then afill (yV cs off vs) rest else none
def evp (t:xJ) (parts:List (Nat × Nat × AOpd)):List (Nat × Nat × AVal):=parts.map fun p=>(p.1,p.2.1,p.2.2.ev t)

def yP:List FK→List AVal→List AVal→Option Bool
 | [],[],[]=>some true
 | .int :: ks,.int k a :: x,.int l b :: y=>if k=l then bnd (yP ks x y) fun r=>some (decide (a=b) && r) else none
 | .bool :: ks,.bool a :: x,.bool b :: y=>bnd (yP ks x y) fun r=>some ((a == b) && r)
 | .str :: ks,.str a :: x,.str b :: y=>bnd (yP ks x y) fun r=>some (decide (a=b) && r)
 | _,_,_=>none
def aeq:EqK→AVal→AVal→Option Bool
 | .plain,.bool a,.bool b=>some (a == b)
 | .flat ks,.agg a,.agg b=>yP ks a b
 | .nilP,.ptr _ _,.nilPtr=>some false
 | .nilP,.nilPtr,.ptr _ _=>some false
 | .nilP,.nilPtr,.nilPtr=>some true
 | .nilS,.slice _ _ _ _,.nilSlice=>some false
 | .nilS,.nilSlice,.slice _ _ _ _=>some false
 | .nilS,.nilSlice,.nilSlice=>some true
 | .nilM,.map _,.nilMap=>some false
 | .nilM,.nilMap,.map _=>some false
 | .nilM,.nilMap,.nilMap=>some true
 | .nilF,.func _ _ _,.nilFunc=>some false
 | .nilF,.nilFunc,.func _ _ _=>some false
 | .nilF,.nilFunc,.nilFunc=>some true
 | .nilI,.iface _ _,.nilIface=>some false
 | .nilI,.nilIface,.iface _ _=>some false
 | .nilI,.nilIface,.nilIface=>some true
 | _,_,_=>none
def aint (op:BinOp) (k:IntKind) (a b:Int):Option AVal :=
 match op with
 | .add=>some (.int k (k.wrap (a+b)))
 | .sub=>some (.int k (k.wrap (a - b)))
 | .mul=>some (.int k (k.wrap (a*b)))
 | .quo=>if b=0 then none else some (.int k (k.wrap (a.tdiv b)))
 | .rem=>if b=0 then none else some (.int k (a.tmod b))
 | .and=>some (.int k (k.wrap (BitVec.ofInt k.bits a &&& BitVec.ofInt k.bits b).toNat))
 | .or=>some (.int k (k.wrap (BitVec.ofInt k.bits a ||| BitVec.ofInt k.bits b).toNat))
 | .xor=>some (.int k (k.wrap (BitVec.ofInt k.bits a ^^^ BitVec.ofInt k.bits b).toNat))
 | .andNot=>some (.int k (k.wrap (BitVec.ofInt k.bits a &&& ~~~BitVec.ofInt k.bits b).toNat))
 | .eql=>some (.bool (decide (a=b)))
 | .neq=>some (.bool (!decide (a=b)))
 | .lss=>some (.bool (decide (a < b)))
 | .leq=>some (.bool (decide (a≤b)))
 | .gtr=>some (.bool (decide (a > b)))
 | .geq=>some (.bool (decide (a≥b)))
 | _=>none
def ashift (op:BinOp) (k:IntKind) (a b:Int):Option AVal :=
 if b < 0 then none else
 match op with
 | .shl=>some (.int k (k.wrap (a*2 ^ (Nat.min b.toNat k.bits))))
 | .shr=>some (.int k (a.fdiv (2 ^ (Nat.min b.toNat k.bits))))
 | _=>none
def astr (op:BinOp) (a b:ByteArray):Option AVal :=
 match op with
 | .add=>if a.size+b.size≤9223372036854775807 then some (.str (a++b)) else none
 | .eql=>some (.bool (a.toList == b.toList))
 | .neq=>some (.bool (!(a.toList == b.toList)))
 | .lss=>some (.bool (Op.bytesLess a.toList b.toList))
 | .leq=>some (.bool (Op.bytesLess a.toList b.toList || a.toList == b.toList))
 | .gtr=>some (.bool (!(Op.bytesLess a.toList b.toList || a.toList == b.toList)))
 | .geq=>some (.bool (!Op.bytesLess a.toList b.toList))
 | _=>none
def zX:BinOp→Bool
 | .shl | .shr=>true
 | _=>false
def aeqv (op:BinOp) (e:EqK) (x y:AVal):Option AVal :=
 match op with
 | .eql=>bnd (aeq e x y) fun r=>some (.bool r)
 | .neq=>bnd (aeq e x y) fun r=>some (.bool (!r))
 | _=>none
def wW (op:BinOp) (e:EqK) (x y:AVal):Option AVal :=
 match x,y with
 | .int k a,.int l b=>if zX op then ashift op k a b else if k=l then aint op k a b else none
 | .str a,.str b=>astr op a b
 | x,y=>aeqv op e x y
def aun (op:UnOp) (x:AVal):Option AVal :=
 match op,x with
 | .not,.bool b=>some (.bool !b)
 | .neg,.int k n=>some (.int k (k.wrap (0 - n)))
 | .xor,.int k n=>aint .xor k (if k.signed then -1 else k.max) n
 | _,_=>none
def uJ (H:AHeap):AVal→Option AVal
 | .slice id off len cap=>bnd (H.rw? id) fun _=>some (.slice id off len cap)
 | _=>none
def toBytes:List AVal→Option (List UInt8)
 | []=>some []
 | .int .u8 n :: l=>bnd (toBytes l) fun r=>some (UInt8.ofNat n.toNat :: r)
 | _=>none
def uS (H:AHeap):AVal→Option AVal
 | .nilSlice=>some (.str ⟨#[]⟩)
 | .slice id off len _=>bnd (H.cells? id) fun c=>if off+len≤c.length then bnd (toBytes ((c.drop off).take len)) fun l=>some (.str ⟨l.toArray⟩) else none
 | _=>none
def reps (zs:List AVal):Nat→List AVal
 | 0=>[]
 | n+1=>zs++reps zs n
def amkSlice (zs:List AVal) (bytes:Nat) (l c:AVal):Option (AObj × (Nat→AVal)) :=
 match l,c with
 | .int .i64 l,.int .i64 c =>
  if 0≤l∧l≤c∧c*bytes≤140737488355328∧c≤9223372036854775807 then some (.cells (reps zs c.toNat) true,fun y=>.slice y 0 l.toNat (.exact c.toNat)) else none
 | _,_=>none
def bound (x:AVal) (y:Nat):Option Nat :=
 match x with
 | .int _ i=>if 0≤i∧i≤y then some i.toNat else none
 | _=>none
def wA (x:Option AVal) (y d:Nat):Option Nat :=
 match x with
 | some v=>bound v y
 | none=>some d
def wB (sz:Nat) (x:AVal) (lo hi mx:Option AVal):Option AVal :=
 match x with
 | .slice id off len cap =>
  match mx with
  | some m =>
   bnd (bound m (cap.top len)) fun m=>bnd (wA hi m 0) fun h=>bnd (wA lo h 0) fun l =>
   if hi.isNone then none else
   some (.slice id (if m=l then off else off+l*sz) (h - l) (.exact (m - l)))
  | none =>
   bnd (wA hi (cap.top len) len) fun h=>bnd (wA lo h 0) fun l =>
   match cap with
   | .exact n=>some (.slice id (if n=l then off else off+l*sz) (h - l) (.exact (n - l)))
   | .room s=>if s=sz∨l=0 then some (.slice id (off+l*sz) (h - l) (.room s)) else none
 | .nilSlice =>
  bnd (wA mx 0 0) fun m=>bnd (wA hi m 0) fun h=>bnd (wA lo h 0) fun _ =>
  if mx.isSome∧hi.isNone then none else some .nilSlice
 | _=>none
def asliceStr (x:AVal) (lo hi:Option AVal):Option AVal :=
 match x with
 | .str s=>bnd (wA hi s.size s.size) fun h=>bnd (wA lo h 0) fun l=>some (.str (s.extract l h))
 | _=>none
def afieldAddr (off:Nat):AVal→Option AVal
 | .ptr id o=>some (.ptr id (o+off))
 | _=>none
def xO (sz:Nat) (x i:AVal):Option AVal :=
 match x,i with
 | .slice id off len _,.int _ i=>if 0≤i∧i < len then some (.ptr id (off+i.toNat*sz)) else none
 | _,_=>none
def aindexAddrA (len sz:Nat) (x i:AVal):Option AVal :=
 match x,i with
 | .ptr id off,.int _ i=>if 0≤i∧i < len then some (.ptr id (off+i.toNat*sz)) else none
 | _,_=>none
def apart (off sz:Nat) (agg:Bool) (cs:List AVal):Option AVal :=
 if agg then (if off+sz≤cs.length then some (.agg ((cs.drop off).take sz)) else none) else cs[off]?
def afield (off sz:Nat) (agg:Bool):AVal→Option AVal
 | .agg cs=>apart off sz agg cs
 | _=>none
def aindexA (len sz:Nat) (agg:Bool) (x i:AVal):Option AVal :=
 match x,i with
 | .agg cs,.int _ i=>if 0≤i∧i < len then apart (i.toNat*sz) sz agg cs else none
 | _,_=>none
def aindexStr (x i:AVal):Option AVal :=
 match x,i with
 | .str s,.int _ i=>if 0≤i then (match s[i.toNat]? with | some b=>some (.int .u8 b.toNat) | none=>none) else none
 | _,_=>none
def keyEq:KeyK→AVal→AVal→Option Bool
 | .one k,x,y=>yP [k] [x] [y]
 | .many ks,.agg x,.agg y=>yP ks x y
 | _,_,_=>none
def isKey (flat:KeyK) (k:AVal):Bool:=(keyEq flat k k).isSome
def findKey (flat:KeyK) (k:AVal):List (AVal × AVal)→Nat→Option (Option (Nat × AVal))
 | [],_=>some none
 | e :: es,i=>bnd (keyEq flat k e.1) fun b=>if b then some (some (i,e.2)) else findKey flat k es (i+1)
def alookup (H:AHeap) (flat:KeyK) (zero x k:AVal) (ok:Bool):Option AVal :=
 let out (v:AVal) (b:Bool):AVal:=if ok then .tuple [v,.bool b] else v
 if isKey flat k=false then none else
 match x with
 | .nilMap=>some (out zero false)
 | .map id=>bnd (H.map? id) fun es=>bnd (findKey flat k es 0) fun r =>
  match r with
  | some (_,v)=>some (out v true)
  | none=>some (out zero false)
 | _=>none
def uK (H:AHeap) (flat:KeyK) (m k v:AVal):Option AHeap :=
 if isKey flat k then
 match m with
 | .map id=>bnd (H.map? id) fun es=>bnd (findKey flat k es 0) fun r =>
  match r with
  | some (i,_)=>some (H.upd id (some (.amap (es.set i (k,v)))))
  | none=>some (H.upd id (some (.amap (es++[(k,v)]))))
 | _=>none
 else none
def alenS:AVal→Option AVal
 | .slice _ _ n _=>some (.int .i64 n)
 | .nilSlice=>some (.int .i64 0)
 | _=>none
def alenStr:AVal→Option AVal
 | .str s=>some (.int .i64 s.size)
 | _=>none
def alenM (H:AHeap):AVal→Option AVal
 | .map id=>bnd (H.map? id) fun es=>some (.int .i64 es.length)
 | .nilMap=>some (.int .i64 0)
 | _=>none
def amax2:AVal→AVal→Option AVal
 | .int k x,.int _ y=>some (.int k (if y > x then y else x))
 | _,_=>none
def amin2:AVal→AVal→Option AVal
 | .int k x,.int _ y=>some (.int k (if y < x then y else x))
 | _,_=>none
def afold (f:AVal→AVal→Option AVal):AVal→List AVal→Option AVal
 | x,[]=>some x
 | x,y :: l=>bnd (f x y) fun z=>afold f z l
def taken (H:AHeap) (sz:Nat):AVal→Option (Nat × List AVal)
 | .nilSlice=>some (0,[])
 | .slice id off len _=>bnd (H.cells? id) fun c=>if off+len*sz≤c.length then some (len,(c.drop off).take (len*sz)) else none
 | .str s=>if sz=1 then some (s.size,s.data.toList.map fun b=>.int .u8 b.toNat) else none
 | _=>none
def zY (H:AHeap) (sz bytes:Nat) (s x:AVal):Option (AVal × AHeap) :=
 bnd (taken H sz x) fun r =>
 match s with
 | .nilSlice =>
  if r.1=0 then some (.nilSlice,H)
  else if r.1*bytes≤70368744177664∧0 < bytes then some (.slice H.next 0 r.1 (.room sz),H.new (.cells r.2 true)) else none
 | .slice id off len cap =>
  if r.1=0 then some (.slice id off len cap,H) else
  if (len+r.1)*bytes≤70368744177664∧0 < bytes then
   match cap with
   | .exact n =>
    if len+r.1≤n then bnd (storeCells H id (off+len*sz) r.2) fun H'=>some (.slice id off (len+r.1) cap,H')
    else bnd (taken H sz (.slice id off len cap)) fun q=>some (.slice H.next 0 (len+r.1) (.room sz),H.new (.cells (q.2++r.2) true))
   | .room sz' =>
    bnd (H.rw? id) fun c =>
    if sz'=sz∧off+len*sz=c.length∧0 < sz then
     some (.slice H.next 0 (len+r.1) (.room sz),(H.upd id none).new (.cells (c.drop off++r.2) true))
    else if sz'=sz∧off+len*sz < c.length∧0 < sz then
     some (.slice H.next 0 (len+r.1) (.room sz),(H.upd id none).new (.cells ((c.drop off).take (len*sz)++r.2) true))
    else none
  else none
 | _=>none

def evs (t:xJ) (l:List AOpd):List AVal:=l.map (AOpd.ev t)

def onlyV (x:Option AVal) (H:AHeap):Option (AVal × AHeap):=bnd x fun v=>some (v,H)
def onlyH (x:Option AHeap):Option (AVal × AHeap):=bnd x fun H=>some (.tuple [],H)

abbrev zN:=Nat→List AVal→AHeap→Option (AVal × AHeap)

def apick (c a b:AVal):Option AVal :=
 match c with
 | .bool true=>some a
 | .bool false=>some b
 | _=>none
def anilCheck:AVal→Option AVal
 | .ptr id off=>some (.ptr id off)
 | .func (.func f) a b=>some (.func (.func f) a b)
 | _=>none
def atoInt (k:IntKind):AVal→Option AVal
 | .int _ n=>some (.int k (k.wrap n))
 | _=>none
def asame:AVal→Option AVal
 | .str s=>some (.str s)
 | _=>none
def amkIface (ty:TypeId):AVal→Option AVal
 | .bot=>none
 | v=>some (.iface ty v)
def aextract (i:Nat):AVal→Option AVal
 | .tuple vs=>vs[i]?
 | _=>none
def afolds (f:AVal→AVal→Option AVal):List AVal→Option AVal
 | []=>none
 | x :: l=>afold f x l

def zU (o:AOp) (t:xJ):Option AVal :=
 match o with
 | .move x=>some (x.ev t)
 | .pick c a b=>apick (c.ev t) (a.ev t) (b.ev t)
 | .build zs parts=>bnd (afill zs (evp t parts)) fun cs=>some (.agg cs)
 | .nilCheck x=>anilCheck (x.ev t)
 | .bin op e x y=>wW op e (x.ev t) (y.ev t)
 | .un op x=>aun op (x.ev t)
 | .toInt k x=>atoInt k (x.ev t)
 | .same x=>asame (x.ev t)
 | .mkIface ty x=>amkIface ty (x.ev t)
 | .mkFunc fn a b=>some (.func fn (evs t a) (evs t b))
 | .slice sz x lo hi mx=>wB sz (x.ev t) (lo.map (AOpd.ev t)) (hi.map (AOpd.ev t)) (mx.map (AOpd.ev t))
 | .sliceStr x lo hi=>asliceStr (x.ev t) (lo.map (AOpd.ev t)) (hi.map (AOpd.ev t))
 | .fieldAddr off x=>afieldAddr off (x.ev t)
 | .indexAddrS sz x i=>xO sz (x.ev t) (i.ev t)
 | .indexAddrA len sz x i=>aindexAddrA len sz (x.ev t) (i.ev t)
 | .field off sz agg x=>afield off sz agg (x.ev t)
 | .indexA len sz agg x i=>aindexA len sz agg (x.ev t) (i.ev t)
 | .indexStr x i=>aindexStr (x.ev t) (i.ev t)
 | .extract x i=>aextract i (x.ev t)
 | .lenS x=>alenS (x.ev t)
 | .lenStr x=>alenStr (x.ev t)
 | .max xs=>afolds amax2 (evs t xs)
 | .min xs=>afolds amin2 (evs t xs)
 | _=>none
def vP (o:AOp) (t:xJ) (H:AHeap):Option AVal :=
 match o with
 | .load1 x=>aload1 H (x.ev t)
 | .loadN n x=>aloadN H n (x.ev t)
 | .sameBytes x=>uJ H (x.ev t)
 | .bytesToStr x=>uS H (x.ev t)
 | .lookup flat zero x i ok=>alookup H flat zero (x.ev t) (i.ev t) ok
 | .lenM x=>alenM H (x.ev t)
 | _=>none
def wJ (o:AOp) (t:xJ):Option (AObj × (Nat→AVal)) :=
 match o with
 | .alloc zs=>some (.cells zs true,fun y=>.ptr y 0)
 | .box n x=>bnd (x.ev t).cells fun vs=>if vs.length=n then some (.cells vs true,fun y=>.ptr y 0) else none
 | .buildSlice zs len parts=>bnd (afill zs (evp t parts)) fun cs=>some (.cells cs true,fun y=>.slice y 0 len (.exact len))
 | .mkMap=>some (.amap [],fun y=>.map y)
 | .mkSlice zs bytes l c=>amkSlice zs bytes (l.ev t) (c.ev t)
 | _=>none

inductive Cls where
 | pure | read | alloc | eff
 deriving DecidableEq,Inhabited
def AOp.cls:AOp→Cls
 | .alloc _ | .box _ _ | .buildSlice _ _ _ | .mkMap | .mkSlice _ _ _ _=>.alloc
 | .load1 _ | .loadN _ _ | .sameBytes _ | .bytesToStr _ | .lookup _ _ _ _ _ | .lenM _=>.read
 | .store _ _ _ | .mapUpdate _ _ _ _ | .append _ _ _ _ | .call _ _ | .callv _ _=>.eff
 | _=>.pure

def aeff (call:zN) (o:AOp) (t:xJ) (H:AHeap):Option (AVal × AHeap) :=
 match o with
 | .store n x v=>onlyH (astore H n (x.ev t) (v.ev t))
 | .mapUpdate flat m k v=>onlyH (uK H flat (m.ev t) (k.ev t) (v.ev t))
 | .append sz bytes s x=>zY H sz bytes (s.ev t) (x.ev t)
 | .call f args=>call f (evs t args) H
 | .callv f args=>(match f.ev t with | .func (.func g) a b=>call g (a++evs t args++b) H | _=>none)
 | _=>none

def aop (call:zN) (o:AOp) (t:xJ) (H:AHeap):Option (AVal × AHeap) :=
 match o.cls with
 | .pure=>onlyV (zU o t) H
 | .read=>onlyV (vP o t H) H
 | .alloc=>bnd (wJ o t) fun r=>some (r.2 H.next,H.new r.1)
 | .eff=>aeff call o t H

def gop (call:zN) (o:AOper) (t:xJ) (H:AHeap):Option (AVal × AHeap) :=
 match o.guard with
 | none=>aop call o.op t H
 | some (s,want) =>
  match yA t s with
  | .bool b=>if b=want then aop call o.op t H else some (.tuple [],H)
  | .tuple []=>some (.tuple [],H)
  | _=>none

def runOps {α:Type} (call:zN):List AOper→xJ→AHeap→(xJ→AHeap→Option α)→Option α
 | [],t,H,k=>k t H
 | o :: os,t,H,k=>bnd (gop call o t H) fun r=>runOps call os (tput t o.dst r.1) r.2 k

def zT {α:Type} (call:zN):List DStep→xJ→AHeap→(xJ→AHeap→Option α)→Option α
 | [],t,H,k=>k t H
 | .op _ o :: os,t,H,k=>bnd (gop call o t H) fun r=>zT call os (tput t o.dst r.1) r.2 k
 | .re _ o :: os,t,H,k=>bnd (gop call o t H) fun r =>
   if AVal.beq r.1 (match o.dst with | some d=>yA t d | none=>r.1) then zT call os t H k else none

abbrev Res:=AExit × xJ × AHeap

def iter (body:xJ→AHeap→(AExit→xJ→AHeap→Option Res)→Option Res) (live out:List Bool):Nat→xJ→AHeap→Option Res
 | 0,_,_=>none
 | n+1,t,H=>body t H fun e t' H' =>
  match e with
  | .normal=>iter body live out n (keep live t') H'
  | e=>some (e,keep out t',H')

def exec (call:zN) (n:Nat):{α:Type}→ACode→xJ→AHeap→(AExit→xJ→AHeap→Option α)→Option α
 | _,.skip,t,H,k=>k .normal t H
 | _,.region ops,t,H,k=>runOps call ops t H (k .normal)
 | _,.dregion _ steps,t,H,k=>zT call steps t H (k .normal)
 | _,.seq a b,t,H,k=>exec call n a t H fun e t H=>match e with | .normal=>exec call n b t H k | e=>k e t H
 | _,.cond c a b,t,H,k=>(match c.ev t with | .bool true=>exec call n a t H k | .bool false=>exec call n b t H k | _=>none)
 | _,.block id a,t,H,k=>exec call n a t H fun e t H=>match e with | .exit i=>if i=id then k .normal t H else k (.exit i) t H | e=>k e t H
 | _,.loop live out a,t,H,k=>bnd (iter (fun t H k=>exec call n a t H k) live out n (keep live t) H) fun r=>k r.1 r.2.1 r.2.2
 | _,.join out a,t,H,k=>bnd (exec (α:=Res) call n a t H fun e t H=>some (e,keep out t,H)) fun r=>k r.1 r.2.1 r.2.2
 | _,.exit id,t,H,k=>k (.exit id) t H
 | _,.scope a l rest,t,H,k=>exec call n a t H fun e t H=>match e with | .goto i=>if i=l then exec call n rest t H (fun e t H=>match e with | .goto _=>none | e=>k e t H) else none | e=>k e t H
 | _,.goto l,t,H,k=>k (.goto l) t H
 | _,.ret,t,H,k=>k .ret t H

inductive ARes where
 | tmp (t:Nat)
 | cell (n:Nat) (agg:Bool) (t:Nat)
 deriving Inhabited
def ares (t:xJ) (H:AHeap):ARes→Option AVal
 | .tmp i=>(match yA t i with | .bot=>none | v=>some v)
 | .cell n agg i=>if agg then aloadN H n (yA t i) else aload1 H (yA t i)
def aresl (t:xJ) (H:AHeap):List ARes→Option (List AVal)
 | []=>some []
 | r :: rs=>bnd (ares t H r) fun v=>bnd (aresl t H rs) fun vs=>some (v :: vs)
def result (rs:List ARes) (t:xJ) (H:AHeap):Option (AVal × AHeap) :=
 match rs with
 | [r]=>bnd (ares t H r) fun v=>some (v,H)
 | rs=>bnd (aresl t H rs) fun vs=>some (.tuple vs,H)

structure AFn where
 ntmps:Nat
 results:List ARes
 body:ACode
 deriving Inhabited

structure AProg where
 fn:Nat→Option AFn
 base:zN
instance:CoeFun AProg (fun _=>Nat→Option AFn):=⟨AProg.fn⟩

def pad (l:List AVal) (n:Nat):List AVal:=l++List.replicate (n - l.length) .bot

def qD (P:AProg):Nat→zN
 | 0,_,_,_=>none
 | n+1,f,args,H =>
  match P.fn f with
  | none=>P.base f args H
  | some fn=>exec (qD P n) n fn.body (pad args fn.ntmps) H fun e t H =>
   match e with
   | .normal=>result fn.results t H
   | .ret=>result fn.results t H
   | _=>none
end Go.VAI

/- How the interpreter's values and heap stand to the machine's: a renaming of names to places,and what keeps it. -/
set_option linter.unusedVariables false
set_option linter.unusedSimpArgs false
namespace Go.VAI
open Go Go.RowKit

structure Loc where
 b:Nat
 o:Nat
 n:Nat

abbrev Ren:=Nat→Option Loc

mutual
def VRel (ρ:Ren):AVal→Value→Prop
 | .int k n,v=>v=.int k n
 | .bool b,v=>v=.bool b
 | .str s,v=>v=.string s
 | .ptr id off,v=>∃ l,ρ id=some l∧v=.pointer (some ⟨l.b,l.o+off,none⟩)
 | .nilPtr,v=>v=.pointer none
 | .slice id off len (.exact c),v=>∃ l,∃ p:Addr,ρ id=some l∧v=.slice (some p) len c∧len≤c∧(p=⟨l.b,l.o+off,none⟩∨c=0∧(p.block=l.b∨l.n < l.o))
 | .slice id off len (.room sz),v=>∃ l c p,ρ id=some l∧v=.slice (some ⟨l.b,p,none⟩) len c∧len≤c∧(p=l.o+off∧l.o+off+c*sz≤l.n∨c=0)
 | .nilSlice,v=>v=.slice none 0 0
 | .map id,v=>∃ l,ρ id=some l∧v=.map (some l.b)
 | .nilMap,v=>v=.map none
 | .func f a b,v=>∃ x y:List Value,v=.func f x.toArray y.toArray∧VRels ρ a x∧VRels ρ b y
 | .nilFunc,v=>v=.nilFunc
 | .iface t a,v=>∃ x,v=.iface t x∧VRel ρ a x
 | .nilIface,v=>v=.nilIface
 | .agg cs,v=>∃ x:List Value,v=.agg x.toArray∧VRels ρ cs x∧(∀ c∈cs,c.isCell=true)
 | .tuple cs,v=>∃ x:List Value,v=.tuple x.toArray∧VRels ρ cs x
 | .bot,_=>True
def VRels (ρ:Ren):List AVal→List Value→Prop
 | [],vs=>vs=[]
 | a :: as,vs=>∃ v vs',vs=v :: vs'∧VRel ρ a v∧VRels ρ as vs'
end

def RLe (ρ ρ':Ren):Prop:=∀ id l,ρ id=some l→ρ' id=some l
theorem RLe.refl (ρ:Ren):RLe ρ ρ:=fun _ _ h=>h
theorem RLe.trans {a b c:Ren} (h:RLe a b) (k:RLe b c):RLe a c:=fun id l e=>k id l (h id l e)

mutual
theorem VRel.mono {ρ ρ':Ren} (hr:RLe ρ ρ'):∀ (a:AVal) (v:Value),VRel ρ a v→VRel ρ' a v
 | .int _ _,_,h=>by simpa only [VRel] using h
 | .bool _,_,h=>by simpa only [VRel] using h
 | .str _,_,h=>by simpa only [VRel] using h
 | .ptr _ _,_,h=>by
  simp only [VRel] at h ⊢
  obtain ⟨l,h1,h2⟩:=h
  exact ⟨l,hr _ _ h1,h2⟩
 | .nilPtr,_,h=>by simpa only [VRel] using h
 | .slice _ _ _ (.exact _),_,h=>by
  simp only [VRel] at h ⊢
  obtain ⟨l,p,h1,h2⟩:=h
  exact ⟨l,p,hr _ _ h1,h2⟩
 | .slice _ _ _ (.room _),_,h=>by
  simp only [VRel] at h ⊢
  obtain ⟨l,c,p,h1,h2⟩:=h
  exact ⟨l,c,p,hr _ _ h1,h2⟩
 | .nilSlice,_,h=>by simpa only [VRel] using h
 | .map _,_,h=>by
  simp only [VRel] at h ⊢
  obtain ⟨l,h1,h2⟩:=h
  exact ⟨l,hr _ _ h1,h2⟩
 | .nilMap,_,h=>by simpa only [VRel] using h
 | .func _ a b,_,h=>by
  simp only [VRel] at h ⊢
  obtain ⟨x,y,h1,h2,h3⟩:=h
  exact ⟨x,y,h1,VRels.mono hr a x h2,VRels.mono hr b y h3⟩
 | .nilFunc,_,h=>by simpa only [VRel] using h
 | .iface _ a,_,h=>by
  simp only [VRel] at h ⊢
  obtain ⟨x,h1,h2⟩:=h
  exact ⟨x,h1,VRel.mono hr a x h2⟩
 | .nilIface,_,h=>by simpa only [VRel] using h
 | .agg cs,_,h=>by
  simp only [VRel] at h ⊢
  obtain ⟨x,h1,h2,h3⟩:=h
  exact ⟨x,h1,VRels.mono hr cs x h2,h3⟩
 | .tuple cs,_,h=>by
  simp only [VRel] at h ⊢
  obtain ⟨x,h1,h2⟩:=h
  exact ⟨x,h1,VRels.mono hr cs x h2⟩
 | .bot,_,_=>by simp only [VRel]
theorem VRels.mono {ρ ρ':Ren} (hr:RLe ρ ρ'):∀ (as:List AVal) (vs:List Value),VRels ρ as vs→VRels ρ' as vs
 | [],_,h=>by simpa only [VRels] using h
 | a :: as,_,h=>by
  simp only [VRels] at h ⊢
  obtain ⟨v,vs',h1,h2,h3⟩:=h
  exact ⟨v,vs',h1,VRel.mono hr a v h2,VRels.mono hr as vs' h3⟩
end

section lists
variable {ρ:Ren}
theorem VRels.nil:VRels ρ [] []:=by simp [VRels]
theorem VRels.cons {a:AVal} {v:Value} {as:List AVal} {vs:List Value} (h:VRel ρ a v) (hs:VRels ρ as vs):VRels ρ (a :: as) (v :: vs):=by
 simp only [VRels]; exact ⟨v,vs,rfl,h,hs⟩
theorem VRels.cons_inv {a:AVal} {as:List AVal} {vs:List Value} (h:VRels ρ (a :: as) vs):∃ v vs',vs=v :: vs'∧VRel ρ a v∧VRels ρ as vs':=by
 simpa only [VRels] using h
theorem VRels.nil_inv {vs:List Value} (h:VRels ρ [] vs):vs=[]:=by simpa only [VRels] using h
theorem VRels.length:∀ {as:List AVal} {vs:List Value},VRels ρ as vs→vs.length=as.length
 | [],_,h=>by rw [h.nil_inv]; rfl
 | _ :: _,_,h=>by
  obtain ⟨v,vs',rfl,_,h2⟩:=h.cons_inv
  simp [h2.length]
theorem VRels.append:∀ {as bs:List AVal} {vs us:List Value},VRels ρ as vs→VRels ρ bs us→VRels ρ (as++bs) (vs++us)
 | [],_,_,_,h,k=>by rw [h.nil_inv]; exact k
 | _ :: _,_,_,_,h,k=>by
  obtain ⟨v,vs',rfl,h1,h2⟩:=h.cons_inv
  exact .cons h1 (h2.append k)
theorem VRels.get:∀ {as:List AVal} {vs:List Value} (i:Nat) {a:AVal},VRels ρ as vs→as[i]? = some a→∃ v,vs[i]? = some v∧VRel ρ a v
 | [],_,_,_,_,h=>by simp at h
 | _ :: _,_,0,_,h,e=>by
  obtain ⟨v,vs',rfl,h1,_⟩:=h.cons_inv
  simp at e; subst e
  exact ⟨v,rfl,h1⟩
 | _ :: _,_,i+1,_,h,e=>by
  obtain ⟨v,vs',rfl,_,h2⟩:=h.cons_inv
  simp at e
  obtain ⟨u,e1,e2⟩:=h2.get i e
  exact ⟨u,by simpa using e1,e2⟩
theorem VRels.of_get:∀ {as:List AVal} {vs:List Value},vs.length=as.length→(∀ (i:Nat) (a:AVal) (v:Value),as[i]? = some a→vs[i]? = some v→VRel ρ a v)→VRels ρ as vs
 | [],[],_,_=>.nil
 | [],_ :: _,h,_=>by simp at h
 | _ :: _,[],h,_=>by simp at h
 | a :: as,v :: vs,h,k=>.cons (k 0 a v rfl rfl) (VRels.of_get (by simpa using h) (fun i a v h1 h2=>k (i+1) a v (by simpa using h1) (by simpa using h2)))
theorem VRels.take {as:List AVal} {vs:List Value} (h:VRels ρ as vs) (n:Nat):VRels ρ (as.take n) (vs.take n):=by
 refine .of_get (by simp [h.length]) (fun i a v h1 h2=>?_)
 rw [List.getElem?_take] at h1 h2
 by_cases hi:i < n
 ·rw [if_pos hi] at h1 h2
  obtain ⟨u,e1,e2⟩:=h.get i h1
  rw [e1] at h2; injection h2 with h2; subst h2; exact e2
 ·rw [if_neg hi] at h1; cases h1
theorem VRels.drop {as:List AVal} {vs:List Value} (h:VRels ρ as vs) (n:Nat):VRels ρ (as.drop n) (vs.drop n):=by
 refine .of_get (by simp [h.length]) (fun i a v h1 h2=>?_)
 rw [List.getElem?_drop] at h1 h2
 obtain ⟨u,e1,e2⟩:=h.get _ h1
 rw [e1] at h2; injection h2 with h2; subst h2; exact e2
theorem VRels.set {as:List AVal} {vs:List Value} (h:VRels ρ as vs) (n:Nat) {a:AVal} {v:Value} (hv:VRel ρ a v):VRels ρ (as.set n a) (vs.set n v):=by
 refine .of_get (by simp [h.length]) (fun i b u h1 h2=>?_)
 rw [List.getElem?_set] at h1 h2
 by_cases hi:n=i
 ·subst hi
  by_cases hl:n < as.length
  ·rw [if_pos rfl,if_pos hl] at h1
   rw [if_pos rfl,if_pos (by rw [h.length]; exact hl)] at h2
   injection h1 with h1; injection h2 with h2; subst h1; subst h2; exact hv
  ·rw [if_pos rfl,if_neg hl] at h1; cases h1
 ·rw [if_neg hi] at h1 h2
  obtain ⟨w,e1,e2⟩:=h.get i h1
  rw [e1] at h2; injection h2 with h2; subst h2; exact e2
end lists

def TRel (ρ:Ren) (t:xJ) (a:Array Value):Prop:=t.length=a.size∧∀ i,VRel ρ (yA t i) (a.getD i undef)

theorem tget_lt {t:xJ}:∀ {i:Nat},¬ i < t.length→yA t i=.bot:=by
 induction t with
 | nil=>intros; rfl
 | cons v t ih =>
  intro i h
  cases i with
  | zero=>simp at h
  | succ i=>exact ih (by simpa using h)
theorem uL:∀ (t:xJ) (i:Nat) (x:AVal),(tset t i x).length=t.length
 | [],_,_=>rfl
 | _ :: _,0,_=>rfl
 | _ :: t,i+1,x=>by simp [tset,uL t i x]
theorem vQ:∀ (t:xJ) (i j:Nat) (x:AVal),yA (tset t i x) j=if i=j∧i < t.length then x else yA t j
 | [],_,_,_=>by simp [tset,yA]
 | v :: t,0,0,_=>by simp [tset,yA]
 | v :: t,0,j+1,_=>by simp [tset,yA]
 | v :: t,i+1,0,_=>by simp [tset,yA]
 | v :: t,i+1,j+1,x=>by simp [tset,yA,vQ t i j x]
theorem keep_length:∀ (bs:List Bool) (t:xJ),(keep bs t).length=t.length
 | [],[]=>rfl
 | _ :: _,[]=>rfl
 | [],_ :: t=>by simp [keep,keep_length [] t]
 | true :: bs,_ :: t=>by simp [keep,keep_length bs t]
 | false :: bs,_ :: t=>by simp [keep,keep_length bs t]
theorem tget_keep:∀ (bs:List Bool) (t:xJ) (i:Nat),yA (keep bs t) i=yA t i∨yA (keep bs t) i=.bot
 | [],[],_=>.inl rfl
 | _ :: _,[],_=>.inl rfl
 | [],_ :: _,0=>.inr rfl
 | [],_ :: t,i+1=>by simpa [keep,yA] using tget_keep [] t i
 | true :: _,_ :: _,0=>.inl rfl
 | true :: bs,_ :: t,i+1=>by simpa [keep,yA] using tget_keep bs t i
 | false :: _,_ :: _,0=>.inr rfl
 | false :: bs,_ :: t,i+1=>by simpa [keep,yA] using tget_keep bs t i

theorem TRel.mono {ρ ρ':Ren} (hr:RLe ρ ρ') {t:xJ} {a:Array Value} (h:TRel ρ t a):TRel ρ' t a:=⟨h.1,fun i=>VRel.mono hr _ _ (h.2 i)⟩
theorem TRel.keep {ρ:Ren} {t:xJ} {a:Array Value} (h:TRel ρ t a) (bs:List Bool):TRel ρ (keep bs t) a :=
 ⟨by rw [keep_length]; exact h.1,fun i=>by
  rcases tget_keep bs t i with e | e
  ·rw [e]; exact h.2 i
  ·rw [e]; simp only [VRel]⟩
theorem getD_set (a:Array Value) (i j:Nat) (x:Value):(a.setIfInBounds i x).getD j undef=if i=j∧i < a.size then x else a.getD j undef:=by
 simp only [Array.getD_eq_getD_getElem?,Array.getElem?_setIfInBounds]
 by_cases h:i=j
 ·subst h
  by_cases hl:i < a.size
  ·simp [hl]
  ·simp [hl]
 ·simp [h]
theorem TRel.set {ρ:Ren} {t:xJ} {a:Array Value} (h:TRel ρ t a) (d:Nat) {x:AVal} {v:Value} (hv:VRel ρ x v):TRel ρ (tset t d x) (a.setIfInBounds d v) :=
 ⟨by rw [uL,Array.size_setIfInBounds]; exact h.1,fun i=>by
  rw [vQ,getD_set,h.1]
  by_cases hc:d=i∧d < a.size
  ·rw [if_pos hc,if_pos hc]; exact hv
  ·rw [if_neg hc,if_neg hc]; exact h.2 i⟩
theorem TRel.put {ρ:Ren} {t:xJ} {a:Act} (h:TRel ρ t a.tmps) (d:Option Nat) {x:AVal} {v:Value} (hv:VRel ρ x v):TRel ρ (tput t d x) (a.put d v).tmps:=by
 cases d with
 | none=>exact h
 | some d=>exact h.set d hv

def AObj.own:AObj→Bool
 | .cells _ rw=>rw
 | .amap _=>true

def CRel (ρ:Ren) (w:World) (l:Loc) (c:List AVal):Prop :=
 (∀ x∈c,x.isCell=true)∧∀ (i:Nat) (v:AVal),c[i]? = some v→∃ u,w.cell? ⟨l.b,l.o+i,none⟩=some u∧VRel ρ v u

def BornOk (ents:Array MapEntry) (clock:Nat):Prop:=(∀ m∈ents.toList,m.born < clock)∧(ents.toList.map (·.born)).Nodup
def ORel (ρ:Ren) (B:Nat) (w:World) (l:Loc):AObj→Prop
 | .cells c false=>l.b < B∧CRel ρ w l c
 | .cells c true=>B≤l.b∧CRel ρ w l c∧l.o+c.length≤l.n∧∃ arr E fz,w.heap[l.b]? = some (.cells arr E fz)∧arr.size=l.n∧(fz.1=fz.2∨l.n≤fz.1)
 | .amap es=>B≤l.b∧∃ ents clock,w.heap[l.b]? = some (.map ents clock)∧ents.size=es.length∧(∀ (i:Nat) (e:AVal × AVal),es[i]? = some e→∃ m:MapEntry,ents[i]? = some m∧VRel ρ e.1 m.key∧VRel ρ e.2 m.val)∧BornOk ents clock

structure HRel (ρ:Ren) (B:Nat) (H:AHeap) (w:World):Prop where
 dom:∀ id l,ρ id=some l→id < H.next∧l.b < w.heap.size
 obj:∀ id l o,ρ id=some l→H.obj id=some o→ORel ρ B w l o
 inj:∀ id id' l l' o o',ρ id=some l→ρ id'=some l'→id≠id'→H.obj id=some o→H.obj id'=some o'→o.own=true→o'.own=true→l.b≠l'.b
 base:B≤w.heap.size
 top:∀ id,H.next≤id→H.obj id=none

structure Beneath (B:Nat) (w w':World):Prop where
 base:Below B w w'
 drawn:w.drawn≤w'.drawn
theorem Beneath.refl (B:Nat) (w:World):Beneath B w w:=⟨.refl B w,Nat.le_refl _⟩
theorem Beneath.trans {B:Nat} {a b c:World} (h:Beneath B a b) (k:Beneath B b c):Beneath B a c:=⟨h.base.trans k.base,Nat.le_trans h.drawn k.drawn⟩
theorem Beneath.drew {B:Nat} {a w:World} (h:Beneath B a w):Beneath B a w.drew:=⟨h.base.drew,Nat.le_succ_of_le h.drawn⟩
theorem Beneath.alloc {B:Nat} {a w:World} (h:Beneath B a w) (hB:B≤w.heap.size) (o:Obj):Beneath B a (w.alloc o):=⟨h.base.alloc hB o,h.drawn⟩
theorem Beneath.setCell {B:Nat} {a w:World} (h:Beneath B a w) {p:Addr} (hp:B≤p.block) (u:Value):Beneath B a (w.setCell p u):=⟨h.base.setCell hp u,h.drawn⟩
theorem Beneath.block {B:Nat} {w w':World} (h:Beneath B w w'):∀ k,k < B→w'.heap[k]? = w.heap[k]? := h.base.block
theorem Beneath.size {B:Nat} {w w':World} (h:Beneath B w w'):w.heap.size≤w'.heap.size:=h.base.size
structure Step (ρ:Ren) (B:Nat) (H:AHeap) (w:World) (ρ':Ren) (H':AHeap) (w':World):Prop where
 le:RLe ρ ρ'
 heap:HRel ρ' B H' w'
 below:Beneath B w w'
 new:∀ id,ρ id=none→ρ' id≠none→H.next≤id
 next:H.next≤H'.next
 far:∀ id,id < H.next→ρ id=none→H'.obj id=H.obj id

theorem Step.refl {ρ:Ren} {B:Nat} {H:AHeap} {w:World} (h:HRel ρ B H w):Step ρ B H w ρ H w :=
 ⟨.refl _,h,.refl _ _,fun _ h1 h2=>absurd h1 h2,Nat.le_refl _,fun _ _ _=>rfl⟩
theorem Step.trans {ρ ρ1 ρ2:Ren} {B:Nat} {H H1 H2:AHeap} {w w1 w2:World} (h:Step ρ B H w ρ1 H1 w1) (k:Step ρ1 B H1 w1 ρ2 H2 w2):Step ρ B H w ρ2 H2 w2:=by
 refine ⟨h.le.trans k.le,k.heap,h.below.trans k.below,fun id h1 h2=>?_,Nat.le_trans h.next k.next,fun id h1 h2=>?_⟩
 ·cases e:ρ1 id with
  | none=>exact Nat.le_trans h.next (k.new id e h2)
  | some l=>exact h.new id h1 (by rw [e]; simp)
 ·have e:ρ1 id=none:=by
   cases e:ρ1 id with
   | none=>rfl
   | some l=>exact absurd (h.new id h2 (by rw [e]; simp)) (by omega)
  rw [k.far id (Nat.lt_of_lt_of_le h1 h.next) e,h.far id h1 h2]

theorem CRel.mono {ρ ρ':Ren} (hr:RLe ρ ρ') {w w':World} {l:Loc} {c:List AVal} (hb:w'.heap[l.b]? = w.heap[l.b]?) (h:CRel ρ w l c):CRel ρ' w' l c:=by
 refine ⟨h.1,fun i v e=>?_⟩
 obtain ⟨u,h1,h2⟩:=h.2 i v e
 exact ⟨u,by rw [World.cell?_of_block (w:=w) (a:=⟨l.b,l.o+i,none⟩) hb]; exact h1,VRel.mono hr _ _ h2⟩
theorem ORel.mono {ρ ρ':Ren} (hr:RLe ρ ρ') {B:Nat} {w w':World} {l:Loc} {o:AObj} (hb:w'.heap[l.b]? = w.heap[l.b]?) (h:ORel ρ B w l o):ORel ρ' B w' l o:=by
 cases o with
 | cells c rw =>
  cases rw with
  | false=>exact ⟨h.1,h.2.mono hr hb⟩
  | true =>
   obtain ⟨h1,h2,h3,arr,E,fz,h4,h5,h6⟩:=h
   exact ⟨h1,h2.mono hr hb,h3,arr,E,fz,by rw [hb]; exact h4,h5,h6⟩
 | amap es =>
  obtain ⟨h1,ents,clock,h4,h5,h6,h7⟩:=h
  refine ⟨h1,ents,clock,by rw [hb]; exact h4,h5,fun i e he=>?_,h7⟩
  obtain ⟨m,e1,e2,e3⟩:=h6 i e he
  exact ⟨m,e1,VRel.mono hr _ _ e2,VRel.mono hr _ _ e3⟩

theorem HRel.world {ρ:Ren} {B:Nat} {H:AHeap} {w w':World} (h:HRel ρ B H w) (hs:w.heap.size≤w'.heap.size) (hb:∀ id l,ρ id=some l→w'.heap[l.b]? = w.heap[l.b]?):HRel ρ B H w' :=
 ⟨fun id l e=>⟨(h.dom id l e).1,Nat.lt_of_lt_of_le (h.dom id l e).2 hs⟩,fun id l o e1 e2=>(h.obj id l o e1 e2).mono (.refl _) (hb id l e1),h.inj,Nat.le_trans h.base hs,h.top⟩

def xT (ρ:Ren) (y:Nat) (l:Loc):Ren:=fun i=>if i=y then some l else ρ i
theorem zI {ρ:Ren} {y:Nat} {l:Loc} (h:ρ y=none):RLe ρ (xT ρ y l):=by
 intro id l' e
 unfold xT
 by_cases hi:id=y
 ·subst hi; rw [h] at e; cases e
 ·rw [if_neg hi]; exact e

theorem HRel.bind {ρ:Ren} {B:Nat} {H:AHeap} {w:World} (h:HRel ρ B H w) {y:Nat} {o:AObj} (hy:ρ y=none) (hn:y < H.next) (ho:H.obj y=some o) {ob:Obj} {n:Nat}
  (hrel:ORel (xT ρ y ⟨w.heap.size,0,n⟩) B (w.alloc ob) ⟨w.heap.size,0,n⟩ o):HRel (xT ρ y ⟨w.heap.size,0,n⟩) B H (w.alloc ob):=by
 have hle:=zI (l:=⟨w.heap.size,0,n⟩) hy
 refine ⟨fun id l e=>?_,fun id l o' e1 e2=>?_,fun id id' l l' o1 o2 e1 e2 hne h1 h2 h3 h4=>?_,by rw [World.size_alloc]; have:=h.base; omega,h.top⟩
 ·unfold xT at e
  by_cases hi:id=y
  ·rw [if_pos hi] at e; injection e with e; subst e; subst hi; exact ⟨hn,by rw [World.size_alloc]; exact Nat.lt_succ_self _⟩
  ·rw [if_neg hi] at e
   exact ⟨(h.dom id l e).1,by have:=(h.dom id l e).2; rw [World.size_alloc]; omega⟩
 ·unfold xT at e1
  by_cases hi:id=y
  ·rw [if_pos hi] at e1; injection e1 with e1; subst e1; subst hi
   rw [ho] at e2; injection e2 with e2; subst e2; exact hrel
  ·rw [if_neg hi] at e1
   exact (h.obj id l o' e1 e2).mono hle (Below.heap_alloc _ _ _ (h.dom id l e1).2)
 ·unfold xT at e1 e2
  by_cases hi:id=y
  ·by_cases hj:id'=y
   ·exact absurd (hi.trans hj.symm) hne
   ·rw [if_pos hi] at e1; rw [if_neg hj] at e2
    injection e1 with e1; subst e1
    have:=(h.dom id' l' e2).2
    simp only; omega
  ·by_cases hj:id'=y
   ·rw [if_neg hi] at e1; rw [if_pos hj] at e2
    injection e2 with e2; subst e2
    have:=(h.dom id l e1).2
    simp only; omega
   ·rw [if_neg hi] at e1; rw [if_neg hj] at e2
    exact h.inj id id' l l' o1 o2 e1 e2 hne h1 h2 h3 h4

theorem HRel.new_ {ρ:Ren} {B:Nat} {H:AHeap} {w:World} (h:HRel ρ B H w) (o:AObj):HRel ρ B (H.new o) w:=by
 have ne:∀ id l,ρ id=some l→id≠H.next:=fun id l e=>by have:=(h.dom id l e).1; omega
 refine ⟨fun id l e=>⟨by have:=(h.dom id l e).1; simp [AHeap.new]; omega,(h.dom id l e).2⟩,fun id l o' e1 e2=>?_,fun id id' l l' o1 o2 e1 e2 hne h1 h2=>?_,h.base,fun id hid=>by
  simp only [AHeap.new] at hid ⊢
  rw [if_neg (by omega)]; exact h.top id (by omega)⟩
 ·simp only [AHeap.new,if_neg (ne id l e1)] at e2
  exact h.obj id l o' e1 e2
 ·simp only [AHeap.new,if_neg (ne id l e1)] at h1
  simp only [AHeap.new,if_neg (ne id' l' e2)] at h2
  exact h.inj id id' l l' o1 o2 e1 e2 hne h1 h2
theorem HRel.fresh {ρ:Ren} {B:Nat} {H:AHeap} {w:World} (h:HRel ρ B H w):ρ H.next=none:=by
 cases e:ρ H.next with
 | none=>rfl
 | some l=>exact absurd (h.dom _ _ e).1 (by omega)

theorem orel_new {ρ:Ren} {B:Nat} {w:World} (hB:B≤w.heap.size) {cs:List AVal} {vs:List Value} {E:TypeId} (hc:∀ x∈cs,x.isCell=true) (hv:VRels ρ cs vs) {rest:List Value} (arr:Array Value) (harr:arr.toList=vs++rest) :
  ORel ρ B (w.alloc (.cells arr E)) ⟨w.heap.size,0,arr.size⟩ (.cells cs true):=by
 have hsz:arr.size=vs.length+rest.length:=by rw [← Array.length_toList,harr]; simp
 refine ⟨hB,⟨hc,fun i v e=>?_⟩,by simp [hsz,hv.length],arr,E,(0,0),by show (w.heap.push _)[w.heap.size]? = _; simp,rfl,.inl rfl⟩
 obtain ⟨u,e1,e2⟩:=hv.get i e
 refine ⟨u,?_,e2⟩
 have hi:i < vs.length:=by
  have:=(List.getElem?_eq_some_iff.1 e1).1
  exact this
 have hb:(w.alloc (.cells arr E)).heap[w.heap.size]? = some (.cells arr E (0,0)):=by show (w.heap.push _)[w.heap.size]? = _; simp
 simp only [World.cell?,hb,Nat.zero_add]
 rw [if_neg (by simp),← Array.getElem?_toList,harr,List.getElem?_append_left hi]
 exact e1
end Go.VAI

/- From a function's translated code to the interpreter's: operations with what the types say resolved. -/
set_option linter.unusedVariables false
set_option linter.unusedSimpArgs false
namespace Go.VAI
open Go Go.RowKit

def aval1:Value→Option AVal
 | .int k n=>some (.int k n)
 | .bool b=>some (.bool b)
 | .string s=>some (.str s)
 | .pointer none=>some .nilPtr
 | .slice none 0 0=>some .nilSlice
 | .map none=>some .nilMap
 | .nilFunc=>some .nilFunc
 | .nilIface=>some .nilIface
 | _=>none
def aval1s:List Value→Option (List AVal)
 | []=>some []
 | v :: vs=>bnd (aval1 v) fun a=>bnd (aval1s vs) fun as=>some (a :: as)
def aval:Value→Option AVal
 | .agg cs=>bnd (aval1s cs.toList) fun as=>some (.agg as)
 | v=>aval1 v

theorem aval1_rel {ρ:Ren} {v:Value} {a:AVal} (h:aval1 v=some a):VRel ρ a v∧a.isCell=true:=by
 unfold aval1 at h
 split at h <;> first
  | (injection h with h; subst h; exact ⟨by simp [VRel],rfl⟩)
  | cases h
theorem vV {ρ:Ren}:∀ {vs:List Value} {as:List AVal},aval1s vs=some as→VRels ρ as vs∧∀ c∈as,c.isCell=true
 | [],_,h=>by simp [aval1s] at h; subst h; exact ⟨.nil,by simp⟩
 | v :: vs,_,h=>by
  simp only [aval1s,bnd] at h
  split at h
  ·cases h
  ·rename_i a ha
   split at h
   ·cases h
   ·rename_i as has
    injection h with h; subst h
    have h1:=aval1_rel (ρ:=ρ) ha
    have h2:=vV (ρ:=ρ) has
    exact ⟨.cons h1.1 h2.1,by intro c hc; cases hc with | head=>exact h1.2 | tail _ hc=>exact h2.2 c hc⟩
theorem aval_rel {ρ:Ren} {v:Value} {a:AVal} (h:aval v=some a):VRel ρ a v:=by
 unfold aval at h
 split at h
 ·rename_i cs
  simp only [bnd] at h
  split at h
  ·cases h
  ·rename_i as has
   injection h with h; subst h
   have h2:=vV (ρ:=ρ) has
   simp only [VRel]
   exact ⟨cs.toList,rfl,h2.1,h2.2⟩
 ·exact (aval1_rel h).1

inductive TD where
 | int (k:IntKind)
 | bool
 | str
 | slice (e:TypeId)
 | array (n:Nat) (e:TypeId)
 | struct (fs:List (Nat × TypeId))
 | ptr (e:TypeId)
 | map (k v:TypeId)
 | func
 | iface
 | other
 deriving DecidableEq,Inhabited

def tdOf:TypeDesc→TD
 | .int k=>.int k
 | .bool=>.bool
 | .string=>.str
 | .slice e=>.slice e
 | .array n e=>.array n e
 | .struct fs=>.struct (fs.toList.map fun f=>(f.offset,f.type))
 | .pointer e=>.ptr e
 | .map k v=>.map k v
 | .func _ _ _=>.func
 | .interface _=>.iface
 | _=>.other

def TD.agg:TD→Bool
 | .struct _ | .array _ _=>true
 | _=>false

structure TI where
 size:Nat
 bytes:Nat
 zero:Option (List AVal)
 desc:TD
 flat:Option (List FK)
 places:Option (List (Nat × Nat))
 deriving Inhabited

def fieldKind (P:Program) (f:Field):Option FK :=
 if f.name != "_" && ((P.info? f.type).map (·.size)).getD 0 == 1 then
  (match P.underlying f.type with | some (.int _)=>some .int | some .bool=>some .bool | some .string=>some .str | _=>none)
 else none
def vU (P:Program):Nat→List Field→Option (List FK)
 | _,[]=>some []
 | n,f :: fs=>if f.offset=n then bnd (fieldKind P f) fun k=>bnd (vU P (n+1) fs) fun ks=>some (k :: ks) else none
def flatKinds (P:Program) (t:TypeId):Option (List FK) :=
 match P.underlying t with
 | some (.struct fs)=>if !P.stoodInHeld t && !P.eqGuardType P.depth t then vU P 0 fs.toList else none
 | some (.int _)=>some [.int]
 | some .bool=>some [.bool]
 | some .string=>some [.str]
 | _=>none

def azero (agg:Bool):Value→Option (List AVal)
 | .agg cs=>if agg then aval1s cs.toList else none
 | v=>if agg then none else aval1s [v]
theorem azero_inv {agg:Bool} {v:Value} {zs:List AVal} (h:azero agg v=some zs):aval1s v.cells.toList=some zs∧(agg=true→∃ cs,v=.agg cs)∧(agg=false→v.cells=#[v]):=by
 unfold azero at h
 split at h
 ·split at h
  ·rename_i ha; exact ⟨h,fun _=>⟨_,rfl⟩,fun e=>by rw [ha] at e; cases e⟩
  ·cases h
 ·rename_i hne
  split at h
  ·cases h
  ·rename_i ha
   have hc:v.cells=#[v]:=by cases v <;> first | rfl | exact absurd rfl (hne _)
   exact ⟨by rw [hc]; exact h,fun e=>absurd e ha,fun _=>hc⟩

def placesOf (P:Program):TypeDesc→Option (List (Nat × Nat))
 | .struct fs=>fs.toList.mapM fun f=>(P.info? f.type).map fun i=>(f.offset,i.size)
 | _=>none
def tiOf (P:Program) (t:TypeId):Option TI :=
 bnd (P.info? t) fun i=>bnd (P.underlying t) fun d =>
 some { size:=i.size,bytes:=i.bytes,zero:=bnd i.zero (azero (tdOf d).agg),desc:=tdOf d,flat:=flatKinds P t,places:=placesOf P d }

structure TIOk (P:Program) (t:TypeId) (ti:TI) (i:TypeInfo) (d:TypeDesc):Prop where
 info:P.info? t=some i
 under:P.underlying t=some d
 size:i.size=ti.size
 bytes:i.bytes=ti.bytes
 desc:tdOf d=ti.desc
 zero:∀ zs,ti.zero=some zs→∃ z,i.zero=some z∧aval1s z.cells.toList=some zs∧(ti.desc.agg=true→∃ cs,z=.agg cs)∧(ti.desc.agg=false→z.cells=#[z])
 flat:ti.flat=flatKinds P t
 places:ti.places=placesOf P d
theorem yL {P:Program} {t:TypeId} {ti:TI} (h:tiOf P t=some ti):∃ i d,TIOk P t ti i d:=by
 unfold tiOf bnd at h
 split at h
 ·cases h
 ·rename_i i hi
  split at h
  ·cases h
  ·rename_i d hd
   injection h with h; subst h
   refine ⟨i,d,hi,hd,rfl,rfl,rfl,fun zs hz=>?_,rfl,rfl⟩
   simp only at hz
   split at hz
   ·cases hz
   ·rename_i z hz0
    exact ⟨z,hz0,azero_inv hz⟩

abbrev Tab:=Nat→Option TI

def cod:Operand→Option AOpd
 | .tmp t=>some (.tmp t)
 | .const v=>bnd (aval v) fun a=>some (.con a)
 | .func f=>some (.con (.func (.func f) [] []))
 | .global _=>none
def cods:List Operand→Option (List AOpd)
 | []=>some []
 | x :: xs=>bnd (cod x) fun a=>bnd (cods xs) fun as=>some (a :: as)
def codo:Option Operand→Option (Option AOpd)
 | none=>some none
 | some x=>bnd (cod x) fun a=>some (some a)
def cparts (xR:Nat→Option (Nat × Nat)):List (Nat × Operand)→Option (List (Nat × Nat × AOpd))
 | []=>some []
 | (i,x) :: ps=>bnd (xR i) fun q=>bnd (cod x) fun a=>bnd (cparts xR ps) fun r=>some ((q.1,q.2,a) :: r)

def wX:Operand→Bool
 | .const .nilIface=>true
 | _=>false
def constInt:Option Operand→Bool
 | none=>true
 | some (.const (.int _ _))=>true
 | _=>false
def eqOf (ti:TI) (op:BinOp) (x y:Operand):Option EqK :=
 match op with
 | .eql | .neq =>
  match ti.desc with
  | .int _ | .str=>some .prim
  | .bool=>some .plain
  | .slice _=>some .nilS
  | .ptr _=>some .nilP
  | .map _ _=>some .nilM
  | .func=>some .nilF
  | .iface=>if wX x || wX y then some .nilI else none
  | .struct _=>bnd ti.flat fun ks=>some (.flat ks)
  | _=>none
 | _=>some .prim
def mapKey (tab:Tab) (k:TypeId):Option KeyK:=bnd (tab k) fun ti=>bnd ti.flat fun ks =>
 match ti.desc,ks with
 | .struct _,ks=>some (.many ks)
 | .int _,[q]=>some (.one q)
 | .bool,[q]=>some (.one q)
 | .str,[q]=>some (.one q)
 | _,_=>none
def zeroOf (ti:TI):Option AVal :=
 bnd ti.zero fun zs=>if ti.desc.agg then some (.agg zs) else match zs with | [z]=>some z | _=>none

def ccall (tab:Tab) (c:Call):Option AOp :=
 match c.callee with
 | .builtin .len =>
  match c.args.toList,c.argTypes.toList with
  | [x],[t]=>bnd (tab t) fun ti=>bnd (cod x) fun a =>
   match ti.desc with
   | .slice _=>some (.lenS a)
   | .str=>some (.lenStr a)
   | .map _ _=>some (.lenM a)
   | _=>none
  | _,_=>none
 | .builtin .append =>
  match c.args.toList,c.argTypes.toList with
  | [s,x],[t,u]=>bnd (tab t) fun ti=>bnd (tab u) fun ui =>
   match ti.desc,ui.desc with
   | .slice e,.slice _=>bnd (tab e) fun ei=>bnd ei.zero fun zs=>bnd (cod s) fun a=>bnd (cod x) fun b=>if zs.length=ei.size then some (.append ei.size ei.bytes a b) else none
   | .slice e,.str=>bnd (tab e) fun ei=>bnd ei.zero fun zs=>bnd (cod s) fun a=>bnd (cod x) fun b=>if zs.length=ei.size then some (.append ei.size ei.bytes a b) else none
   | _,_=>none
  | _,_=>none
 | .builtin .max=>bnd (cods c.args.toList) fun l=>some (.max l)
 | .builtin .min=>bnd (cods c.args.toList) fun l=>some (.min l)
 | .value (.func f)=>bnd (cods c.args.toList) fun l=>some (.call f l)
 | .value (.tmp f)=>bnd (cods c.args.toList) fun l=>some (.callv (.tmp f) l)
 | _=>none

def cop (tab:Tab):Op→Option AOp
 | .move x=>bnd (cod x) fun a=>some (.move a)
 | .assign x=>bnd (cod x) fun a=>some (.move a)
 | .pick c a b=>bnd (cod c) fun c=>bnd (cod a) fun a=>bnd (cod b) fun b=>some (.pick c a b)
 | .alloc e=>bnd (tab e) fun ti=>bnd ti.zero fun zs=>some (.alloc zs)
 | .box e x=>bnd (tab e) fun ti=>bnd (cod x) fun a=>some (.box ti.size a)
 | .build t parts=>bnd (tab t) fun ti=>bnd ti.zero fun zs =>
  match ti.desc with
  | .struct _=>bnd ti.places fun pl=>bnd (cparts (fun i=>pl[i]?) parts.toList) fun ps=>some (.build zs ps)
  | .array _ e=>bnd (tab e) fun ei=>bnd (cparts (fun i=>some (i*ei.size,ei.size)) parts.toList) fun ps=>some (.build zs ps)
  | _=>none
 | .buildSlice t len parts=>bnd (tab t) fun ti =>
  match ti.desc with
  | .slice e=>bnd (tab e) fun ei=>bnd ei.zero fun zs=>bnd (cparts (fun i=>some (i*ei.size,ei.size)) parts.toList) fun ps =>
   if zs.length=ei.size∧len*ei.size≤16777216 then some (.buildSlice (reps zs len) len ps) else none
  | _=>none
 | .load t a=>bnd (tab t) fun ti=>bnd (cod a) fun x=>if ti.desc.agg then some (.loadN ti.size x) else some (.load1 x)
 | .store t a v=>bnd (tab t) fun ti=>bnd (cod a) fun x=>bnd (cod v) fun y=>some (.store ti.size x y)
 | .nilCheck x=>bnd (cod x) fun a=>some (.nilCheck a)
 | .binOp op t x y _=>bnd (tab t) fun ti=>bnd (eqOf ti op x y) fun e=>bnd (cod x) fun a=>bnd (cod y) fun b=>some (.bin op e a b)
 | .unOp op _ x=>bnd (cod x) fun a=>some (.un op a)
 | .convert src dst x=>bnd (tab src) fun si=>bnd (tab dst) fun di=>bnd (cod x) fun a =>
  match si.desc,di.desc with
  | .int _,.int k=>some (.toInt k a)
  | .str,.str=>some (.same a)
  | .slice e,.slice _=>bnd (tab e) fun ei=>if src=dst∧ei.desc=.int .u8 then some (.sameBytes a) else none
  | .slice e,.str=>bnd (tab e) fun ei=>if ei.desc=.int .u8 then some (.bytesToStr a) else none
  | _,_=>none
 | .makeInterface t x=>bnd (tab t) fun ti=>bnd (cod x) fun a=>if ti.desc=.iface then none else some (.mkIface t a)
 | .makeFunc fn first captured=>bnd (cods first.toList) fun a=>bnd (cods captured.toList) fun b=>some (.mkFunc fn a b)
 | .makeMap t r=>bnd (tab t) fun ti=>(match ti.desc with | .map _ _=>if constInt r then some .mkMap else none | _=>none)
 | .makeSlice t l c=>bnd (tab t) fun ti =>
  match ti.desc with
  | .slice e=>bnd (tab e) fun ei=>bnd ei.zero fun zs=>bnd (cod l) fun a=>bnd (cod c) fun b=>if zs.length=ei.size then some (.mkSlice zs ei.bytes a b) else none
  | _=>none
 | .slice t x lo hi mx=>bnd (tab t) fun ti=>bnd (cod x) fun a=>bnd (codo lo) fun lo=>bnd (codo hi) fun hi=>bnd (codo mx) fun mx =>
  match ti.desc with
  | .slice e=>bnd (tab e) fun ei=>some (.slice ei.size a lo hi mx)
  | .str=>if mx.isNone then some (.sliceStr a lo hi) else none
  | _=>none
 | .fieldAddr s x f=>bnd (tab s) fun ti =>
  match ti.desc with
  | .struct fs=>bnd fs[f]? fun fd=>bnd (tab fd.2) fun fi=>bnd (cod x) fun a=>if fi.size=0 then none else some (.fieldAddr fd.1 a)
  | _=>none
 | .indexAddr t x i=>bnd (tab t) fun ti=>bnd (cod x) fun a=>bnd (cod i) fun b =>
  match ti.desc with
  | .slice e=>bnd (tab e) fun ei=>some (.indexAddrS ei.size a b)
  | .array n e=>bnd (tab e) fun ei=>some (.indexAddrA n ei.size a b)
  | _=>none
 | .field t x f=>bnd (tab t) fun ti =>
  match ti.desc with
  | .struct fs=>bnd fs[f]? fun fd=>bnd (tab fd.2) fun fi=>bnd (cod x) fun a=>some (.field fd.1 fi.size fi.desc.agg a)
  | _=>none
 | .index t x i=>bnd (tab t) fun ti=>bnd (cod x) fun a=>bnd (cod i) fun b =>
  match ti.desc with
  | .array n e=>bnd (tab e) fun ei=>some (.indexA n ei.size ei.desc.agg a b)
  | .str=>some (.indexStr a b)
  | _=>none
 | .lookup t x i ok=>bnd (tab t) fun ti =>
  match ti.desc with
  | .map k v=>bnd (mapKey tab k) fun flat=>bnd (tab v) fun vi=>bnd (zeroOf vi) fun z=>bnd (cod x) fun a=>bnd (cod i) fun b=>some (.lookup flat z a b ok)
  | _=>none
 | .mapUpdate t m k v=>bnd (tab t) fun ti =>
  match ti.desc with
  | .map kt _=>bnd (mapKey tab kt) fun flat=>bnd (cod m) fun a=>bnd (cod k) fun b=>bnd (cod v) fun c=>some (.mapUpdate flat a b c)
  | _=>none
 | .extract x i=>bnd (cod x) fun a=>some (.extract a i)
 | .call c=>ccall tab c
 | _=>none

theorem xA {α β:Type} {x:Option α} {f:α→Option β} {b:β} (h:bnd x f=some b):∃ a,x=some a∧f a=some b:=by
 cases x with
 | none=>cases h
 | some a=>exact ⟨a,rfl,h⟩
end Go.VAI

/- Operations that neither read nor write memory: the machine does what the interpreter says. -/
set_option linter.unusedVariables false
set_option linter.unusedSimpArgs false
namespace Go.VAI
open Go Go.RowKit

def RunsTo (P:Program) (o:Oper) (a:Act) (w:World) (R:Value→World→Prop):Prop :=
  ∀ (next:Act→World→Prop) (Q:Exit→Act→World→Prop),(∀ v' w',R v' w'→next (a.put o.dst v') w')→o.wp P a w next Q
theorem RunsTo.mono {P:Program} {o:Oper} {a:Act} {w:World} {R R':Value→World→Prop} (h:RunsTo P o a w R) (k:∀ v w',R v w'→R' v w'):RunsTo P o a w R' :=
  fun next Q hn=>h next Q (fun v w' r=>hn v w' (k v w' r))
theorem RunsTo.value {P:Program} {o:Oper} {a:Act} {w w':World} {R:Value→World→Prop} {v:Value} (h:(execOp a.eval o).run P w=.ok (.value v) w') (r:R v w'):RunsTo P o a w R:=by
  intro next Q hn
  show o.upon P a next Q ((execOp a.eval o).run P w)
  rw [h]; exact hn v w' r
theorem RunsTo.skip {P:Program} {o:Oper} {a:Act} {w w':World} {R:Value→World→Prop} (h:(execOp a.eval o).run P w=.ok .skip w') (r:R undef w'):RunsTo P o a w R:=by
  intro next Q hn
  show o.upon P a next Q ((execOp a.eval o).run P w)
  rw [h]; exact hn _ w' r
theorem RunsTo.enter {P:Program} {o:Oper} {a:Act} {w w':World} {R:Value→World→Prop} {f:FuncId} {args:Array Value} (h:(execOp a.eval o).run P w=.ok (.enter f args) w')
    (hc:Calls P f args w' fun e w''=>∃ v,e=.returned v∧R v w''):RunsTo P o a w R:=by
  intro next Q hn
  show o.upon P a next Q ((execOp a.eval o).run P w)
  rw [h]
  show Calls P f args w' _
  intro cs
  obtain ⟨e,w1,fr,⟨v,rfl,hr⟩,h2⟩:=hc cs
  exact ⟨.returned v,w1,fr,hn v w1 hr,h2⟩

section
variable {ρ:Ren} {t:xJ} {a:Act}
theorem yM (ht:TRel ρ t a.tmps) {x:Operand} {y:AOpd} (h:cod x=some y):VRel ρ (y.ev t) (a.eval x):=by
  cases x with
  | tmp i=>simp only [cod] at h; injection h with h; subst h; exact ht.2 i
  | const v =>
    obtain ⟨b,h1,h2⟩:=xA h
    injection h2 with h2; subst h2
    exact aval_rel h1
  | global g=>cases h
  | func f =>
    simp only [cod] at h; injection h with h; subst h
    simp only [AOpd.ev,Act.eval,VRel]
    exact ⟨[],[],rfl,.nil,.nil⟩
theorem cods_rel (ht:TRel ρ t a.tmps):∀ {xs:List Operand} {ys:List AOpd},cods xs=some ys→VRels ρ (evs t ys) (xs.map a.eval)
  | [],_,h=>by simp [cods] at h; subst h; exact .nil
  | x :: xs,_,h=>by
    obtain ⟨b,h1,h2⟩:=xA h
    obtain ⟨bs,h3,h4⟩:=xA h2
    injection h4 with h4; subst h4
    exact .cons (yM ht h1) (cods_rel ht h3)
end

theorem beq_dec {α:Type} [BEq α] [LawfulBEq α] [DecidableEq α] (a b:α):(a == b)=decide (a=b):=by
  by_cases h:a=b
  · subst h; simp
  · simp [h]
theorem beq_bytes (a b:ByteArray):(a.toList == b.toList)=decide (a=b):=by
  by_cases h:a=b
  · subst h; simp
  · have:¬ a.toList=b.toList:=by
      intro e
      apply h
      rw [ByteArray.toList_eq,ByteArray.toList_eq] at e
      obtain ⟨⟨x⟩⟩:=a
      obtain ⟨⟨y⟩⟩:=b
      simp at e
      rw [e]
    simp [h,this]

section inv
variable {ρ:Ren} {v:Value}
theorem VRel.int_inv {k:IntKind} {n:Int} (h:VRel ρ (.int k n) v):v=.int k n:=by simpa only [VRel] using h
theorem VRel.bool_inv {b:Bool} (h:VRel ρ (.bool b) v):v=.bool b:=by simpa only [VRel] using h
theorem VRel.str_inv {s:ByteArray} (h:VRel ρ (.str s) v):v=.string s:=by simpa only [VRel] using h
theorem VRel.ptr_inv {id off:Nat} (h:VRel ρ (.ptr id off) v):∃ l,ρ id=some l∧v=.pointer (some ⟨l.b,l.o+off,none⟩):=by simpa only [VRel] using h
theorem VRel.agg_inv {cs:List AVal} (h:VRel ρ (.agg cs) v):∃ x:List Value,v=.agg x.toArray∧VRels ρ cs x∧(∀ c∈cs,c.isCell=true):=by simpa only [VRel] using h
theorem VRel.tuple_inv {cs:List AVal} (h:VRel ρ (.tuple cs) v):∃ x:List Value,v=.tuple x.toArray∧VRels ρ cs x:=by simpa only [VRel] using h
theorem VRel.func_inv {f:Fn} {a b:List AVal} (h:VRel ρ (.func f a b) v):∃ x y:List Value,v=.func f x.toArray y.toArray∧VRels ρ a x∧VRels ρ b y:=by simpa only [VRel] using h
theorem VRel.iface_inv {ty:TypeId} {a:AVal} (h:VRel ρ (.iface ty a) v):∃ x,v=.iface ty x∧VRel ρ a x:=by simpa only [VRel] using h
theorem VRel.slice_inv2 {id off len:Nat} {cap:ACap} (h:VRel ρ (.slice id off len cap) v):∃ l,∃ p:Addr,∃ c,ρ id=some l∧v=.slice (some p) len c∧len≤c∧(p=⟨l.b,l.o+off,none⟩∨c=0∧(p.block=l.b∨l.n < l.o))∧cap.top len≤c:=by
  cases cap with
  | exact n =>
    simp only [VRel] at h
    obtain ⟨l,p,h1,h2,h3,h4⟩:=h
    exact ⟨l,p,n,h1,h2,h3,h4,Nat.le_refl _⟩
  | room sz =>
    simp only [VRel] at h
    obtain ⟨l,c,p,h1,h2,h3,h4⟩:=h
    exact ⟨l,_,c,h1,h2,h3,by rcases h4 with h4 | h4; exact .inl (by rw [h4.1]); exact .inr ⟨h4,.inl rfl⟩,h3⟩
theorem VRel.slice_inv {id off len:Nat} {cap:ACap} (h:VRel ρ (.slice id off len cap) v):∃ l,∃ p:Addr,∃ c,ρ id=some l∧v=.slice (some p) len c∧len≤c∧(0 < len→p=⟨l.b,l.o+off,none⟩):=by
  obtain ⟨l,p,c,h1,h2,h3,h4,_⟩:=h.slice_inv2
  refine ⟨l,p,c,h1,h2,h3,fun h0=>?_⟩
  rcases h4 with h4 | h4
  · exact h4
  · exact absurd h4.1 (by omega)
theorem VRel.slice_block {id off len:Nat} {cap:ACap} (h:VRel ρ (.slice id off len cap) v):∃ l,∃ p:Addr,∃ c,ρ id=some l∧v=.slice (some p) len c∧(p.block=l.b∨l.n < l.o):=by
  obtain ⟨l,p,c,h1,h2,h3,h4,_⟩:=h.slice_inv2
  refine ⟨l,p,c,h1,h2,?_⟩
  rcases h4 with h4 | h4
  · exact .inl (by rw [h4])
  · exact h4.2
theorem VRel.cell_one {x:AVal} (hx:x.isCell=true) (h:VRel ρ x v):v.oneCell'=true:=by
  cases x with
  | slice id off len cap=>obtain ⟨l,p,c,_,rfl,_⟩:=h.slice_inv; rfl
  | agg _=>cases hx
  | tuple _=>cases hx
  | bot=>cases hx
  | ptr _ _=>obtain ⟨l,_,rfl⟩:=h.ptr_inv; rfl
  | func _ _ _=>obtain ⟨x,y,rfl,_⟩:=h.func_inv; rfl
  | iface _ _=>obtain ⟨x,rfl,_⟩:=h.iface_inv; rfl
  | map _=>simp only [VRel] at h; obtain ⟨l,_,rfl⟩:=h; rfl
  | int _ _=>rw [h.int_inv]; rfl
  | bool _=>rw [h.bool_inv]; rfl
  | str _=>rw [h.str_inv]; rfl
  | nilPtr=>simp only [VRel] at h; subst h; rfl
  | nilSlice=>simp only [VRel] at h; subst h; rfl
  | nilMap=>simp only [VRel] at h; subst h; rfl
  | nilFunc=>simp only [VRel] at h; subst h; rfl
  | nilIface=>simp only [VRel] at h; subst h; rfl
theorem cells_rel {x:AVal} {cs:List AVal} (hx:x.cells=some cs) (h:VRel ρ x v):VRels ρ cs v.cells.toList∧∀ c∈cs,c.isCell=true:=by
  cases x with
  | agg as =>
    simp only [AVal.cells] at hx; injection hx with hx; subst hx
    obtain ⟨x,rfl,h1,h2⟩:=h.agg_inv
    exact ⟨by simpa [Value.cells] using h1,h2⟩
  | tuple _=>cases hx
  | bot=>cases hx
  | _ =>
    simp only [AVal.cells] at hx; injection hx with hx; subst hx
    have h1:=VRel.cell_one rfl h
    refine ⟨?_,by simp [AVal.isCell]⟩
    have:v.cells=#[v]:=by cases v <;> first | rfl | (simp [Value.oneCell'] at h1)
    rw [this]
    exact .cons h .nil
end inv

section
variable {P:Program} {ρ:Ren} {w:World}

theorem int_run {op:BinOp} {k:IntKind} {a b:Int} {v:AVal} {ty:TypeId} (hs:zX op=false) (h:aint op k a b=some v) :
    ∃ v',(binOp op ty (.int k a) (.int k b)).run P w=.ok v' w∧VRel ρ v v':=by
  cases op <;> first
    | (simp [zX] at hs; done)
    | (simp [aint] at h; done)
    | (simp only [aint] at h; injection h with h; subst h; exact ⟨_,by simp [binOp,Op.intArith,Op.intBits,Op.intCmp]; rfl,by simp [VRel,beq_dec,bne]⟩)
    | (simp only [aint] at h
       split at h
       · cases h
       · rename_i hb
         injection h with h; subst h
         exact ⟨_,by simp [binOp,Op.intDiv,hb]; rfl,by simp [VRel]⟩)
theorem shift_run {op:BinOp} {k l:IntKind} {a b:Int} {v:AVal} {ty:TypeId} (hs:zX op=true) (h:ashift op k a b=some v) :
    ∃ v',(binOp op ty (.int k a) (.int l b)).run P w=.ok v' w∧VRel ρ v v':=by
  unfold ashift at h
  split at h
  · cases h
  · rename_i hb
    cases op <;> first
      | (simp [zX] at hs; done)
      | (simp only at h; injection h with h; subst h
         exact ⟨_,by simp [binOp,Op.shift,hb]; rfl,by simp [VRel]⟩)
theorem str_run {op:BinOp} {a b:ByteArray} {v:AVal} {ty:TypeId} (h:astr op a b=some v) :
    ∃ v',(binOp op ty (.string a) (.string b)).run P w=.ok v' w∧VRel ρ v v':=by
  cases op <;> first
    | (simp [astr] at h; done)
    | (simp only [astr] at h; injection h with h; subst h; exact ⟨_,by simp [binOp,Op.stringOp]; rfl,by simp [VRel]⟩)
    | (simp only [astr] at h
       split at h
       · rename_i hb
         injection h with h; subst h
         have hn:¬ (((a.size+b.size:Nat):Int) > IntKind.i64.max):=by
           have:IntKind.i64.max=9223372036854775807:=by decide
           rw [this]; omega
         exact ⟨.string (a++b),by simp only [binOp,Op.stringOp,Sem.run_ite,if_neg hn,Sem.run_pure],by simp [VRel]⟩
       · cases h)
end

def FK.under (P:Program) (t:TypeId):FK→Prop
  | .int=>∃ k,P.underlying t=some (.int k)
  | .bool=>P.underlying t=some .bool
  | .str=>P.underlying t=some .string
theorem fieldKind_inv {P : Program} {f : Field} {k : FK} (h : fieldKind P f = some k) : f.name ≠ "_" ∧ k.under P f.type := by
  unfold fieldKind at h
  split at h
  · rename_i hc
    simp only [Bool.and_eq_true,bne_iff_ne,ne_eq] at hc
    refine ⟨hc.1,?_⟩
    split at h <;> first
      | (injection h with h; subst h; first | exact ⟨_,‹_›⟩ | (show P.underlying f.type=_; assumption))
      | cases h
  · cases h
theorem part_plain {P:Program} {w:World} {t:TypeId} {k:FK} (h:k.under P t) (xs:Array Value) (off:Nat) {v:Value} (hv:xs[off]? = some v):(part t xs off).run P w=.ok v w:=by
  have ha:(isAgg t).run P w=.ok false w:=by
    unfold isAgg
    cases k with
    | int=>obtain ⟨k,hk⟩:=h; simp [run_underlying hk]
    | bool=>have hk:P.underlying t=some .bool:=h; simp [run_underlying hk]
    | str=>have hk:P.underlying t=some .string:=h; simp [run_underlying hk]
  simp [part,ha,hv]
theorem eqCell_run {P:Program} {ρ:Ren} {w:World} {k:FK} {t:TypeId} (h:k.under P t) {x y:AVal} {r:Bool} (hr:yP [k] [x] [y]=some r) {u v:Value} (hu:VRel ρ x u) (hv:VRel ρ y v) (d:Nat) :
    (Op.equalIn (d+1) t u v).run P w=.ok r w:=by
  cases k <;> cases x <;> first | (simp [yP] at hr; done) | skip
  all_goals cases y <;> first | (simp [yP] at hr; done) | skip
  · rename_i k a l b
    simp only [yP] at hr
    split at hr
    · rename_i hk; subst hk
      simp [bnd] at hr; subst hr
      obtain ⟨k',hk'⟩:=h
      rw [hu.int_inv,hv.int_inv,run_equalIn_int w d _ k k' a b hk']; simp [beq_dec]
    · cases hr
  · rename_i a b
    simp [yP,bnd] at hr; subst hr
    rw [hu.bool_inv,hv.bool_inv]; exact run_equalIn_bool' w d _ a b h
  · rename_i a b
    simp [yP,bnd] at hr; subst hr
    rw [hu.str_inv,hv.str_inv,run_equalIn_string w d _ a b h,beq_bytes]
theorem flatEq_cons {k:FK} {ks:List FK} {x y:AVal} {xs ys:List AVal} {r:Bool} (h:yP (k :: ks) (x :: xs) (y :: ys)=some r):∃ q r',yP [k] [x] [y]=some q∧yP ks xs ys=some r'∧r=(q && r'):=by
  cases k <;> cases x <;> first | (simp [yP] at h; done) | skip
  all_goals cases y <;> first | (simp [yP] at h; done) | skip
  · simp only [yP] at h
    split at h
    · rename_i hk
      obtain ⟨r',h1,h2⟩:=xA h
      injection h2 with h2
      exact ⟨_,r',by simp [yP,hk,bnd],h1,h2.symm⟩
    · cases h
  · obtain ⟨r',h1,h2⟩:=xA h
    injection h2 with h2
    exact ⟨_,r',by simp [yP,bnd],h1,h2.symm⟩
  · obtain ⟨r',h1,h2⟩:=xA h
    injection h2 with h2
    exact ⟨_,r',by simp [yP,bnd],h1,h2.symm⟩

theorem eqFields_run {P:Program} {ρ:Ren} {w:World} (d:Nat):∀ (fs:List Field) (ks:List FK) (xs ys:List AVal) (n:Nat) (us vs:Array Value) {r:Bool},
    vU P n fs=some ks→yP ks xs ys=some r →
    (∀ (i:Nat) (x:AVal),xs[i]? = some x→∃ u,us[n+i]? = some u∧VRel ρ x u)→(∀ (i:Nat) (y:AVal),ys[i]? = some y→∃ u,vs[n+i]? = some u∧VRel ρ y u) →
    (Op.eqFields (d+1) us vs fs).run P w=.ok r w
  | [],ks,xs,ys,n,us,vs,r,hk,h,_,_=>by
    simp [vU] at hk; subst hk
    cases xs <;> cases ys <;> simp [yP] at h
    subst h; simp [Op.eqFields]
  | f :: fs,ks,xs,ys,n,us,vs,r,hk,h,hx,hy=>by
    simp only [vU] at hk
    split at hk
    · rename_i ho
      obtain ⟨k,hk1,hk⟩:=xA hk
      obtain ⟨ks',hk2,hk⟩:=xA hk
      injection hk with hk; subst hk
      cases xs with
      | nil=>cases k <;> simp [yP] at h
      | cons x xs =>
      cases ys with
      | nil=>cases k <;> cases x <;> simp [yP] at h
      | cons y ys =>
      obtain ⟨q,r',h1,h2,rfl⟩:=flatEq_cons h
      obtain ⟨u,hu,hur⟩:=hx 0 x rfl
      obtain ⟨v,hv,hvr⟩:=hy 0 y rfl
      rw [Nat.add_zero] at hu hv
      obtain ⟨hn,hund⟩:=fieldKind_inv hk1
      have pu:=part_plain (w:=w) hund us f.offset (by rw [ho]; exact hu)
      have pv:=part_plain (w:=w) hund vs f.offset (by rw [ho]; exact hv)
      have ih:=eqFields_run (w:=w) d fs ks' xs ys (n+1) us vs hk2 h2
        (fun i x e=>by obtain ⟨u,e1,e2⟩:=hx (i+1) x (by simpa using e); exact ⟨u,by rwa [show n+1+i=n+(i+1) by omega],e2⟩)
        (fun i x e=>by obtain ⟨u,e1,e2⟩:=hy (i+1) x (by simpa using e); exact ⟨u,by rwa [show n+1+i=n+(i+1) by omega],e2⟩)
      have hq:=eqCell_run (w:=w) hund h1 hur hvr d
      simp only [Op.eqFields,if_pos hn,Sem.run_bind,pu,pv,Result.andThen_ok,hq,Sem.run_ite,ih,Sem.run_pure]
      cases q <;> simp
    · cases hk
end Go.VAI

/- Operations that neither read nor write memory: tests,slices,fields,indexes. -/
set_option linter.unusedVariables false
set_option linter.unusedSimpArgs false
namespace Go.VAI
open Go Go.RowKit
section
variable {P:Program} {ρ:Ren} {w:World} {t:TypeId} {ti:TI}

theorem yY (op:BinOp) (xo yo:Operand) (x y:Value) (h:¬ (x=.nilIface∧y=.nilIface)) (h2:∀ a b,¬ (x=.agg a∧y=.agg b)):(eqGuard op t xo yo x y).run P w=.ok () w:=by
  unfold eqGuard
  cases op <;> simp only [Sem.run_bind,Sem.run_pure,Result.andThen_ok,Bool.not_true,Bool.not_false,if_true,if_false,Bool.false_eq_true,Sem.run_ite] <;> first
    | rfl
    | (split
       · exact absurd ⟨rfl,rfl⟩ h
       · exact absurd ⟨rfl,rfl⟩ (h2 _ _)
       · rfl)
theorem guard_const (op:BinOp) (xo yo:Operand) (h:(wX xo || wX yo)=true):(eqGuard op t xo yo .nilIface .nilIface).run P w=.ok () w:=by
  have hx:wX xo=true∨wX yo=true:=by simpa using h
  unfold eqGuard
  cases op <;> simp only [Sem.run_bind,Sem.run_pure,Result.andThen_ok,Bool.not_true,Bool.not_false,if_true,if_false,Bool.false_eq_true,Sem.run_ite] <;> first
    | rfl
    | (rcases hx with hx | hx
       · cases xo <;> simp [wX] at hx <;> simp
       · cases yo <;> simp [wX] at hx <;> (cases xo <;> simp))

section eqs
variable (d:Nat)
theorem eqIn_bool (h:P.underlying t=some .bool) (a b:Bool):(Op.equalIn (d+1) t (.bool a) (.bool b)).run P w=.ok (a == b) w:=run_equalIn_bool' w d _ a b h
theorem eqIn_sn (e:TypeId) (h:P.underlying t=some (.slice e)) (a:Addr) (n c:Nat):(Op.equalIn (d+1) t (.slice (some a) n c) (.slice none 0 0)).run P w=.ok false w:=by
  rw [Op.equalIn]; simp only [Sem.run_bind,run_underlying h,Result.andThen_ok]; rfl
theorem eqIn_ns (e:TypeId) (h:P.underlying t=some (.slice e)) (a:Addr) (n c:Nat):(Op.equalIn (d+1) t (.slice none 0 0) (.slice (some a) n c)).run P w=.ok false w:=by
  rw [Op.equalIn]; simp only [Sem.run_bind,run_underlying h,Result.andThen_ok]; rfl
theorem eqIn_nns (e:TypeId) (h:P.underlying t=some (.slice e)):(Op.equalIn (d+1) t (.slice none 0 0) (.slice none 0 0)).run P w=.ok true w:=by
  rw [Op.equalIn]; simp only [Sem.run_bind,run_underlying h,Result.andThen_ok]; rfl
theorem eqIn_pn (e:TypeId) (h:P.underlying t=some (.pointer e)) (a:Addr):(Op.equalIn (d+1) t (.pointer (some a)) (.pointer none)).run P w=.ok false w:=by
  rw [Op.equalIn]; simp only [Sem.run_bind,run_underlying h,Result.andThen_ok]; rfl
theorem eqIn_np (e:TypeId) (h:P.underlying t=some (.pointer e)) (a:Addr):(Op.equalIn (d+1) t (.pointer none) (.pointer (some a))).run P w=.ok false w:=by
  rw [Op.equalIn]; simp only [Sem.run_bind,run_underlying h,Result.andThen_ok]; rfl
theorem eqIn_nnp (e:TypeId) (h:P.underlying t=some (.pointer e)):(Op.equalIn (d+1) t (.pointer none) (.pointer none)).run P w=.ok true w:=by
  rw [Op.equalIn]; simp only [Sem.run_bind,run_underlying h,Result.andThen_ok]; rfl
theorem eqIn_mn (k e:TypeId) (h:P.underlying t=some (.map k e)) (a:Nat):(Op.equalIn (d+1) t (.map (some a)) (.map none)).run P w=.ok false w:=by
  rw [Op.equalIn]; simp only [Sem.run_bind,run_underlying h,Result.andThen_ok]; rfl
theorem eqIn_nm (k e:TypeId) (h:P.underlying t=some (.map k e)) (a:Nat):(Op.equalIn (d+1) t (.map none) (.map (some a))).run P w=.ok false w:=by
  rw [Op.equalIn]; simp only [Sem.run_bind,run_underlying h,Result.andThen_ok]; rfl
theorem eqIn_nnm (k e:TypeId) (h:P.underlying t=some (.map k e)):(Op.equalIn (d+1) t (.map none) (.map none)).run P w=.ok true w:=by
  rw [Op.equalIn]; simp only [Sem.run_bind,run_underlying h,Result.andThen_ok]; rfl
theorem eqIn_fn (ps rs:Array TypeId) (vr:Bool) (h:P.underlying t=some (.func ps rs vr)) (f:Fn) (x y:Array Value):(Op.equalIn (d+1) t (.func f x y) .nilFunc).run P w=.ok false w:=by
  rw [Op.equalIn]; simp only [Sem.run_bind,run_underlying h,Result.andThen_ok]; rfl
theorem eqIn_nf (ps rs:Array TypeId) (vr:Bool) (h:P.underlying t=some (.func ps rs vr)) (f:Fn) (x y:Array Value):(Op.equalIn (d+1) t .nilFunc (.func f x y)).run P w=.ok false w:=by
  rw [Op.equalIn]; simp only [Sem.run_bind,run_underlying h,Result.andThen_ok]; rfl
theorem eqIn_nnf (ps rs:Array TypeId) (vr:Bool) (h:P.underlying t=some (.func ps rs vr)):(Op.equalIn (d+1) t .nilFunc .nilFunc).run P w=.ok true w:=by
  rw [Op.equalIn]; simp only [Sem.run_bind,run_underlying h,Result.andThen_ok]; rfl
theorem eqIn_in (ms:Array (String × TypeId)) (h:P.underlying t=some (.interface ms)) (u:TypeId) (x:Value):(Op.equalIn (d+1) t (.iface u x) .nilIface).run P w=.ok false w:=by
  rw [Op.equalIn]; simp only [Sem.run_bind,run_underlying h,Result.andThen_ok]; rfl
theorem eqIn_ni (ms:Array (String × TypeId)) (h:P.underlying t=some (.interface ms)) (u:TypeId) (x:Value):(Op.equalIn (d+1) t .nilIface (.iface u x)).run P w=.ok false w:=by
  rw [Op.equalIn]; simp only [Sem.run_bind,run_underlying h,Result.andThen_ok]; rfl
theorem eqIn_nni (ms:Array (String × TypeId)) (h:P.underlying t=some (.interface ms)):(Op.equalIn (d+1) t .nilIface .nilIface).run P w=.ok true w:=by
  rw [Op.equalIn]; simp only [Sem.run_bind,run_underlying h,Result.andThen_ok]; rfl
end eqs

theorem aeq_run {op:BinOp} {xo yo:Operand} {e:EqK} (hop:op=.eql∨op=.neq) (ht:tiOf P t=some ti) (he:eqOf ti op xo yo=some e) {x y:AVal} {r:Bool} (h:aeq e x y=some r) {u v:Value} (hu:VRel ρ x u) (hv:VRel ρ y v) :
    (eqGuard op t xo yo u v).run P w=.ok () w∧(binOp op t u v).run P w=.ok (.bool (if op=.eql then r else !r)) w:=by
  obtain ⟨i,d,hok⟩:=yL ht
  have he':(match ti.desc with
    | .int _ | .str=>some EqK.prim
    | .bool=>some .plain
    | .slice _=>some .nilS
    | .ptr _=>some .nilP
    | .map _ _=>some .nilM
    | .func=>some .nilF
    | .iface=>if wX xo || wX yo then some .nilI else none
    | .struct _=>bnd ti.flat fun ks=>some (.flat ks)
    | _=>none)=some e:=by
    rcases hop with rfl | rfl <;> exact he
  have fin:(∀ d,(Op.equalIn (d+2) t u v).run P w=.ok r w)→(match u,v with | .int _ _,.int _ _=>false | .string _,.string _=>false | .float _ _,.float _ _=>false | .complex _ _ _,.complex _ _ _=>false | _,_=>true)=true →
      (binOp op t u v).run P w=.ok (.bool (if op=.eql then r else !r)) w:=by
    intro h1 h2
    have h3:(Op.equal t u v).run P w=.ok r w:=h1 9998
    rcases hop with rfl | rfl
    · have:binOp .eql t u v=(do pure (.bool (← Op.equal t u v))):=by cases u <;> cases v <;> first | (simp at h2; done) | rfl
      rw [this]; simp [h3]
    · have:binOp .neq t u v=(do pure (.bool (!(← Op.equal t u v)))):=by cases u <;> cases v <;> first | (simp at h2; done) | rfl
      rw [this]; simp [h3]
  have hd:=hok.desc
  have hund:=run_underlying (w:=w) hok.under
  cases hdd:ti.desc <;> rw [hdd] at he' hd <;> simp only at he' <;> cases d <;> simp only [tdOf] at hd <;> first
    | (cases hd; done)
    | (cases he'; done)
    | skip
  case int.int=>injection he' with he'; subst he'; simp [aeq] at h
  case str.string=>injection he' with he'; subst he'; simp [aeq] at h
  case bool.bool =>
    injection he' with he'; subst he'
    cases x <;> first | (simp [aeq] at h; done) | skip
    cases y <;> first | (simp [aeq] at h; done) | skip
    rename_i a b
    simp only [aeq] at h; injection h with h; subst h
    have hu:=hu.bool_inv
    have hv:=hv.bool_inv
    subst hu; subst hv
    exact ⟨yY op xo yo _ _ (by simp) (by simp),fin (fun d=>eqIn_bool (d+1) hok.under _ _) rfl⟩
  case slice.slice =>
    injection he' with he'; subst he'
    cases x <;> first | (simp [aeq] at h; done) | skip
    all_goals cases y <;> first | (simp [aeq] at h; done) | skip
    all_goals simp only [aeq] at h; injection h with h; subst h
    · obtain ⟨l,p,c,_,rfl,_⟩:=hu.slice_inv
      simp only [VRel] at hv; subst hv
      exact ⟨yY op xo yo _ _ (by simp) (by simp),fin (fun d=>eqIn_sn (d+1) _ hok.under _ _ _) rfl⟩
    · obtain ⟨l,p,c,_,rfl,_⟩:=hv.slice_inv
      simp only [VRel] at hu; subst hu
      exact ⟨yY op xo yo _ _ (by simp) (by simp),fin (fun d=>eqIn_ns (d+1) _ hok.under _ _ _) rfl⟩
    · simp only [VRel] at hu hv; subst hu; subst hv
      exact ⟨yY op xo yo _ _ (by simp) (by simp),fin (fun d=>eqIn_nns (d+1) _ hok.under) rfl⟩
  case ptr.pointer =>
    injection he' with he'; subst he'
    cases x <;> first | (simp [aeq] at h; done) | skip
    all_goals cases y <;> first | (simp [aeq] at h; done) | skip
    all_goals simp only [aeq] at h; injection h with h; subst h
    · obtain ⟨l,_,rfl⟩:=hu.ptr_inv
      simp only [VRel] at hv; subst hv
      exact ⟨yY op xo yo _ _ (by simp) (by simp),fin (fun d=>eqIn_pn (d+1) _ hok.under _) rfl⟩
    · obtain ⟨l,_,rfl⟩:=hv.ptr_inv
      simp only [VRel] at hu; subst hu
      exact ⟨yY op xo yo _ _ (by simp) (by simp),fin (fun d=>eqIn_np (d+1) _ hok.under _) rfl⟩
    · simp only [VRel] at hu hv; subst hu; subst hv
      exact ⟨yY op xo yo _ _ (by simp) (by simp),fin (fun d=>eqIn_nnp (d+1) _ hok.under) rfl⟩
  case map.map =>
    injection he' with he'; subst he'
    cases x <;> first | (simp [aeq] at h; done) | skip
    all_goals cases y <;> first | (simp [aeq] at h; done) | skip
    all_goals simp only [aeq] at h; injection h with h; subst h
    all_goals simp only [VRel] at hu hv
    · obtain ⟨l,_,rfl⟩:=hu; subst hv
      exact ⟨yY op xo yo _ _ (by simp) (by simp),fin (fun d=>eqIn_mn (d+1) _ _ hok.under _) rfl⟩
    · obtain ⟨l,_,rfl⟩:=hv; subst hu
      exact ⟨yY op xo yo _ _ (by simp) (by simp),fin (fun d=>eqIn_nm (d+1) _ _ hok.under _) rfl⟩
    · subst hu; subst hv
      exact ⟨yY op xo yo _ _ (by simp) (by simp),fin (fun d=>eqIn_nnm (d+1) _ _ hok.under) rfl⟩
  case func.func =>
    injection he' with he'; subst he'
    cases x <;> first | (simp [aeq] at h; done) | skip
    all_goals cases y <;> first | (simp [aeq] at h; done) | skip
    all_goals simp only [aeq] at h; injection h with h; subst h
    · obtain ⟨x,y,rfl,_⟩:=hu.func_inv
      simp only [VRel] at hv; subst hv
      exact ⟨yY op xo yo _ _ (by simp) (by simp),fin (fun d=>eqIn_fn (d+1) _ _ _ hok.under _ _ _) rfl⟩
    · obtain ⟨x,y,rfl,_⟩:=hv.func_inv
      simp only [VRel] at hu; subst hu
      exact ⟨yY op xo yo _ _ (by simp) (by simp),fin (fun d=>eqIn_nf (d+1) _ _ _ hok.under _ _ _) rfl⟩
    · simp only [VRel] at hu hv; subst hu; subst hv
      exact ⟨yY op xo yo _ _ (by simp) (by simp),fin (fun d=>eqIn_nnf (d+1) _ _ _ hok.under) rfl⟩
  case iface.interface =>
    split at he'
    · rename_i hc
      injection he' with he'; subst he'
      cases x <;> first | (simp [aeq] at h; done) | skip
      all_goals cases y <;> first | (simp [aeq] at h; done) | skip
      all_goals simp only [aeq] at h; injection h with h; subst h
      · obtain ⟨x,rfl,_⟩:=hu.iface_inv
        simp only [VRel] at hv; subst hv
        exact ⟨yY op xo yo _ _ (by simp) (by simp),fin (fun d=>eqIn_in (d+1) _ hok.under _ _) rfl⟩
      · obtain ⟨x,rfl,_⟩:=hv.iface_inv
        simp only [VRel] at hu; subst hu
        exact ⟨yY op xo yo _ _ (by simp) (by simp),fin (fun d=>eqIn_ni (d+1) _ hok.under _ _) rfl⟩
      · simp only [VRel] at hu hv; subst hu; subst hv
        exact ⟨guard_const op xo yo hc,fin (fun d=>eqIn_nni (d+1) _ hok.under) rfl⟩
    · cases he'
  case struct.struct =>
    obtain ⟨ks,hks,he'⟩:=xA he'
    injection he' with he'; subst he'
    rename_i fields
    cases x <;> first | (simp [aeq] at h; done) | skip
    cases y <;> first | (simp [aeq] at h; done) | skip
    simp only [aeq] at h
    obtain ⟨us,rfl,hus,_⟩:=hu.agg_inv
    obtain ⟨vs,rfl,hvs,_⟩:=hv.agg_inv
    rw [hok.flat] at hks
    simp only [flatKinds,hok.under] at hks
    split at hks
    · rename_i hc
      simp only [Bool.and_eq_true,Bool.not_eq_true'] at hc
      have hf:P.underlying t=some (.struct (P.fieldsOf t)):=by simp [Program.fieldsOf,hok.under]
      have hf2:P.fieldsOf t=fields:=by simp [Program.fieldsOf,hok.under]
      refine ⟨run_eqGuard_agg w op t xo yo _ _ hc.2,fin (fun d=>?_) rfl⟩
      rw [run_equalIn_struct w (d+1) t _ _ hf hc.1,hf2]
      refine eqFields_run (ρ:=ρ) d fields.toList ks _ _ 0 _ _ hks h (fun i x e=>?_) (fun i x e=>?_)
      · obtain ⟨u,e1,e2⟩:=hus.get i e
        exact ⟨u,by simpa using e1,e2⟩
      · obtain ⟨u,e1,e2⟩:=hvs.get i e
        exact ⟨u,by simpa using e1,e2⟩
    · cases hks

theorem abin_run {op:BinOp} {xo yo:Operand} {e:EqK} (ht:tiOf P t=some ti) (he:eqOf ti op xo yo=some e) {x y z:AVal} (h:wW op e x y=some z) {u v:Value} (hu:VRel ρ x u) (hv:VRel ρ y v) :
    ∃ z',(do eqGuard op t xo yo u v; binOp op t u v).run P w=.ok z' w∧VRel ρ z z':=by
  have other:aeqv op e x y=some z→∃ z',(do eqGuard op t xo yo u v; binOp op t u v).run P w=.ok z' w∧VRel ρ z z':=by
    intro h3
    unfold aeqv at h3
    split at h3
    · obtain ⟨r,h1,h2⟩:=xA h3
      injection h2 with h2; subst h2
      obtain ⟨g1,g2⟩:=aeq_run (w:=w) (.inl rfl) ht he h1 hu hv
      exact ⟨.bool r,by simp only [Sem.run_bind,g1,Result.andThen_ok,g2,if_true],by simp [VRel]⟩
    · obtain ⟨r,h1,h2⟩:=xA h3
      injection h2 with h2; subst h2
      obtain ⟨g1,g2⟩:=aeq_run (w:=w) (.inr rfl) ht he h1 hu hv
      exact ⟨.bool (!r),by simp only [Sem.run_bind,g1,Result.andThen_ok,g2]; simp,by simp [VRel]⟩
    · cases h3
  cases x with
  | int k a =>
    cases y with
    | int l b =>
      rw [hu.int_inv,hv.int_inv]
      have hg:=yY (P:=P) (w:=w) (t:=t) op xo yo (.int k a) (.int l b) (by simp) (by simp)
      simp only [wW] at h
      split at h
      · rename_i hs
        obtain ⟨v',h1,h2⟩:=shift_run (P:=P) (ρ:=ρ) (w:=w) (ty:=t) (l:=l) hs h
        exact ⟨v',by simp only [Sem.run_bind,hg,Result.andThen_ok,h1],h2⟩
      · rename_i hs
        split at h
        · rename_i hk; subst hk
          obtain ⟨v',h1,h2⟩:=int_run (P:=P) (ρ:=ρ) (w:=w) (ty:=t) (by simpa using hs) h
          exact ⟨v',by simp only [Sem.run_bind,hg,Result.andThen_ok,h1],h2⟩
        · cases h
    | _=>exact other h
  | str a =>
    cases y with
    | str b =>
      rw [hu.str_inv,hv.str_inv]
      have hg:=yY (P:=P) (w:=w) (t:=t) op xo yo (.string a) (.string b) (by simp) (by simp)
      obtain ⟨v',h1,h2⟩:=str_run (P:=P) (ρ:=ρ) (w:=w) (ty:=t) (op:=op) h
      exact ⟨v',by simp only [Sem.run_bind,hg,Result.andThen_ok,h1],h2⟩
    | _=>exact other h
  | _=>exact other h
end
end Go.VAI

/- The remaining operations that neither read nor write memory. -/
set_option linter.unusedVariables false
set_option linter.unusedSimpArgs false
namespace Go.VAI
open Go Go.RowKit
section
variable {P:Program} {ρ:Ren} {w:World}

theorem TIOk.run_info {t:TypeId} {ti:TI} {i:TypeInfo} {d:TypeDesc} (h:TIOk P t ti i d) (w:World):(typeInfo t).run P w=.ok i w:=by
 simp [typeInfo,h.info]
theorem TIOk.run_size {t:TypeId} {ti:TI} {i:TypeInfo} {d:TypeDesc} (h:TIOk P t ti i d) (w:World):(sizeOf t).run P w=.ok ti.size w:=by
 simp [sizeOf,h.run_info,h.size]
theorem TIOk.run_under {t:TypeId} {ti:TI} {i:TypeInfo} {d:TypeDesc} (h:TIOk P t ti i d) (w:World):(underlying t).run P w=.ok d w:=run_underlying h.under w
theorem TIOk.run_agg {t:TypeId} {ti:TI} {i:TypeInfo} {d:TypeDesc} (h:TIOk P t ti i d) (w:World):(isAgg t).run P w=.ok ti.desc.agg w:=by
 unfold isAgg
 simp only [Sem.run_bind,h.run_under,Result.andThen_ok]
 rw [← h.desc]
 cases d <;> rfl
theorem qF (b o n:Nat):(⟨b,o,none⟩:Addr).add n=⟨b,o+n,none⟩:=by unfold Addr.add; split <;> simp_all

theorem bound_run {x:AVal} {y n:Nat} (h:bound x y=some n) {u:Value} (hu:VRel ρ x u) (c:BoundsCode) (z:Nat) (hz:y≤z):(Instr.sliceBound u z c).run P w=.ok n w∧n≤y:=by
 unfold bound at h
 split at h
 ·rename_i k i
  split at h
  ·rename_i hi
   injection h with h; subst h
   have hu:=hu.int_inv; subst hu
   refine ⟨?_,by omega⟩
   have:0≤i∧i≤(z:Int):=⟨hi.1,by omega⟩
   simp [Instr.sliceBound,asIntOf,this]
  ·cases h
 ·cases h

def orel (ρ:Ren):Option AVal→Option Value→Prop
 | none,none=>True
 | some x,some v=>VRel ρ x v
 | _,_=>False

theorem bounds2_run (b:Bool) {lo hi:Option AVal} {lo' hi':Option Value} (hl:orel ρ lo lo') (hh:orel ρ hi hi') {len top cap l h:Nat} (htop:top≤cap) (hlen:len≤top)
  (h1:wA hi top len=some h) (h2:wA lo h 0=some l):(Instr.sliceBounds b len cap lo' hi' none).run P w=.ok (l,h,cap) w∧l≤h∧h≤top:=by
 have e1:∃ _:Unit,h≤top∧(match hi' with | some v=>(Instr.sliceBound v cap (if b then .sliceAcap else .sliceAlen)).run P w=.ok h w | none=>h=len):=by
  cases hi with
  | none =>
   simp only [wA] at h1; injection h1 with h1; subst h1
   cases hi' with
   | none=>exact ⟨(),hlen,rfl⟩
   | some _=>exact hh.elim
  | some v =>
   cases hi' with
   | none=>exact hh.elim
   | some u=>have:=bound_run (P:=P) (w:=w) h1 hh (if b then .sliceAcap else .sliceAlen) cap htop; exact ⟨(),this.2,this.1⟩
 have e2:l≤h∧(match lo' with | some v=>∀ c,(Instr.sliceBound v h c).run P w=.ok l w | none=>l=0):=by
  cases lo with
  | none =>
   simp only [wA] at h2; injection h2 with h2; subst h2
   cases lo' with
   | none=>exact ⟨by omega,rfl⟩
   | some _=>exact hl.elim
  | some v =>
   cases lo' with
   | none=>exact hl.elim
   | some u=>exact ⟨(bound_run (P:=P) (w:=w) h2 hl .index h (Nat.le_refl _)).2,fun c=>(bound_run (P:=P) (w:=w) h2 hl c h (Nat.le_refl _)).1⟩
 obtain ⟨_,e0,e1⟩:=e1
 obtain ⟨e3,e2⟩:=e2
 refine ⟨?_,e3,e0⟩
 unfold Instr.sliceBounds
 cases hi' with
 | none =>
  cases lo' with
  | none=>simp only at e1 e2; subst e1; subst e2; simp
  | some v=>simp only at e1 e2; subst e1; simp [e2]
 | some u =>
  simp only at e1
  cases lo' with
  | none=>simp only at e2; subst e2; simp [e1]
  | some v=>simp only at e2; simp [e1,e2]
theorem bounds3_run (b:Bool) {lo hi:Option AVal} {m:AVal} {lo' hi':Option Value} {m':Value} (hl:orel ρ lo lo') (hh:orel ρ hi hi') (hm:VRel ρ m m') {len top cap l h n:Nat} (htop:top≤cap) (hi0:hi.isNone=false)
  (h0:bound m top=some n) (h1:wA hi n 0=some h) (h2:wA lo h 0=some l):(Instr.sliceBounds b len cap lo' hi' (some m')).run P w=.ok (l,h,n) w∧l≤h∧h≤n∧n≤top:=by
 have e0:=bound_run (P:=P) (w:=w) h0 hm (if b then .slice3Acap else .slice3Alen) cap htop
 cases hi with
 | none=>simp at hi0
 | some v =>
 cases hi' with
 | none=>exact hh.elim
 | some u =>
 have e1:=bound_run (P:=P) (w:=w) h1 hh .slice3B n (Nat.le_refl _)
 have e2:l≤h∧(match lo' with | some v=>(Instr.sliceBound v h .slice3C).run P w=.ok l w | none=>l=0):=by
  cases lo with
  | none =>
   simp only [wA] at h2; injection h2 with h2; subst h2
   cases lo' with
   | none=>exact ⟨by omega,rfl⟩
   | some _=>exact hl.elim
  | some v =>
   cases lo' with
   | none=>exact hl.elim
   | some u=>have:=bound_run (P:=P) (w:=w) h2 hl .slice3C h (Nat.le_refl _); exact ⟨this.2,this.1⟩
 obtain ⟨e3,e2⟩:=e2
 refine ⟨?_,e3,e1.2,e0.2⟩
 unfold Instr.sliceBounds
 cases lo' with
 | none=>simp only at e2; subst e2; simp [e0.1,e1.1]
 | some v=>simp only at e2; simp [e0.1,e1.1,e2]

theorem slice_run {t e:TypeId} {ti ei:TI} {i j:TypeInfo} {d d2:TypeDesc} (ht:TIOk P t ti i d) (hd:ti.desc=.slice e) (he:TIOk P e ei j d2)
  {x z:AVal} {lo hi mx:Option AVal} (h:wB ei.size x lo hi mx=some z) {u:Value} {lo' hi' mx':Option Value} (hu:VRel ρ x u) (hl:orel ρ lo lo') (hh:orel ρ hi hi') (hm:orel ρ mx mx') :
  ∃ z',(Instr.sliceAt t u lo' hi' mx').run P w=.ok z' w∧VRel ρ z z':=by
 have hdd:d=.slice e:=by
  have:=ht.desc; rw [hd] at this
  cases d <;> simp [tdOf] at this; rw [this]
 subst hdd
 have hsz:=he.run_size w
 have hun:=ht.run_under w
 -- the run,once the bounds are known
 have go:∀ (a:Option Addr) (len cap l h m:Nat),u=.slice a len cap→(Instr.sliceBounds true len cap lo' hi' mx').run P w=.ok (l,h,m) w →
   (Instr.sliceAt t u lo' hi' mx').run P w=.ok (.slice (if m=l then a else a.map (·.add (l*ei.size))) (h - l) (m - l)) w:=by
  rintro a len cap l h m rfl hb
  simp only [Instr.sliceAt,Instr.slice,Sem.run_bind,hun,Result.andThen_ok,hb,hsz,Sem.run_pure]
 unfold wB at h
 split at h
 ·rename_i id off len cap
  cases mx with
  | some m =>
   cases mx' with
   | none=>exact hm.elim
   | some m' =>
   simp only at h
   obtain ⟨n,h0,h⟩:=xA h
   obtain ⟨h',h1,h⟩:=xA h
   obtain ⟨l,h2,h⟩:=xA h
   split at h
   ·cases h
   ·rename_i hi0
    injection h with h; subst h
    have hi0:hi.isNone=false:=by cases hi <;> simp_all
    obtain ⟨lc,p,c,hr,rfl,hlc,htop2,htop1⟩:=hu.slice_inv2
    have hb:=bounds3_run (P:=P) (w:=w) true (len:=len) hl hh hm htop1 hi0 h0 h1 h2
    refine ⟨_,go _ _ _ _ _ _ rfl hb.1,?_⟩
    simp only [VRel]
    refine ⟨lc,if n=l then p else p.add (l*ei.size),hr,?_,by omega,?_⟩
    ·split <;> simp
    ·rcases htop2 with h9 | h9
     ·left; subst h9; split <;> simp [qF]; omega
     ·right; have:=hb.2.2.2; refine ⟨by omega,?_⟩; rw [if_pos (by omega)]; exact h9.2
  | none =>
   cases mx' with
   | some _=>exact hm.elim
   | none =>
   simp only at h
   obtain ⟨h',h1,h⟩:=xA h
   obtain ⟨l,h2,h⟩:=xA h
   cases cap with
   | exact n =>
    simp only at h
    simp only [ACap.top] at h1
    injection h with h; subst h
    simp only [VRel] at hu
    obtain ⟨lc,p,hr,rfl,hlc,hp⟩:=hu
    have hb:=bounds2_run (P:=P) (w:=w) true hl hh (Nat.le_refl n) hlc h1 h2
    refine ⟨_,go _ _ _ _ _ _ rfl hb.1,?_⟩
    simp only [VRel]
    refine ⟨lc,if n=l then p else p.add (l*ei.size),hr,?_,by omega,?_⟩
    ·split <;> simp
    ·rcases hp with h9 | h9
     ·left; subst h9; split <;> simp [qF]; omega
     ·right; refine ⟨by omega,?_⟩; rw [if_pos (by omega)]; exact h9.2
   | room s =>
    simp only at h
    simp only [ACap.top] at h1
    split at h
    ·rename_i hs
     injection h with h; subst h
     simp only [VRel] at hu
     obtain ⟨lc,c,p,hr,rfl,hlc,hp⟩:=hu
     have hb:=bounds2_run (P:=P) (w:=w) true hl hh hlc (Nat.le_refl _) h1 h2
     refine ⟨_,go _ _ _ _ _ _ rfl hb.1,?_⟩
     simp only [VRel]
     refine ⟨lc,c - l,if c=l then p else p+l*ei.size,hr,?_,by omega,?_⟩
     ·split <;> simp [qF]
     ·by_cases hcl:c=l
      ·right; omega
      ·left
       rw [if_neg hcl]
       rcases hp with h9 | h9
       ·rcases hs with hs | hs
        ·subst hs
         refine ⟨by omega,?_⟩
         have:l*ei.size+(c - l)*ei.size=c*ei.size:=by rw [← Nat.add_mul]; congr 1; omega
         omega
        ·subst hs; simp; omega
       ·omega
    ·cases h
 ·obtain ⟨m,h0,h⟩:=xA h
  obtain ⟨h',h1,h⟩:=xA h
  obtain ⟨l,h2,h⟩:=xA h
  split at h
  ·cases h
  ·rename_i hc
   injection h with h; subst h
   simp only [VRel] at hu; subst hu
   have hm0:m=0:=by
    cases mx with
    | none=>simp [wA] at h0; omega
    | some v =>
     cases mx' with
     | none=>exact hm.elim
     | some v'=>have:=(bound_run (P:=P) (w:=w) (ρ:=ρ) h0 hm .index 0 (Nat.le_refl _)).2; omega
   subst hm0
   cases mx with
   | none =>
    cases mx' with
    | some _=>exact hm.elim
    | none =>
     have hb:=bounds2_run (P:=P) (w:=w) true hl hh (Nat.le_refl 0) (Nat.le_refl 0) h1 h2
     have hl0:l=0:=by omega
     have hh0:h'=0:=by omega
     subst hl0; subst hh0
     exact ⟨_,go _ _ _ _ _ _ rfl hb.1,by simp [VRel]⟩
   | some v =>
    cases mx' with
    | none=>exact hm.elim
    | some v' =>
     have hi0:hi.isNone=false:=by
      cases hi with
      | none=>simp at hc
      | some _=>rfl
     have hb:=bounds3_run (P:=P) (w:=w) true (len:=0) hl hh hm (Nat.le_refl 0) hi0 h0 h1 h2
     have hl0:l=0:=by omega
     have hh0:h'=0:=by omega
     subst hl0; subst hh0
     exact ⟨_,go _ _ _ _ _ _ rfl hb.1,by simp [VRel]⟩
 ·cases h

theorem sliceStr_run {t:TypeId} {ti:TI} {i:TypeInfo} {d:TypeDesc} (ht:TIOk P t ti i d) (hd:ti.desc=.str)
  {x z:AVal} {lo hi:Option AVal} (h:asliceStr x lo hi=some z) {u:Value} {lo' hi':Option Value} (hu:VRel ρ x u) (hl:orel ρ lo lo') (hh:orel ρ hi hi') :
  ∃ z',(Instr.sliceAt t u lo' hi' none).run P w=.ok z' w∧VRel ρ z z':=by
 have hdd:d=.string:=by
  have:=ht.desc; rw [hd] at this
  cases d <;> simp [tdOf] at this; rfl
 subst hdd
 have hun:=ht.run_under w
 unfold asliceStr at h
 split at h
 ·rename_i s
  obtain ⟨h',h1,h⟩:=xA h
  obtain ⟨l,h2,h⟩:=xA h
  injection h with h; subst h
  have hu:=hu.str_inv; subst hu
  have hb:=bounds2_run (P:=P) (w:=w) false hl hh (Nat.le_refl s.size) (Nat.le_refl _) h1 h2
  exact ⟨.string (s.extract l h'),by simp [Instr.sliceAt,Instr.slice,hun,hb.1],by simp [VRel]⟩
 ·cases h
end
end Go.VAI

/- Parts laid into a struct,an array,a slice; fields; indexes; and all that neither reads nor writes memory,in one word. -/
set_option linter.unusedVariables false
set_option linter.unusedSimpArgs false
namespace Go.VAI
open Go Go.RowKit

theorem splice_length {c vs:List AVal} {off:Nat} (h:off+vs.length≤c.length):(yV c off vs).length=c.length:=by
 simp [yV]; omega
theorem splice_get {α:Type} (c vs:List α) (off k:Nat) (h:off+vs.length≤c.length) :
  (c.take off++vs++c.drop (off+vs.length))[k]? = if off≤k∧k < off+vs.length then vs[k - off]? else c[k]? := by
 by_cases h1:k < off
 ·rw [List.append_assoc,List.getElem?_append_left (by simp; omega),if_neg (by omega),List.getElem?_take,if_pos h1]
 ·by_cases h2:k < off+vs.length
  ·rw [List.append_assoc,List.getElem?_append_right (by simp; omega),List.getElem?_append_left (by simp; omega),if_pos (by omega)]
   congr 1; simp; omega
  ·rw [List.getElem?_append_right (by simp; omega),if_neg (by omega),List.getElem?_drop]
   congr 1; simp; omega
theorem foldl_set (off:Nat):∀ (l:List Value) (n:Nat) (cells:Array Value),off+n+l.length≤cells.size →
  ∃ r,(l.zipIdx n).foldl (fun cs (p:Value × Nat)=>cs.setIfInBounds (off+p.2) p.1) cells=r∧r.size=cells.size∧∀ k:Nat,r[k]? = if off+n≤k∧k < off+n+l.length then l[k - (off+n)]? else cells[k]?
 | [],n,cells,_=>⟨cells,rfl,rfl,fun k=>by rw [if_neg (by simp only [List.length_nil]; omega)]⟩
 | v :: l,n,cells,h=>by
  obtain ⟨r,h1,h2,h3⟩:=foldl_set off l (n+1) (cells.setIfInBounds (off+n) v) (by simp at h ⊢; omega)
  refine ⟨r,by simpa [List.zipIdx_cons] using h1,by simpa using h2,fun k=>?_⟩
  rw [h3 k,Array.getElem?_setIfInBounds]
  simp only [List.length_cons] at h ⊢
  by_cases hk:k=off+n
  ·subst hk
   rw [if_neg (by omega),if_pos rfl,if_pos (by omega),if_pos ⟨by omega,by omega⟩]; simp
  ·by_cases hk2:off+n≤k∧k < off+n+(l.length+1)
   ·rw [if_pos (by omega),if_pos hk2,show k - (off+n)=(k - (off+(n+1)))+1 by omega]; simp
   ·rw [if_neg (by omega),if_neg (by omega),if_neg hk2]

section
variable {P:Program} {ρ:Ren} {w:World} {t:xJ} {a:Act}
theorem fill_rel (ht:TRel ρ t a.tmps) (xR:Nat→Option (Nat × Nat)):∀ (parts:List (Nat × Operand)) {ps:List (Nat × Nat × AOpd)} {zs cs:List AVal} {us:List Value},
  cparts xR parts=some ps→afill zs (evp t ps)=some cs→VRels ρ zs us→(∀ c∈zs,c.isCell=true) →
  ∃ arr,Instr.fill xR us.toArray (parts.map fun p=>(p.1,a.eval p.2))=some arr∧VRels ρ cs arr.toList∧(∀ c∈cs,c.isCell=true)∧cs.length=zs.length
 | [],_,zs,cs,us,hp,hf,hz,hc=>by
  simp [cparts] at hp; subst hp
  simp [evp,afill] at hf; subst hf
  exact ⟨us.toArray,rfl,by simpa using hz,hc,rfl⟩
 | (i,x) :: parts,_,zs,cs,us,hp,hf,hz,hc=>by
  obtain ⟨q,hq,hp⟩:=xA hp
  obtain ⟨y,hy,hp⟩:=xA hp
  obtain ⟨ps,hps,hp⟩:=xA hp
  injection hp with hp; subst hp
  simp only [evp,List.map_cons,afill] at hf
  obtain ⟨vs,hvs,hf⟩:=xA hf
  split at hf
  ·rename_i hb
   have hrel:=cells_rel hvs (yM ht hy)
   have hlen:(a.eval x).cells.size=vs.length:=by rw [← Array.length_toList]; exact hrel.1.length
   obtain ⟨r,h1,h2,h3⟩:=foldl_set q.1 (a.eval x).cells.toList 0 us.toArray (by simp [hlen,hz.length]; omega)
   have hsp:VRels ρ (yV zs q.1 vs) r.toList:=by
    refine .of_get (by rw [splice_length (by omega),Array.length_toList,h2]; simp [hz.length]) (fun k b u e1 e2=>?_)
    have e1':=splice_get zs vs q.1 k (by omega)
    unfold yV at e1
    rw [e1'] at e1
    rw [Array.getElem?_toList,h3 k] at e2
    simp only [Nat.add_zero] at e2
    rw [show (a.eval x).cells.toList.length=vs.length from by simp [hlen]] at e2
    split at e1
    ·rename_i hk
     rw [if_pos hk] at e2
     obtain ⟨u',e3,e4⟩:=hrel.1.get _ e1
     rw [e3] at e2; injection e2 with e2; subst e2; exact e4
    ·rename_i hk
     rw [if_neg hk] at e2
     obtain ⟨u',e3,e4⟩:=hz.get _ e1
     simp at e2
     rw [e3] at e2; injection e2 with e2; subst e2; exact e4
   have hcell:∀ c∈yV zs q.1 vs,c.isCell=true:=by
    intro c hcm
    simp only [yV,List.mem_append] at hcm
    rcases hcm with (hcm | hcm) | hcm
    ·exact hc c (List.mem_of_mem_take hcm)
    ·exact hrel.2 c hcm
    ·exact hc c (List.mem_of_mem_drop hcm)
   obtain ⟨arr,g1,g2,g3,g4⟩:=fill_rel ht xR parts hps hf hsp hcell
   refine ⟨arr,?_,g2,g3,by rw [g4,splice_length (by omega)]⟩
   have hr:r.toList.toArray=r:=by simp
   rw [hr] at g1
   have hfold:(a.eval x).cells.zipIdx.foldl (fun cs (p:Value × Nat)=>cs.setIfInBounds (q.1+p.2) p.1) us.toArray=r:=by
    rw [← h1,← Array.foldl_toList]; simp
   simp only [List.map_cons,Instr.fill,hq]
   rw [if_neg (by simp [hlen,hz.length]; omega)]
   have:(a.eval x).cells.zipIdx.foldl (fun cs x=>match x with | (c,j)=>cs.setIfInBounds (q.1+j) c) us.toArray=r:=hfold
   rw [this]; exact g1
  ·cases hf

theorem uM {t e:TypeId} {ti:TI} {i:TypeInfo} {d:TypeDesc} (h:TIOk P t ti i d) (hd:ti.desc=.slice e):d=.slice e:=by
 have:=h.desc; rw [hd] at this
 cases d <;> simp [tdOf] at this; rw [this]
theorem tok_array {t e:TypeId} {n:Nat} {ti:TI} {i:TypeInfo} {d:TypeDesc} (h:TIOk P t ti i d) (hd:ti.desc=.array n e):d=.array n e:=by
 have:=h.desc; rw [hd] at this
 cases d <;> simp [tdOf] at this; rw [this.1,this.2]
theorem tok_str {t:TypeId} {ti:TI} {i:TypeInfo} {d:TypeDesc} (h:TIOk P t ti i d) (hd:ti.desc=.str):d=.string:=by
 have:=h.desc; rw [hd] at this
 cases d <;> simp [tdOf] at this; rfl
theorem tok_int {t:TypeId} {k:IntKind} {ti:TI} {i:TypeInfo} {d:TypeDesc} (h:TIOk P t ti i d) (hd:ti.desc=.int k):d=.int k:=by
 have:=h.desc; rw [hd] at this
 cases d <;> simp [tdOf] at this; rw [this]
theorem tok_map {t k v:TypeId} {ti:TI} {i:TypeInfo} {d:TypeDesc} (h:TIOk P t ti i d) (hd:ti.desc=.map k v):d=.map k v:=by
 have:=h.desc; rw [hd] at this
 cases d <;> simp [tdOf] at this; rw [this.1,this.2]
theorem tok_struct {t:TypeId} {fs:List (Nat × TypeId)} {ti:TI} {i:TypeInfo} {d:TypeDesc} (h:TIOk P t ti i d) (hd:ti.desc=.struct fs):∃ fields,d=.struct fields∧fields.toList.map (fun f=>(f.offset,f.type))=fs:=by
 have:=h.desc; rw [hd] at this
 cases d <;> simp [tdOf] at this
 exact ⟨_,rfl,this⟩

theorem apart_run {t:TypeId} {ti:TI} {i:TypeInfo} {d:TypeDesc} (h:TIOk P t ti i d) {cs:List AVal} {us:List Value} (hr:VRels ρ cs us) (hc:∀ c∈cs,c.isCell=true) {off:Nat} {z:AVal}
  (ha:apart off ti.size ti.desc.agg cs=some z):∃ z',(part t us.toArray off).run P w=.ok z' w∧VRel ρ z z':=by
 unfold apart at ha
 have hagg:=h.run_agg w
 split at ha
 ·rename_i hg
  rw [hg] at hagg
  split at ha
  ·rename_i hb
   injection ha with ha; subst ha
   refine ⟨.agg (us.toArray.extract off (off+ti.size)),by simp [part,hagg,h.run_size],?_⟩
   simp only [VRel]
   refine ⟨(us.drop off).take ti.size,?_,(hr.drop off).take ti.size,fun c hcm=>hc c (List.mem_of_mem_drop (List.mem_of_mem_take hcm))⟩
   congr 1
   apply Array.ext'
   simp [List.extract_eq_take_drop]
  ·cases ha
 ·rename_i hg
  have hg:ti.desc.agg=false:=by simpa using hg
  rw [hg] at hagg
  obtain ⟨v,e1,e2⟩:=hr.get off ha
  exact ⟨v,by simp [part,hagg,e1],e2⟩

theorem afold_run {f:AVal→AVal→Option AVal} {g:Value→Value→Sem Value} (hfg:∀ x y z u v,f x y=some z→VRel ρ x u→VRel ρ y v→∃ r,(g u v).run P w=.ok r w∧VRel ρ z r) :
  ∀ (l:List AVal) (x z:AVal) (us:List Value) (u:Value),afold f x l=some z→VRel ρ x u→VRels ρ l us→∃ r,(us.foldlM g u).run P w=.ok r w∧VRel ρ z r
 | [],x,z,us,u,h,hu,hs=>by
  simp [afold] at h; subst h
  rw [hs.nil_inv]
  exact ⟨u,by simp,hu⟩
 | y :: l,x,z,us,u,h,hu,hs=>by
  obtain ⟨v,us',rfl,h1,h2⟩:=hs.cons_inv
  obtain ⟨q,h3,h4⟩:=xA h
  obtain ⟨r,e1,e2⟩:=hfg _ _ _ _ _ h3 hu h1
  obtain ⟨r',e3,e4⟩:=afold_run hfg l q z us' r h4 e2 h2
  exact ⟨r',by simp [e1,e3],e4⟩

def TabOk (P:Program) (tab:Tab):Prop:=∀ t ti,tab t=some ti→tiOf P t=some ti

theorem max2_run {x y z:AVal} {u v:Value} (h:amax2 x y=some z) (hu:VRel ρ x u) (hv:VRel ρ y v):∃ r,(Builtin.max2 u v).run P w=.ok r w∧VRel ρ z r:=by
 unfold amax2 at h
 split at h
 ·injection h with h; subst h
  exact ⟨_,by rw [hu.int_inv,hv.int_inv]; simp only [Builtin.max2,Sem.run_pure]; rfl,by simp [VRel]⟩
 ·cases h
theorem min2_run {x y z:AVal} {u v:Value} (h:amin2 x y=some z) (hu:VRel ρ x u) (hv:VRel ρ y v):∃ r,(Builtin.min2 u v).run P w=.ok r w∧VRel ρ z r:=by
 unfold amin2 at h
 split at h
 ·injection h with h; subst h
  exact ⟨_,by rw [hu.int_inv,hv.int_inv]; simp only [Builtin.min2,Sem.run_pure]; rfl,by simp [VRel]⟩
 ·cases h

variable {tab:Tab} {o:Oper} {ao:AOp}
theorem orel_of (ht:TRel ρ t a.tmps) {x:Option Operand} {y:Option AOpd} (h:codo x=some y):orel ρ (y.map (AOpd.ev t)) (x.map a.eval):=by
 cases x with
 | none=>simp [codo] at h; subst h; trivial
 | some x =>
  obtain ⟨b,h1,h2⟩:=xA h
  injection h2 with h2; subst h2
  exact yM ht h1

theorem pure_sound (hT:TabOk P tab) (hc:cop tab o.op=some ao) (hp:ao.cls=.pure) {v:AVal} (hv:zU ao t=some v) (ht:TRel ρ t a.tmps) :
  ∃ v',(execOp a.eval o).run P w=.ok (.value v') w∧VRel ρ v v':=by
 have fin:∀ (s:Sem Value) (op:Op),o.op=op→execOp a.eval o=(do pure (.value (← s)))→(∃ v',s.run P w=.ok v' w∧VRel ρ v v')→∃ v',(execOp a.eval o).run P w=.ok (.value v') w∧VRel ρ v v':=by
  rintro s op - he ⟨v',h1,h2⟩
  exact ⟨v',by rw [he]; simp [h1],h2⟩
 cases hop:o.op <;> rw [hop] at hc <;> simp only [cop] at hc <;> first | (cases hc; done) | skip
 case move x =>
  obtain ⟨y,h1,h2⟩:=xA hc
  injection h2 with h2; subst h2
  simp only [zU] at hv; injection hv with hv; subst hv
  exact ⟨a.eval x,by simp [execOp,hop],yM ht h1⟩
 case assign x =>
  obtain ⟨y,h1,h2⟩:=xA hc
  injection h2 with h2; subst h2
  simp only [zU] at hv; injection hv with hv; subst hv
  exact ⟨a.eval x,by simp [execOp,hop],yM ht h1⟩
 case pick c x y =>
  obtain ⟨c',h1,hc⟩:=xA hc
  obtain ⟨x',h2,hc⟩:=xA hc
  obtain ⟨y',h3,hc⟩:=xA hc
  injection hc with hc; subst hc
  have r1:=yM ht h1; have r2:=yM ht h2; have r3:=yM ht h3
  simp only [zU] at hv
  generalize c'.ev t=cv at hv r1
  unfold apick at hv
  split at hv
  ·injection hv with hv; subst hv
   exact ⟨a.eval x,by simp [execOp,hop,r1.bool_inv,asBool],r2⟩
  ·injection hv with hv; subst hv
   exact ⟨a.eval y,by simp [execOp,hop,r1.bool_inv,asBool],r3⟩
  ·cases hv
 case alloc e =>
  obtain ⟨_,_,hc⟩:=xA hc
  obtain ⟨_,_,hc⟩:=xA hc
  injection hc with hc; subst hc; simp [AOp.cls] at hp
 case box e x =>
  obtain ⟨_,_,hc⟩:=xA hc
  obtain ⟨_,_,hc⟩:=xA hc
  injection hc with hc; subst hc; simp [AOp.cls] at hp
 case build ty parts =>
  obtain ⟨ti,h1,hc⟩:=xA hc
  obtain ⟨zs,h2,hc⟩:=xA hc
  obtain ⟨i,d,hok⟩:=yL (hT _ _ h1)
  obtain ⟨z,hz1,hz2,_⟩:=hok.zero zs h2
  have hz:=vV (ρ:=ρ) hz2
  refine fin _ _ hop (by simp [execOp,hop]; rfl) ?_
  have done:∀ (xR:Nat→Option (Nat × Nat)) (ps:List (Nat × Nat × AOpd)),cparts xR parts.toList=some ps→ao=.build zs ps →
    (∀ arr,Instr.fill xR z.cells (parts.toList.map fun p=>(p.1,a.eval p.2))=some arr→P.built ty (parts.map fun p=>(p.1,a.eval p.2)).toList=some arr) →
    ∃ v',(Instr.build ty (parts.map fun p=>(p.1,a.eval p.2))).run P w=.ok v' w∧VRel ρ v v':=by
   rintro xR ps hps rfl hb
   simp only [zU] at hv
   obtain ⟨cs,hv1,hv2⟩:=xA hv
   injection hv2 with hv2; subst hv2
   obtain ⟨arr,g1,g2,g3,_⟩:=fill_rel ht xR parts.toList hps hv1 hz.1 hz.2
   have g1':Instr.fill xR z.cells (parts.toList.map fun p=>(p.1,a.eval p.2))=some arr:=by simpa using g1
   exact ⟨.agg arr,run_build w ty _ arr (hb arr g1'),by simp only [VRel]; exact ⟨arr.toList,rfl,g2,g3⟩⟩
  split at hc
  ·rename_i fs hd
   obtain ⟨pl,h3,hc⟩:=xA hc
   obtain ⟨ps,h4,hc⟩:=xA hc
   injection hc with hc
   obtain ⟨fields,rfl,hfs⟩:=tok_struct hok hd
   refine done _ ps h4 hc.symm (fun arr hf=>?_)
   rw [hok.places] at h3
   simp only [placesOf] at h3
   simp only [Program.built,hok.info,hok.under,hz1,h3]
   simpa using hf
  ·rename_i n e hd
   obtain ⟨ei,h3,hc⟩:=xA hc
   obtain ⟨ps,h4,hc⟩:=xA hc
   injection hc with hc
   have:=tok_array hok hd; subst this
   obtain ⟨j,d2,hoe⟩:=yL (hT _ _ h3)
   refine done _ ps h4 hc.symm (fun arr hf=>?_)
   simp only [Program.built,hok.info,hok.under,hz1,hoe.info,hoe.size]
   simpa using hf
  ·cases hc
 case buildSlice ty len parts =>
  obtain ⟨_,_,hc⟩:=xA hc
  split at hc
  ·obtain ⟨_,_,hc⟩:=xA hc
   obtain ⟨_,_,hc⟩:=xA hc
   obtain ⟨_,_,hc⟩:=xA hc
   split at hc
   ·injection hc with hc; subst hc; simp [AOp.cls] at hp
   ·cases hc
  ·cases hc
 case load ty x =>
  obtain ⟨_,_,hc⟩:=xA hc
  obtain ⟨_,_,hc⟩:=xA hc
  split at hc <;> (injection hc with hc; subst hc; simp [AOp.cls] at hp)
 case store ty x y =>
  obtain ⟨_,_,hc⟩:=xA hc
  obtain ⟨_,_,hc⟩:=xA hc
  obtain ⟨_,_,hc⟩:=xA hc
  injection hc with hc; subst hc; simp [AOp.cls] at hp
 case nilCheck x =>
  obtain ⟨y,h1,h2⟩:=xA hc
  injection h2 with h2; subst h2
  have r1:=yM ht h1
  simp only [zU] at hv
  generalize y.ev t=yv at hv r1
  unfold anilCheck at hv
  split at hv
  ·injection hv with hv; subst hv
   obtain ⟨l,hl,he⟩:=r1.ptr_inv
   exact ⟨a.eval x,by simp [execOp,hop,he],r1⟩
  ·injection hv with hv; subst hv
   obtain ⟨x1,y1,he,_⟩:=r1.func_inv
   exact ⟨a.eval x,by simp [execOp,hop,he],r1⟩
  ·cases hv
 case binOp op ty x y ty2 =>
  obtain ⟨ti,h1,hc⟩:=xA hc
  obtain ⟨e,h2,hc⟩:=xA hc
  obtain ⟨x',h3,hc⟩:=xA hc
  obtain ⟨y',h4,hc⟩:=xA hc
  injection hc with hc; subst hc
  simp only [zU] at hv
  exact fin _ _ hop (by simp [execOp,hop]) (abin_run (hT _ _ h1) h2 hv (yM ht h3) (yM ht h4))
 case unOp op ty x =>
  obtain ⟨x',h3,hc⟩:=xA hc
  injection hc with hc; subst hc
  have r1:=yM ht h3
  simp only [zU] at hv
  generalize x'.ev t=xv at hv r1
  refine fin _ _ hop (by simp [execOp,hop]; rfl) ?_
  unfold aun at hv
  split at hv
  ·injection hv with hv; subst hv
   exact ⟨_,by rw [r1.bool_inv]; simp [Op.unary]; rfl,by simp [VRel]⟩
  ·injection hv with hv; subst hv
   rename_i k n
   exact ⟨.int k (k.wrap (0 - n)),by rw [r1.int_inv]; simp [Op.unary,Op.intArith],by simp [VRel]⟩
  ·rename_i k n
   simp only [aint] at hv
   injection hv with hv; subst hv
   exact ⟨_,by rw [r1.int_inv]; simp only [Op.unary,Op.intBits,Sem.run_pure]; rfl,by simp [VRel]⟩
  ·cases hv
 case convert src dst x =>
  obtain ⟨si,h1,hc⟩:=xA hc
  obtain ⟨di,h2,hc⟩:=xA hc
  obtain ⟨x',h3,hc⟩:=xA hc
  have r1:=yM ht h3
  obtain ⟨i,d,hok⟩:=yL (hT _ _ h1)
  obtain ⟨j,d2,hok2⟩:=yL (hT _ _ h2)
  refine fin _ _ hop (by simp [execOp,hop]; rfl) ?_
  split at hc
  ·rename_i k1 k hd hd2
   injection hc with hc; subst hc
   have:=tok_int hok hd; subst this
   have:=tok_int hok2 hd2; subst this
   simp only [zU] at hv
   generalize x'.ev t=xv at hv r1
   unfold atoInt at hv
   split at hv
   ·injection hv with hv; subst hv
    exact ⟨_,by rw [r1.int_inv]; simp [convert,hok.run_under,hok2.run_under,Conv.intToInt]; rfl,by simp [VRel]⟩
   ·cases hv
  ·rename_i hd hd2
   injection hc with hc; subst hc
   have:=tok_str hok hd; subst this
   have:=tok_str hok2 hd2; subst this
   simp only [zU] at hv
   generalize x'.ev t=xv at hv r1
   unfold asame at hv
   split at hv
   ·injection hv with hv; subst hv
    exact ⟨a.eval x,by rw [r1.str_inv]; simp [convert,hok.run_under,hok2.run_under],r1⟩
   ·cases hv
  ·obtain ⟨_,_,hc⟩:=xA hc
   split at hc
   ·injection hc with hc; subst hc; simp [AOp.cls] at hp
   ·cases hc
  ·obtain ⟨_,_,hc⟩:=xA hc
   split at hc
   ·injection hc with hc; subst hc; simp [AOp.cls] at hp
   ·cases hc
  ·cases hc
 case makeInterface ty x =>
  obtain ⟨ti,h1,hc⟩:=xA hc
  obtain ⟨x',h3,hc⟩:=xA hc
  have r1:=yM ht h3
  split at hc
  ·cases hc
  ·rename_i hni
   injection hc with hc; subst hc
   obtain ⟨i,d,hok⟩:=yL (hT _ _ h1)
   simp only [zU] at hv
   refine fin _ _ hop (by simp [execOp,hop]; rfl) ⟨.iface ty (a.eval x),?_,?_⟩
   ·have hd:=hok.desc
    have hu:=hok.run_under w
    cases d <;> simp [tdOf] at hd <;> first
     | (exact absurd hd.symm hni)
     | simp [Instr.makeInterface,hu]
   ·generalize x'.ev t=xv at hv r1
    unfold amkIface at hv
    split at hv
    ·cases hv
    ·injection hv with hv; subst hv
     simp only [VRel]; exact ⟨_,rfl,r1⟩
 case makeFunc fn first captured =>
  obtain ⟨x',h1,hc⟩:=xA hc
  obtain ⟨y',h3,hc⟩:=xA hc
  injection hc with hc; subst hc
  simp only [zU] at hv
  injection hv with hv; subst hv
  refine fin _ _ hop (by simp [execOp,hop]; rfl) ⟨.func fn (first.map a.eval) (captured.map a.eval),by simp [Instr.makeFunc],?_⟩
  simp only [VRel]
  exact ⟨_,_,by rw [show first.map a.eval=(first.toList.map a.eval).toArray from Array.ext' (by simp),show captured.map a.eval=(captured.toList.map a.eval).toArray from Array.ext' (by simp)],cods_rel ht h1,cods_rel ht h3⟩
 case makeMap ty r =>
  obtain ⟨_,_,hc⟩:=xA hc
  split at hc
  ·split at hc
   ·injection hc with hc; subst hc; simp [AOp.cls] at hp
   ·cases hc
  ·cases hc
 case makeSlice ty l c =>
  obtain ⟨_,_,hc⟩:=xA hc
  split at hc
  ·obtain ⟨_,_,hc⟩:=xA hc
   obtain ⟨_,_,hc⟩:=xA hc
   obtain ⟨_,_,hc⟩:=xA hc
   obtain ⟨_,_,hc⟩:=xA hc
   split at hc
   ·injection hc with hc; subst hc; simp [AOp.cls] at hp
   ·cases hc
  ·cases hc
 case slice ty x lo hi mx =>
  obtain ⟨ti,h1,hc⟩:=xA hc
  obtain ⟨x',h2,hc⟩:=xA hc
  obtain ⟨lo',h3,hc⟩:=xA hc
  obtain ⟨hi',h4,hc⟩:=xA hc
  obtain ⟨mx',h5,hc⟩:=xA hc
  have r1:=yM ht h2
  have r3:=orel_of ht h3; have r4:=orel_of ht h4; have r5:=orel_of ht h5
  obtain ⟨i,d,hok⟩:=yL (hT _ _ h1)
  refine fin _ _ hop (by simp [execOp,hop]; rfl) ?_
  split at hc
  ·rename_i e hd
   obtain ⟨ei,h6,hc⟩:=xA hc
   injection hc with hc; subst hc
   obtain ⟨j,d2,hoe⟩:=yL (hT _ _ h6)
   simp only [zU] at hv
   exact slice_run hok hd hoe hv r1 r3 r4 r5
  ·rename_i hd
   split at hc
   ·rename_i hmx
    injection hc with hc; subst hc
    simp only [zU] at hv
    have:mx.map a.eval=none:=by
     cases mx with
     | none=>rfl
     | some m=>cases mx' <;> simp_all [orel]
    rw [this]
    exact sliceStr_run hok hd hv r1 r3 r4
   ·cases hc
  ·cases hc
 case fieldAddr s x f =>
  obtain ⟨ti,h1,hc⟩:=xA hc
  split at hc
  ·rename_i fs hd
   obtain ⟨fd,h2,hc⟩:=xA hc
   obtain ⟨fi,h3,hc⟩:=xA hc
   obtain ⟨x',h4,hc⟩:=xA hc
   split at hc
   ·cases hc
   ·rename_i hsz
    injection hc with hc; subst hc
    have r1:=yM ht h4
    obtain ⟨i,d,hok⟩:=yL (hT _ _ h1)
    obtain ⟨j,d2,hof⟩:=yL (hT _ _ h3)
    obtain ⟨fields,rfl,hfs⟩:=tok_struct hok hd
    refine fin _ _ hop (by simp [execOp,hop]; rfl) ?_
    simp only [zU] at hv
    generalize x'.ev t=xv at hv r1
    unfold afieldAddr at hv
    split at hv
    ·rename_i id off
     injection hv with hv; subst hv
     obtain ⟨l,hl,he⟩:=r1.ptr_inv
     rw [← hfs,List.getElem?_map] at h2
     cases hff:fields.toList[f]? with
     | none=>rw [hff] at h2; cases h2
     | some fld =>
      rw [hff] at h2; simp at h2; subst h2
      have hff':fields[f]? = some fld:=by simpa using hff
      refine ⟨.pointer (some ⟨l.b,l.o+off+fld.offset,none⟩),?_,?_⟩
      ·rw [he]
       simp [Instr.fieldAt,hok.run_under,hff',Instr.sureAddr,fieldPlace,hof.run_size,hsz,qF]
      ·simp only [VRel]; exact ⟨l,hl,by rw [Nat.add_assoc]⟩
    ·cases hv
  ·cases hc
 case indexAddr ty x ix =>
  obtain ⟨ti,h1,hc⟩:=xA hc
  obtain ⟨x',h2,hc⟩:=xA hc
  obtain ⟨ix',h3,hc⟩:=xA hc
  have r1:=yM ht h2; have r2:=yM ht h3
  obtain ⟨i,d,hok⟩:=yL (hT _ _ h1)
  refine fin _ _ hop (by simp [execOp,hop]; rfl) ?_
  split at hc
  ·rename_i e hd
   obtain ⟨ei,h6,hc⟩:=xA hc
   injection hc with hc; subst hc
   obtain ⟨j,d2,hoe⟩:=yL (hT _ _ h6)
   have:=uM hok hd; subst this
   simp only [zU] at hv
   generalize x'.ev t=xv at hv r1
   generalize ix'.ev t=iv at hv r2
   unfold xO at hv
   split at hv
   ·split at hv
    ·rename_i id off len cap k n hb
     injection hv with hv; subst hv
     obtain ⟨l,p,c,hl,he,_,hp0⟩:=r1.slice_inv
     have hp:=hp0 (by omega)
     subst hp
     rw [he,r2.int_inv]
     refine ⟨.pointer (some ⟨l.b,l.o+off+n.toNat*ei.size,none⟩),?_,by simp only [VRel]; exact ⟨l,hl,by rw [Nat.add_assoc]⟩⟩
     simp [Instr.indexAt,asIntOf,hok.run_under,hb,hoe.run_size,qF]
    ·cases hv
   ·cases hv
  ·rename_i n e hd
   obtain ⟨ei,h6,hc⟩:=xA hc
   injection hc with hc; subst hc
   obtain ⟨j,d2,hoe⟩:=yL (hT _ _ h6)
   have:=tok_array hok hd; subst this
   simp only [zU] at hv
   generalize x'.ev t=xv at hv r1
   generalize ix'.ev t=iv at hv r2
   unfold aindexAddrA at hv
   split at hv
   ·split at hv
    ·rename_i id off k m hb
     injection hv with hv; subst hv
     obtain ⟨l,hl,he⟩:=r1.ptr_inv
     rw [he,r2.int_inv]
     refine ⟨.pointer (some ⟨l.b,l.o+off+m.toNat*ei.size,none⟩),?_,by simp only [VRel]; exact ⟨l,hl,by rw [Nat.add_assoc]⟩⟩
     simp [Instr.indexAt,Instr.sureAddr,asIntOf,hok.run_under,hb,hoe.run_size,qF]
    ·cases hv
   ·cases hv
  ·cases hc
 case field ty x f =>
  obtain ⟨ti,h1,hc⟩:=xA hc
  split at hc
  ·rename_i fs hd
   obtain ⟨fd,h2,hc⟩:=xA hc
   obtain ⟨fi,h3,hc⟩:=xA hc
   obtain ⟨x',h4,hc⟩:=xA hc
   injection hc with hc; subst hc
   have r1:=yM ht h4
   obtain ⟨i,d,hok⟩:=yL (hT _ _ h1)
   obtain ⟨j,d2,hof⟩:=yL (hT _ _ h3)
   obtain ⟨fields,rfl,hfs⟩:=tok_struct hok hd
   refine fin _ _ hop (by simp [execOp,hop]; rfl) ?_
   simp only [zU] at hv
   generalize x'.ev t=xv at hv r1
   unfold afield at hv
   split at hv
   ·obtain ⟨us,he,hr,hcell⟩:=r1.agg_inv
    rw [← hfs,List.getElem?_map] at h2
    cases hff:fields.toList[f]? with
    | none=>rw [hff] at h2; cases h2
    | some fld =>
     rw [hff] at h2; simp at h2; subst h2
     have hff':fields[f]? = some fld:=by simpa using hff
     obtain ⟨z',g1,g2⟩:=apart_run (w:=w) hof hr hcell hv
     exact ⟨z',by rw [he]; simp [Instr.field,hok.run_under,hff',asAgg,g1],g2⟩
   ·cases hv
  ·cases hc
 case index ty x ix =>
  obtain ⟨ti,h1,hc⟩:=xA hc
  obtain ⟨x',h2,hc⟩:=xA hc
  obtain ⟨ix',h3,hc⟩:=xA hc
  have r1:=yM ht h2; have r2:=yM ht h3
  obtain ⟨i,d,hok⟩:=yL (hT _ _ h1)
  refine fin _ _ hop (by simp [execOp,hop]; rfl) ?_
  split at hc
  ·rename_i n e hd
   obtain ⟨ei,h6,hc⟩:=xA hc
   injection hc with hc; subst hc
   obtain ⟨j,d2,hoe⟩:=yL (hT _ _ h6)
   have:=tok_array hok hd; subst this
   simp only [zU] at hv
   generalize x'.ev t=xv at hv r1
   generalize ix'.ev t=iv at hv r2
   unfold aindexA at hv
   split at hv
   ·split at hv
    ·rename_i cs k m hb
     obtain ⟨us,he,hr,hcell⟩:=r1.agg_inv
     obtain ⟨z',g1,g2⟩:=apart_run (w:=w) hoe hr hcell hv
     exact ⟨z',by rw [he,r2.int_inv]; simp [Instr.index,asIntOf,hok.run_under,hb,hoe.run_size,g1],g2⟩
    ·cases hv
   ·cases hv
  ·rename_i hd
   injection hc with hc; subst hc
   have:=tok_str hok hd; subst this
   simp only [zU] at hv
   generalize x'.ev t=xv at hv r1
   generalize ix'.ev t=iv at hv r2
   unfold aindexStr at hv
   split at hv
   ·split at hv
    ·rename_i s k m hb
     split at hv
     ·rename_i bt hbt
      injection hv with hv; subst hv
      exact ⟨.int .u8 bt.toNat,by rw [r1.str_inv,r2.int_inv]; simp [Instr.index,asIntOf,hok.run_under,hb,hbt],by simp [VRel]⟩
     ·cases hv
    ·cases hv
   ·cases hv
  ·cases hc
 case lookup ty x ix ok =>
  obtain ⟨ti,h1,hc⟩:=xA hc
  split at hc
  ·obtain ⟨_,_,hc⟩:=xA hc
   obtain ⟨_,_,hc⟩:=xA hc
   obtain ⟨_,_,hc⟩:=xA hc
   obtain ⟨_,_,hc⟩:=xA hc
   obtain ⟨_,_,hc⟩:=xA hc
   injection hc with hc; subst hc; simp [AOp.cls] at hp
  ·cases hc
 case mapUpdate ty m k x =>
  obtain ⟨ti,h1,hc⟩:=xA hc
  split at hc
  ·obtain ⟨_,_,hc⟩:=xA hc
   obtain ⟨_,_,hc⟩:=xA hc
   obtain ⟨_,_,hc⟩:=xA hc
   obtain ⟨_,_,hc⟩:=xA hc
   injection hc with hc; subst hc; simp [AOp.cls] at hp
  ·cases hc
 case extract x n =>
  obtain ⟨x',h3,hc⟩:=xA hc
  injection hc with hc; subst hc
  have r1:=yM ht h3
  simp only [zU] at hv
  generalize x'.ev t=xv at hv r1
  refine fin _ _ hop (by simp [execOp,hop]; rfl) ?_
  unfold aextract at hv
  split at hv
  ·obtain ⟨us,he,hr⟩:=r1.tuple_inv
   obtain ⟨v',e1,e2⟩:=hr.get n hv
   exact ⟨v',by rw [he]; simp [Instr.extract,e1],e2⟩
  ·cases hv
 case call c =>
  have bi:∀ (b:Builtin),c.callee=.builtin b→execOp a.eval o=builtin b c.argTypes o.type (c.args.map fun | .const _=>true | _=>false) (c.args.map a.eval):=by
   intro b hb
   simp only [execOp,hop,resolve,hb]
   rfl
  unfold ccall at hc
  split at hc
  ·rename_i hcal
   have hb:=bi _ hcal
   split at hc
   ·rename_i x ty hargs htys
    obtain ⟨ti,h1,hc⟩:=xA hc
    obtain ⟨x',h2,hc⟩:=xA hc
    obtain ⟨i,d,hok⟩:=yL (hT _ _ h1)
    have r1:=yM ht h2
    have ha:c.args=#[x]:=by rw [← Array.toArray_toList (xs:=c.args),hargs]
    have hta:c.argTypes=#[ty]:=by rw [← Array.toArray_toList (xs:=c.argTypes),htys]
    have hrun:∀ v',(Builtin.len_ #[ty] o.type #[a.eval x]).run P w=.ok v' w→(execOp a.eval o).run P w=.ok (.value v') w:=by
     intro v' h
     rw [hb,ha,hta]
     simp only [builtin,List.map_toArray,List.map_cons,List.map_nil,Sem.run_bind,h,Result.andThen_ok,Sem.run_pure]
    split at hc
    ·rename_i e hd
     injection hc with hc; subst hc
     have:=uM hok hd; subst this
     simp only [zU] at hv
     generalize x'.ev t=xv at hv r1
     unfold alenS at hv
     split at hv
     ·injection hv with hv; subst hv
      obtain ⟨l,p,c',_,he,_⟩:=r1.slice_inv
      exact ⟨_,hrun _ (by rw [he]; simp [Builtin.len_,hok.run_under]; rfl),by simp [VRel,goInt]⟩
     ·injection hv with hv; subst hv
      simp only [VRel] at r1
      exact ⟨_,hrun _ (by rw [r1]; simp [Builtin.len_,hok.run_under]; rfl),by simp [VRel,goInt]⟩
     ·cases hv
    ·rename_i hd
     injection hc with hc; subst hc
     have:=tok_str hok hd; subst this
     simp only [zU] at hv
     generalize x'.ev t=xv at hv r1
     unfold alenStr at hv
     split at hv
     ·injection hv with hv; subst hv
      exact ⟨_,hrun _ (by rw [r1.str_inv]; simp [Builtin.len_,hok.run_under]; rfl),by simp [VRel,goInt]⟩
     ·cases hv
    ·injection hc with hc; subst hc; simp [AOp.cls] at hp
    ·cases hc
   ·cases hc
  ·split at hc
   ·obtain ⟨_,_,hc⟩:=xA hc
    obtain ⟨_,_,hc⟩:=xA hc
    split at hc
    ·obtain ⟨_,_,hc⟩:=xA hc; obtain ⟨_,_,hc⟩:=xA hc; obtain ⟨_,_,hc⟩:=xA hc; obtain ⟨_,_,hc⟩:=xA hc
     split at hc
     ·injection hc with hc; subst hc; simp [AOp.cls] at hp
     ·cases hc
    ·obtain ⟨_,_,hc⟩:=xA hc; obtain ⟨_,_,hc⟩:=xA hc; obtain ⟨_,_,hc⟩:=xA hc; obtain ⟨_,_,hc⟩:=xA hc
     split at hc
     ·injection hc with hc; subst hc; simp [AOp.cls] at hp
     ·cases hc
    ·cases hc
   ·cases hc
  ·rename_i hcal
   have hb:=bi _ hcal
   obtain ⟨l,h1,hc⟩:=xA hc
   injection hc with hc; subst hc
   have r1:=cods_rel ht h1
   simp only [zU] at hv
   generalize evs t l=lv at hv r1
   unfold afolds at hv
   split at hv
   ·cases hv
   ·obtain ⟨u,us,he,g1,g2⟩:=r1.cons_inv
    obtain ⟨r,e1,e2⟩:=afold_run (P:=P) (w:=w) (fun x y z u v=>max2_run) _ _ _ us u hv g1 g2
    refine ⟨r,?_,e2⟩
    rw [hb]
    simp only [builtin,Builtin.max_,Array.toList_map,he,Sem.run_bind,e1,Result.andThen_ok,Sem.run_pure]
  ·rename_i hcal
   have hb:=bi _ hcal
   obtain ⟨l,h1,hc⟩:=xA hc
   injection hc with hc; subst hc
   have r1:=cods_rel ht h1
   simp only [zU] at hv
   generalize evs t l=lv at hv r1
   unfold afolds at hv
   split at hv
   ·cases hv
   ·obtain ⟨u,us,he,g1,g2⟩:=r1.cons_inv
    obtain ⟨r,e1,e2⟩:=afold_run (P:=P) (w:=w) (fun x y z u v=>min2_run) _ _ _ us u hv g1 g2
    refine ⟨r,?_,e2⟩
    rw [hb]
    simp only [builtin,Builtin.min_,Array.toList_map,he,Sem.run_bind,e1,Result.andThen_ok,Sem.run_pure]
  ·obtain ⟨_,_,hc⟩:=xA hc
   injection hc with hc; subst hc; simp [AOp.cls] at hp
  ·obtain ⟨_,_,hc⟩:=xA hc
   injection hc with hc; subst hc; simp [AOp.cls] at hp
  ·cases hc
end
end Go.VAI

/- Operations that read memory,that make new objects. -/
set_option linter.unusedVariables false
set_option linter.unusedSimpArgs false
namespace Go.VAI
open Go Go.RowKit
section
variable {P:Program} {ρ:Ren} {w:World} {t:xJ} {a:Act} {B:Nat} {H:AHeap}

theorem HRel.cells {id:Nat} {l:Loc} {c:List AVal} (h:HRel ρ B H w) (hl:ρ id=some l) (hc:H.cells? id=some c):CRel ρ w l c:=by
 unfold AHeap.cells? at hc
 split at hc
 ·rename_i c' rw e
  injection hc with hc; subst hc
  have:=h.obj id l _ hl e
  cases rw with
  | false=>exact this.2
  | true=>exact this.2.1
 ·cases hc
theorem HRel.rw {id:Nat} {l:Loc} {c:List AVal} (h:HRel ρ B H w) (hl:ρ id=some l) (hc:H.rw? id=some c):H.obj id=some (.cells c true)∧ORel ρ B w l (.cells c true):=by
 unfold AHeap.rw? at hc
 split at hc
 ·rename_i c' e
  injection hc with hc; subst hc
  exact ⟨e,h.obj id l _ hl e⟩
 ·cases hc
theorem HRel.map {id:Nat} {l:Loc} {es:List (AVal × AVal)} (h:HRel ρ B H w) (hl:ρ id=some l) (hc:H.map? id=some es):H.obj id=some (.amap es)∧ORel ρ B w l (.amap es):=by
 unfold AHeap.map? at hc
 split at hc
 ·rename_i c' e
  injection hc with hc; subst hc
  exact ⟨e,h.obj id l _ hl e⟩
 ·cases hc

theorem CRel.list {l:Loc} {c:List AVal} (h:CRel ρ w l c):∃ us:List Value,VRels ρ c us∧∀ (j:Nat) (v:Value),us[j]? = some v→w.cell? ⟨l.b,l.o+j,none⟩=some v:=by
 obtain ⟨h1,h2⟩:=h
 induction c generalizing l with
 | nil=>exact ⟨[],.nil,by simp⟩
 | cons x c ih =>
  obtain ⟨u,e1,e2⟩:=h2 0 x rfl
  obtain ⟨us,e3,e4⟩:=ih (l:=⟨l.b,l.o+1,l.n⟩) (fun y hy=>h1 y (by simp [hy])) (fun i v e=>by
   obtain ⟨u,e5,e6⟩:=h2 (i+1) v (by simpa using e)
   exact ⟨u,by rw [show (l.o+1+i)=l.o+(i+1) by omega]; exact e5,e6⟩)
  refine ⟨u :: us,.cons e2 e3,fun j v e=>?_⟩
  cases j with
  | zero=>simp at e; subst e; exact e1
  | succ j=>have:=e4 j v (by simpa using e); rwa [show (l.o+1+j)=l.o+(j+1) by omega] at this
theorem CRel.part {l:Loc} {c:List AVal} (h:CRel ρ w l c) (off n:Nat) (hb:off+n≤c.length) :
  ∃ us:List Value,VRels ρ ((c.drop off).take n) us∧us.length=n∧∀ (j:Nat) (v:Value),us[j]? = some v→w.cell? ((⟨l.b,l.o+off,none⟩:Addr).add j)=some v:=by
 obtain ⟨us,h1,h2⟩:=h.list
 refine ⟨(us.drop off).take n,(h1.drop off).take n,by simp [h1.length]; omega,fun j v e=>?_⟩
 rw [List.getElem?_take] at e
 split at e
 ·rw [List.getElem?_drop] at e
  rw [qF,Nat.add_assoc]; exact h2 _ v e
 ·cases e
theorem toBytes_rel:∀ {c:List AVal} {us:List Value} {l:List UInt8},toBytes c=some l→VRels ρ c us→∃ ns:List Int,us=ns.map (Value.int .u8)∧ns.map (fun n=>UInt8.ofNat n.toNat)=l
 | [],_,_,h,hr=>by
  simp [toBytes] at h; subst h
  exact ⟨[],by simp [hr.nil_inv],rfl⟩
 | x :: c,us,l,h,hr=>by
  obtain ⟨v,vs,rfl,h1,h2⟩:=hr.cons_inv
  cases x <;> first | (simp [toBytes] at h; done) | skip
  rename_i k n
  cases k <;> first | (simp [toBytes] at h; done) | skip
  simp only [toBytes] at h
  obtain ⟨r,h3,h4⟩:=xA h
  injection h4 with h4; subst h4
  obtain ⟨ns,rfl,h5⟩:=toBytes_rel h3 h2
  exact ⟨n :: ns,by rw [h1.int_inv]; rfl,by simp [h5]⟩

def KeyTy (P:Program) (k:TypeId):KeyK→Prop
 | .one q=>q.under P k
 | .many ks=>∃ fs,P.underlying k=some (.struct fs)∧P.stoodInHeld k=false∧vU P 0 fs.toList=some ks
theorem keyTy_of {tab:Tab} (hT:∀ t ti,tab t=some ti→tiOf P t=some ti) {k:TypeId} {kk:KeyK} (hm:mapKey tab k=some kk):KeyTy P k kk:=by
 obtain ⟨ti,h,hm⟩:=xA hm
 obtain ⟨ks,hf,hm⟩:=xA hm
 obtain ⟨i,d,hok⟩:=yL (hT _ _ h)
 rw [hok.flat] at hf
 unfold flatKinds at hf
 split at hm
 ·rename_i fs hd
  injection hm with hm; subst hm
  obtain ⟨fields,rfl,_⟩:=tok_struct hok hd
  rw [hok.under] at hf
  simp only at hf
  split at hf
  ·rename_i hc
   simp only [Bool.and_eq_true,Bool.not_eq_true'] at hc
   exact ⟨fields,hok.under,hc.1,hf⟩
  ·cases hf
 ·rename_i q hd
  injection hm with hm; subst hm
  have:=tok_int hok hd; subst this
  rw [hok.under] at hf
  injection hf with hf; injection hf with hf; subst hf
  exact ⟨_,hok.under⟩
 ·rename_i q hd
  injection hm with hm; subst hm
  have hb:d=.bool:=by
   have:=hok.desc; rw [hd] at this
   cases d <;> simp [tdOf] at this; rfl
  subst hb
  rw [hok.under] at hf
  injection hf with hf; injection hf with hf; subst hf
  exact hok.under
 ·rename_i q hd
  injection hm with hm; subst hm
  have:=tok_str hok hd; subst this
  rw [hok.under] at hf
  injection hf with hf; injection hf with hf; subst hf
  exact hok.under
 ·cases hm
theorem keyEq_run {k:TypeId} {kk:KeyK} (hk:KeyTy P k kk) {x y:AVal} {r:Bool} (h:keyEq kk x y=some r) {u v:Value} (hu:VRel ρ x u) (hv:VRel ρ y v):(Op.equal k u v).run P w=.ok r w:=by
 cases kk with
 | one q=>exact eqCell_run hk h hu hv 9999
 | many ks =>
  obtain ⟨fs,hund,hst,hks⟩:=hk
  unfold keyEq at h
  split at h
  ·rename_i heq; cases heq
  ·rename_i ks' xs ys heq
   injection heq with heq; subst heq
   obtain ⟨us,rfl,hus,_⟩:=hu.agg_inv
   obtain ⟨vs,rfl,hvs,_⟩:=hv.agg_inv
   have hf:P.underlying k=some (.struct (P.fieldsOf k)):=by simp [Program.fieldsOf,hund]
   have hf2:P.fieldsOf k=fs:=by simp [Program.fieldsOf,hund]
   show (Op.equalIn (9999+1) k _ _).run P w=_
   rw [run_equalIn_struct w 9999 k _ _ hf hst,hf2]
   refine eqFields_run (ρ:=ρ) 9998 fs.toList ks _ _ 0 _ _ hks h (fun i x e=>?_) (fun i x e=>?_)
   ·obtain ⟨u,e1,e2⟩:=hus.get i e
    exact ⟨u,by simpa using e1,e2⟩
   ·obtain ⟨u,e1,e2⟩:=hvs.get i e
    exact ⟨u,by simpa using e1,e2⟩
  ·cases h
theorem checkCell_run {q:FK} {k:TypeId} (h:q.under P k) {x:AVal} {r:Bool} (hr:yP [q] [x] [x]=some r) {u:Value} (hu:VRel ρ x u) (em:Bool) (n:Nat):(Instr.checkKey em (n+1) k u).run P w=.ok () w:=by
 cases q <;> cases x <;> first | (simp [yP] at hr; done) | skip
 ·obtain ⟨k',hk'⟩:=h
  rw [hu.int_inv]; (unfold Instr.checkKey; simp [run_underlying hk'])
 ·have hk':P.underlying k=some .bool:=h
  rw [hu.bool_inv]; (unfold Instr.checkKey; simp [run_underlying hk'])
 ·have hk':P.underlying k=some .string:=h
  rw [hu.str_inv]; (unfold Instr.checkKey; simp [run_underlying hk'])
theorem checkFields_run (em:Bool) (n:Nat):∀ (fs:List Field) (ks:List FK) (xs:List AVal) (m:Nat) (us:Array Value) {r:Bool},vU P m fs=some ks→yP ks xs xs=some r →
  (∀ (i:Nat) (x:AVal),xs[i]? = some x→∃ u,us[m+i]? = some u∧VRel ρ x u) →
  (forIn (m:=Sem) fs PUnit.unit fun f _=>do
    if f.name ≠ "_" then Instr.checkKey em (n + 1) f.type (← part f.type us f.offset)
    pure (ForInStep.yield PUnit.unit)).run P w=.ok PUnit.unit w
 | [],_,_,_,_,_,_,_,_=>by simp
 | f :: fs,ks,xs,m,us,r,hk,h,hx=>by
  simp only [vU] at hk
  split at hk
  ·rename_i ho
   obtain ⟨k,hk1,hk⟩:=xA hk
   obtain ⟨ks',hk2,hk⟩:=xA hk
   injection hk with hk; subst hk
   cases xs with
   | nil=>cases k <;> simp [yP] at h
   | cons x xs =>
   obtain ⟨q,r',h1,h2,rfl⟩:=flatEq_cons h
   obtain ⟨u,hu,hur⟩:=hx 0 x rfl
   rw [Nat.add_zero] at hu
   obtain ⟨hn,hund⟩:=fieldKind_inv hk1
   have pu:=part_plain (w:=w) hund us f.offset (by rw [ho]; exact hu)
   have hq:=checkCell_run (w:=w) hund h1 hur em n
   have ih:=checkFields_run em n fs ks' xs (m+1) us hk2 h2
    (fun i x e=>by obtain ⟨u,e1,e2⟩:=hx (i+1) x (by simpa using e); exact ⟨u,by rwa [show m+1+i=m+(i+1) by omega],e2⟩)
   rw [List.forIn_cons]
   simp only [if_pos hn,Sem.run_bind,pu,hq,Result.andThen_ok,Sem.run_pure]
   exact ih
  ·cases hk
theorem check_run {k:TypeId} {kk:KeyK} (hk:KeyTy P k kk) {x:AVal} (h:isKey kk x=true) {u:Value} (hu:VRel ρ x u) (em:Bool):(Instr.checkKey em 10000 k u).run P w=.ok () w:=by
 unfold isKey at h
 obtain ⟨r,hr⟩:=Option.isSome_iff_exists.1 h
 cases kk with
 | one q=>exact checkCell_run hk hr hu em 9999
 | many ks =>
  obtain ⟨fs,hund,hst,hks⟩:=hk
  unfold keyEq at hr
  split at hr
  ·rename_i heq; cases heq
  ·rename_i y0 ks' xs ys heq hx
   injection heq with heq; subst heq
   injection hx with hx; subst hx
   obtain ⟨us,rfl,hus,_⟩:=hu.agg_inv
   have hl:=checkFields_run (P:=P) (ρ:=ρ) (w:=w) em 9998 fs.toList ks xs 0 us.toArray hks hr (fun i x e=>by
    obtain ⟨u,e1,e2⟩:=hus.get i e
    exact ⟨u,by simpa using e1,e2⟩)
   show (Instr.checkKey em (9998+1+1) k _).run P w=_
   unfold Instr.checkKey
   simp only [Sem.run_bind,run_underlying hund,Result.andThen_ok]
   rw [← Array.forIn_toList]
   refine Eq.trans (congrArg (fun r:Result PUnit=>r.andThen fun a w'=>Sem.run P (pure ()) w') hl) ?_
   simp
  ·cases hr

def EntRel (ρ:Ren) (es:List (AVal × AVal)) (ents:List MapEntry):Prop:=ents.length=es.length∧∀ (i:Nat) (e:AVal × AVal),es[i]? = some e→∃ m:MapEntry,ents[i]? = some m∧VRel ρ e.1 m.key∧VRel ρ e.2 m.val
theorem EntRel.tail {e:AVal × AVal} {es:List (AVal × AVal)} {m:MapEntry} {ms:List MapEntry} (h:EntRel ρ (e :: es) (m :: ms)):VRel ρ e.1 m.key∧VRel ρ e.2 m.val∧EntRel ρ es ms:=by
 obtain ⟨h1,h2⟩:=h
 obtain ⟨m',e1,e2,e3⟩:=h2 0 e rfl
 simp at e1; subst e1
 refine ⟨e2,e3,by simpa using h1,fun i x hx=>?_⟩
 obtain ⟨m',e1,e2⟩:=h2 (i+1) x (by simpa using hx)
 exact ⟨m',by simpa using e1,e2⟩
def FoundRel (ρ:Ren):Option (Nat × AVal)→Option (Nat × Value)→Prop
 | none,none=>True
 | some (i,v),some (j,u)=>i=j∧VRel ρ v u
 | _,_=>False
theorem findAsking_run {k:TypeId} {kk:KeyK} (hk:KeyTy P k kk) {x:AVal} {u:Value} (hu:VRel ρ x u):∀ (es:List (AVal × AVal)) (ms:List MapEntry) (n:Nat) {r:Option (Nat × AVal)},EntRel ρ es ms→findKey kk x es n=some r →
  ∃ r',(Instr.findAsking k u ms n).run P w=.ok r' w∧FoundRel ρ r r'
 | [],ms,n,r,he,h=>by
  have:ms=[]:=List.eq_nil_of_length_eq_zero he.1
  subst this
  simp [findKey] at h; subst h
  exact ⟨none,by simp [Instr.findAsking],trivial⟩
 | e :: es,[],_,_,he,_=>by have:=he.1; simp at this
 | e :: es,m :: ms,n,r,he,h=>by
  obtain ⟨h1,h2,h3⟩:=he.tail
  obtain ⟨b,hb,h⟩:=xA h
  have hq:=keyEq_run (w:=w) hk hb hu h1
  cases b with
  | true =>
   simp at h; subst h
   exact ⟨some (n,m.val),by simp [Instr.findAsking,hq],rfl,h2⟩
  | false =>
   simp at h
   obtain ⟨r',e1,e2⟩:=findAsking_run hk hu es ms (n+1) h3 h
   exact ⟨r',by simp [Instr.findAsking,hq,e1],e2⟩
theorem findNow_rel {q:FK} {k:TypeId} {d:TypeDesc} (hd:P.underlying k=some d) (hq:q.under P k) {x:AVal} {u:Value} (hu:VRel ρ x u):∀ (es:List (AVal × AVal)) (ms:List MapEntry) (n:Nat) {r:Option (Nat × AVal)},EntRel ρ es ms→findKey (.one q) x es n=some r →
  ∃ r',Instr.findNow d u ms n=some r'∧FoundRel ρ r r'
 | [],ms,n,r,he,h=>by
  have:ms=[]:=List.eq_nil_of_length_eq_zero he.1
  subst this
  simp [findKey] at h; subst h
  exact ⟨none,by simp [Instr.findNow],trivial⟩
 | e :: es,[],_,_,he,_=>by have:=he.1; simp at this
 | e :: es,m :: ms,n,r,he,h=>by
  obtain ⟨h1,h2,h3⟩:=he.tail
  obtain ⟨b,hb,h⟩:=xA h
  have hs:Instr.sameNow d u m.key=some b:=by
   simp only [keyEq] at hb
   cases q <;> cases x <;> first | (simp [yP] at hb; done) | skip
   ·obtain ⟨k',hk'⟩:=hq
    rw [hd] at hk'; injection hk' with hk'; subst hk'
    cases he1:e.1 <;> rw [he1] at hb h1 <;> first | (simp [yP] at hb; done) | skip
    simp only [yP] at hb
    split at hb
    ·rename_i hkk; subst hkk
     simp [bnd] at hb; subst hb
     rw [hu.int_inv,h1.int_inv]; simp [Instr.sameNow,beq_dec]
    ·cases hb
   ·have hk':P.underlying k=some .bool:=hq
    rw [hd] at hk'; injection hk' with hk'; subst hk'
    cases he1:e.1 <;> rw [he1] at hb h1 <;> first | (simp [yP] at hb; done) | skip
    simp [yP,bnd] at hb; subst hb
    rw [hu.bool_inv,h1.bool_inv]; simp [Instr.sameNow]
   ·have hk':P.underlying k=some .string:=hq
    rw [hd] at hk'; injection hk' with hk'; subst hk'
    cases he1:e.1 <;> rw [he1] at hb h1 <;> first | (simp [yP] at hb; done) | skip
    simp [yP,bnd] at hb; subst hb
    rw [hu.str_inv,h1.str_inv]; simp [Instr.sameNow,beq_toListBytes,beq_bytes]
  cases b with
  | true =>
   simp at h; subst h
   exact ⟨some (n,m.val),by simp [Instr.findNow,hs],rfl,h2⟩
  | false =>
   simp at h
   obtain ⟨r',e1,e2⟩:=findNow_rel hd hq hu es ms (n+1) h3 h
   exact ⟨r',by simp [Instr.findNow,hs,e1],e2⟩
theorem find_run {k:TypeId} {kk:KeyK} (hk:KeyTy P k kk) {x:AVal} {u:Value} (hu:VRel ρ x u) (es:List (AVal × AVal)) (ms:List MapEntry) {r:Option (Nat × AVal)} (he:EntRel ρ es ms) (h:findKey kk x es 0=some r) :
  ∃ r',(Instr.findKey k u ms).run P w=.ok r' w∧FoundRel ρ r r':=by
 cases kk with
 | many ks =>
  obtain ⟨r',e1,e2⟩:=findAsking_run (w:=w) hk hu es ms 0 he h
  obtain ⟨fs,hund,_⟩:=hk
  exact ⟨r',by rw [run_findKey_eq w (by rw [hund])]; exact e1,e2⟩
 | one q =>
  cases hd:P.underlying k with
  | none=>cases q <;> simp [KeyTy,FK.under,hd] at hk
  | some d =>
   obtain ⟨r',e1,e2⟩:=findNow_rel hd hk hu es ms 0 he h
   exact ⟨r',by simp [Instr.findKey,run_underlying hd,e1],e2⟩

variable {tab:Tab} {o:Oper} {ao:AOp}
theorem zeroOf_rel {ty:TypeId} {ti:TI} {i:TypeInfo} {d:TypeDesc} (hok:TIOk P ty ti i d) {z:AVal} (h:zeroOf ti=some z):∃ z',(zeroValue ty).run P w=.ok z' w∧VRel ρ z z':=by
 obtain ⟨zs,h1,h⟩:=xA h
 obtain ⟨z',hz1,hz2,hz3,hz4⟩:=hok.zero zs h1
 have hr:=vV (ρ:=ρ) hz2
 have hrun:(zeroValue ty).run P w=.ok z' w:=by simp [zeroValue,hok.run_info,hz1]
 refine ⟨z',hrun,?_⟩
 split at h
 ·rename_i ha
  injection h with h; subst h
  obtain ⟨cs,rfl⟩:=hz3 ha
  simp only [VRel]
  exact ⟨cs.toList,rfl,hr.1,hr.2⟩
 ·rename_i ha
  have hcs:=hz4 (by simpa using ha)
  split at h
  ·injection h with h; subst h
   obtain ⟨v,vs,e,h3,h4⟩:=hr.1.cons_inv
   rw [hcs] at e
   simp at e
   rw [e.1]; exact h3
  ·cases h

theorem run_convert_bytes_none {src e:TypeId} (hs:P.underlying src=some (.slice e)) (he:P.underlying e=some (.int .u8)) (p:Addr) (cap:Nat) (dst:TypeId) (hd:P.underlying dst=some .string) :
  (convert src dst (.slice (some p) 0 cap)).run P w=.ok (.string (strOfNums [])) w:=by
 have hl:(loadCells p 0).run P w=.ok (([]:List Int).map (Value.int .u8)).toArray w:=by
  have:=run_loadCells_list (P:=P) w p [] (fun j v hj=>by simp at hj)
  simpa using this
 rw [run_convert_bytes_string w src dst e _ 0 cap hs he hd,run_bytesToString w _ 0 cap [] hl]
 rfl
theorem freeze_quiet {id:Nat} {c:List AVal} {l:Loc} (hH:HRel ρ B H w) (hl:ρ id=some l) (hc:H.rw? id=some c) (p:Addr) (hpb:p.block=l.b):∃ w',(markStringish p).run P w=.ok () w'∧HRel ρ B H w'∧Beneath B w w':=by
 obtain ⟨ho,hB,_,_,arr,E,fz,hb,hsz,hfz⟩:=hH.rw hl hc
 have hlt:l.b < w.heap.size:=(hH.dom id l hl).2
 let fz':Nat × Nat:=if fz.1 == fz.2 then (arr.size,arr.size+1) else (min fz.1 arr.size,max fz.2 (arr.size+1))
 let w':World:={ w with heap:=w.heap.modify l.b fun
   | .cells c elem (lo,hi)=>.cells c elem (if lo == hi then (arr.size,arr.size+1) else (min lo arr.size,max hi (arr.size+1)))
   | o=>o }
 have hrun:(markStringish p).run P w=.ok () w':=by
  simp only [markStringish,hpb,Sem.run_bind,run_shape,Result.andThen_ok,World.shape?,hb,run_freeze]
  rfl
 have hb':w'.heap[l.b]? = some (.cells arr E fz'):=by
  show (w.heap.modify l.b _)[l.b]? = _
  rw [Array.getElem?_modify,if_pos rfl,hb]
  rfl
 have hother:∀ k,k≠l.b→w'.heap[k]? = w.heap[k]? := by
  intro k hk
  show (w.heap.modify l.b _)[k]? = _
  rw [Array.getElem?_modify,if_neg (fun e=>hk e.symm)]
 have hsize:w'.heap.size=w.heap.size:=by show (w.heap.modify l.b _).size=_; simp
 have hcell:∀ x:Addr,w'.cell? x=w.cell? x:=by
  intro x
  by_cases hx:x.block=l.b
  ·simp [World.cell?,hx,hb,hb']
  ·simp [World.cell?,hother _ hx]
 have hcr:∀ l2 c2,CRel ρ w l2 c2→CRel ρ w' l2 c2:=fun l2 c2 h=>⟨h.1,fun i v e=>by obtain ⟨u,e1,e2⟩:=h.2 i v e; exact ⟨u,by rw [hcell]; exact e1,e2⟩⟩
 refine ⟨w',hrun,⟨fun i l2 e=>⟨(hH.dom i l2 e).1,by rw [hsize]; exact (hH.dom i l2 e).2⟩,fun i l2 o2 e1 e2=>?_,hH.inj,by rw [hsize]; exact hH.base,hH.top⟩,⟨⟨rfl,rfl,rfl,by rw [hsize]; exact Nat.le_refl _,fun k hk=>hother k (by omega)⟩,Nat.le_refl _⟩⟩
 have h0:=hH.obj i l2 o2 e1 e2
 cases o2 with
 | cells c2 rw2 =>
  cases rw2 with
  | false=>exact ⟨h0.1,hcr _ _ h0.2⟩
  | true =>
   obtain ⟨g1,g2,g3,arr2,E2,fz2,g4,g5,g6⟩:=h0
   refine ⟨g1,hcr _ _ g2,g3,?_⟩
   by_cases hx:l2.b=l.b
   ·rw [hx] at g4 ⊢
    rw [hb] at g4; injection g4 with g4; injection g4 with g4a g4b g4c; subst g4a; subst g4b; subst g4c
    refine ⟨arr,E,fz',hb',g5,.inr ?_⟩
    simp only [fz']
    split
    ·simp only; omega
    ·rename_i hne
     have hne:fz.1≠fz.2:=by simpa using hne
     have:=g6.resolve_left hne
     show l2.n≤min fz.1 arr.size
     omega
   ·exact ⟨arr2,E2,fz2,by rw [hother _ hx]; exact g4,g5,g6⟩
 | amap es =>
  obtain ⟨g1,ents,clock,g4,g5,g6,g7⟩:=h0
  refine ⟨g1,ents,clock,?_,g5,g6,g7⟩
  by_cases hx:l2.b=l.b
  ·rw [hx,hb] at g4; injection g4 with g4; cases g4
  ·rw [hother _ hx]; exact g4

theorem read_sound (hT:TabOk P tab) (hc:cop tab o.op=some ao) (hp:ao.cls=.read) {v:AVal} (hv:vP ao t H=some v) (ht:TRel ρ t a.tmps) (hH:HRel ρ B H w) :
  ∃ v' w',(execOp a.eval o).run P w=.ok (.value v') w'∧VRel ρ v v'∧HRel ρ B H w'∧Beneath B w w':=by
 have fin:∀ (s:Sem Value),execOp a.eval o=(do pure (.value (← s)))→(∃ v',s.run P w=.ok v' w∧VRel ρ v v')→∃ v' w',(execOp a.eval o).run P w=.ok (.value v') w'∧VRel ρ v v'∧HRel ρ B H w'∧Beneath B w w':=by
  rintro s he ⟨v',h1,h2⟩
  exact ⟨v',w,by rw [he]; simp [h1],h2,hH,.refl _ _⟩
 cases hop:o.op <;> rw [hop] at hc <;> simp only [cop] at hc <;> first | (cases hc; done) | skip
 case move x=>obtain ⟨_,_,hc⟩:=xA hc; injection hc with hc; subst hc; simp [AOp.cls] at hp
 case assign x=>obtain ⟨_,_,hc⟩:=xA hc; injection hc with hc; subst hc; simp [AOp.cls] at hp
 case pick c x y =>
  obtain ⟨_,_,hc⟩:=xA hc; obtain ⟨_,_,hc⟩:=xA hc; obtain ⟨_,_,hc⟩:=xA hc
  injection hc with hc; subst hc; simp [AOp.cls] at hp
 case alloc e =>
  obtain ⟨_,_,hc⟩:=xA hc; obtain ⟨_,_,hc⟩:=xA hc
  injection hc with hc; subst hc; simp [AOp.cls] at hp
 case box e x =>
  obtain ⟨_,_,hc⟩:=xA hc; obtain ⟨_,_,hc⟩:=xA hc
  injection hc with hc; subst hc; simp [AOp.cls] at hp
 case build ty parts =>
  obtain ⟨_,_,hc⟩:=xA hc; obtain ⟨_,_,hc⟩:=xA hc
  split at hc
  ·obtain ⟨_,_,hc⟩:=xA hc; obtain ⟨_,_,hc⟩:=xA hc; injection hc with hc; subst hc; simp [AOp.cls] at hp
  ·obtain ⟨_,_,hc⟩:=xA hc; obtain ⟨_,_,hc⟩:=xA hc; injection hc with hc; subst hc; simp [AOp.cls] at hp
  ·cases hc
 case buildSlice ty len parts =>
  obtain ⟨_,_,hc⟩:=xA hc
  split at hc
  ·obtain ⟨_,_,hc⟩:=xA hc; obtain ⟨_,_,hc⟩:=xA hc; obtain ⟨_,_,hc⟩:=xA hc
   split at hc
   ·injection hc with hc; subst hc; simp [AOp.cls] at hp
   ·cases hc
  ·cases hc
 case load ty x =>
  obtain ⟨ti,h1,hc⟩:=xA hc
  obtain ⟨x',h2,hc⟩:=xA hc
  obtain ⟨i,d,hok⟩:=yL (hT _ _ h1)
  have r1:=yM ht h2
  have hagg:=hok.run_agg w
  refine fin _ (by simp [execOp,hop]; rfl) ?_
  split at hc
  ·rename_i hg
   rw [hg] at hagg
   injection hc with hc; subst hc
   simp only [vP] at hv
   generalize x'.ev t=xv at hv r1
   unfold aloadN at hv
   split at hv
   ·rename_i id off
    obtain ⟨c,hcs,hv⟩:=xA hv
    split at hv
    ·rename_i hb
     injection hv with hv; subst hv
     obtain ⟨l,hl,he⟩:=r1.ptr_inv
     have hcr:=hH.cells hl hcs
     obtain ⟨us,g1,g2,g3⟩:=hcr.part off ti.size hb
     have hld:=run_loadCells_list (P:=P) w ⟨l.b,l.o+off,none⟩ us g3
     rw [g2] at hld
     refine ⟨.agg us.toArray,?_,?_⟩
     ·rw [he]; simp [Instr.loadAt,Instr.sureAddr,loadVar,hagg,hok.run_size,hld]
     ·simp only [VRel]
      exact ⟨us,rfl,g1,fun y hy=>hcr.1 y (List.mem_of_mem_drop (List.mem_of_mem_take hy))⟩
    ·cases hv
   ·cases hv
  ·rename_i hg
   have hg:ti.desc.agg=false:=by simpa using hg
   rw [hg] at hagg
   injection hc with hc; subst hc
   simp only [vP] at hv
   generalize x'.ev t=xv at hv r1
   unfold aload1 at hv
   split at hv
   ·rename_i id off
    obtain ⟨c,hcs,hv⟩:=xA hv
    obtain ⟨l,hl,he⟩:=r1.ptr_inv
    obtain ⟨u,e1,e2⟩:=(hH.cells hl hcs).2 off v hv
    exact ⟨u,by rw [he]; simp [Instr.loadAt,Instr.sureAddr,loadVar,hagg,e1],e2⟩
   ·cases hv
 case store ty x y =>
  obtain ⟨_,_,hc⟩:=xA hc; obtain ⟨_,_,hc⟩:=xA hc; obtain ⟨_,_,hc⟩:=xA hc
  injection hc with hc; subst hc; simp [AOp.cls] at hp
 case nilCheck x=>obtain ⟨_,_,hc⟩:=xA hc; injection hc with hc; subst hc; simp [AOp.cls] at hp
 case binOp op ty x y ty2 =>
  obtain ⟨_,_,hc⟩:=xA hc; obtain ⟨_,_,hc⟩:=xA hc; obtain ⟨_,_,hc⟩:=xA hc; obtain ⟨_,_,hc⟩:=xA hc
  injection hc with hc; subst hc; simp [AOp.cls] at hp
 case unOp op ty x=>obtain ⟨_,_,hc⟩:=xA hc; injection hc with hc; subst hc; simp [AOp.cls] at hp
 case convert src dst x =>
  obtain ⟨si,h1,hc⟩:=xA hc
  obtain ⟨di,h2,hc⟩:=xA hc
  obtain ⟨x',h3,hc⟩:=xA hc
  have r1:=yM ht h3
  obtain ⟨i,d,hok⟩:=yL (hT _ _ h1)
  obtain ⟨j,d2,hok2⟩:=yL (hT _ _ h2)
  split at hc
  ·injection hc with hc; subst hc; simp [AOp.cls] at hp
  ·injection hc with hc; subst hc; simp [AOp.cls] at hp
  ·rename_i e e2 hd hd2
   obtain ⟨ei,h4,hc⟩:=xA hc
   split at hc
   ·rename_i hcond
    injection hc with hc
    subst hc
    obtain ⟨hsd,hei⟩:=hcond
    subst hsd
    obtain ⟨j2,d3,hoe⟩:=yL (hT _ _ h4)
    have:=uM hok hd; subst this
    have hu8:=tok_int hoe hei; subst hu8
    simp only [vP] at hv
    generalize x'.ev t=xv at hv r1
    unfold uJ at hv
    split at hv
    ·obtain ⟨c,hcs,hv⟩:=xA hv
     injection hv with hv; subst hv
     obtain ⟨l,p,cp,hl,he,hpb⟩:=r1.slice_block
     have hpb:p.block=l.b:=by
      obtain ⟨_,_,_,hln,_⟩:=hH.rw hl hcs
      rcases hpb with h9 | h9
      ·exact h9
      ·exact absurd h9 (by omega)
     obtain ⟨w',g1,g2,g3⟩:=freeze_quiet (P:=P) hH hl hcs p hpb
     refine ⟨a.eval x,w',?_,r1,g2,g3⟩
     rw [he] at r1 ⊢
     have hx:a.eval x=.slice (some p) _ cp:=he
     simp only [execOp,hop,hx,convert,Sem.run_bind,hok.run_under,Result.andThen_ok,hoe.run_under,beq_self_eq_true,g1,Sem.run_pure]
    ·cases hv
   ·cases hc
  ·rename_i e hd hd2
   obtain ⟨ei,h4,hc⟩:=xA hc
   split at hc
   ·rename_i hei
    injection hc with hc; subst hc
    obtain ⟨j2,d3,hoe⟩:=yL (hT _ _ h4)
    have:=uM hok hd; subst this
    have hu8:=tok_int hoe hei; subst hu8
    have hst:=tok_str hok2 hd2; subst hst
    refine fin _ (by simp [execOp,hop]; rfl) ?_
    simp only [vP] at hv
    generalize x'.ev t=xv at hv r1
    unfold uS at hv
    split at hv
    ·injection hv with hv; subst hv
     simp only [VRel] at r1
     exact ⟨_,by rw [r1]; exact run_convert_bytes_nil w src e hok.under hoe.under 0 0 dst hok2.under,by simp [VRel]; rfl⟩
    ·rename_i id off len cap
     obtain ⟨c,hcs,hv⟩:=xA hv
     split at hv
     ·rename_i hb
      obtain ⟨l8,hl8,hv⟩:=xA hv
      injection hv with hv; subst hv
      obtain ⟨l,p,cp,hl,he,hle,hp0⟩:=r1.slice_inv
      obtain ⟨us,g1,g2,g3⟩:=(hH.cells hl hcs).part off len hb
      obtain ⟨ns,hns,hl8'⟩:=toBytes_rel hl8 g1
      refine ⟨.string (strOfNums ns),?_,by simp only [VRel]; rw [strOfNums,hl8']⟩
      rw [he]
      subst hns
      rcases Nat.eq_zero_or_pos len with hlz | hlz
      ·have h7:ns.length=len:=by simpa using g2
       have hn0:ns=[]:=List.eq_nil_of_length_eq_zero (by omega)
       rw [hn0,hlz]
       exact run_convert_bytes_none hok.under hoe.under p cp dst hok2.under
      have hpe:=hp0 hlz
      subst hpe
      refine run_convert_bytes_arg w src e hok.under hoe.under l.b _ len cp ns (by simpa using g2) (fun i hi=>?_) dst hok2.under
      have hns:ns.length=len:=by simpa using g2
      have:=g3 i (.int .u8 (ns.getD i 0)) (by simp [List.getElem?_map,List.getElem?_eq_getElem (show i < ns.length by omega),List.getD_eq_getElem?_getD])
      rwa [qF] at this
     ·cases hv
    ·cases hv
   ·cases hc
  ·cases hc
 case makeInterface ty x =>
  obtain ⟨_,_,hc⟩:=xA hc; obtain ⟨_,_,hc⟩:=xA hc
  split at hc
  ·cases hc
  ·injection hc with hc; subst hc; simp [AOp.cls] at hp
 case makeFunc fn f c =>
  obtain ⟨_,_,hc⟩:=xA hc; obtain ⟨_,_,hc⟩:=xA hc
  injection hc with hc; subst hc; simp [AOp.cls] at hp
 case makeMap ty r =>
  obtain ⟨_,_,hc⟩:=xA hc
  split at hc
  ·split at hc
   ·injection hc with hc; subst hc; simp [AOp.cls] at hp
   ·cases hc
  ·cases hc
 case makeSlice ty l c =>
  obtain ⟨_,_,hc⟩:=xA hc
  split at hc
  ·obtain ⟨_,_,hc⟩:=xA hc; obtain ⟨_,_,hc⟩:=xA hc; obtain ⟨_,_,hc⟩:=xA hc; obtain ⟨_,_,hc⟩:=xA hc
   split at hc
   ·injection hc with hc; subst hc; simp [AOp.cls] at hp
   ·cases hc
  ·cases hc
 case slice ty x lo hi mx =>
  obtain ⟨_,_,hc⟩:=xA hc; obtain ⟨_,_,hc⟩:=xA hc; obtain ⟨_,_,hc⟩:=xA hc; obtain ⟨_,_,hc⟩:=xA hc; obtain ⟨_,_,hc⟩:=xA hc
  split at hc
  ·obtain ⟨_,_,hc⟩:=xA hc; injection hc with hc; subst hc; simp [AOp.cls] at hp
  ·split at hc
   ·injection hc with hc; subst hc; simp [AOp.cls] at hp
   ·cases hc
  ·cases hc
 case fieldAddr s x f =>
  obtain ⟨_,_,hc⟩:=xA hc
  split at hc
  ·obtain ⟨_,_,hc⟩:=xA hc; obtain ⟨_,_,hc⟩:=xA hc; obtain ⟨_,_,hc⟩:=xA hc
   split at hc
   ·cases hc
   ·injection hc with hc; subst hc; simp [AOp.cls] at hp
  ·cases hc
 case indexAddr ty x ix =>
  obtain ⟨_,_,hc⟩:=xA hc; obtain ⟨_,_,hc⟩:=xA hc; obtain ⟨_,_,hc⟩:=xA hc
  split at hc
  ·obtain ⟨_,_,hc⟩:=xA hc; injection hc with hc; subst hc; simp [AOp.cls] at hp
  ·obtain ⟨_,_,hc⟩:=xA hc; injection hc with hc; subst hc; simp [AOp.cls] at hp
  ·cases hc
 case field ty x f =>
  obtain ⟨_,_,hc⟩:=xA hc
  split at hc
  ·obtain ⟨_,_,hc⟩:=xA hc; obtain ⟨_,_,hc⟩:=xA hc; obtain ⟨_,_,hc⟩:=xA hc
   injection hc with hc; subst hc; simp [AOp.cls] at hp
  ·cases hc
 case index ty x ix =>
  obtain ⟨_,_,hc⟩:=xA hc; obtain ⟨_,_,hc⟩:=xA hc; obtain ⟨_,_,hc⟩:=xA hc
  split at hc
  ·obtain ⟨_,_,hc⟩:=xA hc; injection hc with hc; subst hc; simp [AOp.cls] at hp
  ·injection hc with hc; subst hc; simp [AOp.cls] at hp
  ·cases hc
 case lookup ty x ix ok =>
  obtain ⟨ti,h1,hc⟩:=xA hc
  obtain ⟨i,d,hok⟩:=yL (hT _ _ h1)
  split at hc
  ·rename_i kt vt hd
   obtain ⟨kk,h2,hc⟩:=xA hc
   obtain ⟨vi,h3,hc⟩:=xA hc
   obtain ⟨z,h4,hc⟩:=xA hc
   obtain ⟨x',h5,hc⟩:=xA hc
   obtain ⟨k',h6,hc⟩:=xA hc
   injection hc with hc; subst hc
   have:=tok_map hok hd; subst this
   obtain ⟨j,d2,hov⟩:=yL (hT _ _ h3)
   obtain ⟨z',hz1,hz2⟩:=zeroOf_rel (P:=P) (ρ:=ρ) (w:=w) hov h4
   have hkt:=keyTy_of hT h2
   have r1:=yM ht h5; have r2:=yM ht h6
   refine fin _ (by simp [execOp,hop]; rfl) ?_
   simp only [vP] at hv
   generalize x'.ev t=xv at hv r1
   generalize k'.ev t=kv at hv r2
   unfold alookup at hv
   simp only at hv
   split at hv
   ·cases hv
   ·rename_i hik
    have hik:isKey kk kv=true:=by simpa using hik
    have hchk:=fun em=>check_run (P:=P) (w:=w) hkt hik r2 em
    have out:∀ (u:AVal) (u':Value) (b:Bool),VRel ρ u u'→VRel ρ (if ok then .tuple [u,.bool b] else u) (if ok then .tuple #[u',.bool b] else u'):=by
     intro u u' b hu
     cases ok with
     | false=>exact hu
     | true=>simp only [VRel,if_true]; exact ⟨[u',.bool b],rfl,.cons hu (.cons (by simp [VRel]) .nil)⟩
    split at hv
    ·injection hv with hv; subst hv
     simp only [VRel] at r1
     refine ⟨_,?_,out z z' false hz2⟩
     rw [r1]
     have hfk:(Instr.findKey kt (a.eval ix) []).run P w=.ok none w:=by
      obtain ⟨r',e1,e2⟩:=find_run (P:=P) (w:=w) (ρ:=ρ) (r:=none) hkt r2 [] [] ⟨rfl,by simp⟩ (by simp [findKey])
      cases r' with
      | none=>exact e1
      | some _=>exact e2.elim
     simp [Instr.lookup,hok.run_under,hchk,hfk,hz1]
    ·obtain ⟨es,hes,hv⟩:=xA hv
     obtain ⟨r,hr,hv⟩:=xA hv
     simp only [VRel] at r1
     obtain ⟨l,hl,he⟩:=r1
     obtain ⟨_,_,ents,clock,hb,hsz,hent,_⟩:=hH.map hl hes
     obtain ⟨r',e1,e2⟩:=find_run (P:=P) (w:=w) hkt r2 es ents.toList ⟨by simpa using hsz,fun i e hi=>by
      obtain ⟨m,g1,g2⟩:=hent i e hi
      exact ⟨m,by simpa using g1,g2⟩⟩ hr
     have hget:=MapKept.run_getObj_map (P:=P) hb
     rw [he]
     split at hv
     ·rename_i n u
      injection hv with hv; subst hv
      cases r' with
      | none=>exact e2.elim
      | some q =>
       obtain ⟨n',u'⟩:=q
       refine ⟨_,?_,out u u' true e2.2⟩
       simp [Instr.lookup,hok.run_under,hchk,hget,e1]
     ·injection hv with hv; subst hv
      cases r' with
      | some _=>exact e2.elim
      | none =>
       refine ⟨_,?_,out z z' false hz2⟩
       simp [Instr.lookup,hok.run_under,hchk,hget,e1,hz1]
    ·cases hv
  ·cases hc
 case mapUpdate ty m k x =>
  obtain ⟨_,_,hc⟩:=xA hc
  split at hc
  ·obtain ⟨_,_,hc⟩:=xA hc; obtain ⟨_,_,hc⟩:=xA hc; obtain ⟨_,_,hc⟩:=xA hc; obtain ⟨_,_,hc⟩:=xA hc
   injection hc with hc; subst hc; simp [AOp.cls] at hp
  ·cases hc
 case extract x n=>obtain ⟨_,_,hc⟩:=xA hc; injection hc with hc; subst hc; simp [AOp.cls] at hp
 case call c =>
  unfold ccall at hc
  split at hc
  ·rename_i hcal
   split at hc
   ·rename_i x ty hargs htys
    obtain ⟨ti,h1,hc⟩:=xA hc
    obtain ⟨x',h2,hc⟩:=xA hc
    obtain ⟨i,d,hok⟩:=yL (hT _ _ h1)
    have r1:=yM ht h2
    have ha:c.args=#[x]:=by rw [← Array.toArray_toList (xs:=c.args),hargs]
    have hta:c.argTypes=#[ty]:=by rw [← Array.toArray_toList (xs:=c.argTypes),htys]
    have hb0:execOp a.eval o=builtin .len c.argTypes o.type (c.args.map fun | .const _=>true | _=>false) (c.args.map a.eval):=by
     simp only [execOp,hop,resolve,hcal]
     rfl
    split at hc
    ·injection hc with hc; subst hc; simp [AOp.cls] at hp
    ·injection hc with hc; subst hc; simp [AOp.cls] at hp
    ·rename_i kt vt hd
     injection hc with hc; subst hc
     have:=tok_map hok hd; subst this
     refine fin (Builtin.len_ #[ty] o.type #[a.eval x]) (by rw [hb0]; rw [ha,hta]; simp only [builtin,List.map_toArray,List.map_cons,List.map_nil]) ?_
     simp only [vP] at hv
     generalize x'.ev t=xv at hv r1
     unfold alenM at hv
     split at hv
     ·obtain ⟨es,hes,hv⟩:=xA hv
      injection hv with hv; subst hv
      simp only [VRel] at r1
      obtain ⟨l,hl,he⟩:=r1
      obtain ⟨_,_,ents,clock,hb,hsz,hent,_⟩:=hH.map hl hes
      have hget:=MapKept.run_getObj_map (P:=P) hb
      exact ⟨goInt es.length,by rw [he]; simp [Builtin.len_,hok.run_under,hget,hsz],by simp [VRel,goInt]⟩
     ·injection hv with hv; subst hv
      simp only [VRel] at r1
      exact ⟨goInt 0,by rw [r1]; simp [Builtin.len_,hok.run_under],by simp [VRel,goInt]⟩
     ·cases hv
    ·cases hc
   ·cases hc
  ·split at hc
   ·obtain ⟨_,_,hc⟩:=xA hc; obtain ⟨_,_,hc⟩:=xA hc
    split at hc
    ·obtain ⟨_,_,hc⟩:=xA hc; obtain ⟨_,_,hc⟩:=xA hc; obtain ⟨_,_,hc⟩:=xA hc; obtain ⟨_,_,hc⟩:=xA hc
     split at hc
     ·injection hc with hc; subst hc; simp [AOp.cls] at hp
     ·cases hc
    ·obtain ⟨_,_,hc⟩:=xA hc; obtain ⟨_,_,hc⟩:=xA hc; obtain ⟨_,_,hc⟩:=xA hc; obtain ⟨_,_,hc⟩:=xA hc
     split at hc
     ·injection hc with hc; subst hc; simp [AOp.cls] at hp
     ·cases hc
    ·cases hc
   ·cases hc
  ·obtain ⟨_,_,hc⟩:=xA hc; injection hc with hc; subst hc; simp [AOp.cls] at hp
  ·obtain ⟨_,_,hc⟩:=xA hc; injection hc with hc; subst hc; simp [AOp.cls] at hp
  ·obtain ⟨_,_,hc⟩:=xA hc; injection hc with hc; subst hc; simp [AOp.cls] at hp
  ·obtain ⟨_,_,hc⟩:=xA hc; injection hc with hc; subst hc; simp [AOp.cls] at hp
  ·cases hc
end
end Go.VAI

/- Operations that make new objects. -/
set_option linter.unusedVariables false
set_option linter.unusedSimpArgs false
namespace Go.VAI
open Go Go.RowKit
section
variable {P:Program} {ρ:Ren} {w:World} {t:xJ} {a:Act} {B:Nat} {H:AHeap}

theorem uF (e:TypeId) (cells:Array Value):(newRow e cells).run P w=.ok ⟨w.heap.size,0,none⟩ (w.alloc (.cells cells e)):=by
 simp [newRow]
theorem reps_length (zs:List AVal):∀ n,(reps zs n).length=n*zs.length
 | 0=>by simp [reps]
 | n+1=>by simp [reps,reps_length zs n,Nat.add_mul]; omega
theorem reps_get (zs:List AVal):∀ (n i:Nat),i < n*zs.length→(reps zs n)[i]? = zs[i % zs.length]?
 | 0,i,h=>by simp at h
 | n+1,i,h=>by
  by_cases hi:i < zs.length
  ·rw [reps,List.getElem?_append_left hi,Nat.mod_eq_of_lt hi]
  ·have hm:(n+1)*zs.length=n*zs.length+zs.length:=by rw [Nat.add_mul,Nat.one_mul]
   rw [reps,List.getElem?_append_right (by omega),reps_get zs n (i - zs.length) (by omega),← Nat.mod_eq_sub_mod (by omega)]
theorem reps_cell {zs:List AVal} (h:∀ c∈zs,c.isCell=true):∀ n,∀ c∈reps zs n,c.isCell=true
 | 0,c,hc=>by simp [reps] at hc
 | n+1,c,hc=>by
  simp only [reps,List.mem_append] at hc
  rcases hc with hc | hc
  ·exact h c hc
  ·exact reps_cell h n c hc
theorem reps_rel {zs:List AVal} {us:Array Value} (h:VRels ρ zs us.toList) (n:Nat):VRels ρ (reps zs n) ((Array.range (n*us.size)).map (us[· % us.size]!)).toList:=by
 have hl:us.size=zs.length:=by rw [← Array.length_toList]; exact h.length
 refine .of_get (by simp [reps_length,hl]) (fun i x v e1 e2=>?_)
 have hi:i < n*zs.length:=by
  have:=(List.getElem?_eq_some_iff.1 e1).1
  rwa [reps_length] at this
 rw [reps_get zs n i hi] at e1
 obtain ⟨u,e3,e4⟩:=h.get _ e1
 have hm:i % zs.length < us.size:=by
  rw [hl]
  refine Nat.mod_lt _ ?_
  rcases Nat.eq_zero_or_pos zs.length with h0 | h0
  ·rw [h0] at hi; simp at hi
  ·exact h0
 have:v=u:=by
  simp [hl,hi] at e2
  simp at e3
  rw [← e2,getElem!_pos us _ hm]
  rw [Array.getElem?_eq_getElem hm] at e3
  injection e3
 rw [this]; exact e4

theorem bind_row (hH:HRel ρ B H w) {y:Nat} (hy:ρ y=none) (hn:y < H.next) {cs:List AVal} (ho:H.obj y=some (.cells cs true)) {us:Array Value} (hr:VRels ρ cs us.toList) (hc:∀ c∈cs,c.isCell=true) (E:TypeId) :
  HRel (xT ρ y ⟨w.heap.size,0,us.size⟩) B H (w.alloc (.cells us E))∧Beneath B w (w.alloc (.cells us E))∧xT ρ y ⟨w.heap.size,0,us.size⟩ y=some ⟨w.heap.size,0,us.size⟩:=by
 refine ⟨hH.bind hy hn ho (orel_new (rest:=[]) hH.base hc (VRels.mono (zI hy) _ _ hr) us (by simp)),(Beneath.refl _ _).alloc hH.base _,by simp [xT]⟩

variable {tab:Tab} {o:Oper} {ao:AOp}
theorem alloc_sound (hT:TabOk P tab) (hc:cop tab o.op=some ao) (hp:ao.cls=.alloc) {obj:AObj} {mk:Nat→AVal} (hv:wJ ao t=some (obj,mk)) (ht:TRel ρ t a.tmps) (hH:HRel ρ B H w)
  {y:Nat} (hy:ρ y=none) (hn:y < H.next) (ho:H.obj y=some obj) :
  ∃ l v' w',(execOp a.eval o).run P w=.ok (.value v') w'∧VRel (xT ρ y l) (mk y) v'∧HRel (xT ρ y l) B H w'∧Beneath B w w':=by
 have fin:∀ (s:Sem Value),execOp a.eval o=(do pure (.value (← s)))→(∃ l v' w',s.run P w=.ok v' w'∧VRel (xT ρ y l) (mk y) v'∧HRel (xT ρ y l) B H w'∧Beneath B w w') →
   ∃ l v' w',(execOp a.eval o).run P w=.ok (.value v') w'∧VRel (xT ρ y l) (mk y) v'∧HRel (xT ρ y l) B H w'∧Beneath B w w':=by
  rintro s he ⟨l,v',w',h1,h2⟩
  exact ⟨l,v',w',by rw [he]; simp [h1],h2⟩
 cases hop:o.op <;> rw [hop] at hc <;> simp only [cop] at hc <;> first | (cases hc; done) | skip
 case move x=>obtain ⟨_,_,hc⟩:=xA hc; injection hc with hc; subst hc; simp [AOp.cls] at hp
 case assign x=>obtain ⟨_,_,hc⟩:=xA hc; injection hc with hc; subst hc; simp [AOp.cls] at hp
 case pick c x y =>
  obtain ⟨_,_,hc⟩:=xA hc; obtain ⟨_,_,hc⟩:=xA hc; obtain ⟨_,_,hc⟩:=xA hc
  injection hc with hc; subst hc; simp [AOp.cls] at hp
 case alloc e =>
  obtain ⟨ti,h1,hc⟩:=xA hc; obtain ⟨zs,h2,hc⟩:=xA hc
  injection hc with hc; subst hc
  simp only [wJ] at hv
  injection hv with hv; injection hv with hv1 hv2; subst hv1; subst hv2
  obtain ⟨i,d,hok⟩:=yL (hT _ _ h1)
  obtain ⟨z,hz1,hz2,_⟩:=hok.zero zs h2
  have hz:=vV (ρ:=ρ) hz2
  obtain ⟨g1,g2,g3⟩:=bind_row hH hy hn ho hz.1 hz.2 e
  refine fin _ (by simp [execOp,hop]; rfl) ⟨_,.pointer (some ⟨w.heap.size,0,none⟩),_,?_,?_,g1,g2⟩
  ·simp [Instr.alloc,zeroValue,hok.run_info,hz1,newVar,uF]
  ·simp only [VRel]; exact ⟨_,g3,rfl⟩
 case box e x =>
  obtain ⟨ti,h1,hc⟩:=xA hc; obtain ⟨x',h2,hc⟩:=xA hc
  injection hc with hc; subst hc
  have r1:=yM ht h2
  simp only [wJ] at hv
  obtain ⟨vs,h3,hv⟩:=xA hv
  split at hv
  ·injection hv with hv; injection hv with hv1 hv2; subst hv1; subst hv2
   have hz:=cells_rel h3 r1
   obtain ⟨g1,g2,g3⟩:=bind_row hH hy hn ho hz.1 hz.2 e
   refine fin _ (by simp [execOp,hop]; rfl) ⟨_,.pointer (some ⟨w.heap.size,0,none⟩),_,?_,?_,g1,g2⟩
   ·simp [Instr.box,newVar,uF]
   ·simp only [VRel]; exact ⟨_,g3,rfl⟩
  ·cases hv
 case build ty parts =>
  obtain ⟨_,_,hc⟩:=xA hc; obtain ⟨_,_,hc⟩:=xA hc
  split at hc
  ·obtain ⟨_,_,hc⟩:=xA hc; obtain ⟨_,_,hc⟩:=xA hc; injection hc with hc; subst hc; simp [AOp.cls] at hp
  ·obtain ⟨_,_,hc⟩:=xA hc; obtain ⟨_,_,hc⟩:=xA hc; injection hc with hc; subst hc; simp [AOp.cls] at hp
  ·cases hc
 case buildSlice ty len parts =>
  obtain ⟨ti,h1,hc⟩:=xA hc
  obtain ⟨i,d,hok⟩:=yL (hT _ _ h1)
  split at hc
  ·rename_i e hd
   obtain ⟨ei,h2,hc⟩:=xA hc; obtain ⟨zs,h3,hc⟩:=xA hc; obtain ⟨ps,h4,hc⟩:=xA hc
   split at hc
   ·rename_i hcond
    injection hc with hc; subst hc
    have:=uM hok hd; subst this
    obtain ⟨j,d2,hoe⟩:=yL (hT _ _ h2)
    obtain ⟨z,hz1,hz2,_⟩:=hoe.zero zs h3
    have hz:=vV (ρ:=ρ) hz2
    simp only [wJ] at hv
    obtain ⟨cs,h5,hv⟩:=xA hv
    injection hv with hv; injection hv with hv1 hv2; subst hv1; subst hv2
    have hzl:z.cells.size=zs.length:=by rw [← Array.length_toList]; exact hz.1.length
    -- the cells ahead of the parts
    have hrun:∃ us:Array Value,VRels ρ (reps zs len) us.toList∧(Instr.buildSlice ty len (parts.map fun p=>(p.1,a.eval p.2))).run P w =
      (match Instr.fill (fun i=>some (i*ei.size,ei.size)) us (parts.map fun p=>(p.1,a.eval p.2)).toList with
       | some cells=>.ok (.slice (some ⟨w.heap.size,0,none⟩) len len) (w.alloc (.cells cells e))
       | none => .halt (.stuck "buildSlice: a part of the wrong size") w) := by
     have hsm:¬ (len*ei.size > 2 ^ 24):=by have:=hcond.2; omega
     by_cases h0:len*ei.size=0
     ·refine ⟨#[],?_,?_⟩
      ·have:reps zs len=[]:=List.eq_nil_of_length_eq_zero (by rw [reps_length,hcond.1]; exact h0)
       rw [this]; exact .nil
      ·simp only [Instr.buildSlice,Sem.run_bind,hok.run_under,Result.andThen_ok,hoe.run_size,if_neg hsm,if_pos h0,Sem.run_pure]
       have h00:(Array.map (fun x=>(#[]:Array Value)[x % (#[]:Array Value).size]!) (Array.range (len*ei.size)))=#[]:=by rw [h0]; apply Array.eq_empty_of_size_eq_zero; simp
       rw [h00]
       generalize Instr.fill (fun i=>some (i*ei.size,ei.size)) #[] (parts.map fun p=>(p.1,a.eval p.2)).toList=q
       cases q <;> simp [uF]
     ·refine ⟨(Array.range (len*z.cells.size)).map (z.cells[· % z.cells.size]!),reps_rel hz.1 len,?_⟩
      simp only [Instr.buildSlice,Sem.run_bind,hok.run_under,Result.andThen_ok,hoe.run_size,if_neg hsm,if_neg h0,Sem.run_pure,zeroValue,hoe.run_info,hz1]
      rw [show z.cells.size=ei.size by rw [hzl]; exact hcond.1]
      generalize Instr.fill (fun i=>some (i*ei.size,ei.size)) _ (parts.map fun p=>(p.1,a.eval p.2)).toList=q
      cases q <;> simp [uF]
    obtain ⟨us,hu1,hu2⟩:=hrun
    obtain ⟨arr,k1,k2,k3,k4⟩:=fill_rel ht (fun i=>some (i*ei.size,ei.size)) parts.toList h4 h5 hu1 (reps_cell hz.2 len)
    obtain ⟨g1,g2,g3⟩:=bind_row hH hy hn ho k2 k3 e
    refine fin _ (by simp [execOp,hop]; rfl) ⟨_,.slice (some ⟨w.heap.size,0,none⟩) len len,_,?_,?_,g1,g2⟩
    ·rw [hu2]
     have k1':Instr.fill (fun i=>some (i*ei.size,ei.size)) us (parts.map fun p=>(p.1,a.eval p.2)).toList=some arr:=by simpa using k1
     rw [k1']
    ·simp only [VRel]; exact ⟨_,_,g3,rfl,Nat.le_refl _,.inl (by simp)⟩
   ·cases hc
  ·cases hc
 case load ty x =>
  obtain ⟨_,_,hc⟩:=xA hc; obtain ⟨_,_,hc⟩:=xA hc
  split at hc <;> (injection hc with hc; subst hc; simp [AOp.cls] at hp)
 case store ty x y =>
  obtain ⟨_,_,hc⟩:=xA hc; obtain ⟨_,_,hc⟩:=xA hc; obtain ⟨_,_,hc⟩:=xA hc
  injection hc with hc; subst hc; simp [AOp.cls] at hp
 case nilCheck x=>obtain ⟨_,_,hc⟩:=xA hc; injection hc with hc; subst hc; simp [AOp.cls] at hp
 case binOp op ty x y ty2 =>
  obtain ⟨_,_,hc⟩:=xA hc; obtain ⟨_,_,hc⟩:=xA hc; obtain ⟨_,_,hc⟩:=xA hc; obtain ⟨_,_,hc⟩:=xA hc
  injection hc with hc; subst hc; simp [AOp.cls] at hp
 case unOp op ty x=>obtain ⟨_,_,hc⟩:=xA hc; injection hc with hc; subst hc; simp [AOp.cls] at hp
 case convert src dst x =>
  obtain ⟨si,h1,hc⟩:=xA hc
  obtain ⟨di,h2,hc⟩:=xA hc
  obtain ⟨x',h3,hc⟩:=xA hc
  split at hc
  ·injection hc with hc; subst hc; simp [AOp.cls] at hp
  ·injection hc with hc; subst hc; simp [AOp.cls] at hp
  ·obtain ⟨_,_,hc⟩:=xA hc
   split at hc
   ·injection hc with hc; subst hc; simp [AOp.cls] at hp
   ·cases hc
  ·obtain ⟨_,_,hc⟩:=xA hc
   split at hc
   ·injection hc with hc; subst hc; simp [AOp.cls] at hp
   ·cases hc
  ·cases hc
 case makeInterface ty x =>
  obtain ⟨_,_,hc⟩:=xA hc; obtain ⟨_,_,hc⟩:=xA hc
  split at hc
  ·cases hc
  ·injection hc with hc; subst hc; simp [AOp.cls] at hp
 case makeFunc fn f c =>
  obtain ⟨_,_,hc⟩:=xA hc; obtain ⟨_,_,hc⟩:=xA hc
  injection hc with hc; subst hc; simp [AOp.cls] at hp
 case makeMap ty r =>
  obtain ⟨ti,h1,hc⟩:=xA hc
  obtain ⟨i,d,hok⟩:=yL (hT _ _ h1)
  split at hc
  ·rename_i k v hd
   split at hc
   ·rename_i hr
    injection hc with hc; subst hc
    have:=tok_map hok hd; subst this
    simp only [wJ] at hv
    injection hv with hv; injection hv with hv1 hv2; subst hv1; subst hv2
    refine fin _ (by simp [execOp,hop]; rfl) ⟨⟨w.heap.size,0,0⟩,.map (some w.heap.size),w.alloc (.map #[] 0),?_,?_,?_,(Beneath.refl _ _).alloc hH.base _⟩
    ·cases r with
     | none=>simp [Instr.makeMap]
     | some x =>
      cases x <;> simp [constInt] at hr
      rename_i v'
      cases v' <;> simp [constInt] at hr
      simp [Instr.makeMap,hok.run_under,Act.eval,asInt,asIntOf]
    ·simp only [VRel]; exact ⟨⟨w.heap.size,0,0⟩,by simp [xT],rfl⟩
    ·exact hH.bind hy hn ho ⟨hH.base,#[],0,by show (w.heap.push _)[w.heap.size]? = _; simp,rfl,by simp,by simp [BornOk]⟩
   ·cases hc
  ·cases hc
 case makeSlice ty l c =>
  obtain ⟨ti,h1,hc⟩:=xA hc
  obtain ⟨i,d,hok⟩:=yL (hT _ _ h1)
  split at hc
  ·rename_i e hd
   obtain ⟨ei,h2,hc⟩:=xA hc; obtain ⟨zs,h3,hc⟩:=xA hc; obtain ⟨l',h4,hc⟩:=xA hc; obtain ⟨c',h5,hc⟩:=xA hc
   split at hc
   ·rename_i hzl
    injection hc with hc; subst hc
    have:=uM hok hd; subst this
    obtain ⟨j,d2,hoe⟩:=yL (hT _ _ h2)
    obtain ⟨z,hz1,hz2,_⟩:=hoe.zero zs h3
    have hz:=vV (ρ:=ρ) hz2
    have r1:=yM ht h4; have r2:=yM ht h5
    simp only [wJ] at hv
    generalize l'.ev t=lv at hv r1
    generalize c'.ev t=cv at hv r2
    unfold amkSlice at hv
    split at hv
    ·rename_i ln cn
     split at hv
     ·rename_i hb
      injection hv with hv; injection hv with hv1 hv2; subst hv1; subst hv2
      have hwl:IntKind.i64.wrap ln=ln:=by
       unfold IntKind.wrap
       simp only [IntKind.bits,IntKind.signed]
       have:ln % 18446744073709551616=ln:=Int.emod_eq_of_lt (by omega) (by omega)
       simp [this]; omega
      have hwc:IntKind.i64.wrap cn=cn:=by
       unfold IntKind.wrap
       simp only [IntKind.bits,IntKind.signed]
       have:cn % 18446744073709551616=cn:=Int.emod_eq_of_lt (by omega) (by omega)
       simp [this]; omega
      have hcells:z.cells.size=ei.size:=by rw [← Array.length_toList,hz.1.length]; exact hzl
      have hrun:∃ us:Array Value,VRels ρ (reps zs cn.toNat) us.toList∧(Instr.makeSlice ty (.int .i64 ln) (.int .i64 cn)).run P w=.ok (.slice (some ⟨w.heap.size,0,none⟩) ln.toNat cn.toNat) (w.alloc (.cells us e)):=by
       have t1:¬ (cn < 0∨281474976710656 < (j.bytes:Int)*cn):=by
        rw [hoe.bytes]
        have:=hb.2.2.1
        rw [Int.mul_comm]; omega
       have t2:¬ (ln < 0):=by omega
       have t3:¬ (ln > cn):=by omega
       have hn:cn.toNat*ei.size=0∨¬ cn.toNat*ei.size=0:=by omega
       refine ⟨(Array.range (cn.toNat*z.cells.size)).map (z.cells[· % z.cells.size]!),reps_rel hz.1 _,?_⟩
       rcases hn with hn | hn
       ·simp only [Instr.makeSlice,Sem.run_bind,hok.run_under,Result.andThen_ok,asInt,asIntOf,Sem.run_pure,hoe.run_info,hwl,hwc]
        simp [t1,t2,t3,hoe.run_size,hn,uF,hcells]
        congr 2
        apply Array.ext'
        simp
       ·simp only [Instr.makeSlice,Sem.run_bind,hok.run_under,Result.andThen_ok,asInt,asIntOf,Sem.run_pure,hoe.run_info,hwl,hwc]
        simp [t1,t2,t3,hoe.run_size,hn,uF,hcells,zeroValue,hoe.run_info,hz1]
      obtain ⟨us,hu1,hu2⟩:=hrun
      obtain ⟨g1,g2,g3⟩:=bind_row hH hy hn ho hu1 (reps_cell hz.2 _) e
      refine fin _ (by simp [execOp,hop]; rfl) ⟨_,.slice (some ⟨w.heap.size,0,none⟩) ln.toNat cn.toNat,_,?_,?_,g1,g2⟩
      ·rw [r1.int_inv,r2.int_inv]; exact hu2
      ·simp only [VRel]; exact ⟨_,_,g3,rfl,by omega,.inl (by simp)⟩
     ·cases hv
    ·cases hv
   ·cases hc
  ·cases hc
 case slice ty x lo hi mx =>
  obtain ⟨_,_,hc⟩:=xA hc; obtain ⟨_,_,hc⟩:=xA hc; obtain ⟨_,_,hc⟩:=xA hc; obtain ⟨_,_,hc⟩:=xA hc; obtain ⟨_,_,hc⟩:=xA hc
  split at hc
  ·obtain ⟨_,_,hc⟩:=xA hc; injection hc with hc; subst hc; simp [AOp.cls] at hp
  ·split at hc
   ·injection hc with hc; subst hc; simp [AOp.cls] at hp
   ·cases hc
  ·cases hc
 case fieldAddr s x f =>
  obtain ⟨_,_,hc⟩:=xA hc
  split at hc
  ·obtain ⟨_,_,hc⟩:=xA hc; obtain ⟨_,_,hc⟩:=xA hc; obtain ⟨_,_,hc⟩:=xA hc
   split at hc
   ·cases hc
   ·injection hc with hc; subst hc; simp [AOp.cls] at hp
  ·cases hc
 case indexAddr ty x ix =>
  obtain ⟨_,_,hc⟩:=xA hc; obtain ⟨_,_,hc⟩:=xA hc; obtain ⟨_,_,hc⟩:=xA hc
  split at hc
  ·obtain ⟨_,_,hc⟩:=xA hc; injection hc with hc; subst hc; simp [AOp.cls] at hp
  ·obtain ⟨_,_,hc⟩:=xA hc; injection hc with hc; subst hc; simp [AOp.cls] at hp
  ·cases hc
 case field ty x f =>
  obtain ⟨_,_,hc⟩:=xA hc
  split at hc
  ·obtain ⟨_,_,hc⟩:=xA hc; obtain ⟨_,_,hc⟩:=xA hc; obtain ⟨_,_,hc⟩:=xA hc
   injection hc with hc; subst hc; simp [AOp.cls] at hp
  ·cases hc
 case index ty x ix =>
  obtain ⟨_,_,hc⟩:=xA hc; obtain ⟨_,_,hc⟩:=xA hc; obtain ⟨_,_,hc⟩:=xA hc
  split at hc
  ·obtain ⟨_,_,hc⟩:=xA hc; injection hc with hc; subst hc; simp [AOp.cls] at hp
  ·injection hc with hc; subst hc; simp [AOp.cls] at hp
  ·cases hc
 case lookup ty x ix ok =>
  obtain ⟨_,_,hc⟩:=xA hc
  split at hc
  ·obtain ⟨_,_,hc⟩:=xA hc; obtain ⟨_,_,hc⟩:=xA hc; obtain ⟨_,_,hc⟩:=xA hc; obtain ⟨_,_,hc⟩:=xA hc; obtain ⟨_,_,hc⟩:=xA hc
   injection hc with hc; subst hc; simp [AOp.cls] at hp
  ·cases hc
 case mapUpdate ty m k x =>
  obtain ⟨_,_,hc⟩:=xA hc
  split at hc
  ·obtain ⟨_,_,hc⟩:=xA hc; obtain ⟨_,_,hc⟩:=xA hc; obtain ⟨_,_,hc⟩:=xA hc; obtain ⟨_,_,hc⟩:=xA hc
   injection hc with hc; subst hc; simp [AOp.cls] at hp
  ·cases hc
 case extract x n=>obtain ⟨_,_,hc⟩:=xA hc; injection hc with hc; subst hc; simp [AOp.cls] at hp
 case call c =>
  unfold ccall at hc
  split at hc
  ·split at hc
   ·obtain ⟨_,_,hc⟩:=xA hc; obtain ⟨_,_,hc⟩:=xA hc
    split at hc
    ·injection hc with hc; subst hc; simp [AOp.cls] at hp
    ·injection hc with hc; subst hc; simp [AOp.cls] at hp
    ·injection hc with hc; subst hc; simp [AOp.cls] at hp
    ·cases hc
   ·cases hc
  ·split at hc
   ·obtain ⟨_,_,hc⟩:=xA hc; obtain ⟨_,_,hc⟩:=xA hc
    split at hc
    ·obtain ⟨_,_,hc⟩:=xA hc; obtain ⟨_,_,hc⟩:=xA hc; obtain ⟨_,_,hc⟩:=xA hc; obtain ⟨_,_,hc⟩:=xA hc
     split at hc
     ·injection hc with hc; subst hc; simp [AOp.cls] at hp
     ·cases hc
    ·obtain ⟨_,_,hc⟩:=xA hc; obtain ⟨_,_,hc⟩:=xA hc; obtain ⟨_,_,hc⟩:=xA hc; obtain ⟨_,_,hc⟩:=xA hc
     split at hc
     ·injection hc with hc; subst hc; simp [AOp.cls] at hp
     ·cases hc
    ·cases hc
   ·cases hc
  ·obtain ⟨_,_,hc⟩:=xA hc; injection hc with hc; subst hc; simp [AOp.cls] at hp
  ·obtain ⟨_,_,hc⟩:=xA hc; injection hc with hc; subst hc; simp [AOp.cls] at hp
  ·obtain ⟨_,_,hc⟩:=xA hc; injection hc with hc; subst hc; simp [AOp.cls] at hp
  ·obtain ⟨_,_,hc⟩:=xA hc; injection hc with hc; subst hc; simp [AOp.cls] at hp
  ·cases hc
end
end Go.VAI

/- Operations that write memory; calls. -/
set_option linter.unusedVariables false
set_option linter.unusedSimpArgs false
namespace Go.VAI
open Go Go.RowKit
section
variable {P:Program} {ρ:Ren} {w:World} {t:xJ} {a:Act} {B:Nat} {H:AHeap}

theorem heap_setCells_ne (b:Nat):∀ (vs:List Value) (o:Nat) (w:World) (k:Nat),k≠b→(w.setCells b o vs).heap[k]? = w.heap[k]?
 | [],_,_,_,_=>rfl
 | v :: vs,o,w,k,h=>by rw [World.setCells,heap_setCells_ne b vs (o+1) _ k h,Below.heap_setCell w _ v k h]
theorem uB (b:Nat):∀ (vs:List Value) (o:Nat) (w:World),(w.setCells b o vs).heap.size=w.heap.size
 | [],_,_=>rfl
 | v :: vs,o,w=>by rw [World.setCells,uB b vs (o+1),World.size_setCell]
theorem heap_setCells_at (b:Nat) (E:TypeId) (fz:Nat × Nat):∀ (vs:List Value) (o:Nat) (w:World) (arr:Array Value),w.heap[b]? = some (.cells arr E fz) →
  ∃ arr',(w.setCells b o vs).heap[b]? = some (.cells arr' E fz)∧arr'.size=arr.size
 | [],_,w,arr,h=>⟨arr,h,rfl⟩
 | v :: vs,o,w,arr,h=>by
  have h2:(w.setCell ⟨b,o,none⟩ v).heap[b]? = some (.cells (arr.setIfInBounds o v) E fz):=by
   simp [World.setCell,Array.getElem?_modify,h]
  obtain ⟨arr',h3,h4⟩:=heap_setCells_at b E fz vs (o+1) _ _ h2
  exact ⟨arr',h3,by rw [h4]; simp⟩
theorem below_setCells {b:Nat} (hB:B≤b) (o:Nat) (vs:List Value):Beneath B w (w.setCells b o vs):=by
 induction vs generalizing o w with
 | nil=>exact .refl _ _
 | cons v vs ih=>exact ((Beneath.refl B w).setCell (p:=⟨b,o,none⟩) hB v).trans (ih (o+1))

theorem cell?_size {b o:Nat} {arr:Array Value} {E:TypeId} {fz:Nat × Nat} (h:w.heap[b]? = some (.cells arr E fz)) (hi:o < arr.size):(w.cell? ⟨b,o,none⟩).isSome=true:=by
 simp [World.cell?,h,hi]
theorem frozen?_not {b o:Nat} {arr:Array Value} {E:TypeId} {fz:Nat × Nat} (h:w.heap[b]? = some (.cells arr E fz)) (hi:o < arr.size) (hf:fz.1=fz.2∨arr.size≤fz.1):w.frozen? ⟨b,o,none⟩=false:=by
 obtain ⟨lo,hi'⟩:=fz
 simp only at hf
 simp only [World.frozen?,h]
 rcases hf with hf | hf
 ·subst hf; simp
 ·simp; omega

theorem top_upd (hH:HRel ρ B H w) {id:Nat} {l:Loc} (hl:ρ id=some l) (o:Option AObj):∀ i,(H.upd id o).next≤i→(H.upd id o).obj i=none:=by
 intro i hi
 have h1:=(hH.dom id l hl).1
 have hi:H.next≤i:=hi
 simp only [AHeap.upd]
 rw [if_neg (by omega)]; exact hH.top i hi

theorem store_rel (hH:HRel ρ B H w) {id:Nat} {l:Loc} {c:List AVal} (hl:ρ id=some l) (hc:H.rw? id=some c) {off:Nat} {vs:List AVal} {us:List Value} (hr:VRels ρ vs us) (hcell:∀ x∈vs,x.isCell=true) (hb:off+vs.length≤c.length) :
  (Go.storeCells ⟨l.b,l.o+off,none⟩ us).run P w=.ok () (w.setCells l.b (l.o+off) us)∧HRel ρ B (H.upd id (some (.cells (yV c off vs) true))) (w.setCells l.b (l.o+off) us)∧Beneath B w (w.setCells l.b (l.o+off) us):=by
 obtain ⟨ho,hB,hcr,hn,arr,E,fz,hblk,hsz,hfz⟩:=hH.rw hl hc
 have hul:=hr.length
 have hin:∀ j,j < us.length→l.o+off+j < arr.size:=fun j hj=>by omega
 have hfz':fz.1=fz.2∨arr.size≤fz.1:=by rw [hsz]; exact hfz
 have hone:∀ v∈us,v.oneCell'=true:=by
  intro v hv
  obtain ⟨j,hj⟩:=List.mem_iff_getElem?.1 hv
  have hjl:j < vs.length:=by rw [← hul]; exact (List.getElem?_eq_some_iff.1 hj).1
  obtain ⟨u,e1,e2⟩:=hr.get j (List.getElem?_eq_getElem hjl)
  rw [e1] at hj; injection hj with hj; subst hj
  exact VRel.cell_one (hcell _ (List.getElem_mem hjl)) e2
 have hrun:=run_storeCells_cells (P:=P) l.b (l.o+off) us 0 w (fun j hj=>cell?_size hblk (by have:=hin j hj; omega)) (fun j hj=>frozen?_not hblk (by have:=hin j hj; omega) hfz') hone
 rw [Nat.add_zero] at hrun
 obtain ⟨arr',hblk',hsz'⟩:=heap_setCells_at l.b E fz us (l.o+off) w arr hblk
 refine ⟨hrun,⟨fun i l2 e=>⟨(hH.dom i l2 e).1,by rw [uB]; exact (hH.dom i l2 e).2⟩,fun i l2 o2 e1 e2=>?_,fun i i' l1 l2 o1 o2 e1 e2 hne h1 h2 h3 h4=>?_,by rw [uB]; exact hH.base,top_upd hH hl _⟩,below_setCells hB _ _⟩
 ·by_cases hi:i=id
  ·subst hi
   rw [hl] at e1; injection e1 with e1; subst e1
   simp only [AHeap.upd,if_pos rfl] at e2
   simp at e2; subst e2
   refine ⟨hB,⟨fun x hx=>?_,fun k v e=>?_⟩,by rw [splice_length hb]; exact hn,arr',E,fz,hblk',by rw [hsz',hsz],hfz⟩
   ·simp only [yV,List.mem_append] at hx
    rcases hx with (hx | hx) | hx
    ·exact hcr.1 x (List.mem_of_mem_take hx)
    ·exact hcell x hx
    ·exact hcr.1 x (List.mem_of_mem_drop hx)
   ·have e':=splice_get c vs off k hb
    unfold yV at e
    rw [e'] at e
    split at e
    ·rename_i hk
     obtain ⟨u,e3,e4⟩:=hr.get _ e
     have hkl:k - off < us.length:=by omega
     have:=World.cell?_setCells_in l.b us (l.o+off) w (fun j hj=>cell?_size hblk (hin j hj)) (k - off) hkl
     rw [show l.o+off+(k - off)=l.o+k by omega] at this
     rw [List.getElem?_eq_getElem hkl] at e3
     injection e3 with e3
     exact ⟨u,by rw [this,e3],e4⟩
    ·rename_i hk
     obtain ⟨u,e3,e4⟩:=hcr.2 k v e
     refine ⟨u,?_,e4⟩
     rw [World.cell?_setCells_out l.b us (l.o+off) w ⟨l.b,l.o+k,none⟩ (fun _ _=>by simp; omega)]
     exact e3
  ·simp only [AHeap.upd,if_neg hi] at e2
   have hne:l2.b≠l.b:=by
    by_cases hw:o2.own=true
    ·exact hH.inj i id l2 l o2 _ e1 hl hi e2 ho hw rfl
    ·have:=hH.obj i l2 o2 e1 e2
     cases o2 with
     | cells c2 rw2 =>
      cases rw2 with
      | true=>exact absurd rfl hw
      | false=>have:=this.1; omega
     | amap _=>exact absurd rfl hw
   exact (hH.obj i l2 o2 e1 e2).mono (.refl _) (heap_setCells_ne _ _ _ _ _ hne)
 ·have own:∀ j oj,(H.upd id (some (.cells (yV c off vs) true))).obj j=some oj→∃ oj',H.obj j=some oj'∧(oj.own=true→oj'.own=true):=by
   intro j oj hj
   simp only [AHeap.upd] at hj
   split at hj
   ·rename_i hji; subst hji
    exact ⟨_,ho,fun _=>rfl⟩
   ·exact ⟨oj,hj,fun h=>h⟩
  obtain ⟨q1,k1,k2⟩:=own i o1 h1
  obtain ⟨q2,k3,k4⟩:=own i' o2 h2
  exact hH.inj i i' l1 l2 q1 q2 e1 e2 hne k1 k3 (k2 h3) (k4 h4)

theorem HRel.drew (h:HRel ρ B H w):HRel ρ B H w.drew:=h.world (Nat.le_refl _) (fun _ _ _=>rfl)

theorem taken_run (hH:HRel ρ B H w) {sz m:Nat} {x:AVal} {news:List AVal} (h:taken H sz x=some (m,news)) {u:Value} (hu:VRel ρ x u) :
  (Builtin.lenOf u).run P w=.ok m w∧∃ us:List Value,(Builtin.firstCells sz m u).run P w=.ok us.toArray w∧VRels ρ news us∧(∀ c∈news,c.isCell=true)∧news.length=m*sz:=by
 unfold taken at h
 split at h
 ·injection h with h; injection h with h1 h2; subst h1; subst h2
  simp only [VRel] at hu; subst hu
  exact ⟨by simp [Builtin.lenOf],[],by simp [Builtin.firstCells],.nil,by simp,by simp⟩
 ·rename_i id off len cap
  obtain ⟨c,hc,h⟩:=xA h
  split at h
  ·rename_i hb
   injection h with h; injection h with h1 h2; subst h1; subst h2
   obtain ⟨l,p,cp,hl,rfl,hle,hp0⟩:=hu.slice_inv
   have hcr:=hH.cells hl hc
   refine ⟨by simp [Builtin.lenOf],?_⟩
   obtain ⟨us,g1,g2,g3⟩:=hcr.part off (len*sz) hb
   refine ⟨us,?_,g1,fun y hy=>hcr.1 y (List.mem_of_mem_drop (List.mem_of_mem_take hy)),by simp; omega⟩
   have:(loadCells p us.length).run P w=.ok us.toArray w:=by
    refine run_loadCells_list w _ us (fun j v hj=>?_)
    have hj2:j < us.length:=(List.getElem?_eq_some_iff.1 hj).1
    have hlen:0 < len:=by
     rcases Nat.eq_zero_or_pos len with h0 | h0
     ·rw [h0] at g2; simp at g2; rw [g2] at hj2; simp at hj2
     ·exact h0
    have:=hp0 hlen
    subst this
    exact g3 j v hj
   rw [g2] at this
   simpa [Builtin.firstCells] using this
  ·cases h
 ·rename_i s
  split at h
  ·rename_i hsz
   injection h with h; injection h with h1 h2; subst h1; subst h2; subst hsz
   rw [hu.str_inv]
   refine ⟨by simp [Builtin.lenOf],s.data.toList.map (fun b=>Value.int .u8 b.toNat),?_,?_,by simp [AVal.isCell],by rw [List.length_map,Nat.mul_one]; rfl⟩
   ·simp only [Builtin.firstCells,Sem.run_pure]
    rw [show s.extract 0 s.size=s by simp]
    congr 1
    apply Array.ext'
    simp
   ·generalize s.data.toList=l
    induction l with
    | nil=>exact .nil
    | cons b l ih=>exact .cons (by simp [VRel]) ih
  ·cases h
 ·cases h

theorem growBy_le (need:Nat):∀ (rounds c:Nat),256≤c→c≤2*need→Builtin.growBy need rounds c≤2*need
 | 0,c,_,h=>h
 | rounds+1,c,h1,h2=>by
  unfold Builtin.growBy
  split
  ·exact h2
  ·rename_i hlt
   exact growBy_le need rounds _ (by omega) (by omega)
theorem nextcap_le {need old:Nat} (h:old < need):Builtin.nextslicecap need old≤2*need:=by
 unfold Builtin.nextslicecap
 split
 ·omega
 ·split
  ·omega
  ·exact growBy_le need 4 old (by omega) (by omega)

theorem zeroCells_size (z:Array Value) (n:Nat):(Builtin.zeroCells z n).size=n*z.size:=by simp [Builtin.zeroCells]

theorem grow_run {e:TypeId} {ei:TI} {j:TypeInfo} {d2:TypeDesc} (hoe:TIOk P e ei j d2) {zs:List AVal} (hzs:ei.zero=some zs) (hzl:zs.length=ei.size) (hH:HRel ρ B H w)
  {olds news:List AVal} {us vs:List Value} (h1:VRels ρ olds us) (h2:VRels ρ news vs) (c1:∀ c∈olds,c.isCell=true) (c2:∀ c∈news,c.isCell=true) {sLen sCap m:Nat} (hn1:olds.length=sLen*ei.size) (hn2:news.length=m*ei.size) (hgt:sCap < sLen+m)
  {H':AHeap} (hH':∀ w1,HRel ρ B H w1→HRel ρ B H' w1) {y:Nat} (hy:ρ y=none) (hyn:y < H'.next) (hyo:H'.obj y=some (.cells (olds++news) true))
  {sv xv:Value} (fo:(Builtin.firstCells ei.size sLen sv).run P w.drew=.ok us.toArray w.drew) (fn:(Builtin.firstCells ei.size m xv).run P w.drew=.ok vs.toArray w.drew) :
  ∃ v' w' l,((do
   let newCap ← choose (.appendCap (sLen+m) sCap e)
   askRoom (newCap*(← typeInfo e).bytes)
   let old ← Builtin.firstCells ei.size sLen sv
   let new ← Builtin.firstCells ei.size m xv
   let rest:=Builtin.zeroCells (← zeroValue e).cells (newCap - (sLen+m))
   pure (Value.slice (some (← newRow e (old++new++rest))) (sLen+m) newCap):Sem Value)).run P w=.ok v' w' ∧
   VRel (xT ρ y l) (.slice y 0 (sLen+m) (.room ei.size)) v'∧HRel (xT ρ y l) B H' w'∧Beneath B w w':=by
 obtain ⟨z,hz1,hz2,_⟩:=hoe.zero zs hzs
 have hzr:=(vV (ρ:=ρ) hz2).1
 have hzsz:z.cells.size=ei.size:=by rw [← Array.length_toList,hzr.length,hzl]
 generalize hq:(Question.appendCap (sLen+m) sCap e).cut (w.tape w.drawn (Question.appendCap (sLen+m) sCap e))=newCap
 have hcap:sLen+m≤newCap:=by rw [← hq]; simp [Question.cut]
 let arr:=us.toArray++vs.toArray++Builtin.zeroCells z.cells (newCap - (sLen+m))
 have hsz:arr.size=newCap*ei.size:=by
  simp only [arr,Array.size_append,List.size_toArray,h1.length,h2.length,hn1,hn2,zeroCells_size,hzsz]
  rw [← Nat.add_mul,← Nat.add_mul]
  congr 1; omega
 have hr:VRels ρ (olds++news) (us++vs):=h1.append h2
 have hcell:∀ c∈olds++news,c.isCell=true:=by
  intro c hc
  rcases List.mem_append.1 hc with hc | hc
  ·exact c1 c hc
  ·exact c2 c hc
 have hHd:=hH' _ hH.drew
 have horel:=orel_new (w:=w.drew) (E:=e) hHd.base hcell (VRels.mono (zI (l:=⟨w.drew.heap.size,0,arr.size⟩) hy) _ _ hr) (rest:=(Builtin.zeroCells z.cells (newCap - (sLen+m))).toList) arr (by simp [arr])
 refine ⟨.slice (some ⟨w.drew.heap.size,0,none⟩) (sLen+m) newCap,w.drew.alloc (.cells arr e),⟨w.drew.heap.size,0,arr.size⟩,?_,?_,hHd.bind hy hyn hyo horel,((Beneath.refl B w).drew).alloc hHd.base _⟩
 ·have hf:(Question.appendCap (sLen+m) sCap e).forced=false:=rfl
  simp only [Sem.run_bind,run_choose_drew,hf,Bool.false_eq_true,if_false,Result.andThen_ok,hq,hoe.run_info,run_askRoom,fo,fn,zeroValue,hz1,Sem.run_pure,uF]
  rfl
 ·simp only [VRel]
  exact ⟨⟨w.drew.heap.size,0,arr.size⟩,newCap,0,by simp [xT],rfl,hcap,.inl ⟨by simp,by simp [hsz]⟩⟩
end
end Go.VAI

/- append,map stores,calls: what writes memory,in one word. -/
set_option linter.unusedVariables false
set_option linter.unusedSimpArgs false
namespace Go.VAI
open Go Go.RowKit
section
variable {P:Program} {ρ:Ren} {w:World} {t:xJ} {a:Act} {B:Nat} {H:AHeap}

def Effect (ρ:Ren) (B:Nat) (H:AHeap) (w:World) (v:AVal) (H':AHeap) (v':Value) (w':World):Prop:=∃ ρ',VRel ρ' v v'∧Step ρ B H w ρ' H' w'

theorem Step.upd {ρ:Ren} {B:Nat} {H:AHeap} {w w':World} {id:Nat} {l:Loc} {o:Option AObj} (hl:ρ id=some l) (hh:HRel ρ B (H.upd id o) w') (hb:Beneath B w w'):Step ρ B H w ρ (H.upd id o) w' :=
 ⟨.refl _,hh,hb,fun _ h1 h2=>absurd h1 h2,Nat.le_refl _,fun i _ hi=>by
  simp only [AHeap.upd]
  rw [if_neg]
  intro e; subst e; rw [hl] at hi; cases hi⟩
theorem Step.bind {ρ:Ren} {B:Nat} {H H1:AHeap} {w w':World} {o:AObj} {l:Loc} (hy:ρ H.next=none) (hn:H1.next=H.next) (hobj:∀ i,i < H.next→ρ i=none→H1.obj i=H.obj i) (hh:HRel (xT ρ H.next l) B (H1.new o) w') (hb:Beneath B w w'):Step ρ B H w (xT ρ H.next l) (H1.new o) w' :=
 ⟨zI hy,hh,hb,fun i h1 h2=>by
  unfold xT at h2
  by_cases hi:i=H.next
  ·omega
  ·rw [if_neg hi] at h2; exact absurd h1 h2,by simp [AHeap.new,hn],fun i h1 h2=>by
  simp only [AHeap.new,hn]
  rw [if_neg (by omega)]; exact hobj i h1 h2⟩

theorem HRel.kill {id:Nat} (h:HRel ρ B H w):HRel ρ B (H.upd id none) w:=by
 have own:∀ j oj,(H.upd id none).obj j=some oj→H.obj j=some oj:=by
  intro j oj hj
  simp only [AHeap.upd] at hj
  split at hj
  ·cases hj
  ·exact hj
 exact ⟨h.dom,fun i l o e1 e2=>h.obj i l o e1 (own i o e2),fun i i' l l' o o' e1 e2 hne h1 h2=>h.inj i i' l l' o o' e1 e2 hne (own _ _ h1) (own _ _ h2),h.base,fun i hi=>by
  have hi:H.next≤i:=hi
  simp only [AHeap.upd]
  split
  ·rfl
  ·exact h.top i hi⟩

theorem HRel.shrink {id:Nat} {c:List AVal} (h:HRel ρ B H w) (hc:H.rw? id=some c) (k:Nat):HRel ρ B (H.upd id (some (.cells (c.take k) true))) w:=by
 have ho:H.obj id=some (.cells c true):=by
  unfold AHeap.rw? at hc
  split at hc
  ·rename_i c' e; injection hc with hc; subst hc; exact e
  ·cases hc
 have own:∀ j oj,(H.upd id (some (.cells (c.take k) true))).obj j=some oj→j=id∧oj=.cells (c.take k) true∨j≠id∧H.obj j=some oj:=by
  intro j oj hj
  simp only [AHeap.upd] at hj
  split at hj
  ·rename_i e; injection hj with hj; exact .inl ⟨e,hj.symm⟩
  ·rename_i e; exact .inr ⟨e,hj⟩
 have back:∀ j oj,(H.upd id (some (.cells (c.take k) true))).obj j=some oj→oj.own=true→∃ o',H.obj j=some o'∧o'.own=true:=by
  intro j oj hj hw
  rcases own j oj hj with ⟨rfl,rfl⟩ | ⟨_,e⟩
  ·exact ⟨_,ho,rfl⟩
  ·exact ⟨_,e,hw⟩
 refine ⟨h.dom,fun i l o e1 e2=>?_,fun i i' l l' o o' e1 e2 hne h1 h2 h3 h4=>?_,h.base,fun i hi=>?_⟩
 ·rcases own i o e2 with ⟨rfl,rfl⟩ | ⟨_,e⟩
  ·obtain ⟨g1,g2,g3,g4⟩:=h.obj _ l _ e1 ho
   refine ⟨g1,⟨fun x hx=>g2.1 x (List.mem_of_mem_take hx),fun j v e=>?_⟩,by simp; omega,g4⟩
   rw [List.getElem?_take] at e
   split at e
   ·exact g2.2 j v e
   ·cases e
  ·exact h.obj i l o e1 e
 ·obtain ⟨p,p1,p2⟩:=back i o h1 h3
  obtain ⟨q,q1,q2⟩:=back i' o' h2 h4
  exact h.inj i i' l l' p q e1 e2 hne p1 q1 p2 q2
 ·have hi:H.next≤i:=hi
  have:=h.top i hi
  simp only [AHeap.upd]
  split
  ·rename_i e; subst e; rw [ho] at this; cases this
  ·exact this

theorem inplace_rel (hH:HRel ρ B H w) {id:Nat} {l:Loc} {c:List AVal} (hl:ρ id=some l) (hc:H.rw? id=some c) {off:Nat} {vs:List AVal} {us:List Value} (hr:VRels ρ vs us) (hcell:∀ x∈vs,x.isCell=true)
  {n:Nat} (hn0:off+n=c.length) (hroom:l.o+off+n+vs.length≤l.n) :
  (Go.storeCells ⟨l.b,l.o+off+n,none⟩ us).run P w=.ok () (w.setCells l.b (l.o+off+n) us) ∧
  HRel (xT ρ H.next ⟨l.b,l.o+off,l.n⟩) B ((H.upd id none).new (.cells (c.drop off++vs) true)) (w.setCells l.b (l.o+off+n) us)∧Beneath B w (w.setCells l.b (l.o+off+n) us):=by
 obtain ⟨ho,hB,hcr,hn,arr,E,fz,hblk,hsz,hfz⟩:=hH.rw hl hc
 have hul:=hr.length
 have hy:=hH.fresh
 have hle:=zI (l:=⟨l.b,l.o+off,l.n⟩) hy
 have hin:∀ j,j < us.length→l.o+off+n+j < arr.size:=fun j hj=>by omega
 have hfz':fz.1=fz.2∨arr.size≤fz.1:=by rw [hsz]; exact hfz
 have hone:∀ v∈us,v.oneCell'=true:=by
  intro v hv
  obtain ⟨j,hj⟩:=List.mem_iff_getElem?.1 hv
  have hjl:j < vs.length:=by rw [← hul]; exact (List.getElem?_eq_some_iff.1 hj).1
  obtain ⟨u,e1,e2⟩:=hr.get j (List.getElem?_eq_getElem hjl)
  rw [e1] at hj; injection hj with hj; subst hj
  exact VRel.cell_one (hcell _ (List.getElem_mem hjl)) e2
 have hrun:=run_storeCells_cells (P:=P) l.b (l.o+off+n) us 0 w (fun j hj=>cell?_size hblk (by have:=hin j hj; omega)) (fun j hj=>frozen?_not hblk (by have:=hin j hj; omega) hfz') hone
 rw [Nat.add_zero] at hrun
 obtain ⟨arr',hblk',hsz'⟩:=heap_setCells_at l.b E fz us (l.o+off+n) w arr hblk
 have hold:∀ j oj,j≠H.next→((H.upd id none).new (.cells (c.drop off++vs) true)).obj j=some oj→j≠id∧H.obj j=some oj:=by
  intro j oj hj he
  have he:(if j=H.next then some (AObj.cells (c.drop off++vs) true) else if j=id then none else H.obj j)=some oj:=he
  rw [if_neg hj] at he
  split at he
  ·cases he
  ·rename_i hji; exact ⟨hji,he⟩
 have hdom:∀ i l2,xT ρ H.next ⟨l.b,l.o+off,l.n⟩ i=some l2→i≠H.next→ρ i=some l2:=by
  intro i l2 e hi
  unfold xT at e
  rwa [if_neg hi] at e
 have hnew:∀ l2,xT ρ H.next ⟨l.b,l.o+off,l.n⟩ H.next=some l2→l2=⟨l.b,l.o+off,l.n⟩:=by
  intro l2 e
  unfold xT at e
  rw [if_pos rfl] at e; injection e with e; exact e.symm
 refine ⟨hrun,⟨fun i l2 e=>?_,fun i l2 o2 e1 e2=>?_,fun i i' l1 l2 o1 o2 e1 e2 hne h1 h2 h3 h4=>?_,by rw [uB]; exact hH.base,fun i hi=>?_⟩,below_setCells hB _ _⟩
 ·rw [uB]
  by_cases hi:i=H.next
  ·subst hi
   have:=hnew l2 e; subst this
   exact ⟨by simp [AHeap.new,AHeap.upd],(hH.dom id l hl).2⟩
  ·have:=hH.dom i l2 (hdom i l2 e hi)
   exact ⟨by simp [AHeap.new,AHeap.upd]; omega,this.2⟩
 ·by_cases hi:i=H.next
  ·subst hi
   have:=hnew l2 e1; subst this
   have e2:(if H.next=H.next then some (AObj.cells (c.drop off++vs) true) else if H.next=id then none else H.obj H.next)=some o2:=e2
   rw [if_pos rfl] at e2; injection e2 with e2; subst e2
   refine ⟨hB,⟨fun x hx=>?_,fun k v e=>?_⟩,by simp; omega,arr',E,fz,hblk',by rw [hsz',hsz],hfz⟩
   ·rcases List.mem_append.1 hx with hx | hx
    ·exact hcr.1 x (List.mem_of_mem_drop hx)
    ·exact hcell x hx
   ·have hdl:(c.drop off).length=n:=by simp; omega
    by_cases hk:k < n
    ·rw [List.getElem?_append_left (by omega),List.getElem?_drop] at e
     obtain ⟨u,e3,e4⟩:=hcr.2 _ v e
     refine ⟨u,?_,VRel.mono hle _ _ e4⟩
     show (w.setCells l.b (l.o+off+n) us).cell? ⟨l.b,l.o+off+k,none⟩=some u
     rw [World.cell?_setCells_out l.b us (l.o+off+n) w ⟨l.b,l.o+off+k,none⟩ (fun _ _=>by simp; omega)]
     rw [Nat.add_assoc]; exact e3
    ·rw [List.getElem?_append_right (by omega),hdl] at e
     obtain ⟨u,e3,e4⟩:=hr.get _ e
     have hkl:k - n < us.length:=(List.getElem?_eq_some_iff.1 e3).1
     have:=World.cell?_setCells_in l.b us (l.o+off+n) w (fun j hj=>cell?_size hblk (hin j hj)) (k - n) hkl
     rw [show l.o+off+n+(k - n)=l.o+off+k by omega] at this
     rw [List.getElem?_eq_getElem hkl] at e3
     injection e3 with e3
     exact ⟨u,by rw [← e3]; exact this,VRel.mono hle _ _ e4⟩
  ·obtain ⟨hji,he⟩:=hold i o2 hi e2
   have e1':=hdom i l2 e1 hi
   have hne:l2.b≠l.b:=by
    by_cases hw:o2.own=true
    ·exact hH.inj i id l2 l o2 _ e1' hl hji he ho hw rfl
    ·have:=hH.obj i l2 o2 e1' he
     cases o2 with
     | cells c2 rw2 =>
      cases rw2 with
      | true=>exact absurd rfl hw
      | false=>have:=this.1; omega
     | amap _=>exact absurd rfl hw
   exact (hH.obj i l2 o2 e1' he).mono hle (heap_setCells_ne _ _ _ _ _ hne)
 ·by_cases hi:i=H.next
  ·by_cases hj:i'=H.next
   ·exact absurd (hi.trans hj.symm) hne
   ·obtain ⟨hji,he⟩:=hold i' o2 hj h2
    rw [hi] at e1
    have:=hnew l1 e1; subst this
    exact (hH.inj i' id l2 l o2 _ (hdom i' l2 e2 hj) hl hji he ho h4 rfl).symm
  ·obtain ⟨hji,he⟩:=hold i o1 hi h1
   by_cases hj:i'=H.next
   ·rw [hj] at e2
    have:=hnew l2 e2; subst this
    exact hH.inj i id l1 l o1 _ (hdom i l1 e1 hi) hl hji he ho h3 rfl
   ·obtain ⟨_,he'⟩:=hold i' o2 hj h2
    exact hH.inj i i' l1 l2 o1 o2 (hdom i l1 e1 hi) (hdom i' l2 e2 hj) hne he he' h3 h4
 ·have hi:H.next+1≤i:=hi
  show (if i=H.next then some (AObj.cells (c.drop off++vs) true) else if i=id then none else H.obj i)=none
  rw [if_neg (by omega)]
  split
  ·rfl
  ·exact hH.top i (by omega)

theorem append_run {t u e:TypeId} {ti ui ei:TI} {i i2 j:TypeInfo} {d d1 d2:TypeDesc} (hok:TIOk P t ti i d) (hd:ti.desc=.slice e) (hok2:TIOk P u ui i2 d1) (hd2:(∃ e',ui.desc=.slice e')∨ui.desc=.str) (hoe:TIOk P e ei j d2) {zs:List AVal} (hzs:ei.zero=some zs) (hzl:zs.length=ei.size)
  (hH:HRel ρ B H w) {s x v:AVal} {H':AHeap} (h:zY H ei.size ei.bytes s x=some (v,H')) {sv xv:Value} (hs:VRel ρ s sv) (hx:VRel ρ x xv) (ty:TypeId) :
  ∃ v' w',(Builtin.append_ #[t,u] ty #[sv,xv]).run P w=.ok v' w'∧Effect ρ B H w v H' v' w':=by
 have hdd:=uM hok hd; subst hdd
 have hd1:(∃ e',d1=.slice e')∨d1=.string:=by
  rcases hd2 with ⟨e',h2⟩ | h2
  ·exact .inl ⟨e',uM hok2 h2⟩
  ·exact .inr (tok_str hok2 h2)
 unfold zY at h
 obtain ⟨⟨m,news⟩,htk,h9⟩:=xA h
 clear h
 have h:=h9
 clear h9
 obtain ⟨hlen,us,hfc,hus,hnc,hnl⟩:=taken_run (P:=P) hH htk hx
 obtain ⟨_,usd,hfcd,husd,_,_⟩:=taken_run (P:=P) hH.drew htk hx
 have hy:=hH.fresh
 -- there is room
 have room:∀ (base:Option Addr) (sLen sCap:Nat) (w':World),sv=.slice base sLen sCap→sLen+m≤sCap →
   (match base with | some a=>(Go.storeCells (a.add (sLen*ei.size)) us).run P w=.ok () w' | none=>w'=w)→(Builtin.append_ #[t,u] ty #[sv,xv]).run P w=.ok (.slice base (sLen+m) sCap) w':=by
  rintro base sLen sCap w' rfl hr hst
  cases base with
  | none =>
   simp only at hst; subst hst
   rcases hd1 with ⟨e',rfl⟩ | rfl <;> simp [Builtin.append_,hok.run_under,hoe.run_size,hok2.run_under,hlen,hr,hfc]
  | some a =>
   simp only at hst
   rcases hd1 with ⟨e',rfl⟩ | rfl <;> simp [Builtin.append_,hok.run_under,hoe.run_size,hok2.run_under,hlen,hr,hfc,hst]
 -- there is none
 have grow:∀ (base:Option Addr) (sLen sCap:Nat),sv=.slice base sLen sCap→sCap < sLen+m→(sLen+m)*ei.bytes≤70368744177664→0 < ei.bytes→(Builtin.append_ #[t,u] ty #[sv,xv]).run P w=((do
   let newCap ← choose (.appendCap (sLen+m) sCap e)
   askRoom (newCap*(← typeInfo e).bytes)
   let old ← Builtin.firstCells ei.size sLen sv
   let new ← Builtin.firstCells ei.size m xv
   let rest:=Builtin.zeroCells (← zeroValue e).cells (newCap - (sLen+m))
   pure (Value.slice (some (← newRow e (old++new++rest))) (sLen+m) newCap):Sem Value)).run P w:=by
  rintro base sLen sCap rfl hr hb hb0
  have h1:¬ (sLen+m≤sCap):=by omega
  have h2:¬ (j.bytes=0):=by rw [hoe.bytes]; omega
  have h3:¬ (281474976710656 < Builtin.nextslicecap (sLen+m) sCap*j.bytes):=by
   rw [hoe.bytes]
   have:=Nat.mul_le_mul_right ei.bytes (nextcap_le hr)
   rw [Nat.mul_assoc] at this
   omega
  rcases hd1 with ⟨e',rfl⟩ | rfl <;> simp [Builtin.append_,hok.run_under,hoe.run_size,hok2.run_under,hlen,h1,hoe.run_info,h2,h3]
 -- a new row
 have fresh:∀ (base:Option Addr) (sLen sCap:Nat) (olds:List AVal) (H1:AHeap),sv=.slice base sLen sCap→sCap < sLen+m→(sLen+m)*ei.bytes≤70368744177664→0 < ei.bytes →
   (∃ ods:List Value,(Builtin.firstCells ei.size sLen sv).run P w.drew=.ok ods.toArray w.drew∧VRels ρ olds ods)→(∀ c∈olds,c.isCell=true)→olds.length=sLen*ei.size →
   H1.next=H.next→(∀ i,i < H.next→ρ i=none→H1.obj i=H.obj i)→(∀ w1,HRel ρ B H w1→HRel ρ B H1 w1) →
   ∃ v' w',(Builtin.append_ #[t,u] ty #[sv,xv]).run P w=.ok v' w'∧Effect ρ B H w (.slice H.next 0 (sLen+m) (.room ei.size)) (H1.new (.cells (olds++news) true)) v' w':=by
  rintro base sLen sCap olds H1 he hr hb hb0 ⟨ods,ho1,ho2⟩ hoc hol hn1 hobj hrel
  obtain ⟨v',w',l,g1,g2,g3,g4⟩:=grow_run (P:=P) (ρ:=ρ) (w:=w) (B:=B) (H:=H) hoe hzs hzl hH ho2 husd hoc hnc hol hnl hr
   (H':=H1.new (.cells (olds++news) true)) (fun w1 h1=>(hrel w1 h1).new_ _) hy (by simp [AHeap.new,hn1]) (by simp [AHeap.new,hn1]) ho1 hfcd
  exact ⟨v',w',by rw [grow base sLen sCap he hr hb hb0]; exact g1,_,g2,Step.bind hy hn1 hobj g3 g4⟩
 have fin:∀ v' w',(Builtin.append_ #[t,u] ty #[sv,xv]).run P w=.ok v' w'→Effect ρ B H w v H' v' w'→∃ v' w',(Builtin.append_ #[t,u] ty #[sv,xv]).run P w=.ok v' w'∧Effect ρ B H w v H' v' w':=fun v' w' h1 h2=>⟨v',w',h1,h2⟩
 have zero_news:m=0→us=[]:=by
  intro h0
  have:=hus.length
  rw [hnl,h0,Nat.zero_mul] at this
  exact List.eq_nil_of_length_eq_zero this
 split at h
 ·simp only [VRel] at hs; subst hs
  split at h
  ·rename_i h0
   have h0:m=0:=h0
   injection h with h; injection h with h1 h2; subst h1; subst h2
   exact fin _ _ (room none 0 0 w rfl (by omega) rfl) ⟨ρ,by simp [VRel,h0],.refl hH⟩
  ·rename_i h0
   have h0:¬ m=0:=h0
   split at h
   ·rename_i hb
    injection h with h; injection h with h1 h2; subst h1; subst h2
    have:=fresh none 0 0 [] H rfl (by omega) (by rw [Nat.zero_add]; exact hb.1) hb.2 ⟨[],by simp [Builtin.firstCells],.nil⟩ (by simp) (by simp) rfl (fun _ _ _=>rfl) (fun _ h=>h)
    simpa using this
   ·cases h
 ·rename_i id off len cap
  split at h
  ·rename_i h0
   have h0:m=0:=h0
   injection h with h; injection h with h1 h2; subst h1; subst h2
   have hs0:=hs
   obtain ⟨l,p,c,hl,rfl,hle,_⟩:=hs.slice_inv
   refine fin _ _ (room (some p) len c w rfl (by omega) (by rw [zero_news h0]; rfl)) ⟨ρ,?_,.refl hH⟩
   rw [h0]; exact hs0
  ·rename_i h0
   have h0:¬ m=0:=h0
   split at h
   ·rename_i hb
    split at h
    ·rename_i n
     have hs0:=hs
     simp only [VRel] at hs
     obtain ⟨l,p,hl,rfl,hle,hp⟩:=hs
     split at h
     ·rename_i hfit
      have hfit:len+m≤n:=hfit
      obtain ⟨H2,hst,h⟩:=xA h
      injection h with h; injection h with h1 h2; subst h1; subst h2
      obtain ⟨c,hc,hst⟩:=xA hst
      split at hst
      ·rename_i hb2
       injection hst with hst; subst hst
       have hp:p=⟨l.b,l.o+off,none⟩:=by
        rcases hp with hp | hp
        ·exact hp
        ·exact absurd hp.1 (by omega)
       subst hp
       obtain ⟨g1,g2,g3⟩:=store_rel (P:=P) hH hl hc hus hnc hb2
       refine fin _ _ (room (some ⟨l.b,l.o+off,none⟩) len n _ rfl hfit ?_) ⟨ρ,?_,.upd hl g2 g3⟩
       ·simp only [qF]
        rw [Nat.add_assoc]; exact g1
       ·simp only [VRel]; exact ⟨l,_,hl,rfl,hfit,.inl rfl⟩
      ·cases hst
     ·rename_i hfit
      have hfit:¬ (len+m≤n):=hfit
      obtain ⟨⟨q1,q2⟩,hq,h⟩:=xA h
      injection h with h; injection h with h1 h2; subst h1; subst h2
      obtain ⟨k1,ods,k2,k3,k4,k5⟩:=taken_run (P:=P) hH.drew hq hs0
      have hq1:q1=len:=by
       simp only [Builtin.lenOf,Sem.run_pure] at k1
       injection k1 with k1; exact k1.symm
      subst hq1
      exact fresh _ _ n q2 H rfl (by omega) hb.1 hb.2 ⟨ods,k2,k3⟩ k4 k5 rfl (fun _ _ _=>rfl) (fun _ h=>h)
    ·rename_i sz'
     obtain ⟨c,hc,h⟩:=xA h
     split at h
     ·rename_i hcond
      injection h with h; injection h with h1 h2; subst h1; subst h2
      obtain ⟨rfl,hend,hsz0⟩:=hcond
      have hs0:=hs
      simp only [VRel] at hs
      obtain ⟨l,cc,p,hl,rfl,hle,hp⟩:=hs
      have hcr:=hH.rw hl hc
      have hcs:H.cells? id=some c:=by simp [AHeap.cells?,hcr.1]
      have hdl:(c.drop off).length=len*ei.size:=by simp; omega
      by_cases hfit:len+m≤cc
      ·have hp:p=l.o+off∧l.o+off+cc*ei.size≤l.n:=by rcases hp with hp | hp; exact hp; omega
       obtain ⟨rfl,hroom⟩:=hp
       have hrm:l.o+off+len*ei.size+news.length≤l.n:=by
        rw [hnl]
        have:=Nat.mul_le_mul_right ei.size hfit
        rw [Nat.add_mul] at this
        omega
       obtain ⟨g1,g2,g3⟩:=inplace_rel (P:=P) hH hl hc hus hnc hend hrm
       refine fin _ _ (room (some ⟨l.b,l.o+off,none⟩) len cc _ rfl hfit ?_) ⟨_,?_,Step.bind hy rfl (fun i _ hi=>?_) g2 g3⟩
       ·simp only [qF]; exact g1
       ·simp only [VRel]; exact ⟨⟨l.b,l.o+off,l.n⟩,cc,l.o+off,by simp [xT],rfl,hfit,.inl ⟨by simp,by simpa using hroom⟩⟩
       ·simp only [AHeap.upd]
        rw [if_neg]
        intro e; subst e; rw [hl] at hi; cases hi
      ·have htk2:taken H ei.size (.slice id off len (.room ei.size))=some (len,c.drop off):=by
        simp only [taken,hcs,bnd]
        rw [if_pos (by omega),List.take_of_length_le (by omega)]
       obtain ⟨k1,ods,k2,k3,k4,k5⟩:=taken_run (P:=P) hH.drew htk2 hs0
       refine fresh _ _ cc (c.drop off) (H.upd id none) rfl (by omega) hb.1 hb.2 ⟨ods,k2,k3⟩ k4 k5 rfl (fun i _ hi=>?_) (fun w1 h1=>h1.kill)
       simp only [AHeap.upd]
       rw [if_neg]
       intro e; subst e; rw [hl] at hi; cases hi
     ·split at h
      ·rename_i hcond
       injection h with h; injection h with h1 h2; subst h1; subst h2
       obtain ⟨rfl,hend,hsz0⟩:=hcond
       have hs0:=hs
       simp only [VRel] at hs
       obtain ⟨l,cc,p,hl,rfl,hle,hp⟩:=hs
       have hcr:=hH.rw hl hc
       have hcs:H.cells? id=some c:=by simp [AHeap.cells?,hcr.1]
       have hdl:((c.drop off).take (len*ei.size)).length=len*ei.size:=by simp; omega
       by_cases hfit:len+m≤cc
       ·have hp:p=l.o+off∧l.o+off+cc*ei.size≤l.n:=by rcases hp with hp | hp; exact hp; omega
        obtain ⟨rfl,hroom⟩:=hp
        have hrm:l.o+off+len*ei.size+news.length≤l.n:=by
         rw [hnl]
         have:=Nat.mul_le_mul_right ei.size hfit
         rw [Nat.add_mul] at this
         omega
        have hc2:(H.upd id (some (.cells (c.take (off+len*ei.size)) true))).rw? id=some (c.take (off+len*ei.size)):=by simp [AHeap.rw?,AHeap.upd]
        obtain ⟨g1,g2,g3⟩:=inplace_rel (P:=P) (hH.shrink hc (off+len*ei.size)) hl hc2 hus hnc (off:=off) (n:=len*ei.size) (by simp; omega) hrm
        have hup:((H.upd id (some (.cells (c.take (off+len*ei.size)) true))).upd id none).new (.cells ((c.take (off+len*ei.size)).drop off++news) true)=(H.upd id none).new (.cells ((c.drop off).take (len*ei.size)++news) true):=by
         rw [List.drop_take,Nat.add_sub_cancel_left]
         congr 1
         simp only [AHeap.upd]
         congr 1
         funext i
         split <;> rfl
        rw [hup] at g2
        refine fin _ _ (room (some ⟨l.b,l.o+off,none⟩) len cc _ rfl hfit ?_) ⟨_,?_,Step.bind hy rfl (fun i _ hi=>?_) g2 g3⟩
        ·simp only [qF]; exact g1
        ·simp only [VRel]; exact ⟨⟨l.b,l.o+off,l.n⟩,cc,l.o+off,by simp [xT],rfl,hfit,.inl ⟨by simp,by simpa using hroom⟩⟩
        ·simp only [AHeap.upd]
         rw [if_neg]
         intro e; subst e; rw [hl] at hi; cases hi
       ·have htk2:taken H ei.size (.slice id off len (.room ei.size))=some (len,(c.drop off).take (len*ei.size)):=by
         simp only [taken,hcs,bnd]
         rw [if_pos (by omega)]
        obtain ⟨k1,ods,k2,k3,k4,k5⟩:=taken_run (P:=P) hH.drew htk2 hs0
        refine fresh _ _ cc ((c.drop off).take (len*ei.size)) (H.upd id none) rfl (by omega) hb.1 hb.2 ⟨ods,k2,k3⟩ k4 k5 rfl (fun i _ hi=>?_) (fun w1 h1=>h1.kill)
        simp only [AHeap.upd]
        rw [if_neg]
        intro e; subst e; rw [hl] at hi; cases hi
      ·cases h
   ·cases h
 ·cases h

theorem map_rel (hH:HRel ρ B H w) {id:Nat} {l:Loc} {es es':List (AVal × AVal)} (hl:ρ id=some l) (hc:H.map? id=some es) {ents:Array MapEntry} {clock:Nat} (hent:EntRel ρ es' ents.toList) (w':World) (hw:w'.heap=w.heap.setIfInBounds l.b (.map ents clock)) (ho:w'.os=w.os) (ht:w'.tape=w.tape) (hout:w'.output=w.output) (hdr:w.drawn≤w'.drawn) (hborn:BornOk ents clock) :
  HRel ρ B (H.upd id (some (.amap es'))) w'∧Beneath B w w':=by
 obtain ⟨hobj,hB,_⟩:=hH.map hl hc
 have hlt:=(hH.dom id l hl).2
 have hsize:w'.heap.size=w.heap.size:=by rw [hw]; simp
 have hother:∀ k,k≠l.b→w'.heap[k]? = w.heap[k]? := by
  intro k hk
  rw [hw,Array.getElem?_setIfInBounds,if_neg (fun e=>hk e.symm)]
 have hat:w'.heap[l.b]? = some (.map ents clock):=by
  rw [hw,Array.getElem?_setIfInBounds,if_pos rfl,if_pos hlt]
 refine ⟨⟨fun i l2 e=>⟨(hH.dom i l2 e).1,by rw [hsize]; exact (hH.dom i l2 e).2⟩,fun i l2 o2 e1 e2=>?_,fun i i' l1 l2 o1 o2 e1 e2 hne h1 h2 h3 h4=>?_,by rw [hsize]; exact hH.base,top_upd hH hl _⟩,⟨⟨ho,ht,hout,by rw [hsize]; exact Nat.le_refl _,fun k hk=>hother k (by omega)⟩,hdr⟩⟩
 ·by_cases hi:i=id
  ·subst hi
   rw [hl] at e1; injection e1 with e1; subst e1
   simp only [AHeap.upd] at e2
   rw [if_pos trivial] at e2; injection e2 with e2; subst e2
   refine ⟨hB,ents,clock,hat,by have:=hent.1; simpa using this,fun i e he=>?_,hborn⟩
   obtain ⟨m,g1,g2⟩:=hent.2 i e he
   exact ⟨m,by simpa using g1,g2⟩
  ·simp only [AHeap.upd,if_neg hi] at e2
   have hne:l2.b≠l.b:=by
    by_cases hw:o2.own=true
    ·exact hH.inj i id l2 l o2 _ e1 hl hi e2 hobj hw rfl
    ·have:=hH.obj i l2 o2 e1 e2
     cases o2 with
     | cells c2 rw2 =>
      cases rw2 with
      | true=>exact absurd rfl hw
      | false=>have:=this.1; omega
     | amap _=>exact absurd rfl hw
   exact (hH.obj i l2 o2 e1 e2).mono (.refl _) (hother _ hne)
 ·have own:∀ j oj,(H.upd id (some (.amap es'))).obj j=some oj→∃ oj',H.obj j=some oj'∧(oj.own=true→oj'.own=true):=by
   intro j oj hj
   simp only [AHeap.upd] at hj
   split at hj
   ·rename_i hji; subst hji
    exact ⟨_,hobj,fun _=>rfl⟩
   ·exact ⟨oj,hj,fun h=>h⟩
  obtain ⟨q1,k1,k2⟩:=own i o1 h1
  obtain ⟨q2,k3,k4⟩:=own i' o2 h2
  exact hH.inj i i' l1 l2 q1 q2 e1 e2 hne k1 k3 (k2 h3) (k4 h4)

theorem flatEq_eq {ks:List FK}:∀ {xs ys:List AVal},yP ks xs ys=some true→xs=ys:=by
 induction ks with
 | nil=>intro xs ys h; cases xs <;> cases ys <;> simp [yP] at h; rfl
 | cons k ks ih =>
  intro xs ys h
  cases xs with
  | nil=>cases k <;> simp [yP] at h
  | cons x xs =>
  cases ys with
  | nil=>cases k <;> cases x <;> simp [yP] at h
  | cons y ys =>
   obtain ⟨q,r',h1,h2,h3⟩:=flatEq_cons h
   have hq:q=true∧r'=true:=by cases q <;> cases r' <;> simp at h3 <;> exact ⟨rfl,rfl⟩
   obtain ⟨rfl,rfl⟩:=hq
   rw [ih h2]
   cases k <;> cases x <;> first | (simp [yP] at h1; done) | skip
   all_goals cases y <;> first | (simp [yP] at h1; done) | skip
   ·simp only [yP] at h1
    split at h1
    ·rename_i hk; subst hk
     simp [bnd] at h1; subst h1; rfl
    ·cases h1
   ·simp [yP,bnd] at h1; subst h1; rfl
   ·simp [yP,bnd] at h1; subst h1; rfl
theorem keyEq_eq {kk:KeyK} {x y:AVal} (h:keyEq kk x y=some true):x=y:=by
 unfold keyEq at h
 split at h
 ·have:=flatEq_eq h; injection this
 ·rw [flatEq_eq h]
 ·cases h
theorem findKey_at {kk:KeyK} {x:AVal}:∀ (es:List (AVal × AVal)) (n:Nat) {i:Nat} {v:AVal},findKey kk x es n=some (some (i,v))→n≤i∧∃ e,es[i - n]? = some e∧e.1=x∧e.2=v
 | [],_,_,_,h=>by simp [findKey] at h
 | e :: es,n,i,v,h=>by
  obtain ⟨b,hb,h⟩:=xA h
  cases b with
  | true =>
   simp at h
   obtain ⟨rfl,rfl⟩:=h
   exact ⟨Nat.le_refl _,e,by simp,(keyEq_eq hb).symm,rfl⟩
  | false =>
   simp at h
   obtain ⟨h1,e',h2,h3⟩:=findKey_at es (n+1) h
   exact ⟨by omega,e',by rw [show i - n=(i - (n+1))+1 by omega]; simpa using h2,h3⟩
theorem keyStays_run (old new:Value) (w:World):∃ k w',(Instr.keyThatStays old new).run P w=.ok k w'∧(k=old∨k=new)∧w'.heap=w.heap∧w'.os=w.os∧w'.tape=w.tape∧w'.output=w.output∧w.drawn≤w'.drawn:=by
 unfold Instr.keyThatStays
 split
 ·exact ⟨new,w,rfl,.inr rfl,rfl,rfl,rfl,rfl,Nat.le_refl _⟩
 ·have hf : (Question.extern "map.whichKeyStays" 2).forced = false := rfl
  simp only [Sem.run_bind,run_choose_drew,hf,Bool.false_eq_true,if_false,Result.andThen_ok,Sem.run_pure]
  refine ⟨_,w.drew,rfl,?_,rfl,rfl,rfl,rfl,Nat.le_succ _⟩
  split
  ·exact .inr rfl
  ·exact .inl rfl
end
end Go.VAI

/- What writes memory,and calls,in one word; then any operation under its guard. -/
set_option linter.unusedVariables false
set_option linter.unusedSimpArgs false
namespace Go.VAI
open Go Go.RowKit

def CallOk (P:Program) (call:zN):Prop:=∀ (f:Nat) (args:List AVal) (H:AHeap) (v:AVal) (H':AHeap),call f args H=some (v,H') →
 (∃ fn c,P.funcs[f]? = some fn ∧ fn.body = some c ∧ (fn.name == "runtime.NumGoroutine") = false) ∧
 ∀ (ρ:Ren) (B:Nat) (w:World) (us:List Value),HRel ρ B H w→VRels ρ args us→Calls P f us.toArray w fun e w'=>∃ v',e=.returned v'∧Effect ρ B H w v H' v' w'

section
variable {P:Program} {ρ:Ren} {w:World} {t:xJ} {a:Act} {B:Nat} {H:AHeap} {tab:Tab} {o:Oper} {ao:AOp} {call:zN}

theorem callFunc_run {f : FuncId} {fn : Func} {c : Code} (h1 : P.funcs[f]? = some fn) (h2 : fn.body = some c) (h3 : (fn.name == "runtime.NumGoroutine") = false) (args : Array Value) : (callFunc f args).run P w = .ok (.enter f args) w := by
 simp only [callFunc,Sem.run_bind,run_program,Result.andThen_ok,h1,h3,h2,Option.isNone_some,Bool.false_eq_true,if_false,Sem.run_pure]

theorem eff_sound (hT:TabOk P tab) (hcall:CallOk P call) (hc:cop tab o.op=some ao) (hp:ao.cls=.eff) {v:AVal} {H':AHeap} (hv:aeff call ao t H=some (v,H')) (ht:TRel ρ t a.tmps) (hH:HRel ρ B H w) :
  RunsTo P o a w (fun v' w'=>Effect ρ B H w v H' v' w'):=by
 cases hop:o.op <;> rw [hop] at hc <;> simp only [cop] at hc <;> first | (cases hc; done) | skip
 case store ty x y =>
  obtain ⟨ti,h1,hc⟩:=xA hc; obtain ⟨x',h2,hc⟩:=xA hc; obtain ⟨y',h3,hc⟩:=xA hc
  injection hc with hc; subst hc
  obtain ⟨i,d,hok⟩:=yL (hT _ _ h1)
  have r1:=yM ht h2; have r2:=yM ht h3
  simp only [aeff] at hv
  obtain ⟨H2,hst,hv2⟩:=xA hv
  clear hv
  injection hv2 with hv2; injection hv2 with hv2 hv3; subst hv2; subst hv3
  have hv:=hst
  clear hst
  unfold astore at hv
  obtain ⟨vs,hvs,hv⟩:=xA hv
  split at hv
  ·rename_i hlen
   generalize x'.ev t=xv at hv r1
   split at hv
   ·rename_i id off
    obtain ⟨c,hcs,hv⟩:=xA hv
    split at hv
    ·rename_i hb
     injection hv with hv; subst hv
     obtain ⟨l,hl,he⟩:=r1.ptr_inv
     have hr:=cells_rel hvs r2
     obtain ⟨g1,g2,g3⟩:=store_rel (P:=P) hH hl hcs hr.1 hr.2 hb
     refine RunsTo.skip (w':=w.setCells l.b (l.o+off) (a.eval y).cells.toList) ?_ ⟨ρ,by simp only [VRel]; exact ⟨[],rfl,.nil⟩,.upd hl g2 g3⟩
     have hsz:¬ ((a.eval y).cells.size≠ti.size):=by
      rw [← Array.length_toList,hr.1.length]; omega
     simp only [execOp,hop,Instr.storeAt,Sem.run_bind,he,Instr.sureAddr,Sem.run_pure,Result.andThen_ok,storeVar,hok.run_size,if_neg hsz,g1]
    ·cases hv
   ·cases hv
  ·cases hv
 case mapUpdate ty m k x =>
  obtain ⟨ti,h1,hc⟩:=xA hc
  obtain ⟨i,d,hok⟩:=yL (hT _ _ h1)
  split at hc
  ·rename_i kt vt hd
   obtain ⟨kk,h2,hc⟩:=xA hc; obtain ⟨m',h3,hc⟩:=xA hc; obtain ⟨k',h4,hc⟩:=xA hc; obtain ⟨x',h5,hc⟩:=xA hc
   injection hc with hc; subst hc
   have:=tok_map hok hd; subst this
   have hkt:=keyTy_of hT h2
   have r1:=yM ht h3; have r2:=yM ht h4; have r3:=yM ht h5
   simp only [aeff] at hv
   obtain ⟨H2,hst0,hv2⟩:=xA hv
   clear hv
   injection hv2 with hv2; injection hv2 with hv2 hv3; subst hv2; subst hv3
   have hv:=hst0
   clear hst0
   generalize m'.ev t=mv at hv r1
   generalize k'.ev t=kv at hv r2
   generalize x'.ev t=xv at hv r3
   unfold uK at hv
   split at hv
   ·rename_i hik
    have hchk:=check_run (P:=P) (w:=w) hkt hik r2 false
    split at hv
    ·rename_i id
     obtain ⟨es,hes,hv⟩:=xA hv
     obtain ⟨r,hr,hv⟩:=xA hv
     simp only [VRel] at r1
     obtain ⟨l,hl,he⟩:=r1
     obtain ⟨_,_,ents,clock,hb,hsz,hent,hbo⟩:=hH.map hl hes
     have hER:EntRel ρ es ents.toList:=⟨by simpa using hsz,fun i e hi=>by
      obtain ⟨m,g1,g2⟩:=hent i e hi
      exact ⟨m,by simpa using g1,g2⟩⟩
     obtain ⟨r',e1,e2⟩:=find_run (P:=P) (w:=w) hkt r2 es ents.toList hER hr
     have hget:=MapKept.run_getObj_map (P:=P) hb
     split at hv
     ·rename_i n u
      injection hv with hv; subst hv
      cases r' with
      | none=>exact e2.elim
      | some q =>
       obtain ⟨n',u'⟩:=q
       obtain ⟨rfl,hu⟩:=e2
       obtain ⟨_,e0,he0,hek,_⟩:=findKey_at es 0 hr
       rw [Nat.sub_zero] at he0
       obtain ⟨m0,hm0,hmk,_⟩:=hER.2 n e0 he0
       rw [hek] at hmk
       obtain ⟨key,w1,hst,hkey,hw1,hw2,hw3,hw4,hw5⟩:=keyStays_run (P:=P) m0.key (a.eval k) w
       have hkr:VRel ρ kv key:=by rcases hkey with rfl | rfl; exact hmk; exact r2
       have hb1:w1.heap[l.b]? = some (.map ents clock):=by rw [hw1]; exact hb
       have hset:=MapKept.run_setObj_map (P:=P) (.map (ents.modify n fun e=>{ e with key,val:=a.eval x }) clock) hb1
       have hent':EntRel ρ (es.set n (kv,xv)) (ents.modify n fun e=>{ e with key,val:=a.eval x }).toList:=by
        refine ⟨by simpa using hsz,fun i e hi=>?_⟩
        rw [List.getElem?_set] at hi
        have hnl:n < es.length:=(List.getElem?_eq_some_iff.1 he0).1
        by_cases hin:n=i
        ·subst hin
         rw [if_pos rfl,if_pos hnl] at hi
         injection hi with hi; subst hi
         refine ⟨{ m0 with key,val:=a.eval x },?_,hkr,r3⟩
         rw [Array.getElem?_toList] at hm0
         rw [Array.getElem?_toList,Array.getElem?_modify,if_pos rfl,hm0]; rfl
        ·rw [if_neg hin] at hi
         obtain ⟨m1,g1,g2⟩:=hER.2 i e hi
         refine ⟨m1,?_,g2⟩
         rw [Array.getElem?_toList] at g1
         rw [Array.getElem?_toList,Array.getElem?_modify,if_neg hin]; exact g1
       have hbo':BornOk (ents.modify n fun e=>{ e with key,val:=a.eval x }) clock:=by
        have hm:(ents.modify n fun e=>{ e with key,val:=a.eval x }).toList.map (·.born)=ents.toList.map (·.born):=by
         refine List.ext_getElem? fun i=>?_
         rw [List.getElem?_map,List.getElem?_map,Array.getElem?_toList,Array.getElem?_toList,Array.getElem?_modify]
         split
         ·cases ents[i]? <;> rfl
         ·rfl
        refine ⟨fun m hm2=>?_,by rw [hm]; exact hbo.2⟩
        have h1:m.born∈ents.toList.map (·.born):=by rw [← hm]; exact List.mem_map_of_mem hm2
        obtain ⟨m0,h2,h3⟩:=List.mem_map.1 h1
        rw [← h3]; exact hbo.1 m0 h2
       obtain ⟨g1,g2⟩:=map_rel (clock:=clock) hH hl hes hent' { w1 with heap:=w1.heap.setIfInBounds l.b (.map (ents.modify n fun e=>{ e with key,val:=a.eval x }) clock) } (by rw [hw1]) hw2 hw3 hw4 hw5 hbo'
       refine RunsTo.skip ?_ ⟨ρ,by simp only [VRel]; exact ⟨[],rfl,.nil⟩,.upd hl g1 g2⟩
       rw [Array.getElem?_toList] at hm0
       simp only [execOp,hop,Instr.mapUpdate,Sem.run_bind,hok.run_under,Result.andThen_ok,he,hget,hchk,e1,hm0,Option.map_some,Option.getD_some,hst,hset,Sem.run_pure]
     ·injection hv with hv; subst hv
      cases r' with
      | some _=>exact e2.elim
      | none =>
       have hset:=MapKept.run_setObj_map (P:=P) (.map (ents.push { key:=a.eval k,val:=a.eval x,born:=clock }) (clock+1)) hb
       have hent':EntRel ρ (es++[(kv,xv)]) (ents.push { key:=a.eval k,val:=a.eval x,born:=clock }).toList:=by
        refine ⟨by simp [hsz],fun i e hi=>?_⟩
        by_cases hil:i < es.length
        ·rw [List.getElem?_append_left hil] at hi
         obtain ⟨m1,g1,g2⟩:=hER.2 i e hi
         refine ⟨m1,?_,g2⟩
         rw [Array.toList_push,List.getElem?_append_left (by have:=hER.1; omega)]; exact g1
        ·rw [List.getElem?_append_right (by omega)] at hi
         have hi0:i - es.length=0:=by
          have:=(List.getElem?_eq_some_iff.1 hi).1
          simp at this; omega
         rw [hi0] at hi; simp at hi; subst hi
         refine ⟨{ key:=a.eval k,val:=a.eval x,born:=clock },?_,r2,r3⟩
         rw [Array.toList_push,List.getElem?_append_right (by have:=hER.1; omega),hER.1,hi0]; rfl
       have hbo':BornOk (ents.push { key:=a.eval k,val:=a.eval x,born:=clock }) (clock+1):=by
        refine ⟨fun m hm=>?_,?_⟩
        ·rw [Array.toList_push,List.mem_append] at hm
         rcases hm with hm | hm
         ·have:=hbo.1 m hm; omega
         ·simp at hm; subst hm; simp
        ·rw [Array.toList_push,List.map_append,List.nodup_append]
         refine ⟨hbo.2,by simp,fun x hx y hy e=>?_⟩
         simp at hy
         obtain ⟨m0,h2,h3⟩:=List.mem_map.1 hx
         have:=hbo.1 m0 h2
         omega
       obtain ⟨g1,g2⟩:=map_rel (clock:=clock+1) hH hl hes hent' { w with heap:=w.heap.setIfInBounds l.b (.map (ents.push { key:=a.eval k,val:=a.eval x,born:=clock }) (clock+1)) } rfl rfl rfl rfl (Nat.le_refl _) hbo'
       refine RunsTo.skip ?_ ⟨ρ,by simp only [VRel]; exact ⟨[],rfl,.nil⟩,.upd hl g1 g2⟩
       simp only [execOp,hop,Instr.mapUpdate,Sem.run_bind,hok.run_under,Result.andThen_ok,he,hget,hchk,e1,hset,Sem.run_pure]
    ·cases hv
   ·cases hv
  ·cases hc
 case call c =>
  have bi:∀ (b:Builtin),c.callee=.builtin b→execOp a.eval o=builtin b c.argTypes o.type (c.args.map fun | .const _=>true | _=>false) (c.args.map a.eval):=by
   intro b hb
   simp only [execOp,hop,resolve,hb]
   rfl
  unfold ccall at hc
  split at hc
  ·split at hc
   ·obtain ⟨_,_,hc⟩:=xA hc; obtain ⟨_,_,hc⟩:=xA hc
    split at hc
    ·injection hc with hc; subst hc; simp [AOp.cls] at hp
    ·injection hc with hc; subst hc; simp [AOp.cls] at hp
    ·injection hc with hc; subst hc; simp [AOp.cls] at hp
    ·cases hc
   ·cases hc
  ·rename_i hcal
   have hb:=bi _ hcal
   split at hc
   ·rename_i s x ty uy hargs htys
    obtain ⟨ti,h1,hc⟩:=xA hc; obtain ⟨ui,h2,hc⟩:=xA hc
    have ha:c.args=#[s,x]:=by rw [← Array.toArray_toList (xs:=c.args),hargs]
    have hta:c.argTypes=#[ty,uy]:=by rw [← Array.toArray_toList (xs:=c.argTypes),htys]
    obtain ⟨i,d,hok⟩:=yL (hT _ _ h1)
    obtain ⟨i2,d1,hok2⟩:=yL (hT _ _ h2)
    have main:∀ (e:TypeId),ti.desc=.slice e→((∃ e',ui.desc=.slice e')∨ui.desc=.str)→(bnd (tab e) fun ei=>bnd ei.zero fun zs=>bnd (cod s) fun a=>bnd (cod x) fun b=>if zs.length=ei.size then some (AOp.append ei.size ei.bytes a b) else none)=some ao →
      RunsTo P o a w (fun v' w'=>Effect ρ B H w v H' v' w'):=by
     intro e hd hd2 hc
     obtain ⟨ei,h3,hc⟩:=xA hc; obtain ⟨zs,h4,hc⟩:=xA hc; obtain ⟨s',h5,hc⟩:=xA hc; obtain ⟨x',h6,hc⟩:=xA hc
     split at hc
     ·rename_i hzl
      injection hc with hc; subst hc
      obtain ⟨j,d2,hoe⟩:=yL (hT _ _ h3)
      simp only [aeff] at hv
      obtain ⟨v',w',g1,g2⟩:=append_run (P:=P) hok hd hok2 hd2 hoe h4 hzl hH hv (yM ht h5) (yM ht h6) o.type
      refine RunsTo.value ?_ g2
      rw [hb,ha,hta]
      simp only [builtin,List.map_toArray,List.map_cons,List.map_nil,Sem.run_bind,g1,Result.andThen_ok,Sem.run_pure]
     ·cases hc
    split at hc
    ·rename_i e e' hd hd2; exact main e hd (.inl ⟨e',hd2⟩) hc
    ·rename_i e hd hd2; exact main e hd (.inr hd2) hc
    ·cases hc
   ·cases hc
  ·obtain ⟨_,_,hc⟩:=xA hc; injection hc with hc; subst hc; simp [AOp.cls] at hp
  ·obtain ⟨_,_,hc⟩:=xA hc; injection hc with hc; subst hc; simp [AOp.cls] at hp
  ·rename_i f hcal
   obtain ⟨l,h1,hc⟩:=xA hc; injection hc with hc; subst hc
   simp only [aeff] at hv
   obtain ⟨⟨fn,cd,k1,k2,k3⟩,hcl⟩:=hcall _ _ _ _ _ hv
   have hargs:=cods_rel ht h1
   have hrun:(execOp a.eval o).run P w=.ok (.enter f (c.args.toList.map a.eval).toArray) w:=by
    have:c.args.map a.eval=(c.args.toList.map a.eval).toArray:=Array.ext' (by simp)
    simp only [execOp,hop,resolve,hcal,Act.eval,Deferred.ofValue,Sem.run_bind,Sem.run_pure,Result.andThen_ok,invoke]
    rw [this]
    simpa using callFunc_run k1 k2 k3 _
   exact RunsTo.enter hrun (hcl ρ B w _ hH hargs)
  ·rename_i f hcal
   obtain ⟨l,h1,hc⟩:=xA hc; injection hc with hc; subst hc
   simp only [aeff] at hv
   have hargs:=cods_rel ht h1
   have hf:VRel ρ ((AOpd.tmp f).ev t) (a.eval (.tmp f)):=ht.2 f
   generalize (AOpd.tmp f).ev t=fv at hv hf
   split at hv
   ·rename_i g fst cap
    obtain ⟨⟨fn,cd,k1,k2,k3⟩,hcl⟩:=hcall _ _ _ _ _ hv
    obtain ⟨xs,ys,he,g1,g2⟩:=hf.func_inv
    have hrun:(execOp a.eval o).run P w=.ok (.enter g (xs++c.args.toList.map a.eval++ys).toArray) w:=by
     have:c.args.map a.eval=(c.args.toList.map a.eval).toArray:=Array.ext' (by simp)
     simp only [execOp,hop,resolve,hcal,he,Deferred.ofValue,Sem.run_bind,Sem.run_pure,Result.andThen_ok,invoke]
     rw [this]
     have:=callFunc_run (w:=w) k1 k2 k3 (xs.toArray++(c.args.toList.map a.eval).toArray++ys.toArray)
     rw [this]
     congr 2
     apply Array.ext'; simp
    exact RunsTo.enter hrun (hcl ρ B w _ hH ((g1.append hargs).append g2))
   ·cases hv
  ·cases hc
 case move x=>obtain ⟨_,_,hc⟩:=xA hc; injection hc with hc; subst hc; simp [AOp.cls] at hp
 case assign x=>obtain ⟨_,_,hc⟩:=xA hc; injection hc with hc; subst hc; simp [AOp.cls] at hp
 case pick c x y=>obtain ⟨_,_,hc⟩:=xA hc; obtain ⟨_,_,hc⟩:=xA hc; obtain ⟨_,_,hc⟩:=xA hc; injection hc with hc; subst hc; simp [AOp.cls] at hp
 case alloc e=>obtain ⟨_,_,hc⟩:=xA hc; obtain ⟨_,_,hc⟩:=xA hc; injection hc with hc; subst hc; simp [AOp.cls] at hp
 case box e x=>obtain ⟨_,_,hc⟩:=xA hc; obtain ⟨_,_,hc⟩:=xA hc; injection hc with hc; subst hc; simp [AOp.cls] at hp
 case build ty parts =>
  obtain ⟨_,_,hc⟩:=xA hc; obtain ⟨_,_,hc⟩:=xA hc
  split at hc
  ·obtain ⟨_,_,hc⟩:=xA hc; obtain ⟨_,_,hc⟩:=xA hc; injection hc with hc; subst hc; simp [AOp.cls] at hp
  ·obtain ⟨_,_,hc⟩:=xA hc; obtain ⟨_,_,hc⟩:=xA hc; injection hc with hc; subst hc; simp [AOp.cls] at hp
  ·cases hc
 case buildSlice ty len parts =>
  obtain ⟨_,_,hc⟩:=xA hc
  split at hc
  ·obtain ⟨_,_,hc⟩:=xA hc; obtain ⟨_,_,hc⟩:=xA hc; obtain ⟨_,_,hc⟩:=xA hc
   split at hc
   ·injection hc with hc; subst hc; simp [AOp.cls] at hp
   ·cases hc
  ·cases hc
 case load ty x =>
  obtain ⟨_,_,hc⟩:=xA hc; obtain ⟨_,_,hc⟩:=xA hc
  split at hc <;> (injection hc with hc; subst hc; simp [AOp.cls] at hp)
 case nilCheck x=>obtain ⟨_,_,hc⟩:=xA hc; injection hc with hc; subst hc; simp [AOp.cls] at hp
 case binOp op ty x y ty2=>obtain ⟨_,_,hc⟩:=xA hc; obtain ⟨_,_,hc⟩:=xA hc; obtain ⟨_,_,hc⟩:=xA hc; obtain ⟨_,_,hc⟩:=xA hc; injection hc with hc; subst hc; simp [AOp.cls] at hp
 case unOp op ty x=>obtain ⟨_,_,hc⟩:=xA hc; injection hc with hc; subst hc; simp [AOp.cls] at hp
 case convert src dst x =>
  obtain ⟨_,_,hc⟩:=xA hc; obtain ⟨_,_,hc⟩:=xA hc; obtain ⟨_,_,hc⟩:=xA hc
  split at hc
  ·injection hc with hc; subst hc; simp [AOp.cls] at hp
  ·injection hc with hc; subst hc; simp [AOp.cls] at hp
  ·obtain ⟨_,_,hc⟩:=xA hc
   split at hc
   ·injection hc with hc; subst hc; simp [AOp.cls] at hp
   ·cases hc
  ·obtain ⟨_,_,hc⟩:=xA hc
   split at hc
   ·injection hc with hc; subst hc; simp [AOp.cls] at hp
   ·cases hc
  ·cases hc
 case makeInterface ty x =>
  obtain ⟨_,_,hc⟩:=xA hc; obtain ⟨_,_,hc⟩:=xA hc
  split at hc
  ·cases hc
  ·injection hc with hc; subst hc; simp [AOp.cls] at hp
 case makeFunc fn f c=>obtain ⟨_,_,hc⟩:=xA hc; obtain ⟨_,_,hc⟩:=xA hc; injection hc with hc; subst hc; simp [AOp.cls] at hp
 case makeMap ty r =>
  obtain ⟨_,_,hc⟩:=xA hc
  split at hc
  ·split at hc
   ·injection hc with hc; subst hc; simp [AOp.cls] at hp
   ·cases hc
  ·cases hc
 case makeSlice ty l c =>
  obtain ⟨_,_,hc⟩:=xA hc
  split at hc
  ·obtain ⟨_,_,hc⟩:=xA hc; obtain ⟨_,_,hc⟩:=xA hc; obtain ⟨_,_,hc⟩:=xA hc; obtain ⟨_,_,hc⟩:=xA hc
   split at hc
   ·injection hc with hc; subst hc; simp [AOp.cls] at hp
   ·cases hc
  ·cases hc
 case slice ty x lo hi mx =>
  obtain ⟨_,_,hc⟩:=xA hc; obtain ⟨_,_,hc⟩:=xA hc; obtain ⟨_,_,hc⟩:=xA hc; obtain ⟨_,_,hc⟩:=xA hc; obtain ⟨_,_,hc⟩:=xA hc
  split at hc
  ·obtain ⟨_,_,hc⟩:=xA hc; injection hc with hc; subst hc; simp [AOp.cls] at hp
  ·split at hc
   ·injection hc with hc; subst hc; simp [AOp.cls] at hp
   ·cases hc
  ·cases hc
 case fieldAddr s x f =>
  obtain ⟨_,_,hc⟩:=xA hc
  split at hc
  ·obtain ⟨_,_,hc⟩:=xA hc; obtain ⟨_,_,hc⟩:=xA hc; obtain ⟨_,_,hc⟩:=xA hc
   split at hc
   ·cases hc
   ·injection hc with hc; subst hc; simp [AOp.cls] at hp
  ·cases hc
 case indexAddr ty x ix =>
  obtain ⟨_,_,hc⟩:=xA hc; obtain ⟨_,_,hc⟩:=xA hc; obtain ⟨_,_,hc⟩:=xA hc
  split at hc
  ·obtain ⟨_,_,hc⟩:=xA hc; injection hc with hc; subst hc; simp [AOp.cls] at hp
  ·obtain ⟨_,_,hc⟩:=xA hc; injection hc with hc; subst hc; simp [AOp.cls] at hp
  ·cases hc
 case field ty x f =>
  obtain ⟨_,_,hc⟩:=xA hc
  split at hc
  ·obtain ⟨_,_,hc⟩:=xA hc; obtain ⟨_,_,hc⟩:=xA hc; obtain ⟨_,_,hc⟩:=xA hc; injection hc with hc; subst hc; simp [AOp.cls] at hp
  ·cases hc
 case index ty x ix =>
  obtain ⟨_,_,hc⟩:=xA hc; obtain ⟨_,_,hc⟩:=xA hc; obtain ⟨_,_,hc⟩:=xA hc
  split at hc
  ·obtain ⟨_,_,hc⟩:=xA hc; injection hc with hc; subst hc; simp [AOp.cls] at hp
  ·injection hc with hc; subst hc; simp [AOp.cls] at hp
  ·cases hc
 case lookup ty x ix ok =>
  obtain ⟨_,_,hc⟩:=xA hc
  split at hc
  ·obtain ⟨_,_,hc⟩:=xA hc; obtain ⟨_,_,hc⟩:=xA hc; obtain ⟨_,_,hc⟩:=xA hc; obtain ⟨_,_,hc⟩:=xA hc; obtain ⟨_,_,hc⟩:=xA hc; injection hc with hc; subst hc; simp [AOp.cls] at hp
  ·cases hc
 case extract x n=>obtain ⟨_,_,hc⟩:=xA hc; injection hc with hc; subst hc; simp [AOp.cls] at hp

theorem aop_sound (hT:TabOk P tab) (hcall:CallOk P call) (hc:cop tab o.op=some ao) {v:AVal} {H':AHeap} (hv:aop call ao t H=some (v,H')) (ht:TRel ρ t a.tmps) (hH:HRel ρ B H w) :
  RunsTo P o a w (fun v' w'=>Effect ρ B H w v H' v' w'):=by
 unfold aop at hv
 cases hcl:ao.cls <;> rw [hcl] at hv <;> simp only at hv
 ·obtain ⟨v1,h1,h2⟩:=xA hv
  injection h2 with h2; injection h2 with h2 h3; subst h2; subst h3
  obtain ⟨v',g1,g2⟩:=pure_sound (w:=w) hT hc hcl h1 ht
  exact RunsTo.value g1 ⟨ρ,g2,.refl hH⟩
 ·obtain ⟨v1,h1,h2⟩:=xA hv
  injection h2 with h2; injection h2 with h2 h3; subst h2; subst h3
  obtain ⟨v',w',g1,g2,g3,g4⟩:=read_sound hT hc hcl h1 ht hH
  exact RunsTo.value g1 ⟨ρ,g2,⟨.refl _,g3,g4,fun _ h1 h2=>absurd h1 h2,Nat.le_refl _,fun _ _ _=>rfl⟩⟩
 ·obtain ⟨⟨obj,mk⟩,h1,h2⟩:=xA hv
  injection h2 with h2; injection h2 with h2 h3; subst h2; subst h3
  have hy:=hH.fresh
  obtain ⟨l,v',w',g1,g2,g3,g4⟩:=alloc_sound (y:=H.next) hT hc hcl h1 ht (hH.new_ obj) hy (by simp [AHeap.new]) (by simp [AHeap.new])
  exact RunsTo.value g1 ⟨_,g2,Step.bind hy rfl (fun _ _ _=>rfl) g3 g4⟩
 ·exact eff_sound hT hcall hc hcl hv ht hH
end
end Go.VAI

/- Operations under their guards; regions that go in the order of the text. -/
set_option linter.unusedVariables false
set_option linter.unusedSimpArgs false
namespace Go.VAI
open Go Go.RowKit

def coper (tab:Tab) (ops:Array Oper) (o:Oper):Option AOper :=
 bnd (cop tab o.op) fun ao =>
 match o.guard with
 | none=>some ⟨o.dst,ao,none⟩
 | some (j,want)=>bnd ops[j]? fun oj=>bnd oj.dst fun s=>some ⟨o.dst,ao,some (s,want)⟩
def copers (tab:Tab) (ops:Array Oper):List Oper→Option (List AOper)
 | []=>some []
 | o :: l=>bnd (coper tab ops o) fun a=>bnd (copers tab ops l) fun as=>some (a :: as)

section
variable {P:Program} {ρ:Ren} {w:World} {t:xJ} {a:Act} {B:Nat} {H:AHeap} {tab:Tab} {o:Oper} {ao:AOper} {call:zN} {ops:Array Oper}

theorem uR (h:coper tab ops o=some ao):ao.dst=o.dst∧cop tab o.op=some ao.op∧((o.guard=none∧ao.guard=none)∨∃ j want oj s,o.guard=some (j,want)∧ops[j]? = some oj∧oj.dst=some s∧ao.guard=some (s,want)):=by
 obtain ⟨aop,h1,h⟩:=xA h
 split at h
 ·rename_i hg
  injection h with h; subst h
  exact ⟨rfl,h1,.inl ⟨hg,rfl⟩⟩
 ·rename_i j want hg
  obtain ⟨oj,h2,h⟩:=xA h
  obtain ⟨s,h3,h⟩:=xA h
  injection h with h; subst h
  exact ⟨rfl,h1,.inr ⟨j,want,oj,s,hg,h2,h3,rfl⟩⟩

theorem guard_run (hc:coper tab ops o=some ao) (ht:TRel ρ t a.tmps) :
  (ao.guard=none∧Region.wanted o (yielded ops a.tmps)=true)∨∃ s want,ao.guard=some (s,want) ∧
   ((∀ b,yA t s=.bool b→Region.wanted o (yielded ops a.tmps)=(b == want))∧(yA t s=.tuple []→Region.wanted o (yielded ops a.tmps)=false)):=by
 obtain ⟨_,_,hg⟩:=uR hc
 rcases hg with ⟨h1,h2⟩ | ⟨j,want,oj,s,h1,h2,h3,h4⟩
 ·exact .inl ⟨h2,by simp [Region.wanted,h1]⟩
 ·refine .inr ⟨s,want,h4,fun b hb=>?_,fun hb=>?_⟩
  ·have:=ht.2 s
   rw [hb] at this
   have hv:=this.bool_inv
   have hs:a.tmps[s]? = some (.bool b):=by
    rw [Array.getD_eq_getD_getElem?] at hv
    cases he:a.tmps[s]? with
    | none=>rw [he] at hv; cases hv
    | some x=>rw [he] at hv; simp at hv; rw [hv]
   simp only [Region.wanted,h1,yielded,h2,Option.bind_some,h3,hs]
   cases b <;> cases want <;> rfl
  ·have:=ht.2 s
   rw [hb] at this
   obtain ⟨x,hx,hr⟩:=this.tuple_inv
   have hx0:=hr.nil_inv; subst hx0
   have hs:a.tmps[s]? = none∨a.tmps[s]? = some (.tuple #[]):=by
    rw [Array.getD_eq_getD_getElem?] at hx
    cases he:a.tmps[s]? with
    | none=>exact .inl rfl
    | some x=>rw [he] at hx; simp at hx; rw [hx]; exact .inr rfl
   simp only [Region.wanted,h1,yielded,h2,Option.bind_some,h3]
   rcases hs with hs | hs <;> rw [hs] <;> cases want <;> rfl

theorem undef_rel:VRel ρ (.tuple []) undef:=by simp only [VRel]; exact ⟨[],rfl,.nil⟩

def GRuns (P:Program) (ops:Array Oper) (o:Oper) (a:Act) (w:World) (R:Value→World→Prop):Prop :=
 ∀ (next:Act→World→Prop) (Q:Exit→Act→World→Prop),(∀ v' w',R v' w'→next (a.put o.dst v') w') →
  if Region.wanted o (yielded ops a.tmps) then o.wp P a w next Q∨(o.asks P a w∧LetsOut Q) else next (a.put o.dst undef) w

theorem gop_sound (hT:TabOk P tab) (hcall:CallOk P call) (hc:coper tab ops o=some ao) {v:AVal} {H':AHeap} (hv:gop call ao t H=some (v,H')) (ht:TRel ρ t a.tmps) (hH:HRel ρ B H w) :
  GRuns P ops o a w (fun v' w'=>Effect ρ B H w v H' v' w'):=by
 intro next Q hn
 have hci:=uR hc
 unfold gop at hv
 have run:aop call ao.op t H=some (v,H')→o.wp P a w next Q:=fun h=>aop_sound hT hcall hci.2.1 h ht hH next Q hn
 rcases guard_run hc ht with ⟨h1,h2⟩ | ⟨s,want,h1,h2,h3⟩
 ·rw [h1] at hv
  rw [if_pos h2]
  exact .inl (run hv)
 ·rw [h1] at hv
  simp only at hv
  split at hv
  ·rename_i b hb
   rw [h2 b hb]
   split at hv
   ·rename_i hbw
    rw [if_pos (by simpa using hbw)]
    exact .inl (run hv)
   ·rename_i hbw
    rw [if_neg (by simpa using hbw)]
    injection hv with hv; injection hv with hv1 hv2; subst hv1; subst hv2
    exact hn undef w ⟨ρ,undef_rel,.refl hH⟩
  ·rename_i hb
   rw [h3 hb]
   injection hv with hv; injection hv with hv1 hv2; subst hv1; subst hv2
   exact hn undef w ⟨ρ,undef_rel,.refl hH⟩
  ·cases hv

theorem uG (a:Act) (d:Option Tmp) (v:Value):(a.put d v).defers=a.defers:=by cases d <;> rfl

theorem runOps_sound {α:Type} (hT:TabOk P tab) (hcall:CallOk P call) {Q:Exit→Act→World→Prop} {r:α} {k:xJ→AHeap→Option α} :
  ∀ (l:List Oper) (al:List AOper) (ρ:Ren) (t:xJ) (H:AHeap) (a:Act) (w:World),copers tab ops l=some al→runOps call al t H k=some r→TRel ρ t a.tmps→HRel ρ B H w →
   (∀ t' H' ρ' a' w',k t' H'=some r→TRel ρ' t' a'.tmps→Step ρ B H w ρ' H' w'→a'.defers=a.defers→Q .normal a' w')→wpList P ops Q l a w
 | [],al,ρ,t,H,a,w,hc,hr,ht,hH,hk=>by
  simp [copers] at hc; subst hc
  exact hk t H ρ a w hr ht (.refl hH) rfl
 | o :: l,al,ρ,t,H,a,w,hc,hr,ht,hH,hk=>by
  obtain ⟨ao,h1,hc⟩:=xA hc
  obtain ⟨as,h2,hc⟩:=xA hc
  injection hc with hc; subst hc
  obtain ⟨⟨v,H1⟩,h3,hr⟩:=xA hr
  have hd:=(uR h1).1
  refine gop_sound hT hcall h1 h3 ht hH (wpList P ops Q l) Q (fun v' w'=>?_)
  rintro ⟨ρ',hv,hs⟩
  refine runOps_sound hT hcall l as ρ' (tput t ao.dst v) H1 (a.put o.dst v') w' h2 hr (by rw [hd]; exact (ht.mono hs.le).put _ hv) hs.heap (fun t' H' ρ2 a' w2 g1 g2 g3 g4=>?_)
  exact hk t' H' ρ2 a' w2 g1 g2 (hs.trans g3) (by rw [g4,uG])
end

def AOpd.slots:AOpd→List Nat
 | .tmp i=>[i]
 | .con _=>[]
def oslots:Option AOpd→List Nat
 | none=>[]
 | some x=>x.slots
def AOp.reads:AOp→List Nat
 | .move x | .box _ x | .load1 x | .loadN _ x | .nilCheck x | .un _ x | .toInt _ x | .same x | .sameBytes x | .bytesToStr x | .mkIface _ x | .fieldAddr _ x | .field _ _ _ x | .extract x _ | .lenS x | .lenStr x | .lenM x=>x.slots
 | .pick c a b=>c.slots++a.slots++b.slots
 | .alloc _ | .mkMap=>[]
 | .build _ ps | .buildSlice _ _ ps=>ps.flatMap fun p=>p.2.2.slots
 | .store _ x v=>x.slots++v.slots
 | .bin _ _ x y | .mkSlice _ _ x y | .indexAddrS _ x y | .indexAddrA _ _ x y | .indexA _ _ _ x y | .indexStr x y | .append _ _ x y=>x.slots++y.slots
 | .lookup _ _ x y _=>x.slots++y.slots
 | .mkFunc _ a b=>(a++b).flatMap AOpd.slots
 | .slice _ x lo hi mx=>x.slots++oslots lo++oslots hi++oslots mx
 | .sliceStr x lo hi=>x.slots++oslots lo++oslots hi
 | .mapUpdate _ m k v=>m.slots++k.slots++v.slots
 | .max xs | .min xs=>xs.flatMap AOpd.slots
 | .call _ args=>args.flatMap AOpd.slots
 | .callv f args=>f.slots++args.flatMap AOpd.slots
def AOper.reads (o:AOper):List Nat :=
 match o.guard with
 | none=>o.op.reads
 | some (s,_)=>s :: o.op.reads

section
variable {t u:xJ}
theorem vN {x:AOpd} (h:∀ s∈x.slots,yA t s=yA u s):x.ev t=x.ev u:=by
 cases x with
 | tmp i=>exact h i (by simp [AOpd.slots])
 | con _=>rfl
theorem evs_congr {l:List AOpd} (h:∀ s∈l.flatMap AOpd.slots,yA t s=yA u s):evs t l=evs u l:=by
 induction l with
 | nil=>rfl
 | cons x l ih =>
  simp only [evs,List.map_cons] at ih ⊢
  rw [vN (fun s hs=>h s (by simp [hs])),ih (fun s hs=>h s (by simp at hs ⊢; exact .inr hs))]
theorem evp_congr {l:List (Nat × Nat × AOpd)} (h:∀ s∈l.flatMap (fun p=>p.2.2.slots),yA t s=yA u s):evp t l=evp u l:=by
 induction l with
 | nil=>rfl
 | cons x l ih =>
  simp only [evp,List.map_cons] at ih ⊢
  rw [vN (fun s hs=>h s (by simp [hs])),ih (fun s hs=>h s (by simp at hs ⊢; exact .inr hs))]
theorem evo_congr {x:Option AOpd} (h:∀ s∈oslots x,yA t s=yA u s):x.map (AOpd.ev t)=x.map (AOpd.ev u):=by
 cases x with
 | none=>rfl
 | some x=>simp only [Option.map_some]; rw [vN h]
theorem aop_congr {call:zN} {o:AOp} {H:AHeap} (h:∀ s∈o.reads,yA t s=yA u s):aop call o t H=aop call o u H∧wJ o t=wJ o u:=by
 cases o <;> simp only [AOp.reads,List.mem_append] at h
 all_goals first
  | (have e:=vN h; simp only [aop,AOp.cls,zU,vP,wJ,aeff,e,and_self]; done)
  | (have e1:=vN (fun s hs=>h s (.inl hs)); have e2:=vN (fun s hs=>h s (.inr hs)); simp only [aop,AOp.cls,zU,vP,wJ,aeff,e1,e2,and_self]; done)
  | (have e1:=vN (fun s hs=>h s (.inl (.inl hs))); have e2:=vN (fun s hs=>h s (.inl (.inr hs))); have e3:=vN (fun s hs=>h s (.inr hs)); simp only [aop,AOp.cls,zU,vP,wJ,aeff,e1,e2,e3,and_self]; done)
  | (have e:=evs_congr h; simp only [aop,AOp.cls,zU,vP,wJ,aeff,e,and_self]; done)
  | (have e:=evp_congr h; simp only [aop,AOp.cls,zU,vP,wJ,aeff,e,and_self]; done)
  | (simp only [aop,AOp.cls,zU,vP,wJ,aeff,and_self]; done)
  | (have e1:=vN (fun s hs=>h s (.inl hs)); have e2:=evs_congr (fun s hs=>h s (.inr hs)); simp only [aop,AOp.cls,zU,vP,wJ,aeff,e1,e2,and_self]; done)
  | (have e1:=vN (fun s hs=>h s (.inl (.inl (.inl hs)))); have e2:=evo_congr (fun s hs=>h s (.inl (.inl (.inr hs)))); have e3:=evo_congr (fun s hs=>h s (.inl (.inr hs))); have e4:=evo_congr (fun s hs=>h s (.inr hs)); simp only [aop,AOp.cls,zU,vP,wJ,aeff,e1,e2,e3,e4,and_self]; done)
  | (have e1:=vN (fun s hs=>h s (.inl (.inl hs))); have e2:=evo_congr (fun s hs=>h s (.inl (.inr hs))); have e3:=evo_congr (fun s hs=>h s (.inr hs)); simp only [aop,AOp.cls,zU,vP,wJ,aeff,e1,e2,e3,and_self]; done)
  | skip
 case mkFunc fn x y =>
  have e1:=evs_congr (t:=t) (u:=u) (l:=x) (fun s hs=>h s (by simp at hs ⊢; exact .inl hs))
  have e2:=evs_congr (t:=t) (u:=u) (l:=y) (fun s hs=>h s (by simp at hs ⊢; exact .inr hs))
  simp only [aop,AOp.cls,zU,vP,wJ,aeff,e1,e2,and_self]
theorem gop_congr {call:zN} {o:AOper} {H:AHeap} (h:∀ s∈o.reads,yA t s=yA u s):gop call o t H=gop call o u H:=by
 unfold AOper.reads at h
 unfold gop
 split
 ·rename_i hg
  rw [hg] at h
  exact (aop_congr h).1
 ·rename_i s want hg
  rw [hg] at h
  simp only [List.mem_cons] at h
  rw [h s (.inl rfl),(aop_congr (call:=call) (H:=H) (fun x hx=>h x (.inr hx))).1]
end
end Go.VAI
