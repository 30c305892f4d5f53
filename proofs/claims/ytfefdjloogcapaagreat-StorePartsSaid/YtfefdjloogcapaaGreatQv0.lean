/- A small machine over plain values, and its soundness over the model: part 1. -/
import Derived.Control
import Derived.Calls
import Derived.Laws.World
import Derived.Laws.Sem
import Derived.Laws.Cells
import Derived.Laws.CopyRow
import Derived.Tactics
import Derived.RowKit
import Derived.Laws.Strings
import Derived.Laws.StructEq
import Derived.Laws.BytesArg
import Derived.Laws.Tables
import Derived.Laws.AppendOwn
import Derived.Laws.Entries
import Derived.Laws.Small
import Derived.Laws.MakeOwn
import Derived.Great.BuildSlice
import GoSem.Builtin.Clear
import Derived.MapKept
import Derived.Orders
import Derived.ChangeArms
import Derived.Below
import Derived.Carry
import Derived.OpenShut
import Derived.WideShapes
import Derived.WalkKit
import Derived.Maps.RangeWalk
import Derived.Deep.QuietTactic
set_option linter.all false
set_option maxRecDepth 100000
namespace Go.Dvm
def y1:= @Option.some.injEq
def y4:= @Option.bind_some
def y5:= @Bool.and_eq_true
def y6:= @List.getElem?_eq_getElem
def y7:= @Prod.mk.injEq
def y8:= @List.drop_eq_getElem_cons
def y9:= @List.length_append
def y10:= @List.getElem?_append_left
def y11:= @List.drop_of_length_le
def y12:= @List.length_drop
def y13:= @Nat.le_refl
def y14:= @List.getD_eq_getElem?_getD
def y15:= @Array.getD_eq_getD_getElem?
def y16:= @Nat.mul_le_mul_right
def y17:= @Bool.false_eq_true
def y18:= @List.getElem?_append_right
def y19:= @List.length_take
def y20:= @List.length_cons
def y21:= @Option.bind_eq_some_iff
def y22:= @List.getElem?_set_self
def y23:= @List.length_map
def y24:= @List.length_nil
def y25:= @List.getElem?_concat_length
def y26:= @Int.toNat_natCast
def y27:= @List.getElem?_set_ne
def y28:= @Nat.lt_or_ge
def y29:= @Nat.add_mul
def y30:= @List.mem_cons_self
def y31:= @List.append_assoc
def y32:= @List.map_cons
def y33:= @List.eq_nil_of_length_eq_zero
def y34:= @List.mem_cons_of_mem
def y35:= @List.getElem?_cons_zero
def y36:= @List.drop_zero
def y37:= @Option.map_some
def y38:= @List.getElem?_drop
def y39:= @Bool.or_eq_true
def y40:= @List.getElem?_map
def y41:= @Nat.zero_add
def y42:= @List.mem_of_mem_take
def y43:= @Array.length_toList
def y44:= @Option.getD_some
def y45:= @List.nil_append
def y46:= @List.getElem?_take
def y47:= @BitVec.toNat_ofInt
def y48:= @List.getElem?_eq_none
def y49:= @Array.getElem?_toList
def y50:= @Int.fdiv_eq_ediv_of_nonneg
def y51:= @List.all_eq_true
def y52:= @List.mem_of_getElem?
def y53:= @Nat.add_assoc
def y54:= @List.length_range
def y55:= @Bool.not_eq_true'
def y56:= @Nat.lt_of_lt_of_le
def y57:= @List.map_nil
def y58:= @Bool.true_and
theorem ai {a b:Prop} (h:a) (k:b):a/\b:=⟨h,k⟩
inductive V where
 | int (k:IntKind) (n:Int)
 | bool (b:Bool)
 | str (l:List Int)
 | agg (cs:List V)
 | tup (vs:List V)
 | sl (z:Bool) (xs:List V)
 | psl (xs:List V)
 | vw (id ver off len md:Nat)
 | ptr (id off:Nat)
 | ep (id ver i j:Nat)
 | rp (cs:List V)
 | nilp
 | fn (f:Nat) (cs:List V)
 | nilf
 | ifc (t:Nat) (v:V)
 | nili
 | own (z:Bool) (sz:Nat) (x:Bool) (xs:List V)
 | mp (id:Nat)
 | dp (id:Nat)
 | any
 | junk
 deriving Inhabited
structure Dk where
 room:Int
 now:List (Int×Nat)
 wts:Nat
 out:Bool
 armed:Bool
 left:Int
 deriving Inhabited,DecidableEq
inductive Blk where
 | box (cs:List V)
 | map (m:List (Int×Int))
 | pmap (m:List (Int×V))
 | dsk (d:Dk)
 | row (ver:Nat) (z:Bool) (sz:Nat) (xs:List V) (x:Bool)
 | dead
 deriving Inhabited
inductive MArg where
 | t (n:Nat)
 | c (v:V)
 deriving Inhabited
inductive MOp where
 | mv (x:MArg)
 | pick (c a b:MArg)
 | bin (op:BinOp) (x y:MArg)
 | eqn (neg:Bool) (ks:List Nat) (x y:MArg)
 | isnil (neg:Bool) (k:Nat) (x:MArg)
 | un (op:UnOp) (x:MArg)
 | conv (k:IntKind) (x:MArg)
 | b2s (x:MArg)
 | ext (x:MArg) (i:Nat)
 | fld (x:MArg) (off n:Nat) (agg:Bool)
 | bld (zero:List V) (parts:List (Nat×Nat×MArg))
 | alloc (zero:List V)
 | box (x:MArg)
 | load (x:MArg) (n:Nat) (agg:Bool)
 | store (x y:MArg) (n:Nat)
 | faddr (x:MArg) (off:Nat)
 | iaddr (x i:MArg) (sz:Nat)
 | aaddr (x i:MArg) (len sz:Nat)
 | idx (x i:MArg) (len sz:Nat) (agg:Bool)
 | nilck (x:MArg)
 | mkfn (f:Nat) (caps:List MArg)
 | mkif (t:Nat) (x:MArg)
 | slc (x:MArg) (lo hi mx:Option MArg) (sz:Nat)
 | bsl (sz:Nat) (parts:List MArg) (how:Nat)
 | msl (sz:Nat) (zero:V) (len:MArg)
 | len (str:Bool) (x:MArg)
 | cap (x:MArg)
 | mm (mx:Bool) (xs:List MArg)
 | app (x y:MArg) (sz:Nat)
 | appz (x n:MArg) (sz:Nat) (zero:V)
 | clr (x:MArg) (zero:V)
 | call (f:Nat) (args:List MArg)
 | callv (x:MArg) (args:List MArg)
 | nil (sz:Nat)
 | mkmap
 | mlook (x k:MArg)
 | mput (x k v:MArg)
 | mkpm
 | plook (x k:MArg)
 | pput (x k v:MArg)
 | papp (x y:MArg)
 | mska (sz:Nat) (x:MArg)
 deriving Inhabited
structure MO where
 dst:Option Nat
 op:MOp
 guard:Option (Nat×Bool):=none
 deriving Inhabited
inductive MC where
 | skip
 | fail
 | reg (ops:List MO)
 | dreg (ops:List MO) (chk:List (Nat×Nat))
 | seq (a b:MC)
 | cond (x:MArg) (a b:MC)
 | blk (id:Nat) (a:MC)
 | exit (id:Nat)
 | loop (live:List Nat) (a:MC)
 | ret
 deriving Inhabited
inductive MRes where
 | tmp (t:Nat)
 | cell (t n:Nat) (agg:Bool)
 deriving Inhabited
abbrev Hp:=List Blk
structure MFun where
 np:Nat
 body:MC
 res:List MRes
 inline:Bool
 modes:List Nat
 rets:List (List Nat)
 weak:Bool:=false
 prim:Option (List V->Option (List V)):=none
 iprim:Option (List V->Hp->Option (List V×Hp)):=none
 deriving Inhabited
abbrev Fr:=List (Nat×V)
def get (t:Nat):Fr->V
 | []=> .junk
 | (d,v)::r=>if t=d then v else get t r
def MArg.val (fr:Fr):MArg->V
 | .t n=>get n fr
 | .c v=>v
def leaves:V->List V
 | .agg cs=>cs
 | v=>[v]
def good:V->Bool
 | .agg _=>false
 | .tup _=>false
 | .own _ _ _ _=>false
 | .junk=>false
 | _=>true
def goods:List V->Bool
 | []=>true
 | v::l=>good v && goods l
def mget:List (Int×Int)->Int->Int
 | [],_=>0
 | (k,v)::m,n=>if n=k then v else mget m n
def mset:List (Int×Int)->Int->Int->List (Int×Int)
 | [],n,y=>[(n,y)]
 | (k,v)::m,n,y=>if n=k then (k,y)::m else (k,v)::mset m n y
def mpId:V->Option Nat
 | .mp id=>some id
 | _=>none
def intOf:V->Option Int
 | .int .i64 n=>some n
 | _=>none
def mapOf (H:Hp) (v:V):Option (List (Int×Int)):=(mpId v).bind fun id=>match H[id]? with
 | some (.map m)=>some m
 | _=>none
def pget:List (Int×V)->Int->V
 | [],_=> .nilp
 | (k,v)::m,n=>if n=k then v else pget m n
def pset:List (Int×V)->Int->V->List (Int×V)
 | [],n,y=>[(n,y)]
 | (k,v)::m,n,y=>if n=k then (k,y)::m else (k,v)::pset m n y
def pmapOf (H:Hp) (v:V):Option (List (Int×V)):=(mpId v).bind fun id=>match H[id]? with
 | some (.pmap m)=>some m
 | _=>none
def cut (xs:List V) (off len md:Nat):List V:=
 if md=1 then (if off=0 then xs else xs.drop off) else (if off=0 then xs.take len else (xs.drop off).take len)
def row? (H:Hp) (id ver:Nat):Option (Bool×Nat×List V×Bool):=
 match H[id]? with
 | some (.row v z sz xs x)=>if ver=v then some (z,sz,xs,x) else none
 | _=>none
def share1 (H:Hp):V->Option (V×Hp)
 | .vw id ver off len md=>(row? H id ver).bind fun r=>some (.sl r.1 (cut r.2.2.1 off len md),H.set id (.row ver r.1 r.2.1 r.2.2.1 false))
 | .int k n=>some (.int k n,H)
 | .bool b=>some (.bool b,H)
 | .str l=>some (.str l,H)
 | .sl z xs=>some (.sl z xs,H)
 | .nili=>some (.nili,H)
 | _=>none
def shareL:Hp->List V->Option (List V×Hp)
 | H,[]=>some ([],H)
 | H,v::l=>(share1 H v).bind fun p=>(shareL p.2 l).bind fun q=>some (p.1::q.1,q.2)
def share (H:Hp):V->Option (V×Hp)
 | .agg cs=>(shareL H cs).bind fun p=>some (.agg p.1,p.2)
 | v=>share1 H v
def take (H:Hp) (sz:Nat):V->Option (V×Hp)
 | .vw id ver off len md=>(row? H id ver).bind fun r=>
   if off=0 then (if md=1\/(md=0/\r.2.2.2=true) then (if sz=r.2.1 then some (.own r.1 sz r.2.2.2 (cut r.2.2.1 0 len md),H.set id .dead) else none) else none) else none
 | .sl true []=>some (.own true sz true [],H)
 | _=>none
def put1 (H:Hp):V->V×Hp
 | .own z sz x xs=>(.vw H.length 0 0 xs.length 1,H++[.row 0 z sz xs x])
 | v=>(v,H)
def putL:Hp->List V->List V×Hp
 | H,[]=>([],H)
 | H,v::l=>let p:=put1 H v;let q:=putL p.2 l;(p.1::q.1,q.2)
def put (H:Hp):V->V×Hp
 | .agg cs=>let p:=putL H cs;(.agg p.1,p.2)
 | v=>put1 H v
def putT (H:Hp):List V->List V×Hp
 | []=>([],H)
 | v::l=>let p:=put H v;let q:=putT p.2 l;(p.1::q.1,q.2)
def out1 (m:Nat) (H:Hp) (v:V):Option (V×Hp):=match m with
 | 0=>share1 H v
 | sz+1=>take H sz v
def outL:List Nat->Hp->List V->Option (List V×Hp)
 | _,H,[]=>some ([],H)
 | ms,H,v::l=>(out1 (ms.headD 0) H v).bind fun p=>(outL ms.tail p.2 l).bind fun q=>some (p.1::q.1,q.2)
def out (ms:List Nat) (H:Hp):V->Option (V×Hp)
 | .agg cs=>(outL ms H cs).bind fun p=>some (.agg p.1,p.2)
 | v=>out1 (ms.headD 0) H v
def outT:List (List Nat)->Hp->List V->Option (List V×Hp)
 | _,H,[]=>some ([],H)
 | ms,H,v::l=>(out (ms.headD []) H v).bind fun p=>(outT ms.tail p.2 l).bind fun q=>some (p.1::q.1,q.2)
structure Orc where
 deep:Nat->List V->Option (List V)
 inl:Nat->List V->Hp->Option (List V×Hp)
@[irreducible] def ibits (op:BinOp) (k:IntKind) (x y:Int):Int:=
 let a:=BitVec.ofInt k.bits x
 let b:=BitVec.ofInt k.bits y
 k.wrap ((match op with | .and=>a &&& b | .or=>a ||| b | .xor=>a ^^^ b | _=>a &&& ~~~b:BitVec k.bits).toNat:Int)
@[irreducible] def wrp (k:IntKind) (n:Int):Int:=k.wrap n
@[irreducible] def ishl (k:IntKind) (x y:Int):Int:=k.wrap (x*2 ^ (min y.toNat k.bits))
@[irreducible] def ishr (k:IntKind) (x y:Int):Int:=x.fdiv (2 ^ (min y.toNat k.bits))
def vbin:BinOp->V->V->Option V
 | .add, .int k a, .int k' b=>if k=k' then some (.int k (wrp k (a+b))) else none
 | .sub, .int k a, .int k' b=>if k=k' then some (.int k (wrp k (a - b))) else none
 | .mul, .int k a, .int k' b=>if k=k' then some (.int k (wrp k (a*b))) else none
 | .quo, .int k a, .int k' b=>if b=0 then none else if k=k' then some (.int k (wrp k (a.tdiv b))) else none
 | .rem, .int k a, .int k' b=>if b=0 then none else if k=k' then some (.int k (a.tmod b)) else none
 | .and, .int k a, .int k' b=>if k=k' then some (.int k (ibits .and k a b)) else none
 | .or, .int k a, .int k' b=>if k=k' then some (.int k (ibits .or k a b)) else none
 | .xor, .int k a, .int k' b=>if k=k' then some (.int k (ibits .xor k a b)) else none
 | .andNot, .int k a, .int k' b=>if k=k' then some (.int k (ibits .andNot k a b)) else none
 | .shl, .int k a, .int _ b=>if b<0 then none else some (.int k (ishl k a b))
 | .shr, .int k a, .int _ b=>if b<0 then none else some (.int k (ishr k a b))
 | .eql, .int k a, .int k' b=>if k=k' then some (.bool (decide (a=b))) else none
 | .neq, .int k a, .int k' b=>if k=k' then some (.bool (!decide (a=b))) else none
 | .lss, .int k a, .int k' b=>if k=k' then some (.bool (decide (a<b))) else none
 | .leq, .int k a, .int k' b=>if k=k' then some (.bool (decide (a<=b))) else none
 | .gtr, .int k a, .int k' b=>if k=k' then some (.bool (decide (b<a))) else none
 | .geq, .int k a, .int k' b=>if k=k' then some (.bool (decide (b<=a))) else none
 | .eql, .str a, .str b=>some (.bool (decide (a=b)))
 | .neq, .str a, .str b=>some (.bool (!decide (a=b)))
 | .add, .str a, .str b=>if a.length+b.length<=1099511627776 then some (.str (a++b)) else none
 | _,_,_=>none
def veq1:Nat->V->V->Option Bool
 | 1, .int k a, .int k' b=>if k=k' then some (decide (a=b)) else none
 | 0, .bool a, .bool b=>some (a==b)
 | 2, .str a, .str b=>some (decide (a=b))
 | _,_,_=>none
def veqL:List Nat->List V->List V->Option Bool
 | [],[],[]=>some true
 | k::ks,a::l,b::m=>(veq1 k a b).bind fun x=>(veqL ks l m).bind fun y=>some (x && y)
 | _,_,_=>none
def veq (ks:List Nat):V->V->Option Bool
 | .agg a, .agg b=>if ks=[] then none else veqL ks a b
 | .bool a, .bool b=>if ks=[] then some (a==b) else none
 | _,_=>none
def visnil (H:Hp):Nat->V->Option Bool
 | 0, .sl z _=>some z
 | 0, .vw id ver _ _ _=>(row? H id ver).map (·.1)
 | 0, .psl _=>some false
 | 1, .nilp=>some true
 | 1, .ptr _ _=>some false
 | 1, .dp _=>some false
 | 1, .ep _ _ _ _=>some false
 | 1, .rp _=>some false
 | 2, .nilf=>some true
 | 2, .fn _ _=>some false
 | _,_=>none
def vun:UnOp->V->Option V
 | .neg, .int k n=>some (.int k (wrp k (0 - n)))
 | .xor, .int k n=>some (.int k (ibits .xor k (if k.signed then -1 else k.max) n))
 | .not, .bool b=>some (.bool !b)
 | _,_=>none
def setAt (cs:List V) (off:Nat):List V->List V
 | []=>cs
 | v::l=>setAt (cs.set off v) (off+1) l
def fillB (fr:Fr):List V->List (Nat×Nat×MArg)->Option (List V)
 | cs,[]=>some cs
 | cs,(off,n,x)::ps=>let l:=leaves (x.val fr);if l.length=n then (if off+n<=cs.length then (if goods l=true then fillB fr (setAt cs off l) ps else none) else none) else none
def part (cs:List V) (off n:Nat) (agg:Bool):Option V:=
 if agg=true then (if off+n<=cs.length then some (.agg ((cs.drop off).take n)) else none) else cs[off]?
def vload (H:Hp) (n:Nat) (agg:Bool):V->Option V
 | .ptr id off=>match H[id]? with
  | some (.box cs)=>part cs off n agg
  | _=>none
 | .rp cs=>part cs 0 n agg
 | .ep id ver i j=>(row? H id ver).bind fun r=>match r.2.2.1[i]? with
  | some e=>part (leaves e) j n agg
  | none=>none
 | _=>none
def mkEl (old:V) (ls:List V):V:=match old with
 | .agg _=> .agg ls
 | _=>ls.headD .junk
def vstore (H:Hp) (n:Nat):V->V->Option Hp
 | .ptr id off,y=>match H[id]? with
  | some (.box cs)=>if (leaves y).length=n then (if off+n<=cs.length then (if goods (leaves y)=true then some (H.set id (.box (setAt cs off (leaves y)))) else none) else none) else none
  | _=>none
 | .ep id ver i j,y=>(share H y).bind fun p=>(row? p.2 id ver).bind fun r=>match r.2.2.1[i]? with
  | some e=>if r.2.2.2=true then (if (leaves p.1).length=n then (if j+n<=(leaves e).length then
    some (p.2.set id (.row ver r.1 r.2.1 (r.2.2.1.set i (mkEl e (setAt (leaves e) j (leaves p.1)))) true)) else none) else none) else none
  | none=>none
 | _,_=>none
def vfaddr (off:Nat):V->Option V
 | .ptr id o=>some (.ptr id (o+off))
 | .rp cs=>some (.rp (cs.drop off))
 | .ep id ver i j=>some (.ep id ver i (j+off))
 | _=>none
def viaddr (H:Hp) (sz:Nat) (x:V) (i:Int):Option V:=
 if 0<=i then match x with
  | .sl _ xs=>match xs[i.toNat]? with
   | some e=>if (leaves e).length=sz then some (.rp (leaves e)) else none
   | none=>none
  | .psl xs=>match xs[i.toNat]? with
   | some e=>if sz=1 then some (.rp [e]) else none
   | none=>none
  | .vw id ver off len _=>(row? H id ver).bind fun r=>if i.toNat<len then (if sz=r.2.1 then some (.ep id ver (off+i.toNat) 0) else none) else none
  | _=>none
 else none
def sizes (sz:Nat):List V->Bool
 | []=>true
 | v::l=>decide ((leaves v).length=sz) && sizes sz l
def between (xs:List V):Option Int->Option Int->List V
 | none,none=>xs
 | some l,none=>xs.drop l.toNat
 | none,some h=>xs.take h.toNat
 | some l,some h=>(xs.take h.toNat).drop l.toNat
def mxOk (n:Nat) (hi:Option Int):Option Int->Bool
 | none=>true
 | some m=>hi.isSome && decide (0<=m) && decide (hi.getD 0<=m) && decide (m.toNat<=n)
def vslc (H:Hp) (sz:Nat) (x:V) (lo hi:Option Int) (mx:Option Int):Option (V×Hp):=
 match x with
 | .sl z xs=>
  if mxOk xs.length hi mx=true then
   (if 0<=lo.getD 0 then (if lo.getD 0<=hi.getD xs.length then (if (hi.getD xs.length).toNat<=xs.length then
    (if (lo.isNone || sizes sz xs)=true then some (.sl z (between xs lo hi),H) else none) else none) else none) else none) else none
 | .vw id ver off len md=>(row? H id ver).bind fun r=>if sz=r.2.1 then
  match mx,hi with
  | none,none=>
   if 0<=lo.getD 0 then (if (lo.getD 0).toNat<=len then some (.vw id ver (off+(lo.getD 0).toNat) (len - (lo.getD 0).toNat) md,H) else none) else none
  | none,some h=>if 0<=lo.getD 0 then (if lo.getD 0<=h then (if off+h.toNat<=(if md=2 then off+len else r.2.2.1.length) then
     some (.vw id ver (off+(lo.getD 0).toNat) (h.toNat - (lo.getD 0).toNat) (if md=2 then 2 else if r.1=true then md else 0),H) else none) else none) else none
  | some m,some h=>if 0<=lo.getD 0 then (if lo.getD 0<=h then (if h<=m then (if off+m.toNat<=(if md=2 then off+len else r.2.2.1.length) then
      some (.vw id ver (off+(lo.getD 0).toNat) (h.toNat - (lo.getD 0).toNat) 2,H) else none) else none) else none) else none
  | some _,none=>none
  else none
 | _=>none
def elems (H:Hp):V->Option (List V)
 | .sl _ xs=>some xs
 | .vw id ver off len md=>(row? H id ver).bind fun r=>some (cut r.2.2.1 off len md)
 | _=>none
def shareE:Hp->List V->Option (List V×Hp)
 | H,[]=>some ([],H)
 | H,v::l=>(share H v).bind fun p=>(shareE p.2 l).bind fun q=>some (p.1::q.1,q.2)
def u8s:List V->Bool
 | []=>true
 | .int .u8 _::l=>u8s l
 | _::_=>false
def num:V->Int
 | .int _ n=>n
 | _=>0
def most:Nat:=4294967296
def appv (H:Hp) (sz:Nat) (x:V) (ys:List V):Option (V×Hp):=
  match x with
  | .sl true []=>if ys.length<=most then some (.vw H.length 0 0 ys.length 1,H++[.row 0 ys.isEmpty sz ys true]) else none
  | .vw id ver off len md=>(row? H id ver).bind fun r=>if sz=r.2.1 then
      (if md=1 then (if off=0 then (if r.2.2.1.length+ys.length<=most then
          some (.vw id (ver+1) 0 (r.2.2.1.length+ys.length) 1,H.set id (.row (ver+1) (r.1 && ys.isEmpty) sz (r.2.2.1++ys) r.2.2.2)) else none) else none)
       else if md=0 then (if off+len+ys.length<=r.2.2.1.length then (if r.2.2.2=true then
          some (.vw id ver off (len+ys.length) 0,H.set id (.row ver r.1 sz (r.2.2.1.take (off+len)++ys++r.2.2.1.drop (off+len+ys.length)) true)) else none) else none) else none) else none
  | _=>none
def MArgs.vals (fr:Fr) (xs:List MArg):List V:=xs.map (MArg.val fr)
def optInt (fr:Fr):Option MArg->Option (Option Int)
 | none=>some none
 | some x=>match x.val fr with
  | .int _ n=>some (some n)
  | _=>none
def args:Hp->List Nat->List V->Option (List V×Hp)
 | H,_,[]=>some ([],H)
 | H,m::ms,v::l=>(match m with | 0=>share H v | sz+1=>take H sz v).bind fun p=>(args p.2 ms l).bind fun q=>some (p.1::q.1,q.2)
 | H,[],v::l=>(share H v).bind fun p=>(args p.2 [] l).bind fun q=>some (p.1::q.1,q.2)
def takes:Hp->List Nat->List V->Hp
 | H,m::ms,v::l=>(match m with | 0=>takes H ms l | sz+1=>match take H sz v with | some p=>takes p.2 ms l | none=>H)
 | H,_,_=>H
def scalar:V->Bool
 | .int _ _=>true
 | .bool _=>true
 | .str _=>true
 | _=>false
def scalars:List V->Bool
 | []=>true
 | v::l=>(leaves v).all scalar && scalars l
def pack:List V->V
 | [v]=>v
 | l=> .tup l
def mskaV:V->Option V
 | .int _ n=>if 0<=n/\n.toNat<=most then some .any else none
 | _=>none
section
variable (T:Nat->Option MFun) (O:Orc)
def vcall (f:Nat) (vs:List V) (H:Hp):Option (V×Hp):=
 match T f with
 | none=>none
 | some mf=>if mf.inline=true then (O.inl f vs H).bind fun p=>some (pack p.1,p.2)
  else (args H mf.modes vs).bind fun p=>(O.deep f p.1).bind fun r=>
   if scalars r=true then some (pack r,takes H mf.modes vs) else let q:=putT p.2 r;some (pack q.1,q.2)
def ev (fr:Fr) (H:Hp):MOp->Option (V×Hp)
 | .mv x=>some (x.val fr,H)
 | .pick c a b=>match c.val fr with
  | .bool c=>some (if c=true then a.val fr else b.val fr,H)
  | _=>none
 | .bin op x y=>(vbin op (x.val fr) (y.val fr)).bind fun v=>some (v,H)
 | .eqn neg ks x y=>(veq ks (x.val fr) (y.val fr)).bind fun b=>some (.bool (if neg=true then !b else b),H)
 | .isnil neg k x=>(visnil H k (x.val fr)).bind fun b=>some (.bool (if neg=true then !b else b),H)
 | .un op x=>(vun op (x.val fr)).bind fun v=>some (v,H)
 | .conv k x=>match x.val fr with
  | .int _ n=>some (.int k (wrp k n),H)
  | _=>none
 | .b2s x=>(elems H (x.val fr)).bind fun p=>if u8s p=true then some (.str (p.map num),H) else none
 | .ext x i=>match x.val fr with
  | .tup vs=>(vs[i]?).bind fun v=>some (v,H)
  | _=>none
 | .fld x off n agg=>match x.val fr with
  | .agg cs=>(part cs off n agg).bind fun v=>some (v,H)
  | _=>none
 | .bld zero parts=>(fillB fr zero parts).bind fun cs=>some (.agg cs,H)
 | .alloc zero=>some (.ptr H.length 0,H++[.box zero])
 | .box x=>if goods (leaves (x.val fr))=true then some (.ptr H.length 0,H++[.box (leaves (x.val fr))]) else none
 | .load x n agg=>(vload H n agg (x.val fr)).bind fun v=>some (v,H)
 | .store x y n=>(vstore H n (x.val fr) (y.val fr)).bind fun H'=>some (.tup [],H')
 | .faddr x off=>(vfaddr off (x.val fr)).bind fun v=>some (v,H)
 | .iaddr x i sz=>match i.val fr with
  | .int _ n=>(viaddr H sz (x.val fr) n).bind fun v=>some (v,H)
  | _=>none
 | .aaddr x i len sz=>match i.val fr,x.val fr with
  | .int _ n, .ptr id off=>if 0<=n then (if n.toNat<len then some (.ptr id (off+n.toNat*sz),H) else none) else none
  | _,_=>none
 | .idx x i len sz agg=>match i.val fr,x.val fr with
  | .int _ n, .agg cs=>if 0<=n then (if n.toNat<len then (part cs (n.toNat*sz) sz agg).bind fun v=>some (v,H) else none) else none
  | _,_=>none
 | .nilck x=>match x.val fr with
  | .ptr id off=>some (.ptr id off,H)
  | .ep id ver i j=>some (.ep id ver i j,H)
  | .rp cs=>some (.rp cs,H)
  | .fn f cs=>some (.fn f cs,H)
  | _=>none
 | .mkfn f caps=>if goods (MArgs.vals fr caps)=true then some (.fn f (MArgs.vals fr caps),H) else none
 | .mkif t x=>if good (x.val fr)=true then some (.ifc t (x.val fr),H) else none
 | .slc x lo hi mx sz=>(optInt fr lo).bind fun l=>(optInt fr hi).bind fun h=>(optInt fr mx).bind fun m=>vslc H sz (x.val fr) l h m
 | .bsl sz parts 0=>(shareE H (MArgs.vals fr parts)).bind fun p=>if sizes sz p.1=true then some (.sl false p.1,p.2) else none
 | .bsl sz parts 1=>(shareE H (MArgs.vals fr parts)).bind fun p=>if sizes sz p.1=true then some (.vw p.2.length 0 0 p.1.length 1,p.2++[.row 0 false sz p.1 true]) else none
 | .bsl sz parts _=>if goods (MArgs.vals fr parts)=true then some (.psl (MArgs.vals fr parts),H) else none
 | .msl sz zero len=>match len.val fr with
  | .int _ n=>if 0<=n then (if n.toNat<=most then some (.vw H.length 0 0 n.toNat 1,H++[.row 0 false sz (List.replicate n.toNat zero) true]) else none) else none
  | _=>none
 | .len str x=>match str,x.val fr with
  | false, .sl _ xs=>some (.int .i64 xs.length,H)
  | false, .psl xs=>some (.int .i64 xs.length,H)
  | false, .vw id ver _ len _=>(row? H id ver).bind fun _=>some (.int .i64 len,H)
  | true, .str l=>some (.int .i64 l.length,H)
  | _,_=>none
 | .cap x=>match x.val fr with
  | .sl true []=>some (.int .i64 0,H)
  | .vw id ver _ _ _=>(row? H id ver).bind fun r=>if r.1=true then some (.int .i64 0,H) else none
  | _=>none
 | .mm mx xs=>match MArgs.vals fr xs with
  | [.int k a, .int k' b]=>if k=k' then some (.int k (if mx=true then (if a<b then b else a) else (if b<a then b else a)),H) else none
  | _=>none
 | .app x y sz=>(elems H (y.val fr)).bind fun ys=>if sizes sz ys=true then appv H sz (x.val fr) ys else none
 | .appz x n sz zero=>match n.val fr with
  | .int _ n=>(match x.val fr with
   | .sl true []=>if 0<=n then (if n.toNat<=most then some (.vw H.length 0 0 n.toNat 1,H++[.row 0 (decide (n=0)) sz (List.replicate n.toNat zero) true]) else none) else none
   | _=>none)
  | _=>none
 | .clr x zero=>match x.val fr with
  | .vw id ver off len _=>(row? H id ver).bind fun r=>if r.2.2.2=true/\(leaves zero).length=r.2.1 then some (.tup [],H.set id (.row ver r.1 r.2.1 (r.2.2.1.take off++List.replicate len zero++r.2.2.1.drop (off+len)) true)) else none
  | _=>none
 | .call f as=>vcall T O f (MArgs.vals fr as) H
 | .callv x as=>match x.val fr with
  | .fn f cs=>vcall T O f (MArgs.vals fr as++cs) H
  | _=>none
 | .nil sz=>some (.vw H.length 0 0 0 1,H++[.row 0 true sz [] true])
 | .mkmap=>some (.mp H.length,H++[.map []])
 | .mlook x k=>(mapOf H (x.val fr)).bind fun m=>(intOf (k.val fr)).bind fun n=>some (.int .i64 (mget m n),H)
 | .mput x k v=>(mapOf H (x.val fr)).bind fun m=>(intOf (k.val fr)).bind fun n=>(intOf (v.val fr)).bind fun y=>(mpId (x.val fr)).bind fun id=>some (.tup [],H.set id (.map (mset m n y)))
 | .mkpm=>some (.mp H.length,H++[.pmap []])
 | .plook x k=>(pmapOf H (x.val fr)).bind fun m=>(intOf (k.val fr)).bind fun n=>some (pget m n,H)
 | .pput x k v=>(pmapOf H (x.val fr)).bind fun m=>(intOf (k.val fr)).bind fun n=>(mpId (x.val fr)).bind fun id=>if good (v.val fr)=true then some (.tup [],H.set id (.pmap (pset m n (v.val fr)))) else none
 | .mska _ x=>(mskaV (x.val fr)).bind fun v=>some (v,H)
 | .papp x y=>match x.val fr,y.val fr with
  | .sl true [], .psl ys=>if ys.length<=most then some (.any,H) else none
  | _,_=>none
def doOp (fr:Fr) (H:Hp) (o:MO):Option (Fr×Hp):=
 (ev T O fr H o.op).bind fun p=>some (match o.dst with | some d=>(d,p.1)::fr | none=>fr,p.2)
def skipOp (fr:Fr) (o:MO):Fr:=match o.dst with | some d=>(d,V.tup [])::fr | none=>fr
def step (fr:Fr) (H:Hp) (o:MO):Option (Fr×Hp):=
 match o.guard with
 | none=>doOp T O fr H o
 | some (g,want)=>match get g fr with
  | .bool b=>if b=want then doOp T O fr H o else some (skipOp fr o,H)
  | .tup []=>some (skipOp fr o,H)
  | _=>none
def steps:Fr->Hp->List MO->Option (Fr×Hp)
 | fr,H,[]=>some (fr,H)
 | fr,H,o::l=>(step T O fr H o).bind fun p=>steps p.1 p.2 l
inductive Ex where
 | norm
 | exit (id:Nat)
 | ret
 deriving DecidableEq,Inhabited
def stepV (fr:Fr) (H:Hp) (o:MO):Option (V×Hp):=
 match o.guard with
 | none=>ev T O fr H o.op
 | some (g,want)=>match get g fr with
  | .bool b=>if b=want then ev T O fr H o.op else some (.tup [],H)
  | .tup []=>some (.tup [],H)
  | _=>none
def trace:Fr->Hp->List MO->List (Fr×Hp)
 | fr,H,[]=>[(fr,H)]
 | fr,H,o::l=>(fr,H)::(match step T O fr H o with
  | some p=>trace p.1 p.2 l
  | none=>[])
def sameAt (tr:List (Fr×Hp)) (l:List MO) (r e:Nat):Prop:=
 match tr[r]?,tr[e]?,l[r]? with
 | some p,some q,some o=> ∃v,stepV T O p.1 p.2 o=some (v,p.2)/\stepV T O p.1 q.2 o=some (v,q.2)
 | _,_,_=>False
def allSame (tr:List (Fr×Hp)) (l:List MO):List (Nat×Nat)->Prop
 | []=>True
 | (r,e)::c=>sameAt T O tr l r e/\sameAt T O tr l r (e+1)/\allSame tr l c
open Classical in
noncomputable def stepsD (fr:Fr) (H:Hp) (l:List MO) (chk:List (Nat×Nat)):Option (Fr×Hp):=
 if allSame T O (trace T O fr H l) l chk then steps T O fr H l else none
def idC (h0:Nat):V->List Nat
 | .ptr id _=>if h0<=id then [id] else []
 | .dp id=>if h0<=id then [id] else []
 | _=>[]
def idF (h0:Nat):V->List Nat
 | .fn _ cs=>cs.flatMap (idC h0)
 | v=>idC h0 v
def ids1 (h0:Nat):V->List Nat
 | .vw id _ _ _ _=>if h0<=id then [id] else []
 | .ptr id _=>if h0<=id then [id] else []
 | .ep id _ _ _=>if h0<=id then [id] else []
 | .mp id=>if h0<=id then [id] else []
 | .dp id=>if h0<=id then [id] else []
 | .fn _ cs=>cs.flatMap (idC h0)
 | .psl cs=>cs.flatMap (idF h0)
 | _=>[]
def idsV (h0:Nat) (v:V):List Nat:=(leaves v).flatMap (ids1 h0)
def idsB (h0:Nat):Blk->List Nat
 | .box cs=>cs.flatMap (ids1 h0)
 | .pmap m=>m.flatMap fun p=>ids1 h0 p.2
 | _=>[]
def addNew (seen:List Nat):List Nat->List Nat
 | []=>seen
 | i::l=>if i∈seen then addNew seen l else addNew (seen++[i]) l
def reach (h0:Nat) (H:Hp):Nat->List Nat->List Nat
 | 0,seen=>seen
 | n+1,seen=>let more:=addNew seen (seen.flatMap fun i=>match H[i]? with | some b=>idsB h0 b | none=>[])
  if more.length=seen.length then seen else reach h0 H n more
def pos (i:Nat):List Nat->Option Nat
 | []=>none
 | j::l=>if i=j then some 0 else (pos i l).map (· +1)
def place (h0:Nat) (ord:List Nat) (i:Nat):Option Nat:=if i<h0 then some i else (pos i ord).map (h0+ ·)
def renC (h0:Nat) (ord:List Nat):V->V
 | .ptr id off=>match place h0 ord id with
  | some j=> .ptr j off
  | none=> .junk
 | .mp id=>match place h0 ord id with
  | some j=> .mp j
  | none=> .junk
 | .dp id=>match place h0 ord id with
  | some j=> .dp j
  | none=> .junk
 | .int k n=> .int k n
 | .bool b=> .bool b
 | .str l=> .str l
 | .sl z xs=> .sl z xs
 | .nilp=> .nilp
 | .nilf=> .nilf
 | .nili=> .nili
 | .any=> .any
 | _=> .junk
def renF (h0:Nat) (ord:List Nat):V->V
 | .fn f cs=>if goods (cs.map (renC h0 ord))=true then .fn f (cs.map (renC h0 ord)) else .junk
 | v=>renC h0 ord v
def ren1 (h0:Nat) (ord:List Nat) (H:Hp):V->V
 | .vw id ver off len md=>if id<h0 then .vw id ver off len md else match row? H id ver,place h0 ord id with
  | some _,some j=> .vw j 0 off len md
  | _,_=> .junk
 | .ep id ver i k=>if id<h0 then .ep id ver i k else match row? H id ver,place h0 ord id with
  | some _,some j=> .ep j 0 i k
  | _,_=> .junk
 | .fn f cs=>if goods (cs.map (renC h0 ord))=true then .fn f (cs.map (renC h0 ord)) else .junk
 | .psl cs=>if goods (cs.map (renF h0 ord))=true then .psl (cs.map (renF h0 ord)) else .junk
 | v=>renC h0 ord v
def ren (h0:Nat) (ord:List Nat) (H:Hp):V->V
 | .agg cs=>if goods (cs.map (ren1 h0 ord H))=true then .agg (cs.map (ren1 h0 ord H)) else .junk
 | v=>ren1 h0 ord H v
def renB (h0:Nat) (ord:List Nat) (H:Hp) (reset:Bool):Blk->Blk
 | .box cs=>if goods (cs.map (ren1 h0 ord H))=true then .box (cs.map (ren1 h0 ord H)) else .dead
 | .row ver z sz xs x=> .row (if reset=true then 0 else ver) z sz xs x
 | .map m=> .map m
 | .dsk d=> .dsk d
 | .pmap m=>if goods (m.map fun p=>ren1 h0 ord H p.2)=true then .pmap (m.map fun p=>(p.1,ren1 h0 ord H p.2)) else .dead
 | .dead=> .dead
def canon (h0:Nat) (live:List Nat) (fr:Fr) (H:Hp):Fr×Hp:=
 let vs:=live.map fun t=>(t,get t fr)
 let ord:=reach h0 H H.length (addNew [] (vs.flatMap (fun p=>idsV h0 p.2)++(H.take h0).flatMap (idsB h0)))
 (vs.map fun p=>(p.1,ren h0 ord H p.2),(H.take h0).map (renB h0 ord H false)++ord.map fun i=>renB h0 ord H true (H.getD i .dead))
def iter (h0:Nat) (live:List Nat) (body:Fr->Hp->Option (Ex×Fr×Hp)):Nat->Fr->Hp->Option (Ex×Fr×Hp)
 | 0,_,_=>none
 | n+1,fr,H=>(body (canon h0 live fr H).1 (canon h0 live fr H).2).bind fun p=>match p.1 with
  | .norm=>iter h0 live body n p.2.1 p.2.2
  | e=>some (e,p.2.1,p.2.2)
noncomputable def exec (m h0:Nat):MC->Fr->Hp->Option (Ex×Fr×Hp)
 | .skip,fr,H=>some (.norm,fr,H)
 | .fail,_,_=>none
 | .reg ops,fr,H=>(steps T O fr H ops).bind fun p=>some (.norm,p.1,p.2)
 | .dreg ops chk,fr,H=>(stepsD T O fr H ops chk).bind fun p=>some (.norm,p.1,p.2)
 | .seq a b,fr,H=>(exec m h0 a fr H).bind fun p=>match p.1 with
  | .norm=>exec m h0 b p.2.1 p.2.2
  | e=>some (e,p.2.1,p.2.2)
 | .cond x a b,fr,H=>match x.val fr with
  | .bool c=>if c=true then exec m h0 a fr H else exec m h0 b fr H
  | _=>none
 | .blk id a,fr,H=>(exec m h0 a fr H).bind fun p=>match p.1 with
  | .exit j=>if j=id then some (.norm,p.2.1,p.2.2) else some (.exit j,p.2.1,p.2.2)
  | e=>some (e,p.2.1,p.2.2)
 | .exit id,fr,H=>some (.exit id,fr,H)
 | .loop live a,fr,H=>iter h0 live (exec m h0 a) m fr H
 | .ret,fr,H=>some (.ret,fr,H)
def params:Nat->List V->Fr
 | _,[]=>[]
 | i,v::l=>(i,v)::params (i+1) l
def resV (fr:Fr) (H:Hp):MRes->Option V
 | .tmp t=>some (get t fr)
 | .cell t n agg=>vload H n agg (get t fr)
def resL (fr:Fr) (H:Hp):List MRes->Option (List V)
 | []=>some []
 | r::l=>(resV fr H r).bind fun v=>(resL fr H l).bind fun vs=>some (v::vs)
noncomputable def runInl (m:Nat) (mf:MFun) (vs:List V) (H:Hp):Option (List V×Hp):=
 (exec T O m H.length mf.body (params 0 vs) H).bind fun p=>match p.1 with
  | .exit _=>none
  | _=>(resL p.2.1 p.2.2 mf.res).bind fun l=>some (l,p.2.2)
noncomputable def runI (m:Nat) (mf:MFun) (vs:List V) (H:Hp):Option (List V×Hp):=match mf.iprim with
 | some g=>g vs H
 | none=>runInl T O m mf vs H
noncomputable def runDeep (m:Nat) (mf:MFun) (ds:List V):Option (List V):=match mf.prim with
 | some p=>p ds
 | none=>(runInl T O m mf (putT [] ds).1 (putT [] ds).2).bind fun p=>(outT mf.rets p.2 p.1).bind fun q=>some q.1
end
def weaken:V->V
 | .vw id ver off len 1=> .vw id ver off len 0
 | v=>v
def wkL (b:Bool) (l:List V):List V:=if b=true then l.map weaken else l
def trim (h0:Nat) (p:List V×Hp):List V×Hp:=
 let ord:=reach h0 p.2 p.2.length (addNew [] (p.1.flatMap (idsV h0)++(p.2.take h0).flatMap (idsB h0)))
 (p.1.map (ren h0 ord p.2),(p.2.take h0).map (renB h0 ord p.2 false)++ord.map fun i=>renB h0 ord p.2 true (p.2.getD i .dead))
noncomputable def orc (T:Nat->Option MFun):Nat->Orc
 | 0=>⟨fun _ _=>none,fun _ _ _=>none⟩
 | n+1=>⟨fun f ds=>(T f).bind fun mf=>runDeep T (orc T n) n mf ds,fun f vs H=>(T f).bind fun mf=>(runI T (orc T n) n mf vs H).map fun p=>trim H.length (wkL mf.weak p.1,p.2)⟩
inductive Inf where
 | box (B:Nat)
 | row (B K sz ver len:Nat)
 | nrow (sz ver:Nat)
 | dsk (B:Nat) (D:List Nat)
def Inf.has:Inf->Nat->Prop
 | .box B,x=>B=x
 | .row B _ _ _ _,x=>B=x
 | .nrow _ _,_=>False
 | .dsk B D,x=>B=x\/x∈D
def Has:Option Inf->Nat->Prop
 | some inf,x=>inf.has x
 | none,_=>False
def inR (k:IntKind) (n:Int):Prop:=k.min<=n/\n<=k.max
abbrev Infs:=List (Option Inf)
def deep1:V->Bool
 | .int _ _=>true
 | .bool _=>true
 | .str _=>true
 | .sl _ _=>true
 | .nili=>true
 | _=>false
def vwOk (i:Inf) (ver off len md:Nat) (x:Value):Prop:=
 match i with
 | .box _=>False
 | .dsk _ _=>False
 | .nrow _ v=>ver<=v/\(ver=v->x= .slice none 0 0/\off=0/\len=0)
 | .row B K sz v L=>ver<=v/\(ver=v->off+len<=L/\(md=1->off+len=L)/\ ∃ad cp,x= .slice (some ad) len cp/\len<=cp/\(md≠2->off+cp=K)/\(0<cp->ad=⟨B,off*sz,none⟩))
def epOk (i:Inf) (ver e j:Nat) (x:Value):Prop:=
 match i with
 | .box _=>False
 | .dsk _ _=>False
 | .nrow _ v=>ver<v
 | .row B _ sz v _=>ver<=v/\(ver=v->x= .pointer (some ⟨B,e*sz+j,none⟩))
def ptrOk (i:Inf) (off:Nat) (x:Value):Prop:= ∃B,i= .box B/\x= .pointer (some ⟨B,off,none⟩)
def dpOk (i:Inf) (x:Value):Prop:= ∃B D,i= .dsk B D/\x= .pointer (some ⟨B,0,none⟩)
def mpOk (i:Inf) (x:Value):Prop:= ∃B,i= .box B/\x= .map (some B)
inductive VR (I:Addr->Prop) (ρ:Infs) (c:Addr->Option Value):V->Value->Prop where
 | int (k:IntKind) (n:Int) (h:inR k n):VR I ρ c (.int k n) (.int k n)
 | bool (b:Bool):VR I ρ c (.bool b) (.bool b)
 | str (l:List Int) (s:ByteArray) (h:s.data.toList.map (fun b=>(b.toNat:Int))=l) (hb:l.length<=9223372036854775807):VR I ρ c (.str l) (.string s)
 | agg (cs:List V) (arr:Array Value) (hs:arr.size=cs.length) (hg:goods cs=true) (h: ∀(i:Nat) (v:V),cs[i]? =some v->VR I ρ c v (arr.getD i undef)):VR I ρ c (.agg cs) (.agg arr)
 | tup (vs:List V) (arr:Array Value) (hs:arr.size=vs.length) (h: ∀(i:Nat) (v:V),vs[i]? =some v->VR I ρ c v (arr.getD i undef)):VR I ρ c (.tup vs) (.tuple arr)
 | sl (z:Bool) (xs:List V) (a:Option Addr) (cp s:Nat) (vals:Nat->Nat->Value) (hc:xs.length<=cp/\xs.length<=9223372036854775807) (hz:z=a.isNone) (hn:a=none->cp=0)
   (hs: ∀(i:Nat) (x:V),xs[i]? =some x->(leaves x).length=s)
   (hd: ∀(i j:Nat) (x lf:V),xs[i]? =some x->(leaves x)[j]? =some lf->deep1 lf=true)
   (hcell: ∀(ad:Addr) (i j:Nat) (x lf:V),a=some ad->xs[i]? =some x->(leaves x)[j]? =some lf->I (ad.add (i*s+j))/\c (ad.add (i*s+j))=some (vals i j))
   (h: ∀(i j:Nat) (x lf:V),xs[i]? =some x->(leaves x)[j]? =some lf->VR I ρ c lf (vals i j)):VR I ρ c (.sl z xs) (.slice a xs.length cp)
 | psl (xs:List V) (ad:Addr) (cp:Nat) (vals:Nat->Value) (hc:xs.length<=cp/\xs.length<=9223372036854775807) (hg:goods xs=true)
   (hcell: ∀(i:Nat) (x:V),xs[i]? =some x->I (ad.add i)/\c (ad.add i)=some (vals i))
   (h: ∀(i:Nat) (x:V),xs[i]? =some x->VR I ρ c x (vals i)):VR I ρ c (.psl xs) (.slice (some ad) xs.length cp)
 | vw (id ver off len md:Nat) (x:Value) (hi:id<ρ.length) (ho: ∃a cp,x= .slice a len cp) (h: ∀inf,ρ[id]? =some (some inf)->vwOk inf ver off len md x):VR I ρ c (.vw id ver off len md) x
 | ptr (id off:Nat) (x:Value) (hi:id<ρ.length) (ho: ∃ad,x= .pointer (some ad)) (h: ∀inf,ρ[id]? =some (some inf)->ptrOk inf off x):VR I ρ c (.ptr id off) x
 | ep (id ver i j:Nat) (x:Value) (hi:id<ρ.length) (ho: ∃ad,x= .pointer (some ad)) (h: ∀inf,ρ[id]? =some (some inf)->epOk inf ver i j x):VR I ρ c (.ep id ver i j) x
 | rp (cs:List V) (ad:Addr) (vals:Nat->Value) (hcell: ∀(j:Nat) (lf:V),cs[j]? =some lf->I (ad.add j)/\c (ad.add j)=some (vals j))
   (hg:goods cs=true)
   (h: ∀(j:Nat) (lf:V),cs[j]? =some lf->VR I ρ c lf (vals j)):VR I ρ c (.rp cs) (.pointer (some ad))
 | mp (id:Nat) (x:Value) (hi:id<ρ.length) (ho: ∃r,x= .map (some r)) (h: ∀inf,ρ[id]? =some (some inf)->mpOk inf x):VR I ρ c (.mp id) x
 | dp (id:Nat) (x:Value) (hi:id<ρ.length) (ho: ∃ad,x= .pointer (some ad)) (h: ∀inf,ρ[id]? =some (some inf)->dpOk inf x):VR I ρ c (.dp id) x
 | nilp:VR I ρ c .nilp (.pointer none)
 | fn (f:Nat) (cs:List V) (arr:Array Value) (hs:arr.size=cs.length) (hg:goods cs=true) (h: ∀(i:Nat) (v:V),cs[i]? =some v->VR I ρ c v (arr.getD i undef)):VR I ρ c (.fn f cs) (.func (.func f) #[] arr)
 | nilf:VR I ρ c .nilf .nilFunc
 | ifc (t:Nat) (v:V) (x:Value) (h:VR I ρ c v x):VR I ρ c (.ifc t v) (.iface t x)
 | nili:VR I ρ c .nili .nilIface
 | any (x:Value) (h:x.oneCell'=true):VR I ρ c .any x
 | junk (x:Value):VR I ρ c .junk x
def Pers (i j:Option (Option Inf)):Prop:=
 match i with
 | none=>True
 | some none=>j=some none
 | some (some (.box B))=>j=some none\/j=some (some (.box B))
 | some (some (.row B K sz v L))=>j=some none\/j=some (some (.row B K sz v L))\/ ∃B' K' L' v',v<v'/\j=some (some (.row B' K' sz v' L'))
 | some (some (.dsk B D))=>j=some none\/ ∃D',j=some (some (.dsk B D'))
 | some (some (.nrow sz v))=>j=some none\/j=some (some (.nrow sz v))\/(∃v',v<v'/\j=some (some (.nrow sz v')))\/ ∃B' K' L' v',v<v'/\j=some (some (.row B' K' sz v' L'))
theorem Pers.refl (i:Option (Option Inf)):Pers i i:=by
 match i with
 | none=>trivial
 | some none=>rfl
 | some (some (.box B))=>exact .inr rfl
 | some (some (.row B K sz v L))=>exact .inr (.inl rfl)
 | some (some (.nrow sz v))=>exact .inr (.inl rfl)
 | some (some (.dsk B D))=>exact .inr ⟨D,rfl⟩
theorem Pers.trans {i j k:Option (Option Inf)} (h:Pers i j) (h':Pers j k):Pers i k:=by
 match i with
 | none=>trivial
 | some none=>simp only [Pers] at h;subst h;exact h'
 | some (some (.box B))=>
  rcases h with rfl | rfl
  ·exact .inl h'
  ·exact h'
 | some (some (.row B K sz v L))=>
  rcases h with rfl | rfl | ⟨B',K',L',v',hv,rfl⟩
  ·exact .inl h'
  ·exact h'
  ·rcases h' with rfl | rfl | ⟨B2,K2,L2,v2,hv2,rfl⟩
   ·exact .inl rfl
   ·exact .inr (.inr ⟨_,_,_,_,hv,rfl⟩)
   ·exact .inr (.inr ⟨_,_,_,_,Nat.lt_trans hv hv2,rfl⟩)
 | some (some (.nrow sz v))=>
  rcases h with rfl | rfl | ⟨v',hv,rfl⟩ | ⟨B',K',L',v',hv,rfl⟩
  ·exact .inl h'
  ·exact h'
  ·rcases h' with rfl | rfl | ⟨v2,hv2,rfl⟩ | ⟨B2,K2,L2,v2,hv2,rfl⟩
   ·exact .inl rfl
   ·exact .inr (.inr (.inl ⟨_,hv,rfl⟩))
   ·exact .inr (.inr (.inl ⟨_,Nat.lt_trans hv hv2,rfl⟩))
   ·exact .inr (.inr (.inr ⟨_,_,_,_,Nat.lt_trans hv hv2,rfl⟩))
  ·rcases h' with rfl | rfl | ⟨B2,K2,L2,v2,hv2,rfl⟩
   ·exact .inl rfl
   ·exact .inr (.inr (.inr ⟨_,_,_,_,hv,rfl⟩))
   ·exact .inr (.inr (.inr ⟨_,_,_,_,Nat.lt_trans hv hv2,rfl⟩))
 | some (some (.dsk B D))=>
  rcases h with rfl | ⟨D',rfl⟩
  ·exact .inl h'
  ·exact h'
theorem za {i i':Option (Option Inf)} {ver off len md:Nat} {x:Value} (hp:Pers i i') (hd:i≠none) (h: ∀inf,i=some (some inf)->vwOk inf ver off len md x):
  ∀inf,i'=some (some inf)->vwOk inf ver off len md x:=by
 intro inf e
 subst e
 match i with
 | none=>exact absurd rfl hd
 | some none=>simp [Pers] at hp
 | some (some (.box B))=>exact absurd (h _ rfl) (by simp [vwOk])
 | some (some (.dsk B D))=>exact absurd (h _ rfl) (by simp [vwOk])
 | some (some (.row B K sz v L))=>
  rcases hp with e | e | ⟨B',K',L',v',hv,e⟩
  ·simp at e
  ·simp only [y1] at e;subst e;exact h _ rfl
  ·simp only [y1] at e;subst e
   have:=(h _ rfl).1
   exact ⟨by omega,fun e=>by omega⟩
 | some (some (.nrow sz v))=>
  rcases hp with e | e | ⟨v',hv,e⟩ | ⟨B',K',L',v',hv,e⟩
  ·simp at e
  ·simp only [y1] at e;subst e;exact h _ rfl
  ·simp only [y1] at e;subst e
   have:=(h _ rfl).1
   exact ⟨by omega,fun e=>by omega⟩
  ·simp only [y1] at e;subst e
   have:=(h _ rfl).1
   exact ⟨by omega,fun e=>by omega⟩
theorem zc {i i':Option (Option Inf)} {ver e j:Nat} {x:Value} (hp:Pers i i') (hd:i≠none) (h: ∀inf,i=some (some inf)->epOk inf ver e j x):
  ∀inf,i'=some (some inf)->epOk inf ver e j x:=by
 intro inf q
 subst q
 match i with
 | none=>exact absurd rfl hd
 | some none=>simp [Pers] at hp
 | some (some (.box B))=>exact absurd (h _ rfl) (by simp [epOk])
 | some (some (.dsk B D))=>exact absurd (h _ rfl) (by simp [epOk])
 | some (some (.row B K sz v L))=>
  rcases hp with q | q | ⟨B',K',L',v',hv,q⟩
  ·simp at q
  ·simp only [y1] at q;subst q;exact h _ rfl
  ·simp only [y1] at q;subst q
   have:=(h _ rfl).1
   exact ⟨by omega,fun e=>by omega⟩
 | some (some (.nrow sz v))=>
  have h0:=h _ rfl
  simp only [epOk] at h0
  rcases hp with q | q | ⟨v',hv,q⟩ | ⟨B',K',L',v',hv,q⟩
  ·simp at q
  ·simp only [y1] at q;subst q;exact h0
  ·simp only [y1] at q;subst q
   simp only [epOk];omega
  ·simp only [y1] at q;subst q
   exact ⟨by omega,fun e=>by omega⟩
theorem zd {i i':Option (Option Inf)} {off:Nat} {x:Value} (hp:Pers i i') (hd:i≠none) (h: ∀inf,i=some (some inf)->ptrOk inf off x):
  ∀inf,i'=some (some inf)->ptrOk inf off x:=by
 intro inf q
 subst q
 match i with
 | none=>exact absurd rfl hd
 | some none=>simp [Pers] at hp
 | some (some (.box B))=>
  rcases hp with q | q
  ·simp at q
  ·simp only [y1] at q;subst q;exact h _ rfl
 | some (some (.row B K sz v L))=>obtain ⟨_,q,_⟩:=h _ rfl;cases q
 | some (some (.nrow sz v))=>obtain ⟨_,q,_⟩:=h _ rfl;cases q
 | some (some (.dsk B D))=>obtain ⟨_,q,_⟩:=h _ rfl;cases q
theorem ze {i i':Option (Option Inf)} {x:Value} (hp:Pers i i') (hd:i≠none) (h: ∀inf,i=some (some inf)->mpOk inf x):
  ∀inf,i'=some (some inf)->mpOk inf x:=by
 intro inf q
 subst q
 match i with
 | none=>exact absurd rfl hd
 | some none=>simp [Pers] at hp
 | some (some (.box B))=>
  rcases hp with q | q
  ·simp at q
  ·simp only [y1] at q;subst q;exact h _ rfl
 | some (some (.row B K sz v L))=>obtain ⟨_,q,_⟩:=h _ rfl;cases q
 | some (some (.nrow sz v))=>obtain ⟨_,q,_⟩:=h _ rfl;cases q
 | some (some (.dsk B D))=>obtain ⟨_,q,_⟩:=h _ rfl;cases q
theorem zg {i i':Option (Option Inf)} {x:Value} (hp:Pers i i') (hd:i≠none) (h: ∀inf,i=some (some inf)->dpOk inf x):
  ∀inf,i'=some (some inf)->dpOk inf x:=by
 intro inf q
 subst q
 match i with
 | none=>exact absurd rfl hd
 | some none=>simp [Pers] at hp
 | some (some (.dsk B D))=>
  obtain ⟨B',D',e,hx⟩:=h _ rfl
  cases e
  rcases hp with q | ⟨D'',q⟩
  ·simp at q
  ·simp only [y1] at q;subst q;exact ⟨_,_,rfl,hx⟩
 | some (some (.box B))=>obtain ⟨_,_,q,_⟩:=h _ rfl;cases q
 | some (some (.row B K sz v L))=>obtain ⟨_,_,q,_⟩:=h _ rfl;cases q
 | some (some (.nrow sz v))=>obtain ⟨_,_,q,_⟩:=h _ rfl;cases q
theorem VR.mono {I I':Addr->Prop} {ρ ρ':Infs} {c c':Addr->Option Value} {v:V} {x:Value} (h:VR I ρ c v x)
  (hI: ∀a,I a->I' a) (hc: ∀a,I a->c' a=c a) (hl:ρ.length<=ρ'.length) (hp: ∀id,id<ρ.length->Pers ρ[id]? ρ'[id]?):VR I' ρ' c' v x:=by
 induction h with
 | int k n h=>exact .int k n h
 | bool b=>exact .bool b
 | str l s h hb=>exact .str l s h hb
 | agg cs arr hs hg _ ih=>exact .agg cs arr hs hg ih
 | tup vs arr hs _ ih=>exact .tup vs arr hs ih
 | sl z xs a cp s vals h1 hz hn hs hd hcell _ ih=>exact .sl z xs a cp s vals h1 hz hn hs hd (fun ad i j x lf ha hx hlf=>⟨hI _ (hcell ad i j x lf ha hx hlf).1,by rw [hc _ (hcell ad i j x lf ha hx hlf).1];exact (hcell ad i j x lf ha hx hlf).2⟩) ih
 | psl xs ad cp vals h1 hg hcell _ ih=>exact .psl xs ad cp vals h1 hg (fun i x hx=>⟨hI _ (hcell i x hx).1,by rw [hc _ (hcell i x hx).1];exact (hcell i x hx).2⟩) ih
 | vw id ver off len md x hi ho h=>exact .vw id ver off len md x (by omega) ho (za (hp id hi) (by simp [hi]) h)
 | ptr id off x hi ho h=>exact .ptr id off x (by omega) ho (zd (hp id hi) (by simp [hi]) h)
 | ep id ver i j x hi ho h=>exact .ep id ver i j x (by omega) ho (zc (hp id hi) (by simp [hi]) h)
 | rp cs ad vals hcell hg _ ih=>exact .rp cs ad vals (fun j lf hj=>⟨hI _ (hcell j lf hj).1,by rw [hc _ (hcell j lf hj).1];exact (hcell j lf hj).2⟩) hg ih
 | mp id x hi ho h=>exact .mp id x (by omega) ho (ze (hp id hi) (by simp [hi]) h)
 | dp id x hi ho h=>exact .dp id x (by omega) ho (zg (hp id hi) (by simp [hi]) h)
 | nilp=>exact .nilp
 | fn f cs arr hs hg _ ih=>exact .fn f cs arr hs hg ih
 | nilf=>exact .nilf
 | ifc t v x _ ih=>exact .ifc t v x ih
 | nili=>exact .nili
 | any x h=>exact .any x h
 | junk x=>exact .junk x
theorem VR.deep {I:Addr->Prop} {ρ:Infs} {c:Addr->Option Value} {v:V} {x:Value} (h:VR I ρ c v x) (hd:deep1 v=true) (ρ':Infs):VR I ρ' c v x:=by
 induction h with
 | int k n h=>exact .int k n h
 | bool b=>exact .bool b
 | str l s h hb=>exact .str l s h hb
 | sl z xs a cp s vals h1 hz hn hs hd' hcell _ ih=>exact .sl z xs a cp s vals h1 hz hn hs hd' hcell (fun i j x lf hx hlf=>ih i j x lf hx hlf (hd' i j x lf hx hlf))
 | nili=>exact .nili
 | _=>simp [deep1] at hd
def Live (ρ:Infs) (B:Nat):Prop:= ∃(id:Nat) (inf:Inf),ρ[id]? =some (some inf)/\inf.has B
def Apart (ρ:Infs):Prop:= ∀(i j:Nat) (a b:Inf) (B:Nat),ρ[i]? =some (some a)->ρ[j]? =some (some b)->a.has B->b.has B->i=j
def CellsAt (w:World) (B:Nat) (arr:Array Value):Prop:= ∃ty,w.heap[B]? =some (.cells arr ty (0,0))
def RowAt (I:Addr->Prop) (w:World) (B K sz:Nat) (xs:List V) (x:Bool):Prop:=
 ∃arr,CellsAt w B arr/\arr.size=K*sz/\(xs.length<=K/\K<=9223372036854775807)/\
  (∀(i:Nat) (e:V),xs[i]? =some e->(leaves e).length=sz)/\
  (∀(i j:Nat) (e lf:V),xs[i]? =some e->(leaves e)[j]? =some lf->deep1 lf=true/\VR I [] w.cell? lf (arr.getD (i*sz+j) undef))/\
  (∀a,I a->a.block=B->x=false/\a.off<xs.length*sz)
def MapAt (w:World) (B:Nat) (m:List (Int×Int)):Prop:=
 ∃es clock,w.heap[B]? =some (.map es clock)/\es.size=m.length/\ ∀(i:Nat) (k v:Int),m[i]? =some (k,v)->inR .i64 k/\inR .i64 v/\ ∃b,es[i]? =some {key:= .int .i64 k,val:= .int .i64 v,born:=b}
def PMapAt (I:Addr->Prop) (ρ:Infs) (w:World) (B:Nat) (m:List (Int×V)):Prop:=
 ∃es clock,w.heap[B]? =some (.map es clock)/\es.size=m.length/\ ∀(i:Nat) (k:Int) (v:V),m[i]? =some (k,v)->inR .i64 k/\good v=true/\ ∃b x,es[i]? =some {key:= .int .i64 k,val:=x,born:=b}/\VR I ρ w.cell? v x
def adr (o:Option Nat):Option Addr:=o.map fun r=>⟨r,0,none⟩
def RoomAt (w:World) (o:Option Nat) (n cp:Nat):Prop:=match o with
 | none=>n=0/\cp=0
 | some r=>n<=cp/\ ∃arr,CellsAt w r arr/\arr.size=cp
def FileAt (w:World) (f:Nat×Option Nat) (n:Nat):Prop:=
 ∃cp kp,CellsAt w f.1 #[.slice (adr f.2) n cp, .int .i64 kp]/\RoomAt w f.2 n cp
structure NMap (w:World) (nb:Nat) (es:Array MapEntry) (cn:Nat) (ks:List (Int×Nat)):Prop where
 at_:w.heap[nb]? =some (.map es cn)
 size:es.size=ks.length
 ent: ∀(i:Nat) (k:Int) (f:Nat),ks[i]? =some (k,f)->inR .i64 k/\ ∃b,es[i]? =some {key:= .int .i64 k,val:= .pointer (some ⟨f,0,none⟩),born:=b}
 keys:(ks.map (·.1)).Nodup
 born: ∀e∈es.toList,e.born<cn
 once:(es.toList.map (·.born)).Nodup
def ksOf (now:List (Int×Nat)) (fr:List (Nat×Option Nat)):List (Int×Nat):=List.zipWith (fun p f=>(p.1,f.1)) now fr
def dcells (d:Dk) (kb nb:Nat) (wv:Value):Array Value:= #[.int .i64 d.room, .map (some kb), .map (some nb),wv, .bool d.out, .bool d.armed, .int .i64 d.left]
structure DskIn (w:World) (B:Nat) (D:List Nat) (own:Nat->Option (Nat×Nat)) (d:Dk) (kb nb:Nat) (wb:Option Nat) (wc:Nat) (fr:List (Nat×Option Nat)) (ek es:Array MapEntry) (ck cn:Nat):Prop where
 oB:own B=some (0,0)
 oK:own kb=some (1,0)
 oN:own nb=some (2,0)
 oW: ∀r,wb=some r->own r=some (3,0)
 oF: ∀(i:Nat) (f:Nat×Option Nat),fr[i]? =some f->own f.1=some (4,i)/\ ∀r,f.2=some r->own r=some (5,i)
 oD: ∀x t,own x=some t->(Inf.dsk B D).has x
 lt: ∀x,(Inf.dsk B D).has x->x<w.heap.size
 cells:CellsAt w B (dcells d kb nb (.slice (adr wb) d.wts wc))
 room:inR .i64 d.room
 left:inR .i64 d.left
 kept:w.heap[kb]? =some (.map ek ck)
 map:NMap w nb es cn (ksOf d.now fr)
 wts:RoomAt w wb d.wts wc
 len:fr.length=d.now.length
 file: ∀(i:Nat) (p:Int×Nat) (f:Nat×Option Nat),d.now[i]? =some p->fr[i]? =some f->FileAt w f p.2
def DskAt (w:World) (B:Nat) (D:List Nat) (d:Dk):Prop:= ∃own kb nb wb wc fr ek es ck cn,DskIn w B D own d kb nb wb wc fr ek es ck cn
def BlkOk (I:Addr->Prop) (ρ:Infs) (w:World):Blk->Option Inf->Prop
 | .dead,i=>i=none
 | .map m,i=> ∃B,i=some (.box B)/\MapAt w B m/\ ∀a,I a->a.block≠B
 | .dsk d,i=> ∃B D,i=some (.dsk B D)/\DskAt w B D d/\ ∀a,I a-> ¬(Inf.dsk B D).has a.block
 | .pmap m,i=> ∃B,i=some (.box B)/\PMapAt I ρ w B m/\ ∀a,I a->a.block≠B
 | .box cs,i=> ∃B,i=some (.box B)/\(∃arr,CellsAt w B arr/\arr.size=cs.length/\goods cs=true/\ ∀(j:Nat) (lf:V),cs[j]? =some lf->VR I ρ w.cell? lf (arr.getD j undef))/\ ∀a,I a->a.block≠B
 | .row ver z sz xs x,i=>(z=true/\xs=[]/\i=some (.nrow sz ver))\/(z=false/\ ∃B K,i=some (.row B K sz ver xs.length)/\RowAt I w B K sz xs x)
structure HR (I:Addr->Prop) (ρ:Infs) (w:World) (H:Hp):Prop where
 len:ρ.length=H.length
 blk: ∀(id:Nat) (b:Blk) (i:Option Inf),H[id]? =some b->ρ[id]? =some i->BlkOk I ρ w b i
 apart:Apart ρ
 cells: ∀a,I a->(w.cell? a).isSome=true
structure Grow (S:Nat->Prop) (I:Addr->Prop) (w w':World):Prop where
 os:w'.os=w.os
 tape:w'.tape=w.tape
 output:w'.output=w.output
 size:w.heap.size<=w'.heap.size
 keep: ∀B,B<w.heap.size-> ¬S B->w'.heap[B]? =w.heap[B]?
 cells: ∀a,I a->w'.cell? a=w.cell? a
theorem Grow.refl (S:Nat->Prop) (I:Addr->Prop) (w:World):Grow S I w w:=⟨rfl,rfl,rfl,y13 _,fun _ _ _=>rfl,fun _ _=>rfl⟩
structure Nxt (h:Nat) (I:Addr->Prop) (ρ:Infs) (w:World) (I':Addr->Prop) (ρ':Infs) (w':World):Prop where
 sub: ∀a,I a->I' a
 new: ∀a,I' a->I a\/Live ρ a.block\/w.heap.size<=a.block
 grow:Grow (Live ρ) I w w'
 live: ∀B,Live ρ' B->Live ρ B\/w.heap.size<=B
 ids: ∀id,id<h->Pers ρ[id]? ρ'[id]?
 long:h<=ρ'.length\/ρ.length<h
theorem Nxt.refl (h:Nat) (I:Addr->Prop) (ρ:Infs) (w:World) (hh:h<=ρ.length):Nxt h I ρ w I ρ w:=
 ⟨fun _ h=>h,fun _ h=> .inl h,Grow.refl _ _ _,fun _ h=> .inl h,fun _ _=>Pers.refl _, .inl hh⟩
theorem Nxt.trans {h:Nat} {I I1 I2:Addr->Prop} {ρ ρ1 ρ2:Infs} {w w1 w2:World} (a:Nxt h I ρ w I1 ρ1 w1) (b:Nxt h I1 ρ1 w1 I2 ρ2 w2) (hh:h<=ρ.length):Nxt h I ρ w I2 ρ2 w2 where
  sub:=fun x hx=>b.sub x (a.sub x hx)
  new :=fun x hx=>by
    rcases b.new x hx with h1 | h1 | h1
    · exact a.new x h1
    · rcases a.live _ h1 with h2 | h2
      · exact .inr (.inl h2)
      · exact .inr (.inr h2)
    · exact .inr (.inr (Nat.le_trans a.grow.size h1))
  grow:=⟨by rw [b.grow.os,a.grow.os],by rw [b.grow.tape,a.grow.tape],by rw [b.grow.output,a.grow.output],Nat.le_trans a.grow.size b.grow.size,
    fun B hB hS=>by
      rw [b.grow.keep B (y56 hB a.grow.size) (fun hl=>by rcases a.live _ hl with h2 | h2;exact hS h2;omega),a.grow.keep B hB hS],
    fun x hx=>by rw [b.grow.cells x (a.sub x hx),a.grow.cells x hx]⟩
  live:=fun B hB=>by
    rcases b.live B hB with h1 | h1
    · exact a.live B h1
    · exact .inr (Nat.le_trans a.grow.size h1)
  ids:=fun id hid=>(a.ids id hid).trans (b.ids id hid)
  long := by rcases b.long with h1 | h1
             · exact .inl h1
             · rcases a.long with h2 | h2<;>omega
theorem Nxt.less {h h':Nat} {I I':Addr->Prop} {ρ ρ':Infs} {w w':World} (a:Nxt h I ρ w I' ρ' w') (hh:h'<=h) (hl:h<=ρ.length):Nxt h' I ρ w I' ρ' w':=
 ⟨a.sub,a.new,a.grow,a.live,fun id hid=>a.ids id (y56 hid hh), .inl (by rcases a.long with h1 | h1<;>omega)⟩
theorem VR.next {h:Nat} {I I':Addr->Prop} {ρ ρ':Infs} {w w':World} {v:V} {x:Value} (n:Nxt h I ρ w I' ρ' w') (hh:h=ρ.length) (hv:VR I ρ w.cell? v x):VR I' ρ' w'.cell? v x:=
 hv.mono n.sub n.grow.cells (by rcases n.long with h1 | h1<;>omega) (fun id hid=>n.ids id (by omega))
theorem zi {cs:List V} (h:goods cs=true) {i:Nat} {v:V} (hi:cs[i]? =some v):good v=true:=by
 induction cs generalizing i with
 | nil=>simp at hi
 | cons a l ih=>
  simp only [goods,y5] at h
  cases i with
  | zero=>simp at hi;subst hi;exact h.1
  | succ i=>exact ih h.2 (by simpa using hi)
theorem zj: ∀{cs:List V},(∀(i:Nat) (v:V),cs[i]? =some v->good v=true)->goods cs=true
 | [],_=>rfl
 | a::l,h=>by
  simp only [goods,y5]
  exact ⟨h 0 a rfl,zj fun i v hi=>h (i+1) v (by simpa using hi)⟩
theorem zk {v:V} (h:deep1 v=true):good v=true:=by cases v<;>simp_all [deep1,good]
theorem VR.oneCell {I:Addr->Prop} {ρ:Infs} {c:Addr->Option Value} {v:V} {x:Value} (h:VR I ρ c v x) (hg:good v=true):x.oneCell'=true:=by
 cases h<;>first | rfl | assumption | (rename_i ho _;obtain ⟨_,_,rfl⟩:=ho;rfl) | (rename_i ho _;obtain ⟨_,rfl⟩:=ho;rfl) | (simp [good] at hg)
def okC:V->Value->Bool
 | .int k n, .int k' n'=>decide (k=k') && decide (n=n') && decide (k.min<=n) && decide (n<=k.max)
 | .bool b, .bool b'=>b==b'
 | .str l, .string s=>decide (s.data.toList.map (fun b=>(b.toNat:Int))=l) && decide (l.length<=9223372036854775807)
 | .sl true [], .slice none n c=>decide (n=0) && decide (c=0)
 | .nilp, .pointer none=>true
 | .nilf, .nilFunc=>true
 | .nili, .nilIface=>true
 | .tup [], .tuple a=>a.isEmpty
 | .any,x=>x.oneCell'
 | _,_=>false
def okCs:List V->List Value->Bool
 | [],[]=>true
 | v::l,x::m=>okC v x && (good v && okCs l m)
 | _,_=>false
def okK:V->Value->Bool
 | .agg cs, .agg arr=>okCs cs arr.toList
 | v,x=>okC v x
def okArg:MArg->Operand->Bool
 | .t n, .tmp m=>n==m
 | .c v, .const x=>okK v x
 | .c (.fn f []), .func g=>f==g
 | _,_=>false
def FR (I:Addr->Prop) (ρ:Infs) (c:Addr->Option Value) (fr:Fr) (tm:Array Value):Prop:= ∀t,VR I ρ c (get t fr) (tm.getD t undef)
section
variable {I:Addr->Prop} {ρ:Infs} {c:Addr->Option Value}
theorem okC_vr {v:V} {x:Value} (h:okC v x=true):VR I ρ c v x:=by
 cases v
 case any=>exact .any _ (by simpa only [okC] using h)
 all_goals (cases x<;>simp only [okC,y17,reduceCtorEq] at h)
 case int.int k n k' n'=>
  simp only [y5,decide_eq_true_eq] at h
  obtain ⟨⟨⟨rfl,rfl⟩,h1⟩,h2⟩:=h
  exact .int _ _ ⟨h1,h2⟩
 case bool.bool b b'=>simp at h;subst h;exact .bool _
 case str.string l s=>simp only [y5,decide_eq_true_eq] at h;exact .str _ _ h.1 h.2
 case sl.slice z xs a n cp=>
  cases z<;>cases xs<;>cases a<;>simp only [okC,y17,reduceCtorEq] at h
  simp only [y5,decide_eq_true_eq] at h
  obtain ⟨rfl,rfl⟩:=h
  exact .sl true [] none 0 0 (fun _ _=>undef) (by simp) rfl (fun _=>rfl) (fun i x h=>by simp at h) (fun i j x lf h=>by simp at h) (fun ad i j x lf h=>by simp at h) (fun i j x lf h=>by simp at h)
 case nilp.pointer a=>cases a<;>simp only [okC,y17,reduceCtorEq] at h;exact .nilp
 case nilf.nilFunc=>exact .nilf
 case nili.nilIface=>exact .nili
 case tup.tuple vs a=>
  cases vs<;>simp only [okC,y17,reduceCtorEq] at h
  have:a= #[]:=by simpa using h
  subst this
  exact .tup [] #[] rfl (fun i v h=>by simp at h)
theorem zl: ∀{cs:List V} {xs:List Value},okCs cs xs=true->xs.length=cs.length/\goods cs=true/\ ∀(i:Nat) (v:V),cs[i]? =some v->VR I ρ c v (xs.getD i undef)
 | [],[],_=>⟨rfl,rfl,fun i v h=>by simp at h⟩
 | [],_::_,h=>by simp [okCs] at h
 | _::_,[],h=>by simp [okCs] at h
 | v::l,x::m,h=>by
  simp only [okCs,y5] at h
  obtain ⟨h1,h2,h3⟩:=h
  obtain ⟨e,g,r⟩:=zl h3
  refine ⟨by simp [e],by simp [goods,h2,g],fun i u hi=>?_⟩
  cases i with
  | zero=>simp at hi;subst hi;exact okC_vr h1
  | succ i=>simpa using r i u (by simpa using hi)
theorem okK_vr {v:V} {x:Value} (h:okK v x=true):VR I ρ c v x:=by
 cases v
 case agg cs=>
  cases x<;>simp only [okK,okC,y17,reduceCtorEq] at h
  case agg arr=>
   obtain ⟨e,g,r⟩:=zl (I:=I) (ρ:=ρ) (c:=c) h
   refine .agg cs arr (by simpa using e) g fun i v hi=>?_
   have:=r i v hi
   simpa [y15,y14] using this
 all_goals exact okC_vr (by simpa only [okK] using h)
theorem arg_vr {m:MArg} {x:Operand} (h:okArg m x=true) {fr:Fr} {a:Act} (hf:FR I ρ c fr a.tmps):VR I ρ c (m.val fr) (a.eval x):=by
 cases m with
 | t n=>cases x<;>simp [okArg] at h;subst h;exact hf n
 | c v=>
  cases x with
  | tmp t=>simp [okArg] at h
  | const y=>show VR I ρ c v y;exact okK_vr (by simpa only [okArg] using h)
  | global g=>simp [okArg] at h
  | func f=>
   cases v<;>simp only [okArg,y17,reduceCtorEq] at h
   rename_i g cs
   cases cs<;>simp only [okArg,y17,reduceCtorEq] at h
   simp at h;subst h
   exact .fn g [] #[] rfl rfl (fun i v h=>by simp at h)
end
theorem zm (k:IntKind) (n:Int):inR k (k.wrap n):=by
 unfold inR IntKind.wrap
 cases k<;>simp only [IntKind.min,IntKind.max,IntKind.signed,IntKind.bits,y58,Bool.false_and,decide_eq_true_eq,if_true,ge_iff_le,y17,if_false,Nat.reduceSub]<;>(try split)<;>omega
theorem zn (k:IntKind) (n:Int):inR k (wrp k n):=by unfold wrp;exact zm k n
theorem zo (op:BinOp) (k:IntKind) (x y:Int):inR k (ibits op k x y):=by unfold ibits;exact zm k _
theorem zp (k:IntKind) (x y:Int):inR k (ishl k x y):=by unfold ishl;exact zm k _
theorem zq (k:IntKind):k.min<=0/\0<=k.max:=by cases k<;>decide
theorem zr (x:Int) (d:Int) (hd:0<d):(0<=x->0<=x.fdiv d/\x.fdiv d<=x)/\(x<0->x<=x.fdiv d/\x.fdiv d<=0):=by
 rw [y50 x (Int.le_of_lt hd)]
 refine ⟨fun hx=>⟨Int.ediv_nonneg hx (Int.le_of_lt hd),Int.ediv_le_self d hx⟩,fun hx=>⟨?_,?_⟩⟩
 ·refine Int.le_ediv_of_mul_le hd ?_
  have:x*d<=x*1:=Int.mul_le_mul_of_nonpos_left (by omega) (by omega)
  omega
 ·exact Int.ediv_nonpos_of_nonpos_of_neg (by omega) hd
theorem zs (k:IntKind) (x y:Int) (h:inR k x):inR k (ishr k x y):=by
 unfold ishr
 have hd:(0:Int)<2 ^ (min y.toNat k.bits):=Int.pow_pos (by decide)
 have:=zr x _ hd
 have hm:=zq k
 unfold inR at*
 by_cases hx:0<=x
 ·have:=this.1 hx;omega
 ·have:=this.2 (by omega);omega
theorem zt (k:IntKind) (x y:Int) (h:inR k x):inR k (x.tmod y):=by
 have hm:=zq k
 unfold inR at*
 by_cases hx:0<=x
 ·have h1:0<=x.tmod y:=Int.tmod_nonneg y hx
  have h2:x.tmod y<=x:=by
   have:=Int.natAbs_tmod x y
   have h3:x.natAbs % y.natAbs<=x.natAbs:=Nat.mod_le _ _
   omega
  omega
 ·have h3:x.natAbs % y.natAbs<=x.natAbs:=Nat.mod_le _ _
  have h4:=Int.natAbs_tmod x y
  have h5:x.tmod y<=0:=by
   have:=Int.tmod_nonneg y (show 0<= -x by omega)
   rw [Int.neg_tmod] at this
   omega
  omega
section
variable {I:Addr->Prop} {ρ:Infs} {c:Addr->Option Value} {P:Program} {w:World}
theorem str_eq {s t:ByteArray}:(s.toList==t.toList)=decide (s.data.toList.map (fun b=>(b.toNat:Int))=t.data.toList.map (fun b=>(b.toNat:Int))):=by
 rw [ByteArray.toList_eq,ByteArray.toList_eq,Bool.eq_iff_iff]
 simp only [beq_iff_eq,decide_eq_true_eq]
 constructor
 ·intro h;rw [h]
 ·intro h
  refine List.map_inj_right (f:=fun b:UInt8=>(b.toNat:Int)) (fun x y e=>?_) |>.1 h
  exact UInt8.toNat_inj.1 (by omega)
theorem zu (n m:Int):(n==m)=decide (n=m):=by by_cases h:n=m<;>simp [h]
theorem zv {op:BinOp} {x y v:V} {a b:Value} (hx:VR I ρ c x a) (hy:VR I ρ c y b) (h:vbin op x y=some v) (t:TypeId) (p q:Operand):
  ∃u,(do eqGuard op t p q a b;binOp op t a b:Sem Value).run P w= .ok u w/\VR I ρ c v u:=by
 cases hx<;>try (cases op<;>simp [vbin] at h;done)
 case int k n hk=>
  cases hy<;>try (cases op<;>simp [vbin] at h;done)
  case int k' m hm=>
   cases op<;>simp only [vbin] at h
   case add=>split at h<;>simp at h;subst h;rename_i e;subst e;exact ⟨_,by simp [go_sem,binOp,Op.intArith];rfl,by rw [<- show wrp k (n+m)=k.wrap (n+m) from by unfold wrp;rfl];exact .int _ _ (zn _ _)⟩
   case sub=>split at h<;>simp at h;subst h;rename_i e;subst e;exact ⟨_,by simp [go_sem,binOp,Op.intArith];rfl,by rw [<- show wrp k (n - m)=k.wrap (n - m) from by unfold wrp;rfl];exact .int _ _ (zn _ _)⟩
   case mul=>split at h<;>simp at h;subst h;rename_i e;subst e;exact ⟨_,by simp [go_sem,binOp,Op.intArith];rfl,by rw [<- show wrp k (n*m)=k.wrap (n*m) from by unfold wrp;rfl];exact .int _ _ (zn _ _)⟩
   case quo=>split at h<;>simp at h;obtain ⟨e,rfl⟩:=h;subst e;rename_i h0;exact ⟨_,by simp [go_sem,binOp,Op.intDiv,h0];rfl,by rw [<- show wrp k (n.tdiv m)=k.wrap (n.tdiv m) from by unfold wrp;rfl];exact .int _ _ (zn _ _)⟩
   case rem=>split at h<;>simp at h;obtain ⟨e,rfl⟩:=h;subst e;rename_i h0;exact ⟨.int k (n.tmod m),by simp [go_sem,binOp,Op.intDiv,h0], .int _ _ (zt _ _ _ hk)⟩
   case and=>split at h<;>simp at h;subst h;rename_i e;subst e;exact ⟨.int k (ibits .and k n m),by simp [go_sem,binOp,Op.intBits,ibits], .int _ _ (zo _ _ _ _)⟩
   case or=>split at h<;>simp at h;subst h;rename_i e;subst e;exact ⟨.int k (ibits .or k n m),by simp [go_sem,binOp,Op.intBits,ibits], .int _ _ (zo _ _ _ _)⟩
   case xor=>split at h<;>simp at h;subst h;rename_i e;subst e;exact ⟨.int k (ibits .xor k n m),by simp [go_sem,binOp,Op.intBits,ibits], .int _ _ (zo _ _ _ _)⟩
   case andNot=>split at h<;>simp at h;subst h;rename_i e;subst e;exact ⟨.int k (ibits .andNot k n m),by simp [go_sem,binOp,Op.intBits,ibits], .int _ _ (zo _ _ _ _)⟩
   case shl=>split at h<;>simp at h;subst h;rename_i h0;exact ⟨.int k (ishl k n m),by simp [go_sem,binOp,Op.shift,ishl,h0], .int _ _ (zp _ _ _)⟩
   case shr=>split at h<;>simp at h;subst h;rename_i h0;exact ⟨.int k (ishr k n m),by simp [go_sem,binOp,Op.shift,ishr,h0], .int _ _ (zs _ _ _ hk)⟩
   case eql=>split at h<;>simp at h;subst h;rename_i e;subst e;exact ⟨.bool (n==m),by simp [eqGuard,binOp,Op.intCmp],by rw [zu];exact .bool _⟩
   case neq=>split at h<;>simp at h;subst h;rename_i e;subst e;exact ⟨.bool (n !=m),by simp [eqGuard,binOp,Op.intCmp],by rw [bne,zu];exact .bool _⟩
   case lss=>split at h<;>simp at h;subst h;rename_i e;subst e;exact ⟨.bool (decide (n<m)),by simp [eqGuard,binOp,Op.intCmp], .bool _⟩
   case leq=>split at h<;>simp at h;subst h;rename_i e;subst e;exact ⟨.bool (decide (n<=m)),by simp [eqGuard,binOp,Op.intCmp], .bool _⟩
   case gtr=>split at h<;>simp at h;subst h;rename_i e;subst e;exact ⟨.bool (decide (m<n)),by simp [eqGuard,binOp,Op.intCmp], .bool _⟩
   case geq=>split at h<;>simp at h;subst h;rename_i e;subst e;exact ⟨.bool (decide (m<=n)),by simp [eqGuard,binOp,Op.intCmp], .bool _⟩
 case str l s hl hlb=>
  cases hy<;>try (cases op<;>simp [vbin] at h;done)
  case str l' s' hl' hlb'=>
   subst hl hl'
   cases op<;>simp only [vbin] at h<;>try (simp at h;done)
   case add=>
    split at h<;>simp at h;subst h;rename_i e
    simp only [y23,y43] at e
    have e':s.size+s'.size<=1099511627776:=e
    refine ⟨.string (s++s'),?_, .str _ _ (by simp [ByteArray.data_append]) (by simp;omega)⟩
    have: ¬((s.size:Int)+s'.size>IntKind.i64.max):=by simp [IntKind.max,IntKind.signed,IntKind.bits];omega
    simp [go_sem,binOp,Op.stringOp]
    omega
   case eql=>simp at h;subst h;exact ⟨_,by simp [eqGuard,binOp,Op.stringOp];rfl,by rw [str_eq];exact .bool _⟩
   case neq=>simp at h;subst h;exact ⟨_,by simp [eqGuard,binOp,Op.stringOp];rfl,by rw [str_eq];exact .bool _⟩
theorem vun_ok {op:UnOp} {x v:V} {a:Value} (hx:VR I ρ c x a) (h:vun op x=some v): ∃u,(Op.unary op a).run P w= .ok u w/\VR I ρ c v u:=by
 cases op<;>cases hx<;>simp only [vun,reduceCtorEq,y1] at h
 case neg.int k n hk=>subst h;exact ⟨.int k (wrp k (0 - n)),by simp [Op.unary,Op.intArith,wrp], .int _ _ (zn _ _)⟩
 case xor.int k n hk=>subst h;exact ⟨.int k (ibits .xor k (if k.signed then -1 else k.max) n),by simp [Op.unary,Op.intBits,ibits], .int _ _ (zo _ _ _ _)⟩
 case not.bool b=>subst h;exact ⟨.bool !b,by simp [Op.unary], .bool _⟩
end
section
variable {I:Addr->Prop} {ρ:Infs} {P:Program} {w:World} {H:Hp}
theorem add_add (a:Addr) (i j:Nat):(a.add i).add j=a.add (i+j):=by
 unfold Addr.add
 by_cases hi:i=0
 ·subst hi;simp
 ·by_cases hj:j=0
  ·subst hj;simp [hi]
  ·have:i+j≠0:=by omega
   simp [hi,hj,this,y53]
theorem add_mk (B o i:Nat):(⟨B,o,none⟩:Addr).add i=⟨B,o+i,none⟩:=by
 unfold Addr.add;split<;>simp_all
theorem zw (t:TypeId) {i:TypeInfo} (h:P.info? t=some i):(sizeOf t).run P w= .ok i.size w:=by
 simp [sizeOf,typeInfo,h]
def aggD:TypeDesc->Bool
 | .struct _=>true
 | .array _ _=>true
 | _=>false
theorem zx (t:TypeId) {d:TypeDesc} (h:P.underlying t=some d):(isAgg t).run P w= .ok (aggD d) w:=by
 simp only [isAgg,Sem.run_bind,run_underlying h,Result.andThen_ok]
 cases d<;>rfl
def okT (P:Program) (t:TypeId) (n:Nat) (agg:Bool):Bool:=
 match P.info? t,P.underlying t with
 | some i,some d=>i.size==n && (aggD d==agg) && (agg || n==1)
 | _,_=>false
theorem zy {t:TypeId} {n:Nat} {agg:Bool} (h:okT P t n agg=true):(∀w,(sizeOf t).run P w= .ok n w)/\(∀w,(isAgg t).run P w= .ok agg w)/\(agg=false->n=1):=by
 unfold okT at h
 cases hi:P.info? t with
 | none=>simp [hi] at h
 | some i=>
  cases hd:P.underlying t with
  | none=>simp [hi,hd] at h
  | some d=>
   simp only [hi,hd,y5,beq_iff_eq,y39] at h
   obtain ⟨⟨h1,h2⟩,h3⟩:=h
   exact ⟨fun w=>by rw [zw t hi,h1],fun w=>by rw [zx t hd,h2],fun e=>by rcases h3 with h3 | h3;rw [e] at h3;cases h3;exact h3⟩
theorem z4 {t:TypeId} {n:Nat} {agg:Bool} (h:okT P t n agg=true) (a:Addr) (arr:List Value) (hn:arr.length=n) (hc: ∀(j:Nat) (v:Value),arr[j]? =some v->w.cell? (a.add j)=some v):
  (loadVar t a).run P w= .ok (if agg=true then .agg arr.toArray else arr.getD 0 undef) w:=by
 obtain ⟨h1,h2,h3⟩:=zy h
 simp only [loadVar,Sem.run_bind,h2,Result.andThen_ok]
 cases agg with
 | true=>
  simp only [if_true,Sem.run_bind,h1,Result.andThen_ok]
  rw [<- hn,run_loadCells_list w a arr hc]
  rfl
 | false=>
  have hn1:=h3 rfl
  obtain ⟨v,rfl⟩: ∃v,arr=[v]:=by
   match arr,hn.trans hn1 with
   | [v],_=>exact ⟨v,rfl⟩
  have:=hc 0 v rfl
  simp only [Addr.add,if_true] at this
  simp [this]
theorem z5 {c:Addr->Option Value} {cs:List V} {off n:Nat} {agg:Bool} {v:V} {vals:Nat->Value} (h:part cs off n agg=some v) (hg:goods cs=true)
  (hv: ∀(j:Nat) (lf:V),cs[j]? =some lf->VR I ρ c lf (vals j)) (hn:agg=false->n=1):
  off+n<=cs.length/\VR I ρ c v (if agg=true then .agg ((List.range n).map fun j=>vals (off+j)).toArray else ((List.range n).map fun j=>vals (off+j)).getD 0 undef):=by
 unfold part at h
 cases agg with
 | true=>
  simp only [if_true] at h ⊢
  split at h
  ·rename_i hl
   simp only [y1] at h;subst h
   refine ⟨hl, .agg _ _ (by simp;omega) (zj fun i v hi=>?_) fun i v hi=>?_⟩
   ·rw [y46] at hi
    split at hi
    ·rw [y38] at hi;exact zi hg hi
    ·cases hi
   ·rw [y46] at hi
    split at hi
    ·rename_i hin
     rw [y38] at hi
     have:=hv _ _ hi
     simpa [hin] using this
    ·cases hi
  ·cases h
 | false=>
  simp only [y17,if_false] at h ⊢
  have:=hn rfl
  subst this
  have hlt:off<cs.length:=by
   rcases y28 off cs.length with h' | h'
   ·exact h'
   ·rw [y48 h'] at h;cases h
  refine ⟨hlt,?_⟩
  have:=hv _ _ h
  simpa using this
end
section
variable {I:Addr->Prop} {ρ:Infs} {P:Program} {w:World} {H:Hp}
theorem z6 {id ver:Nat} {r:Bool×Nat×List V×Bool} (h:row? H id ver=some r):H[id]? =some (.row ver r.1 r.2.1 r.2.2.1 r.2.2.2):=by
 unfold row? at h
 split at h
 ·rename_i v z sz xs x hb
  split at h
  ·rename_i e;simp at h;subst e;subst h;exact hb
  ·cases h
 ·cases h
theorem HR.info (hr:HR I ρ w H) {id:Nat} {b:Blk} (h:H[id]? =some b): ∃i,ρ[id]? =some i/\BlkOk I ρ w b i:=by
 have hl:id<H.length:=(List.getElem?_eq_some_iff.1 h).1
 have:id<ρ.length:=by rw [hr.len];exact hl
 exact ⟨ρ[id],by simp [this],hr.blk id b _ h (by simp [this])⟩
theorem HR.row (hr:HR I ρ w H) {id ver:Nat} {r:Bool×Nat×List V×Bool} (h:row? H id ver=some r):
  (r.1=true/\r.2.2.1=[]/\ρ[id]? =some (some (.nrow r.2.1 ver)))\/(r.1=false/\ ∃B K,ρ[id]? =some (some (.row B K r.2.1 ver r.2.2.1.length))/\RowAt I w B K r.2.1 r.2.2.1 r.2.2.2):=by
 obtain ⟨i,hi,hb⟩:=hr.info (z6 h)
 rcases hb with ⟨h1,h2,h3⟩ | ⟨h1,B,K,h2,h3⟩
 ·subst h3;exact .inl ⟨h1,h2,hi⟩
 ·subst h2;exact .inr ⟨h1,B,K,hi,h3⟩
theorem HR.box (hr:HR I ρ w H) {id:Nat} {cs:List V} (h:H[id]? =some (.box cs)):
  ∃B,ρ[id]? =some (some (.box B))/\(∃arr,CellsAt w B arr/\arr.size=cs.length/\goods cs=true/\ ∀(j:Nat) (lf:V),cs[j]? =some lf->VR I ρ w.cell? lf (arr.getD j undef))/\ ∀a,I a->a.block≠B:=by
 obtain ⟨i,hi,B,rfl,h1,h2⟩:=hr.info h
 exact ⟨B,hi,h1,h2⟩
theorem CellsAt.cell {B:Nat} {arr:Array Value} (h:CellsAt w B arr) (j:Nat) (hj:j<arr.size):w.cell? ⟨B,j,none⟩=some (arr.getD j undef):=by
 obtain ⟨ty,hb⟩:=h
 simp [World.cell?,hb,hj,y15]
theorem z7 {α:Type} {l:List α} {i:Nat} {x:α} (h:l[i]? =some x):i<l.length:=(List.getElem?_eq_some_iff.1 h).1
theorem RowAt.elem {B K sz:Nat} {xs:List V} {x:Bool} (h:RowAt I w B K sz xs x) {i:Nat} {e:V} (hi:xs[i]? =some e):
  (leaves e).length=sz/\ ∃vals:Nat->Value,(∀(j:Nat) (lf:V),(leaves e)[j]? =some lf->w.cell? ⟨B,i*sz+j,none⟩=some (vals j)/\deep1 lf=true/\ ∀ρ',VR I ρ' w.cell? lf (vals j)):=by
 obtain ⟨arr,hc,hs,hk,hl,hv,_⟩:=h
 refine ⟨hl i e hi,fun j=>arr.getD (i*sz+j) undef,fun j lf hj=>?_⟩
 have h1:=hv i j e lf hi hj
 refine ⟨hc.cell _ ?_,h1.1,fun ρ'=>h1.2.deep h1.1 ρ'⟩
 rw [hs]
 have hi':=z7 hi
 have hj':=z7 hj
 rw [hl i e hi] at hj'
 have:(i+1)*sz<=K*sz:=y16 sz (by omega)
 rw [y29] at this
 omega
theorem z8 {e:V} (h: ∀(j:Nat) (lf:V),(leaves e)[j]? =some lf->deep1 lf=true):goods (leaves e)=true:=
 zj fun i v hi=>zk (h i v hi)
theorem zba (hr:HR I ρ w H) {t:TypeId} {n:Nat} {agg:Bool} (ht:okT P t n agg=true) {x v:V} {a:Value} (hx:VR I ρ w.cell? x a) (h:vload H n agg x=some v):
  ∃ad,a= .pointer (some ad)/\ ∃u,(loadVar t ad).run P w= .ok u w/\VR I ρ w.cell? v u:=by
 have hn:=(zy ht).2.2
 have key: ∀(ad:Addr) (cs:List V) (off:Nat) (vals:Nat->Value),part cs off n agg=some v->goods cs=true->(∀(j:Nat) (lf:V),cs[j]? =some lf->VR I ρ w.cell? lf (vals j))->
   (∀(j:Nat),j<n->off+j<cs.length->w.cell? (ad.add j)=some (vals (off+j)))-> ∃u,(loadVar t ad).run P w= .ok u w/\VR I ρ w.cell? v u:=by
  intro ad cs off vals hp hg hv hc
  obtain ⟨hle,hvr⟩:=z5 hp hg hv hn
  refine ⟨_,z4 ht ad ((List.range n).map fun j=>vals (off+j)) (by simp) (fun j u hj=>?_),by simpa using hvr⟩
  have hjn:j<n:=by simpa using z7 hj
  have:u=vals (off+j):=by simpa [hjn] using hj.symm
  subst this
  exact hc j hjn (by omega)
 cases hx<;>try (simp [vload] at h;done)
 case ptr id off hi ho hp=>
  simp only [vload] at h
  split at h
  ·rename_i cs hb
   obtain ⟨B,hB,⟨arr,hc,hs,hg,hv⟩,_⟩:=hr.box hb
   obtain ⟨B',e1,e2⟩:=hp _ hB
   cases e1
   refine ⟨_,e2,key _ cs off (fun j=>arr.getD j undef) h hg hv (fun j hj hjl=>?_)⟩
   rw [add_mk]
   exact hc.cell _ (by omega)
  ·cases h
 case ep id ver i j hi ho hp=>
  simp only [vload] at h
  cases hrow:row? H id ver with
  | none=>simp [hrow] at h
  | some r=>
   simp only [hrow,y4] at h
   split at h
   ·rename_i e he
    rcases hr.row hrow with ⟨h1,h2,h3⟩ | ⟨h1,B,K,h2,h3⟩
    ·rw [h2] at he;simp at he
    ·obtain ⟨hl,vals,hvals⟩:=h3.elem he
     have e2:=(hp _ h2).2 rfl
     refine ⟨_,e2,key _ (leaves e) j vals h (z8 fun j lf hj=>(hvals j lf hj).2.1) (fun j lf hj=>(hvals j lf hj).2.2 ρ) (fun k hk hkl=>?_)⟩
     rw [add_mk,y53]
     exact (hvals (j+k) _ (y6 hkl)).1
   ·cases h
 case rp cs ad vals hcell hg hv=>
  simp only [vload] at h
  exact ⟨ad,rfl,key ad cs 0 vals h hg hv (fun j hj hjl=>by
   rw [y41] at*
   exact (hcell j _ (y6 hjl)).2)⟩
theorem zbb {off:Nat} {x v:V} {a:Value} (hx:VR I ρ w.cell? x a) (h:vfaddr off x=some v): ∀ad,a= .pointer (some ad)->VR I ρ w.cell? v (.pointer (some (ad.add off))):=by
 intro ad e
 cases hx<;>try (simp [vfaddr] at h;done)
 case ptr id o hi ho hp=>
  simp only [vfaddr,y1] at h;subst h
  refine .ptr _ _ _ hi ⟨_,rfl⟩ fun inf hinf=>?_
  obtain ⟨B,e1,e2⟩:=hp inf hinf
  rw [e] at e2
  refine ⟨B,e1,?_⟩
  simp only [Value.pointer.injEq,y1] at e2
  rw [e2,add_mk]
 case ep id ver i j hi ho hp=>
  simp only [vfaddr,y1] at h;subst h
  refine .ep _ _ _ _ _ hi ⟨_,rfl⟩ fun inf hinf=>?_
  have:=hp inf hinf
  cases inf with
  | dsk B D=>exact this
  | box B=>exact this
  | nrow s v=>exact this
  | row B K s v L=>
   refine ⟨this.1,fun ev=>?_⟩
   have e2:=this.2 ev
   rw [e] at e2
   simp only [Value.pointer.injEq,y1] at e2
   rw [e2,add_mk,y53]
 case rp cs ad' vals hcell hg hv=>
  simp only [vfaddr,y1] at h;subst h
  simp only [Value.pointer.injEq,y1] at e;subst e
  refine .rp _ _ (fun j=>vals (off+j)) (fun j lf hj=>?_) (zj fun i u hi=>?_) (fun j lf hj=>?_)
  ·rw [y38] at hj;rw [add_add];exact hcell _ _ hj
  ·rw [y38] at hi;exact zi hg hi
  ·rw [y38] at hj;exact hv _ _ hj
end
section
variable {I:Addr->Prop} {ρ:Infs} {P:Program} {w:World} {H:Hp}
def okSl (P:Program) (t:TypeId) (sz:Nat):Bool:=
 match P.underlying t with
 | some (.slice e)=>(match P.info? e with | some i=>i.size==sz && decide (i.bytes<=4096) && decide (0<sz) && (match i.zero with | some v=>v.cells.size==sz | none=>false) | none=>false)
 | _=>false
theorem zbc {t:TypeId} {sz:Nat} (h:okSl P t sz=true): ∃e i,P.underlying t=some (.slice e)/\P.info? e=some i/\i.size=sz/\i.bytes<=4096:=by
 unfold okSl at h
 split at h
 ·rename_i e he
  split at h
  ·rename_i i hi
   simp only [y5,beq_iff_eq,decide_eq_true_eq] at h
   exact ⟨e,i,he,hi,h.1.1.1,h.1.1.2⟩
  ·cases h
 ·cases h
theorem zbd {t:TypeId} {sz:Nat} (h:okSl P t sz=true):0<sz/\ ∃e i z,P.underlying t=some (.slice e)/\P.info? e=some i/\i.size=sz/\i.bytes<=4096/\i.zero=some z/\z.cells.size=sz:=by
 unfold okSl at h
 split at h
 ·rename_i e he
  split at h
  ·rename_i i hi
   simp only [y5,beq_iff_eq,decide_eq_true_eq] at h
   obtain ⟨⟨⟨h1,h2⟩,h3⟩,h4⟩:=h
   split at h4
   ·rename_i z hz
    exact ⟨h3,e,i,z,he,hi,h1,h2,hz,by simpa using h4⟩
   ·cases h4
  ·cases h
 ·cases h
theorem zbe {t:TypeId} {sz:Nat} (ht:okSl P t sz=true) (k:IntKind) (n:Int) (ad:Addr) (len cp:Nat) (h0:0<=n) (h1:n.toNat<len):
  (Instr.indexAt t (.slice (some ad) len cp) (.int k n)).run P w= .ok (.pointer (some (ad.add (n.toNat*sz)))) w:=by
 obtain ⟨e,i,hu,hi,hs,_⟩:=zbc ht
 have:n<(len:Int):=by omega
 simp [Instr.indexAt,asIntOf,run_underlying hu,sizeOf,typeInfo,hi,hs,h0,this]
theorem zbf (hr:HR I ρ w H) {t:TypeId} {sz:Nat} (ht:okSl P t sz=true) {x v:V} {a:Value} {k:IntKind} {n:Int} (hx:VR I ρ w.cell? x a) (h:viaddr H sz x n=some v):
  ∃u,(Instr.indexAt t a (.int k n)).run P w= .ok u w/\VR I ρ w.cell? v u:=by
 unfold viaddr at h
 split at h
 ·rename_i h0
  cases hx<;>try (simp at h;done)
  case sl z xs a cp s vals hc hz hn hs hd hcell hv=>
   simp only at h
   split at h
   ·rename_i e he
    split at h
    ·rename_i hl
     simp only [y1] at h;subst h
     have hlt:=z7 he
     cases a with
     | none=>have:=hn rfl;omega
     | some ad=>
      have hs':s=sz:=by rw [<- hs _ _ he,hl]
      subst hs'
      refine ⟨_,zbe ht k n ad _ cp h0 hlt, .rp _ _ (fun j=>vals n.toNat j) (fun j lf hj=>?_) (zj fun i u hi=>zk (hd _ _ _ _ he hi)) (fun j lf hj=>hv _ _ _ _ he hj)⟩
      rw [add_add]
      exact hcell ad _ _ _ _ rfl he hj
    ·cases h
   ·cases h
  case psl xs ad cp vals hc hg hcell hv=>
   simp only at h
   split at h
   ·rename_i e he
    split at h
    ·rename_i hl
     subst hl
     simp only [y1] at h;subst h
     refine ⟨_,zbe ht k n ad _ cp h0 (z7 he), .rp _ _ (fun j=>vals n.toNat) (fun j lf hj=>?_) (by simp [goods,zi hg he]) (fun j lf hj=>?_)⟩
     ·cases j with
      | zero=>rw [Nat.mul_one,add_add];exact hcell _ _ he
      | succ j=>simp at hj
     ·cases j with
      | zero=>simp at hj;subst hj;exact hv _ _ he
      | succ j=>simp at hj
    ·cases h
   ·cases h
  case vw id ver off len md hi ho hp=>
   simp only at h
   cases hrow:row? H id ver with
   | none=>simp [hrow] at h
   | some r=>
    simp only [hrow,y4] at h
    split at h
    ·rename_i hlt
     split at h
     ·rename_i hsz
      simp only [y1] at h;subst h
      rcases hr.row hrow with ⟨h1,h2,h3⟩ | ⟨h1,B,K,h2,h3⟩
      ·have:=(hp _ h3).2 rfl;omega
      ·obtain ⟨e1,e2,ad,cp,rfl,e3,e4,e5⟩:=(hp _ h2).2 rfl
       obtain rfl:=e5 (by omega)
       refine ⟨_,zbe ht k n _ len cp h0 hlt, .ep _ _ _ _ _ hi ⟨_,rfl⟩ fun inf hinf=>?_⟩
       rw [h2] at hinf
       simp only [y1] at hinf;subst hinf
       refine ⟨y13 _,fun _=>?_⟩
       rw [add_mk,hsz,y29,Nat.add_zero]
     ·cases h
    ·cases h
 ·cases h
theorem zbg {xs:List V} {off len md:Nat} (h1:off+len<=xs.length) (h2:md=1->off+len=xs.length):(cut xs off len md).length=len/\ ∀(i:Nat) (e:V),(cut xs off len md)[i]? =some e->xs[off+i]? =some e:=by
 unfold cut
 split
 ·rename_i hm
  have:=h2 hm
  split
  ·rename_i h0;subst h0;exact ⟨by omega,fun i e hi=>by rwa [y41]⟩
  ·exact ⟨by simp;omega,fun i e hi=>by rwa [y38] at hi⟩
 ·split
  ·rename_i h0;subst h0
   refine ⟨by simp;omega,fun i e hi=>?_⟩
   rw [y46] at hi
   split at hi
   ·rwa [y41]
   ·cases hi
  ·refine ⟨by simp;omega,fun i e hi=>?_⟩
   rw [y46] at hi
   split at hi
   ·rwa [y38] at hi
   ·cases hi
structure Reads (I:Addr->Prop) (ρ:Infs) (w:World) (ys:List V) (sz:Nat) (a:Value):Prop where
 mk::(out: ∃ad cp,a= .slice ad ys.length cp/\ys.length<=cp/\(ad=none->ys=[])/\(∀(i:Nat) (e:V),ys[i]? =some e->(leaves e).length=sz)/\ ∃vals:Nat->Nat->Value,(∀(i j:Nat) (e lf:V),ys[i]? =some e->(leaves e)[j]? =some lf->deep1 lf=true/\(∀ρ',VR I ρ' w.cell? lf (vals i j))/\ ∀ad',ad=some ad'->w.cell? (ad'.add (i*sz+j))=some (vals i j)))
theorem zbh (hr:HR I ρ w H) {x:V} {ys:List V} {a:Value} (hx:VR I ρ w.cell? x a) (h:elems H x=some ys) (sz:Nat) (hsz: ∀(i:Nat) (e:V),ys[i]? =some e->(leaves e).length=sz):Reads I ρ w ys sz a:=by
 cases hx<;>try (simp [elems] at h;done)
 case sl z xs a cp s vals hc hz hn hs' hd hcell hv=>
  simp only [elems,y1] at h;subst h
  refine ⟨_,cp,rfl,hc.1,fun e=>?_,hsz,vals,fun i j e lf hi hj=>⟨hd _ _ _ _ hi hj,fun ρ'=>(hv _ _ _ _ hi hj).deep (hd _ _ _ _ hi hj) ρ',fun ad' ha=>?_⟩⟩
  ·have:=hn e;exact y33 (by omega)
  ·have e1:s=sz:=by rw [<- hs' _ _ hi,hsz _ _ hi]
   rw [<- e1]
   exact (hcell ad' i j e lf ha hi hj).2
 case vw id ver off len md hi ho hp=>
  simp only [elems] at h
  cases hrow:row? H id ver with
  | none=>simp [hrow] at h
  | some r=>
   simp only [hrow,y4,y1] at h;subst h
   rcases hr.row hrow with ⟨h1,h2,h3⟩ | ⟨h1,B,K,h2,h3⟩
   ·obtain ⟨rfl,e1,e2⟩:=(hp _ h3).2 rfl
    have:cut r.2.2.1 off len md=[]:=by rw [h2];unfold cut;subst e1;subst e2;split<;>simp
    rw [this]
    exact ⟨none,0,rfl,by simp,fun _=>rfl,fun i e h=>by simp at h,fun _ _=>undef,fun i j e lf h=>by simp at h⟩
   ·obtain ⟨e1,e2,ad,cp,rfl,e3,e4,e5⟩:=(hp _ h2).2 rfl
    obtain ⟨c1,c2⟩:=zbg e1 e2
    have hsz': ∀(i:Nat) (e:V),(cut r.2.2.1 off len md)[i]? =some e->r.2.1=sz:=fun i e hi=>by
     rw [<- hsz i e hi,(h3.elem (c2 i e hi)).1]
    refine ⟨some ad,cp,by rw [c1],by omega,fun e=>(by cases e),hsz,fun i j=>w.cell? (ad.add (i*sz+j)) |>.getD undef,fun i j e lf hi hj=>?_⟩
    obtain ⟨hl,vals,hvals⟩:=h3.elem (c2 i e hi)
    obtain ⟨v1,v2,v3⟩:=hvals j lf hj
    have hlen:0<cp:=by have:=z7 hi;omega
    obtain rfl:=e5 hlen
    have hc:w.cell? ((⟨B,off*r.2.1,none⟩:Addr).add (i*sz+j))=some (vals j):=by
     rw [add_mk,<- hsz' i e hi,<- y53,<- y29];exact v1
    simp only [hc,y44]
    refine ⟨v2,v3,fun ad' ha=>?_⟩
    simp only [y1] at ha;subst ha
    exact hc
end
section
variable {I:Addr->Prop} {ρ:Infs} {P:Program} {w:World} {H:Hp}
theorem zbi {x:Value} {k:IntKind} {n:Int} (hx:x= .int k n) (y:Nat) (c:BoundsCode) (h0:0<=n) (h1:n.toNat<=y):(Instr.sliceBound x y c).run P w= .ok n.toNat w:=by
 subst hx
 have:n<=(y:Int):=by omega
 simp [Instr.sliceBound,asIntOf,h0,this]
def Bnd (x:Option Value) (dflt n lim:Nat):Prop:=(x=none/\n=dflt)\/ ∃k m,x=some (.int k m)/\0<=m/\m.toNat=n/\n<=lim
theorem zbj {t:TypeId} {sz:Nat} (ht:okSl P t sz=true) (a:Option Addr) (len cp:Nat) (lo hi mx:Option Value) (l h m:Nat)
  (hm:Bnd mx cp m cp) (hmh:mx.isSome=true->hi.isSome=true) (hh:Bnd hi len h m) (hl:Bnd lo 0 l h):
  (Instr.sliceAt t (.slice a len cp) lo hi mx).run P w= .ok (.slice (if m=l then a else a.map (·.add (l*sz))) (h - l) (m - l)) w:=by
 obtain ⟨e,i,hu,hi',hs,_⟩:=zbc ht
 have hb:(Instr.sliceBounds true len cp lo hi mx).run P w= .ok (l,h,m) w:=by
  rcases hm with ⟨rfl,rfl⟩ | ⟨k',n',rfl,h4,rfl,h5⟩
  ·rcases hh with ⟨rfl,rfl⟩ | ⟨k,n,rfl,h0,rfl,h1⟩
   ·rcases hl with ⟨rfl,rfl⟩ | ⟨k,n,rfl,h0,rfl,h1⟩
    ·simp [Instr.sliceBounds]
    ·simp [Instr.sliceBounds,zbi (P:=P) (w:=w) rfl _ _ h0 h1]
   ·rcases hl with ⟨rfl,rfl⟩ | ⟨k,n,rfl,h2,rfl,h3⟩
    ·simp [Instr.sliceBounds,zbi (P:=P) (w:=w) rfl _ _ h0 h1]
    ·simp [Instr.sliceBounds,zbi (P:=P) (w:=w) rfl _ _ h0 h1,zbi (P:=P) (w:=w) rfl _ _ h2 h3]
  ·rcases hh with ⟨rfl,rfl⟩ | ⟨k,n,rfl,h0,rfl,h1⟩
   ·simp at hmh
   ·rcases hl with ⟨rfl,rfl⟩ | ⟨k,n,rfl,h2,rfl,h3⟩
    ·simp [Instr.sliceBounds,zbi (P:=P) (w:=w) rfl _ _ h0 h1,zbi (P:=P) (w:=w) rfl _ _ h4 h5]
    ·simp [Instr.sliceBounds,zbi (P:=P) (w:=w) rfl _ _ h0 h1,zbi (P:=P) (w:=w) rfl _ _ h4 h5,zbi (P:=P) (w:=w) rfl _ _ h2 h3]
 simp [Instr.sliceAt,run_underlying hu,Instr.slice,hb,sizeOf,typeInfo,hi',hs]
theorem VR.of_int {c:Addr->Option Value} {k:IntKind} {n:Int} {x:Value} (h:VR I ρ c (.int k n) x):x= .int k n/\inR k n:=by
 cases h with
 | int k n h=>exact ⟨rfl,h⟩
theorem zbk: ∀{ys:List V},u8s ys=true-> ∀(i:Nat) (v:V),ys[i]? =some v-> ∃n,v= .int .u8 n
 | [],_,i,v,h=>by simp at h
 | x::l,hu,i,v,h=>by
  unfold u8s at hu
  split at hu
  ·rename_i e;cases e
  ·rename_i n l' e
   cases e
   cases i with
   | zero=>simp at h;exact ⟨n,h.symm⟩
   | succ i=>exact zbk hu i v (by simpa using h)
  ·cases hu
theorem b2s_ok {ys:List V} {a:Value} (hr:Reads I ρ w ys 1 a) (hu:u8s ys=true) {src dst e:TypeId} (hs:P.underlying src=some (.slice e)) (he:P.underlying e=some (.int .u8)) (hd:P.underlying dst=some .string):
  ∃s,(convert src dst a).run P w= .ok (.string s) w/\s.data.toList.map (fun b=>(b.toNat:Int))=ys.map num:=by
 obtain ⟨⟨ad,cp,rfl,hc,hn,hsz,vals,hv⟩⟩:=hr
 have hnum: ∀n∈ys.map num,0<=n/\n<256:=by
  intro n hn'
  obtain ⟨v,hv',rfl⟩:=List.mem_map.1 hn'
  obtain ⟨i,hi⟩:=List.mem_iff_getElem?.1 hv'
  obtain ⟨m,rfl⟩:=zbk hu i v hi
  have:=((hv i 0 _ (.int .u8 m) hi rfl).2.1 []).of_int.2
  simp only [inR,IntKind.min,IntKind.max,IntKind.signed,IntKind.bits] at this
  simp only [num]
  simp at this
  omega
 have hcell: ∀(i:Nat) (ad':Addr),ad=some ad'->i<ys.length->w.cell? (ad'.add i)=some (.int .u8 ((ys.map num).getD i 0)):=by
  intro i ad' ha hi
  obtain ⟨m,hm⟩:=zbk hu i _ (y6 hi)
  have h0:=hv i 0 _ (.int .u8 m) (y6 hi) (by rw [hm];rfl)
  have h1:=h0.2.2 ad' ha
  rw [Nat.mul_one,Nat.add_zero] at h1
  rw [h1]
  rw [(h0.2.1 []).of_int.1]
  simp [hi,hm,num]
 have hmap:(ys.map num).map (fun n=>((UInt8.ofNat n.toNat).toNat:Int))=ys.map num:=by
  conv=>rhs;rw [<- List.map_id (ys.map num)]
  refine List.map_congr_left fun n hn'=>?_
  have:=hnum n hn'
  simp only [UInt8.toNat_ofNat',id]
  omega
 cases ad with
 | none=>
  obtain rfl:=hn rfl
  exact ⟨_,run_convert_bytes_nil w src e hs he _ _ dst hd,by rfl⟩
 | some ad=>
  refine ⟨strOfNums (ys.map num),?_,?_⟩
  ·have hl:(loadCells ad ys.length).run P w= .ok ((ys.map num).map (Value.int .u8)).toArray w:=by
    have:=run_loadCells_list (P:=P) w ad ((ys.map num).map (Value.int .u8)) (fun j v hj=>by
     have hjl:j<ys.length:=by simpa using z7 hj
     rw [hcell j ad rfl hjl]
     simp [hjl] at hj ⊢
     exact hj)
    simpa using this
   rw [run_convert_bytes_string w src dst e _ _ _ hs he hd,run_bytesToString w _ _ _ _ hl,foldl_push_bytes]
   simp [strOfNums,ByteArray.empty,ByteArray.emptyWithCapacity]
   rfl
  ·rw [strOfNums_data,List.map_map]
   exact hmap
end
section
variable {I:Addr->Prop} {ρ:Infs} {P:Program} {w:World} {H:Hp}
theorem zbl {sz:Nat}: ∀{xs:List V},sizes sz xs=true-> ∀(i:Nat) (e:V),xs[i]? =some e->(leaves e).length=sz
 | [],_,i,e,h=>by simp at h
 | x::l,hs,i,e,h=>by
  simp only [sizes,y5,decide_eq_true_eq] at hs
  cases i with
  | zero=>simp at h;subst h;exact hs.1
  | succ i=>exact zbl hs.2 i e (by simpa using h)
def OptR (x:Option Value) (n:Option Int):Prop:=match n with
 | none=>x=none
 | some n=> ∃k,x=some (.int k n)
theorem sl_sub {c:Addr->Option Value} {z:Bool} {xs ys:List V} {a0:Option Addr} {n cp l h m sz:Nat} (hx:VR I ρ c (.sl z xs) (.slice a0 n cp)) (hlm:l<=h) (hm:h<=m) (hmc:m<=cp) (hly:ys.length=h - l) (hhx:h<=xs.length)
  (hy: ∀(i:Nat) (e:V),ys[i]? =some e->xs[l+i]? =some e) (hsz:l=0\/sizes sz xs=true):
  VR I ρ c (.sl z ys) (.slice (if m=l then a0 else a0.map (·.add (l*sz))) (h - l) (m - l)):=by
 cases hx with
 | sl z xs a cp s vals hc hz hn hs hd hcell hv=>
  rw [<- hly]
  refine .sl z ys _ (m - l) s (fun i j=>vals (l+i) j) (by omega) (by rw [hz];split<;>cases a0<;>rfl) (fun e=>?_) (fun i x hi=>hs _ _ (hy i x hi)) (fun i j x lf hi hj=>hd _ _ _ _ (hy i x hi) hj) (fun ad i j x lf ha hi hj=>?_) (fun i j x lf hi hj=>hv _ _ _ _ (hy i x hi) hj)
  ·have:a0=none:=by split at e<;>simp_all
   have:=hn this
   omega
  ·have hlt:=z7 hi
   have hml: ¬m=l:=by omega
   rw [if_neg hml] at ha
   cases a0 with
   | none=>cases ha
   | some ad0=>
    simp only [y37,y1] at ha;subst ha
    have h1:=hcell ad0 (l+i) j x lf rfl (hy i x hi) hj
    rw [add_add]
    have e1:l*sz+(i*s+j)=(l+i)*s+j:=by
     rcases hsz with rfl | hsz
     ·simp
     ·have:s=sz:=by rw [<- hs _ _ (hy i x hi),zbl hsz _ _ (hy i x hi)]
      rw [this,y29,y53]
    rw [e1]
    exact h1
theorem zbm {xs:List V} {lo hi:Option Int} (h0:0<=lo.getD 0) (h1:lo.getD 0<=hi.getD xs.length) (h2:(hi.getD xs.length).toNat<=xs.length):
  (between xs lo hi).length=(hi.getD xs.length).toNat - (lo.getD 0).toNat/\ ∀(i:Nat) (e:V),(between xs lo hi)[i]? =some e->xs[(lo.getD 0).toNat+i]? =some e:=by
 cases lo with
 | none=>
  cases hi with
  | none=>simp [between]
  | some h=>
   simp only [between,y44,Option.getD_none] at*
   refine ⟨by simp;omega,fun i e hi=>?_⟩
   rw [y46] at hi
   split at hi
   ·simpa using hi
   ·cases hi
 | some l=>
  cases hi with
  | none=>
   simp only [between,y44,Option.getD_none] at*
   refine ⟨by simp,fun i e hi=>by rwa [y38] at hi⟩
  | some h=>
   simp only [between,y44] at*
   refine ⟨by simp;omega,fun i e hi=>?_⟩
   rw [y38,y46] at hi
   split at hi
   ·exact hi
   ·cases hi
theorem zbn {x:Option Value} {n:Option Int} (h:OptR x n) (h0:0<=n.getD 0) (b:Nat) (hb:(n.getD 0).toNat<=b):Bnd x 0 (n.getD 0).toNat b:=by
 cases n with
 | none=>exact .inl ⟨h,rfl⟩
 | some n=>obtain ⟨k,rfl⟩:=h;exact .inr ⟨k,n,rfl,h0,rfl,hb⟩
theorem zbo {x:Option Value} {n:Option Int} (h:OptR x n) (len:Nat) (h0:0<=n.getD len) (b:Nat) (hb:(n.getD len).toNat<=b):Bnd x len (n.getD len).toNat b:=by
 cases n with
 | none=>exact .inl ⟨h,by simp⟩
 | some n=>obtain ⟨k,rfl⟩:=h;exact .inr ⟨k,n,rfl,h0,rfl,hb⟩
theorem zbp (hr:HR I ρ w H) {t:TypeId} {sz:Nat} (ht:okSl P t sz=true) {x v:V} {a:Value} {H':Hp} (hx:VR I ρ w.cell? x a) {lo hi mx:Option Int} {lo' hi' mx':Option Value} (hl:OptR lo' lo) (hh:OptR hi' hi) (hm:OptR mx' mx)
  (h:vslc H sz x lo hi mx=some (v,H')):H'=H/\ ∃u,(Instr.sliceAt t a lo' hi' mx').run P w= .ok u w/\VR I ρ w.cell? v u:=by
 cases hx<;>try (simp [vslc] at h;done)
 case sl z xs a0 cp s vals hc hz hn hs hd hcell hv=>
  have hx:VR I ρ w.cell? (.sl z xs) (.slice a0 xs.length cp):= .sl z xs a0 cp s vals hc hz hn hs hd hcell hv
  simp only [vslc] at h
  have h':mxOk xs.length hi mx=true/\0<=lo.getD 0/\lo.getD 0<=hi.getD xs.length/\(hi.getD xs.length).toNat<=xs.length/\(lo.isNone || sizes sz xs)=true/\v= .sl z (between xs lo hi)/\H'=H:=by
   by_cases q1:mxOk xs.length hi mx=true
   ·rw [if_pos q1] at h
    by_cases q2:0<=lo.getD 0
    ·rw [if_pos q2] at h
     by_cases q3:lo.getD 0<=hi.getD xs.length
     ·rw [if_pos q3] at h
      by_cases q4:(hi.getD xs.length).toNat<=xs.length
      ·rw [if_pos q4] at h
       by_cases q5:(lo.isNone || sizes sz xs)=true
       ·rw [if_pos q5] at h
        simp only [y1,y7] at h
        exact ⟨q1,q2,q3,q4,q5,h.1.symm,h.2.symm⟩
       ·rw [if_neg q5] at h;cases h
      ·rw [if_neg q4] at h;cases h
     ·rw [if_neg q3] at h;cases h
    ·rw [if_neg q2] at h;cases h
   ·rw [if_neg q1] at h;cases h
  obtain ⟨hmx,h0,h1,h2,h3,rfl,rfl⟩:=h'
  obtain ⟨b1,b2⟩:=zbm h0 h1 h2
  have h4:lo.getD 0=0\/sizes sz xs=true:=by
   simp only [y39] at h3
   rcases h3 with h3 | h3
   ·cases lo with
    | none=>exact .inl rfl
    | some l=>cases h3
   ·exact .inr h3
  refine ⟨rfl,?_⟩
  cases mx with
  | none=>
   simp only [OptR] at hm;subst hm
   refine ⟨_,zbj ht a0 xs.length cp lo' hi' none _ _ cp (.inl ⟨rfl,rfl⟩) (by simp) (zbo hh _ (by omega) _ (by omega)) (zbn hl h0 _ (by omega)),?_⟩
   exact sl_sub hx (by omega) (by omega) (y13 _) b1 h2 b2 (by rcases h4 with h4 | h4;exact .inl (by omega);exact .inr h4)
  | some m=>
   obtain ⟨k,rfl⟩:=hm
   simp only [mxOk,y5,decide_eq_true_eq] at hmx
   obtain ⟨⟨⟨hm0,hm1⟩,hm2⟩,hm3⟩:=hmx
   cases hi with
   | none=>cases hm0
   | some hh'=>
    obtain ⟨k2,rfl⟩:=hh
    simp only [y44] at*
    refine ⟨_,zbj ht a0 xs.length cp lo' (some (.int k2 hh')) (some (.int k m)) (lo.getD 0).toNat hh'.toNat m.toNat (.inr ⟨k,m,rfl,hm1,rfl,by omega⟩) (by simp) (.inr ⟨k2,hh',rfl,by omega,rfl,by omega⟩) (zbn hl h0 _ (by omega)),?_⟩
    exact sl_sub hx (by omega) (by omega) (by omega) b1 h2 b2 (by rcases h4 with h4 | h4;exact .inl (by omega);exact .inr h4)
 case vw id ver off len md hi0 ho hp=>
  simp only [vslc] at h
  cases hrow:row? H id ver with
  | none=>simp [hrow] at h
  | some r=>
   simp only [hrow,y4] at h
   split at h
   ·rename_i hsz
    -- the slice itself, and its bounds
    obtain ⟨a0,cp,L,rfl,hLx,hoL,hcp,key⟩: ∃(a0:Option Addr) (cp L:Nat),a= .slice a0 len cp/\L=r.2.2.1.length/\off+len<=L/\(len<=cp/\(md≠2->L<=off+cp))/\
      (∀(l n m md':Nat),l+n<=m->m<=cp->off+l+n<=L->(md'=1->off+l+n=L)->(md'≠2->m=cp/\md≠2)->VR I ρ w.cell? (.vw id ver (off+l) n md') (.slice (if m=l then a0 else a0.map (·.add (l*sz))) n (m - l))):=by
     rcases hr.row hrow with ⟨h1,h2,h3⟩ | ⟨h1,B,K,h2,h3⟩
     ·obtain ⟨rfl,e1,e2⟩:=(hp _ h3).2 rfl
      subst e1 e2
      refine ⟨none,0,0,rfl,by rw [h2];rfl,by omega,⟨by omega,by omega⟩,fun l n m md' q1 q2 q3 q4 q5=> .vw _ _ _ _ _ _ hi0 ⟨_,_,rfl⟩ fun inf hinf=>?_⟩
      rw [h3] at hinf
      simp only [y1] at hinf;subst hinf
      refine ⟨y13 _,fun _=>?_⟩
      have:m=l:=by omega
      subst this
      have:n=0:=by omega
      subst this
      have:m=0:=by omega
      subst this
      simp
     ·obtain ⟨e1,e2,ad,cp,rfl,e3,e4,e5⟩:=(hp _ h2).2 rfl
      obtain ⟨arr,_,_,hK,_⟩:=h3
      refine ⟨some ad,cp,_,rfl,rfl,e1,⟨e3,fun hmd=>by have:=e4 hmd;omega⟩,fun l n m md' q1 q2 q3 q4 q5=> .vw _ _ _ _ _ _ hi0 ⟨_,_,rfl⟩ fun inf hinf=>?_⟩
      rw [h2] at hinf
      simp only [y1] at hinf;subst hinf
      refine ⟨y13 _,fun _=>⟨by omega,by omega,if m=l then ad else ad.add (l*sz),m - l,by split<;>rfl,by omega,fun hmd=>?_,fun hpos=>?_⟩⟩
      ·obtain ⟨q6,q7⟩:=q5 hmd
       have:=e4 q7
       omega
      ·rw [if_neg (by omega)]
       rw [e5 (by omega),add_mk,hsz,y29]
    split at h
    ·-- x[lo:]
     split at h
     ·rename_i h0
      split at h
      ·rename_i h1
       simp only [y1,y7] at h
       obtain ⟨rfl,rfl⟩:=h
       simp only [OptR] at hm hh;subst hm;subst hh
       refine ⟨rfl,_,zbj ht a0 len cp lo' none none _ len cp (.inl ⟨rfl,rfl⟩) (by simp) (.inl ⟨rfl,rfl⟩) (zbn hl h0 _ (by omega)),?_⟩
       by_cases hmd:md=2
       ·have:=key (lo.getD 0).toNat (len - (lo.getD 0).toNat) cp 2 (by omega) (y13 _) (by omega) (by omega) (by omega)
        rw [hmd];exact this
       ·refine key (lo.getD 0).toNat (len - (lo.getD 0).toNat) cp md (by omega) (y13 _) (by omega) (fun h1=>?_) (fun _=>⟨rfl,hmd⟩)
        rcases hr.row hrow with ⟨g1,g2,g3⟩ | ⟨g1,B,K,g2,g3⟩
        ·have:=(hp _ g3).2 rfl;rw [g2] at hLx;simp at hLx;omega
        ·have:=(hp _ g2).2 rfl;have:=this.2.1 h1;omega
      ·cases h
     ·cases h
    ·-- x[lo:hi]
     rename_i hh'
     have h':0<=lo.getD 0/\lo.getD 0<=hh'/\off+hh'.toNat<=(if md=2 then off+len else r.2.2.1.length)/\v= .vw id ver (off+(lo.getD 0).toNat) (hh'.toNat - (lo.getD 0).toNat) (if md=2 then 2 else if r.1=true then md else 0)/\H'=H:=by
      by_cases q1:0<=lo.getD 0
      ·rw [if_pos q1] at h
       by_cases q2:lo.getD 0<=hh'
       ·rw [if_pos q2] at h
        by_cases q3:off+hh'.toNat<=(if md=2 then off+len else r.2.2.1.length)
        ·rw [if_pos q3] at h
         simp only [y1,y7] at h
         exact ⟨q1,q2,q3,h.1.symm,h.2.symm⟩
        ·rw [if_neg q3] at h;cases h
       ·rw [if_neg q2] at h;cases h
      ·rw [if_neg q1] at h;cases h
     obtain ⟨h0,h1,h2,rfl,rfl⟩:=h'
     simp only [OptR] at hm;subst hm
     obtain ⟨k2,rfl⟩:=hh
     have h3:hh'.toNat<=cp:=by
      split at h2
      ·omega
      ·rename_i hmd;have:=hcp.2 hmd;omega
     refine ⟨rfl,_,zbj ht a0 len cp lo' (some (.int k2 hh')) none (lo.getD 0).toNat hh'.toNat cp (.inl ⟨rfl,rfl⟩) (by simp) (.inr ⟨k2,hh',rfl,by omega,rfl,h3⟩) (zbn hl h0 _ (by omega)),?_⟩
     have hL:off+(lo.getD 0).toNat+(hh'.toNat - (lo.getD 0).toNat)<=L:=by split at h2<;>omega
     by_cases hmd:md=2
     ·rw [if_pos hmd];exact key _ _ cp 2 (by omega) (y13 _) hL (by omega) (by omega)
     ·rw [if_neg hmd]
      split
      ·rename_i hz
       refine key _ _ cp md (by omega) (y13 _) hL (fun h1=>?_) (fun _=>⟨rfl,hmd⟩)
       rcases hr.row hrow with ⟨g1,g2,g3⟩ | ⟨g1,B,K,g2,g3⟩
       ·rw [g2] at hLx;simp at hLx;omega
       ·rw [g1] at hz;cases hz
      ·exact key _ _ cp 0 (by omega) (y13 _) hL (by omega) (fun _=>⟨rfl,hmd⟩)
    ·-- x[lo:hi:mx]
     rename_i m hh'
     have h':0<=lo.getD 0/\lo.getD 0<=hh'/\hh'<=m/\off+m.toNat<=(if md=2 then off+len else r.2.2.1.length)/\v= .vw id ver (off+(lo.getD 0).toNat) (hh'.toNat - (lo.getD 0).toNat) 2/\H'=H:=by
      by_cases q1:0<=lo.getD 0
      ·rw [if_pos q1] at h
       by_cases q2:lo.getD 0<=hh'
       ·rw [if_pos q2] at h
        by_cases q4:hh'<=m
        ·rw [if_pos q4] at h
         by_cases q3:off+m.toNat<=(if md=2 then off+len else r.2.2.1.length)
         ·rw [if_pos q3] at h
          simp only [y1,y7] at h
          exact ⟨q1,q2,q4,q3,h.1.symm,h.2.symm⟩
         ·rw [if_neg q3] at h;cases h
        ·rw [if_neg q4] at h;cases h
       ·rw [if_neg q2] at h;cases h
      ·rw [if_neg q1] at h;cases h
     obtain ⟨h0,h1,h2,h4,rfl,rfl⟩:=h'
     obtain ⟨k2,rfl⟩:=hh
     obtain ⟨k3,rfl⟩:=hm
     have h3:m.toNat<=cp:=by
      split at h4
      ·omega
      ·rename_i hmd;have:=hcp.2 hmd;omega
     refine ⟨rfl,_,zbj ht a0 len cp lo' (some (.int k2 hh')) (some (.int k3 m)) (lo.getD 0).toNat hh'.toNat m.toNat (.inr ⟨k3,m,rfl,by omega,rfl,h3⟩) (by simp) (.inr ⟨k2,hh',rfl,by omega,rfl,by omega⟩) (zbn hl h0 _ (by omega)),?_⟩
     exact key _ _ m.toNat 2 (by omega) h3 (by split at h4<;>omega) (by omega) (by omega)
    ·cases h
   ·cases h
end
section
variable {I I':Addr->Prop} {ρ:Infs} {P:Program} {w w':World} {H:Hp}
theorem CellsAt.move {B:Nat} {arr:Array Value} (h:CellsAt w B arr) (hk:w'.heap[B]? =w.heap[B]?):CellsAt w' B arr:=by
 obtain ⟨ty,hb⟩:=h;exact ⟨ty,by rw [hk,hb]⟩
theorem RowAt.move {B K sz:Nat} {xs:List V} {x:Bool} (h:RowAt I w B K sz xs x) (hI: ∀a,I a->I' a) (hc: ∀a,I a->w'.cell? a=w.cell? a) (hk:w'.heap[B]? =w.heap[B]?) (hn: ∀a,I' a->I a\/a.block≠B):RowAt I' w' B K sz xs x:=by
 obtain ⟨arr,h1,h2,h3,h4,h5,h6⟩:=h
 refine ⟨arr,h1.move hk,h2,h3,h4,fun i j e lf hi hj=>⟨(h5 i j e lf hi hj).1,((h5 i j e lf hi hj).2).mono hI hc (y13 _) (fun id hid=>by simp at hid)⟩,fun a ha hb=>?_⟩
 rcases hn a ha with h7 | h7
 ·exact h6 a h7 hb
 ·exact absurd hb h7
theorem RoomAt.move {o:Option Nat} {n cp:Nat} (h:RoomAt w o n cp) (hk: ∀r,o=some r->w'.heap[r]? =w.heap[r]?):RoomAt w' o n cp:=by
 cases o with
 | none=>exact h
 | some r=>obtain ⟨h1,arr,h2,h3⟩:=h;exact ⟨h1,arr,h2.move (hk r rfl),h3⟩
theorem NMap.move {nb cn:Nat} {es:Array MapEntry} {ks:List (Int×Nat)} (h:NMap w nb es cn ks) (hw:w'.heap[nb]? =w.heap[nb]?):NMap w' nb es cn ks:= {h with at_:=by rw [hw];exact h.at_}
theorem FileAt.move {f:Nat×Option Nat} {n:Nat} (h:FileAt w f n) (h1:w'.heap[f.1]? =w.heap[f.1]?) (h2: ∀r,f.2=some r->w'.heap[r]? =w.heap[r]?):FileAt w' f n:=by
 obtain ⟨cp,kp,g3,g4⟩:=h;exact ⟨cp,kp,g3.move h1,g4.move h2⟩
theorem DskIn.move {B:Nat} {D:List Nat} {own:Nat->Option (Nat×Nat)} {d:Dk} {kb nb:Nat} {wb:Option Nat} {wc:Nat} {fr:List (Nat×Option Nat)} {ek es:Array MapEntry} {ck cn:Nat} (h:DskIn w B D own d kb nb wb wc fr ek es ck cn)
  (hk: ∀x,(Inf.dsk B D).has x->w'.heap[x]? =w.heap[x]?):DskIn w' B D own d kb nb wb wc fr ek es ck cn where
 oB:=h.oB
 oK:=h.oK
 oN:=h.oN
 oW:=h.oW
 oF:=h.oF
 oD:=h.oD
 lt:=fun x hx=>by
  have:=hk x hx
  rw [Array.getElem?_eq_getElem (h.lt x hx)] at this
  exact (Array.getElem?_eq_some_iff.1 this).1
 cells:=h.cells.move (hk _ (h.oD _ _ h.oB))
 room:=h.room
 left:=h.left
 kept:=by rw [hk _ (h.oD _ _ h.oK)];exact h.kept
 map:=h.map.move (hk _ (h.oD _ _ h.oN))
 wts:=h.wts.move fun r hr=>hk _ (h.oD _ _ (h.oW r hr))
 len:=h.len
 file:=fun i p f hp hf=>(h.file i p f hp hf).move (hk _ (h.oD _ _ (h.oF i f hf).1)) fun r hr=>hk _ (h.oD _ _ ((h.oF i f hf).2 r hr))
theorem DskAt.move {B:Nat} {D:List Nat} {d:Dk} (h:DskAt w B D d) (hk: ∀x,(Inf.dsk B D).has x->w'.heap[x]? =w.heap[x]?):DskAt w' B D d:=by
 obtain ⟨own,kb,nb,wb,wc,fr,ek,es,ck,cn,h⟩:=h;exact ⟨own,kb,nb,wb,wc,fr,ek,es,ck,cn,h.move hk⟩
theorem DskAt.lt {B:Nat} {D:List Nat} {d:Dk} (h:DskAt w B D d) (x:Nat) (hx:(Inf.dsk B D).has x):x<w.heap.size:=by
 obtain ⟨own,kb,nb,wb,wc,fr,ek,es,ck,cn,h⟩:=h
 exact h.lt x hx
theorem BlkOk.move {ρ':Infs} {b:Blk} {i:Option Inf} (h:BlkOk I ρ w b i) (hI: ∀a,I a->I' a) (hc: ∀a,I a->w'.cell? a=w.cell? a) (hk: ∀B,Has i B->w'.heap[B]? =w.heap[B]?) (hn: ∀B a,Has i B->I' a->I a\/a.block≠B)
  (hl:ρ.length<=ρ'.length) (hp: ∀id,id<ρ.length->Pers ρ[id]? ρ'[id]?):BlkOk I' ρ' w' b i:=by
 cases b with
 | dead=>exact h
 | map m=>
  obtain ⟨B,rfl,⟨es,ck,h1,h2,h3⟩,h5⟩:=h
  refine ⟨B,rfl,⟨es,ck,by rw [hk B rfl];exact h1,h2,h3⟩,fun a ha hb=>?_⟩
  rcases hn B a rfl ha with h6 | h6
  ·exact h5 a h6 hb
  ·exact h6 hb
 | dsk d=>
  obtain ⟨B,D,rfl,h1,h5⟩:=h
  refine ⟨B,D,rfl,h1.move fun x hx=>hk x hx,fun a ha hb=>?_⟩
  rcases hn _ a hb ha with h6 | h6
  ·exact h5 a h6 hb
  ·exact h6 rfl
 | pmap m=>
  obtain ⟨B,rfl,⟨es,ck,h1,h2,h3⟩,h5⟩:=h
  refine ⟨B,rfl,⟨es,ck,by rw [hk B rfl];exact h1,h2,fun i k v hi=>?_⟩,fun a ha hb=>?_⟩
  ·obtain ⟨q1,q2,b,x,q3,q4⟩:=h3 i k v hi
   exact ⟨q1,q2,b,x,q3,q4.mono hI hc hl hp⟩
  ·rcases hn B a rfl ha with h6 | h6
   ·exact h5 a h6 hb
   ·exact h6 hb
 | box cs=>
  obtain ⟨B,rfl,⟨arr,h1,h2,h3,h4⟩,h5⟩:=h
  refine ⟨B,rfl,⟨arr,h1.move (hk B rfl),h2,h3,fun j lf hj=>(h4 j lf hj).mono hI hc hl hp⟩,fun a ha hb=>?_⟩
  rcases hn B a rfl ha with h6 | h6
  ·exact h5 a h6 hb
  ·exact h6 hb
 | row ver z sz xs x=>
  rcases h with h | ⟨h1,B,K,rfl,h2⟩
  ·exact .inl h
  ·exact .inr ⟨h1,B,K,rfl,h2.move hI hc (hk B rfl) (fun a ha=>hn B a rfl ha)⟩
theorem HR.move (hr:HR I ρ w H) (hk: ∀B,Live ρ B->w'.heap[B]? =w.heap[B]?) (hc: ∀a,I a->w'.cell? a=w.cell? a):HR I ρ w' H where
 len:=hr.len
 blk:=fun id b i hb hi=>(hr.blk id b i hb hi).move (fun a h=>h) hc (fun B hB=>by
   cases i with
   | none=>cases hB
   | some inf=>exact hk B ⟨id,inf,hi,hB⟩) (fun B a _ ha=> .inl ha) (y13 _) (fun _ _=>Pers.refl _)
 apart:=hr.apart
 cells:=fun a ha=>by rw [hc a ha];exact hr.cells a ha
theorem HR.live_lt (hr:HR I ρ w H) {B:Nat} (h:Live ρ B):B<w.heap.size:=by
 obtain ⟨id,inf,hi,hB⟩:=h
 have hl:id<H.length:=by rw [<- hr.len];exact z7 hi
 have hb:=hr.blk id H[id] _ (y6 hl) hi
 have key: ∀arr,CellsAt w B arr->B<w.heap.size:=fun arr ⟨ty,h⟩=>(Array.getElem?_eq_some_iff.1 h).1
 cases hq:H[id] with
 | dead=>rw [hq] at hb;cases hb
 | map m=>
  rw [hq] at hb
  obtain ⟨B',e,⟨es,ck,h1,_⟩,_⟩:=hb
  simp only [y1] at e;subst e
  simp only [Inf.has] at hB;subst hB
  exact (Array.getElem?_eq_some_iff.1 h1).1
 | dsk d=>
  rw [hq] at hb
  obtain ⟨B',D,e,h1,_⟩:=hb
  simp only [y1] at e;subst e
  exact h1.lt _ hB
 | pmap m=>
  rw [hq] at hb
  obtain ⟨B',e,⟨es,ck,h1,_⟩,_⟩:=hb
  simp only [y1] at e;subst e
  simp only [Inf.has] at hB;subst hB
  exact (Array.getElem?_eq_some_iff.1 h1).1
 | box cs=>
  rw [hq] at hb
  obtain ⟨B',e,⟨arr,h1,_⟩,_⟩:=hb
  simp only [y1] at e;subst e
  simp only [Inf.has] at hB;subst hB
  exact key arr h1
 | row ver z sz xs x=>
  rw [hq] at hb
  rcases hb with ⟨_,_,e⟩ | ⟨_,B',K,e,arr,h1,_⟩
  ·simp only [y1] at e;subst e;cases hB
  ·simp only [y1] at e;subst e
   simp only [Inf.has] at hB;subst hB
   exact key arr h1
theorem zbq {a:Addr} (h:(w.cell? a).isSome=true):a.block<w.heap.size:=by
 unfold World.cell? at h
 split at h
 ·rename_i hb;exact (Array.getElem?_eq_some_iff.1 hb).1
 ·simp at h
theorem zbr (w:World) (o:Obj) (B:Nat) (h:B<w.heap.size):(w.alloc o).heap[B]? =w.heap[B]? :=by
 show (w.heap.push o)[B]? =w.heap[B]?
 rw [Array.getElem?_push,if_neg (Nat.ne_of_lt h)]
theorem Pers.at_set {ρ:Infs} {id:Nat} {i i':Option Inf} (hi:ρ[id]? =some i) (hp:Pers (some i) (some i')) (k:Nat):Pers ρ[k]? (ρ.set id i')[k]? :=by
 by_cases h:id=k
 ·subst h
  rw [hi,y22 (z7 hi)]
  exact hp
 ·rw [y27 h]
  exact Pers.refl _
theorem HR.upd (hr:HR I ρ w H) {id:Nat} {b b':Blk} {i i':Option Inf} (hb:H[id]? =some b) (hi:ρ[id]? =some i)
  (hI: ∀a,I a->I' a) (hc: ∀a,I a->w'.cell? a=w.cell? a) (hcells: ∀a,I' a->(w'.cell? a).isSome=true)
  (hkeep: ∀(k:Nat) (inf:Inf) (B:Nat),k≠id->ρ[k]? =some (some inf)->inf.has B->w'.heap[B]? =w.heap[B]?)
  (hnew: ∀a,I' a->I a\/ ∀(k:Nat) (inf:Inf) (B:Nat),k≠id->ρ[k]? =some (some inf)->inf.has B->a.block≠B)
  (hpers:Pers (some i) (some i')) (hbo:BlkOk I' (ρ.set id i') w' b' i')
  (hap: ∀B,Has i' B-> ∀(k:Nat) (inf:Inf),k≠id->ρ[k]? =some (some inf)-> ¬inf.has B):
  HR I' (ρ.set id i') w' (H.set id b') where
 len:=by simp [hr.len]
 blk :=fun k c j hk hj=>by
  by_cases h:id=k
  ·subst h
   rw [y22 (z7 hb)] at hk
   rw [y22 (z7 hi)] at hj
   simp only [y1] at hk hj;subst hk;subst hj
   exact hbo
  ·rw [y27 h] at hk hj
   refine (hr.blk k c j hk hj).move hI hc (fun B hB=>?_) (fun B a hB ha=>?_) (by simp) (fun q _=>Pers.at_set hi hpers q)
   ·cases j with
    | none=>cases hB
    | some inf=>exact hkeep k inf B (fun e=>h e.symm) hj hB
   ·cases j with
    | none=>cases hB
    | some inf=>
     rcases hnew a ha with h1 | h1
     ·exact .inl h1
     ·exact .inr (h1 k inf B (fun e=>h e.symm) hj hB)
 apart:=fun p q a c B hp hq ha hc'=>by
  by_cases h1:id=p
  ·by_cases h2:id=q
   ·omega
   ·subst h1
    rw [y22 (z7 hi)] at hp
    rw [y27 h2] at hq
    simp only [y1] at hp
    exact absurd hc' (hap B (by rw [hp];exact ha) q c (fun e=>h2 e.symm) hq)
  ·by_cases h2:id=q
   ·subst h2
    rw [y22 (z7 hi)] at hq
    rw [y27 h1] at hp
    simp only [y1] at hq
    exact absurd ha (hap B (by rw [hq];exact hc') p a (fun e=>h1 e.symm) hp)
   ·rw [y27 h1] at hp
    rw [y27 h2] at hq
    exact hr.apart p q a c B hp hq ha hc'
 cells:=hcells
theorem HR.push (hr:HR I ρ w H) {b:Blk} {i:Option Inf} (hbo:BlkOk I (ρ++[i]) w b i) (hap: ∀B,Has i B-> ¬Live ρ B):HR I (ρ++[i]) w (H++[b]) where
 len:=by simp [hr.len]
 blk:=fun k c j hk hj=>by
  rcases y28 k H.length with h | h
  ·rw [y10 h] at hk
   rw [y10 (by rw [hr.len];exact h)] at hj
   exact (hr.blk k c j hk hj).move (fun a h=>h) (fun _ _=>rfl) (fun _ _=>rfl) (fun B a _ ha=> .inl ha) (by simp) (fun q hq=>by rw [y10 hq];exact Pers.refl _)
  ·have hkl:=z7 hk
   simp only [y9,y20,y24] at hkl
   have:k=H.length:=by omega
   subst this
   simp only [y25,y1] at hk
   rw [<- hr.len] at hj
   simp only [y25,y1] at hj
   subst hk;subst hj
   exact hbo
 apart:=fun p q a c B hp hq ha hc=>by
  have key: ∀(p:Nat) (a:Inf),(ρ++[i])[p]? =some (some a)->(p<ρ.length/\ρ[p]? =some (some a))\/(p=ρ.length/\i=some a):=fun p a hp=>by
   rcases y28 p ρ.length with h | h
   ·rw [y10 h] at hp;exact .inl ⟨h,hp⟩
   ·have hpl:=z7 hp
    simp only [y9,y20,y24] at hpl
    have:p=ρ.length:=by omega
    subst this
    simp only [y25,y1] at hp
    exact .inr ⟨rfl,hp⟩
  rcases key p a hp with ⟨h1,h2⟩ | ⟨h1,h2⟩
  ·rcases key q c hq with ⟨h3,h4⟩ | ⟨h3,h4⟩
   ·exact hr.apart p q a c B h2 h4 ha hc
   ·exact absurd ⟨p,a,h2,ha⟩ (hap B (by rw [h4];exact hc))
  ·rcases key q c hq with ⟨h3,h4⟩ | ⟨h3,h4⟩
   ·exact absurd ⟨q,c,h4,hc⟩ (hap B (by rw [h2];exact ha))
   ·omega
 cells:=hr.cells
theorem Nxt.push {h:Nat} (i:Option Inf) (hap: ∀B,Has i B->w.heap.size<=B) (hg:Grow (Live ρ) I w w') (hh:h<=ρ.length):Nxt h I ρ w I (ρ++[i]) w' where
 sub:=fun _ h=>h
 new:=fun _ h=> .inl h
 grow:=hg
 live:=fun B ⟨id,inf,hi,hB⟩=>by
  rcases y28 id ρ.length with h | h
  ·rw [y10 h] at hi;exact .inl ⟨id,inf,hi,hB⟩
  ·have hpl:=z7 hi
   simp only [y9,y20,y24] at hpl
   have:id=ρ.length:=by omega
   subst this
   simp only [y25,y1] at hi
   exact .inr (hap B (by rw [hi];exact hB))
 ids:=fun id hid=>by rw [y10 (by omega)];exact Pers.refl _
 long:= .inl (by simp;omega)
theorem Nxt.upd {h id:Nat} {i i':Option Inf} (hi:ρ[id]? =some i) (hI: ∀a,I a->I' a) (hn: ∀a,I' a->I a\/Live ρ a.block\/w.heap.size<=a.block) (hp:Pers (some i) (some i')) (hl: ∀B,Has i' B->Live ρ B\/w.heap.size<=B) (hg:Grow (Live ρ) I w w') (hh:h<=ρ.length):Nxt h I ρ w I' (ρ.set id i') w' where
 sub:=hI
 new:=hn
 grow:=hg
 live:=fun B ⟨k,inf,hk,hB⟩=>by
  by_cases h:id=k
  ·subst h
   rw [y22 (z7 hi)] at hk
   simp only [y1] at hk
   exact hl B (by rw [hk];exact hB)
  ·rw [y27 h] at hk;exact .inl ⟨k,inf,hk,hB⟩
 ids:=fun k hk=>Pers.at_set hi hp k
 long:= .inl (by simp;omega)
theorem Grow.alloc (hr:HR I ρ w H) (S:Nat->Prop) (o:Obj):Grow S I w (w.alloc o):=
 ⟨rfl,rfl,rfl,by simp,fun B hB _=>zbr w o B hB,fun a ha=>World.cell?_alloc_lt w o a (zbq (hr.cells a ha))⟩
theorem HR.alloc (hr:HR I ρ w H) (o:Obj):HR I ρ (w.alloc o) H:=
 hr.move (fun B hB=>zbr w o B (hr.live_lt hB)) (fun a ha=>World.cell?_alloc_lt w o a (zbq (hr.cells a ha)))
theorem zbs (w:World) (arr:Array Value) (ty:TypeId):CellsAt (w.alloc (.cells arr ty)) w.heap.size arr:=⟨ty,by show (w.heap.push _)[w.heap.size]? =_;rw [Array.getElem?_push,if_pos rfl]⟩
theorem zbt (hr:HR I ρ w H) {cs:List V} {arr:Array Value} (hg:goods cs=true) (hs:arr.size=cs.length) (hv: ∀(j:Nat) (lf:V),cs[j]? =some lf->VR I ρ w.cell? lf (arr.getD j undef)) (ty:TypeId):
  HR I (ρ++[some (.box w.heap.size)]) (w.alloc (.cells arr ty)) (H++[.box cs])/\Nxt H.length I ρ w I (ρ++[some (.box w.heap.size)]) (w.alloc (.cells arr ty))/\
   VR I (ρ++[some (.box w.heap.size)]) (w.alloc (.cells arr ty)).cell? (.ptr H.length 0) (.pointer (some ⟨w.heap.size,0,none⟩)):=by
 have hcell: ∀a,I a->(w.alloc (.cells arr ty)).cell? a=w.cell? a:=fun a ha=>World.cell?_alloc_lt w _ a (zbq (hr.cells a ha))
 refine ⟨(hr.alloc _).push ⟨_,rfl,⟨arr,zbs w arr ty,hs,hg,fun j lf hj=>(hv j lf hj).mono (fun _ h=>h) hcell (by simp) (fun q hq=>by rw [y10 hq];exact Pers.refl _)⟩,fun a ha e=>?_⟩ (fun B hB hl=>?_),Nxt.push _ (fun B hB=>?_) (Grow.alloc hr _ _) (by rw [hr.len];exact y13 _), .ptr _ _ _ (by simp [hr.len]) ⟨_,rfl⟩ fun inf hinf=>⟨w.heap.size,?_,rfl⟩⟩
 ·have:=zbq (hr.cells a ha);omega
 ·simp only [Has,Inf.has] at hB;have:=hr.live_lt hl;omega
 ·simp only [Has,Inf.has] at hB;omega
 ·rw [<- hr.len] at hinf
  simp only [y25,y1] at hinf
  exact hinf.symm
end
section
variable {I I':Addr->Prop} {ρ:Infs} {P:Program} {w w':World} {H:Hp}
def arrPut (arr:Array Value) (o:Nat) (vs:List Value):Array Value:=(arr.toList.take o++vs++arr.toList.drop (o+vs.length)).toArray
theorem zbu {arr:Array Value} {o:Nat} {vs:List Value} (h:o+vs.length<=arr.size):(arrPut arr o vs).size=arr.size:=by
 simp [arrPut];omega
theorem zbv {arr:Array Value} {o:Nat} {vs:List Value} (h:o+vs.length<=arr.size) (k:Nat):(arrPut arr o vs)[k]? =if o<=k/\k<o+vs.length then vs[k - o]? else arr[k]? :=by
 simp only [arrPut,List.getElem?_toArray]
 have hl:(arr.toList.take o).length=o:=by simp;omega
 by_cases h1:k<o
 ·rw [if_neg (by omega),y31,y10 (by omega),y46,if_pos h1];simp
 ·by_cases h2:k<o+vs.length
  ·rw [if_pos (by omega),y31,y18 (by omega),y10 (by omega),hl]
  ·rw [if_neg (by omega),y18 (by simp;omega),y38]
   simp only [y9,hl]
   have:o+vs.length+(k - (o+vs.length))=k:=by omega
   rw [this];simp
theorem zbw {arr:Array Value} {o:Nat} {vs:List Value} (h:o+vs.length<=arr.size) (k:Nat):(arrPut arr o vs).getD k undef=if o<=k/\k<o+vs.length then vs.getD (k - o) undef else arr.getD k undef:=by
 simp only [y15,zbv h]
 split<;>simp [y14]
theorem zbx {a:Addr} (h:(w.cell? a).isSome=true):a.spot=none:=by
 unfold World.cell? at h
 split at h
 ·cases hs:a.spot with
  | none=>rfl
  | some s=>simp [hs] at h
 ·simp at h
theorem zby (hr:HR I ρ w H) {B o:Nat} {arr:Array Value} {vs:List Value} (hc:CellsAt w B arr) (hfit:o+vs.length<=arr.size) (hs: ∀a,I a->a.block=B->a.off<o\/o+vs.length<=a.off):
  (∀a,I a->(w.setRow B (arrPut arr o vs)).cell? a=w.cell? a)/\Grow (Live ρ) I w (w.setRow B (arrPut arr o vs))\/ ¬Live ρ B:=by
 by_cases hl:Live ρ B
 ·left
  have hcell: ∀a,I a->(w.setRow B (arrPut arr o vs)).cell? a=w.cell? a:=by
   intro a ha
   by_cases hb:a.block=B
   ·have hsp:=zbx (hr.cells a ha)
    obtain ⟨ty,hB⟩:=hc
    obtain ⟨b,off,sp⟩:=a
    simp only at hb hsp;subst hb;subst hsp
    rw [cell_setRow_same w b off arr _ ty (0,0) hB,zbv hfit,if_neg (by have:=hs _ ha rfl;simp only at this;omega)]
    simp [World.cell?,hB]
   ·exact cell_setRow_other w B _ a hb
  exact ⟨hcell,rfl,rfl,rfl,by simp,fun k _ hS=>setRow_other w B k _ (fun e=>hS (e▸hl)),hcell⟩
 ·exact .inr hl
theorem zbz (hr:HR I ρ w H) {id ver B K sz:Nat} {xs:List V} {x:Bool} (hid:H[id]? =some (.row ver false sz xs x)) (hi:ρ[id]? =some (some (.row B K sz ver xs.length)))
  {arr:Array Value} (hc:CellsAt w B arr) (hsize:arr.size=K*sz) (hI: ∀a,I a->a.block=B->x=false/\a.off<xs.length*sz)
  {o:Nat} {vs:List Value} (hfit:o+vs.length<=K*sz) (hsafe:x=true\/xs.length*sz<=o) {xs':List V} {ver':Nat} (hver:(ver'=ver/\xs'.length=xs.length)\/ver<ver') (hlen:xs.length<=xs'.length) (hK:xs'.length<=K/\K<=9223372036854775807)
  (hel: ∀(i:Nat) (e:V),xs'[i]? =some e->(leaves e).length=sz/\ ∀(j:Nat) (lf:V),(leaves e)[j]? =some lf->deep1 lf=true/\VR I [] w.cell? lf (if o<=i*sz+j/\i*sz+j<o+vs.length then vs.getD (i*sz+j - o) undef else arr.getD (i*sz+j) undef)):
  HR I (ρ.set id (some (.row B K sz ver' xs'.length))) (w.setRow B (arrPut arr o vs)) (H.set id (.row ver' false sz xs' x))/\Nxt H.length I ρ w I (ρ.set id (some (.row B K sz ver' xs'.length))) (w.setRow B (arrPut arr o vs))/\
   (∀a,I a->(w.setRow B (arrPut arr o vs)).cell? a=w.cell? a):=by
 have hfit':o+vs.length<=arr.size:=by omega
 have hlive:Live ρ B:=⟨id,_,hi,rfl⟩
 have hcg:=(zby hr hc hfit' (fun a ha hb=>by
  have:=hI a ha hb
  rcases hsafe with h | h
  ·rw [h] at this;cases this.1
  ·exact .inl (by omega))).resolve_right (fun h=>h hlive)
 obtain ⟨hcell,hgrow⟩:=hcg
 have hpers:Pers (some (some (.row B K sz ver xs.length))) (some (some (.row B K sz ver' xs'.length))):=by
  rcases hver with ⟨rfl,h⟩ | h
  ·rw [h];exact Pers.refl _
  ·exact .inr (.inr ⟨B,K,xs'.length,ver',h,rfl⟩)
 have hother: ∀(k:Nat) (inf:Inf),k≠id->ρ[k]? =some (some inf)-> ¬inf.has B:=fun k inf hk hq hb=>hk (hr.apart k id inf _ B hq hi hb rfl)
 refine ⟨hr.upd hid hi (fun _ h=>h) hcell (fun a ha=>by rw [hcell a ha];exact hr.cells a ha) (fun k inf B' hk hq hb=>setRow_other w B B' _ (fun e=>hother k inf hk hq (e▸hb))) (fun a ha=> .inl ha) hpers ?_ (fun B' hB' k inf hk hq=>?_),
  Nxt.upd hi (fun _ h=>h) (fun _ h=> .inl h) hpers (fun B' hB'=> .inl ?_) hgrow (by rw [hr.len];exact y13 _),hcell⟩
 ·refine .inr ⟨rfl,B,K,rfl,arrPut arr o vs,?_,?_,hK,fun i e hi'=>(hel i e hi').1,fun i j e lf hi' hj=>?_,fun a ha hb=>?_⟩
  ·obtain ⟨ty,hB⟩:=hc;exact ⟨ty,setRow_heap w B arr _ ty (0,0) hB⟩
  ·rw [zbu hfit',hsize]
  ·obtain ⟨h1,h2⟩:=(hel i e hi').2 j lf hj
   rw [zbw hfit']
   exact ⟨h1,h2.mono (fun _ h=>h) hcell (y13 _) (fun _ h=>by simp at h)⟩
  ·obtain ⟨h1,h2⟩:=hI a ha hb
   exact ⟨h1,y56 h2 (y16 _ hlen)⟩
 ·simp only [Has,Inf.has] at hB';subst hB';exact hother k inf hk hq
 ·simp only [Has,Inf.has] at hB';subst hB';exact hlive
theorem zb0: ∀(ys:List V) (cs:List V) (off:Nat),(setAt cs off ys).length=cs.length
 | [],cs,off=>rfl
 | y::l,cs,off=>by simp [setAt,zb0 l]
theorem zb1: ∀(ys:List V) (cs:List V) (off:Nat),off+ys.length<=cs.length-> ∀(k:Nat),(setAt cs off ys)[k]? =if off<=k/\k<off+ys.length then ys[k - off]? else cs[k]?
 | [],cs,off,_,k=>by simp [setAt];omega
 | y::l,cs,off,h,k=>by
  simp only [y20] at h
  rw [setAt,zb1 l (cs.set off y) (off+1) (by simp;omega) k]
  by_cases h1:off+1<=k/\k<off+1+l.length
  ·rw [if_pos h1,if_pos (by simp;omega)]
   have:k - off=(k - (off+1))+1:=by omega
   rw [this];rfl
  ·rw [if_neg h1]
   by_cases h2:k=off
   ·subst h2
    rw [if_pos (by simp),y22 (by omega)]
    simp
   ·rw [y27 (by omega),if_neg (by simp only [y20];omega)]
theorem zb2 (hr:HR I ρ w H) {id:Nat} {cs ys:List V} (hid:H[id]? =some (.box cs)) {o:Nat} {vs:List Value} (hl:vs.length=ys.length) (hfit:o+ys.length<=cs.length) (hg:goods ys=true) (hv: ∀(j:Nat) (lf:V),ys[j]? =some lf->VR I ρ w.cell? lf (vs.getD j undef)):
  ∃(B:Nat) (arr:Array Value),ρ[id]? =some (some (.box B))/\CellsAt w B arr/\arr.size=cs.length/\HR I ρ (w.setRow B (arrPut arr o vs)) (H.set id (.box (setAt cs o ys)))/\Nxt H.length I ρ w I ρ (w.setRow B (arrPut arr o vs)):=by
 obtain ⟨B,hi,⟨arr,hc,hsize,hgc,hvc⟩,hn⟩:=hr.box hid
 have hfit':o+vs.length<=arr.size:=by omega
 have hlive:Live ρ B:=⟨id,_,hi,rfl⟩
 obtain ⟨hcell,hgrow⟩:=(zby hr hc hfit' (fun a ha hb=>absurd hb (hn a ha))).resolve_right (fun h=>h hlive)
 have hother: ∀(k:Nat) (inf:Inf),k≠id->ρ[k]? =some (some inf)-> ¬inf.has B:=fun k inf hk hq hb=>hk (hr.apart k id inf _ B hq hi hb rfl)
 have hset:ρ.set id (some (.box B))=ρ:=by
  have hlt:=z7 hi
  refine List.ext_getElem? fun k=>?_
  by_cases h:id=k
  ·subst h;rw [y22 hlt,hi]
  ·rw [y27 h]
 refine ⟨B,arr,hi,hc,hsize,?_,⟨fun _ h=>h,fun _ h=> .inl h,hgrow,fun _ h=> .inl h,fun _ _=>Pers.refl _, .inl (by rw [hr.len];exact y13 _)⟩⟩
 have:=hr.upd (b':= .box (setAt cs o ys)) (i':=some (.box B)) (w':=w.setRow B (arrPut arr o vs)) hid hi (fun _ h=>h) hcell (fun a ha=>by rw [hcell a ha];exact hr.cells a ha) (fun k inf B' hk hq hb=>setRow_other w B B' _ (fun e=>hother k inf hk hq (e▸hb))) (fun a ha=> .inl ha) (Pers.refl _) ?_ (fun B' hB' k inf hk hq=>?_)
 ·rw [hset] at this;exact this
 ·rw [hset]
  refine ⟨B,rfl,⟨arrPut arr o vs,?_,?_,?_,fun j lf hj=>?_⟩,hn⟩
  ·obtain ⟨ty,hB⟩:=hc;exact ⟨ty,setRow_heap w B arr _ ty (0,0) hB⟩
  ·rw [zbu hfit',zb0,hsize]
  ·refine zj fun j lf hj=>?_
   rw [zb1 _ _ _ hfit] at hj
   split at hj
   ·exact zi hg hj
   ·exact zi hgc hj
  ·rw [zb1 _ _ _ hfit] at hj
   rw [zbw hfit',hl]
   split at hj
   ·rename_i hin
    rw [if_pos hin]
    exact (hv _ _ hj).mono (fun _ h=>h) hcell (y13 _) (fun _ _=>Pers.refl _)
   ·rename_i hin
    rw [if_neg hin]
    exact (hvc _ _ hj).mono (fun _ h=>h) hcell (y13 _) (fun _ _=>Pers.refl _)
 ·simp only [Has,Inf.has] at hB';subst hB';exact hother k inf hk hq
end
section
variable {I I':Addr->Prop} {ρ:Infs} {P:Program} {w w':World} {H:Hp}
theorem zb3 (n c:Nat) (h:c<n):Builtin.nextslicecap n c<=2*n:=by
 have grow: ∀r c,c<n->256<=c->Builtin.growBy n r c<=2*n:=by
  intro r
  induction r with
  | zero=>intro c hc _;simp only [Builtin.growBy];omega
  | succ r ih=>
   intro c hc h256
   simp only [Builtin.growBy]
   split
   ·omega
   ·by_cases h2:c+(c+768) / 4<n
    ·exact ih _ h2 (by omega)
    ·have key: ∀r d,n<=d->Builtin.growBy n r d=d:=by
      intro r d hd
      cases r with
      | zero=>rfl
      | succ r=>simp only [Builtin.growBy];rw [if_pos hd]
     rw [key _ _ (by omega)]
     omega
 unfold Builtin.nextslicecap
 split
 ·omega
 ·split
  ·omega
  ·rename_i h1 h2
   exact grow 4 c h (by omega)
theorem zb4 {sz n:Nat} {ad:Option Addr} {len cp:Nat} (f:Nat->Value) (hn:ad=none->n=0) (h: ∀ad',ad=some ad'-> ∀k,k<n*sz->w.cell? (ad'.add k)=some (f k)):
  (Builtin.firstCells sz n (.slice ad len cp)).run P w= .ok ((List.range (n*sz)).map f).toArray w:=by
 cases ad with
 | none=>obtain rfl:=hn rfl;simp [Builtin.firstCells]
 | some ad'=>exact run_loadCells w ad' (n*sz) f (h ad' rfl)
theorem zb5 {B o:Nat} {arr:Array Value} {vs:List Value} (hc:CellsAt w B arr) (hfit:o+vs.length<=arr.size) (h1: ∀v∈vs,v.oneCell'=true):
  (storeCells ⟨B,o,none⟩ vs).run P w= .ok () (w.setRow B (arrPut arr o vs)):=by
 obtain ⟨ty,hB⟩:=hc
 have:=run_storeCells_at P B o ty vs 0 arr w hB (by omega) h1
 simpa [arrPut] using this
theorem zb6 {t t2 ty:TypeId} {sz:Nat} (ht:okSl P t sz=true) (h2: ∃e2,P.underlying t2=some (.slice e2)) {base:Option Addr} {sLen sCap n c2:Nat} {a2:Option Addr} (hcap:sLen+n<=sCap) (f:Nat->Value)
  (hn:a2=none->n=0) (hf: ∀ad',a2=some ad'-> ∀k,k<n*sz->w.cell? (ad'.add k)=some (f k))
  {w':World} (hst:(match base with | some a=>storeCells (a.add (sLen*sz)) ((List.range (n*sz)).map f) | none=>(pure ():Sem Unit)).run P w= .ok () w'):
  (Builtin.append_ #[t,t2] ty #[.slice base sLen sCap, .slice a2 n c2]).run P w= .ok (.slice base (sLen+n) sCap) w':=by
 obtain ⟨e,i,hu,hi,hs,hb⟩:=zbc ht
 obtain ⟨e2,hd⟩:=h2
 have hfc:=zb4 (P:=P) (w:=w) (sz:=sz) (n:=n) (len:=n) (cp:=c2) f hn hf
 cases base with
 | none=>
  simp only [Sem.run_pure,Result.ok.injEq,true_and] at hst
  subst hst
  simp [Builtin.append_,run_underlying hu,run_underlying hd,sizeOf,typeInfo,hi,hs,Builtin.lenOf,hcap,hfc]
 | some a=>
  simp only at hst
  simp [Builtin.append_,run_underlying hu,run_underlying hd,sizeOf,typeInfo,hi,hs,Builtin.lenOf,hcap,hfc,hst]
theorem zb7 {t t2 ty:TypeId} {sz:Nat} (ht:okSl P t sz=true) (h2: ∃e2,P.underlying t2=some (.slice e2)) {base:Option Addr} {sLen sCap n c2:Nat} {a2:Option Addr} (hcap: ¬sLen+n<=sCap) (hmost:sLen+n<=most) (f g:Nat->Value)
  (hb0:base=none->sLen=0) (hg: ∀ad',base=some ad'-> ∀k,k<sLen*sz->w.cell? (ad'.add k)=some (g k))
  (hn:a2=none->n=0) (hf: ∀ad',a2=some ad'-> ∀k,k<n*sz->w.cell? (ad'.add k)=some (f k)):
  ∃(K:Nat) (e:TypeId) (rest:Array Value),(sLen+n<=K/\K<=9223372036854775807)/\rest.size=(K - (sLen+n))*sz/\
  (Builtin.append_ #[t,t2] ty #[.slice base sLen sCap, .slice a2 n c2]).run P w= .ok (.slice (some ⟨w.heap.size,0,none⟩) (sLen+n) K)
   (w.drew.alloc (.cells (((List.range (sLen*sz)).map g).toArray++(((List.range (n*sz)).map f).toArray++rest)) e)):=by
 obtain ⟨hsz,e,i,z,hu,hi,hs,hb,hz,hzs⟩:=zbd ht
 obtain ⟨e2,hd⟩:=h2
 have hfc:=zb4 (P:=P) (w:=w.drew) (sz:=sz) (n:=n) (len:=n) (cp:=c2) f hn hf
 have hgc:=zb4 (P:=P) (w:=w.drew) (sz:=sz) (n:=sLen) (ad:=base) (len:=sLen) (cp:=sCap) g hb0 hg
 have hnx:=zb3 (sLen+n) sCap (by omega)
 have hbig: ¬(Builtin.nextslicecap (sLen+n) sCap*i.bytes>2 ^ 48):=by
  have:Builtin.nextslicecap (sLen+n) sCap*i.bytes<=(2*most)*4096:=Nat.mul_le_mul (by omega) hb
  unfold most at this
  omega
 have hi64: ¬((9223372036854775807:Int)<(sLen:Int)+(n:Int)):=by
  unfold most at hmost
  omega
 refine ⟨Question.cut (.appendCap (sLen+n) sCap e) (w.tape w.drawn (.appendCap (sLen+n) sCap e)),e,Builtin.zeroCells z.cells (Question.cut (.appendCap (sLen+n) sCap e) (w.tape w.drawn (.appendCap (sLen+n) sCap e)) - (sLen+n)),⟨by simp [Question.cut],?_⟩,by simp [Builtin.zeroCells,hzs],?_⟩
 ·have h1:sLen+n<=maxLen:=by unfold maxLen;unfold most at hmost;omega
  have h2:=grownCap_le_maxLen w (sLen+n) sCap e h1
  unfold grownCap maxLen at h2;omega
 have hq:(Question.appendCap (sLen+n) sCap e).forced=false:=rfl
 simp [Builtin.append_,run_underlying hu,run_underlying hd,sizeOf,typeInfo,hi,hs,Builtin.lenOf,hcap,hbig,hi64,hfc,hgc,hq,zeroValue,hz,newRow]
end
section
variable {I I':Addr->Prop} {ρ:Infs} {P:Program} {w w':World} {H:Hp}
structure Step (I:Addr->Prop) (ρ:Infs) (w:World) (H:Hp) (v:V) (H':Hp) (u:Value) (w':World):Prop where
 mk::(out: ∃I' ρ',VR I' ρ' w'.cell? v u/\HR I' ρ' w' H'/\Nxt H.length I ρ w I' ρ' w')
theorem Step.same (hr:HR I ρ w H) {v:V} {u:Value} (h:VR I ρ w.cell? v u):Step I ρ w H v H u w:=
 ⟨I,ρ,h,hr,Nxt.refl _ _ _ _ (by rw [hr.len];exact y13 _)⟩
theorem HR.drew (hr:HR I ρ w H):HR I ρ w.drew H:=hr.move (fun _ _=>rfl) (fun _ _=>rfl)
theorem Grow.drew {S:Nat->Prop} (h:Grow S I w w'):Grow S I w w'.drew:=⟨h.os,h.tape,h.output,h.size,h.keep,h.cells⟩
theorem Grow.of_drew {S:Nat->Prop} (h:Grow S I w.drew w'):Grow S I w w':=⟨h.os,h.tape,h.output,h.size,h.keep,h.cells⟩
theorem vw_row {id ver B K sz L len cp md:Nat} {c:Addr->Option Value} {x:Value} (hi:ρ[id]? =some (some (.row B K sz ver L))) (h:vwOk (.row B K sz ver L) ver 0 len md x) (ho: ∃a cp,x= .slice a len cp):VR I ρ c (.vw id ver 0 len md) x:=
 .vw _ _ _ _ _ _ (z7 hi) ho fun inf hinf=>by rw [hi] at hinf;simp only [y1] at hinf;subst hinf;exact h
theorem zb8 (hr:HR I ρ w H) {sz L n K:Nat} {g f:Nat->Value} {rest:Array Value} (hK:L+n<=K/\K<=9223372036854775807) (hrest:rest.size=(K - (L+n))*sz) {xs ys:List V} {x:Bool} (hsz:0<sz) (hL:xs.length=L) (hn:ys.length=n) {e:TypeId}
  (hx: ∀(i:Nat) (e:V),xs[i]? =some e->(leaves e).length=sz/\ ∀(j:Nat) (lf:V),(leaves e)[j]? =some lf->deep1 lf=true/\VR I [] w.cell? lf (g (i*sz+j)))
  (hy: ∀(i:Nat) (e:V),ys[i]? =some e->(leaves e).length=sz/\ ∀(j:Nat) (lf:V),(leaves e)[j]? =some lf->deep1 lf=true/\VR I [] w.cell? lf (f (i*sz+j))):
  RowAt I (w.drew.alloc (.cells (((List.range (L*sz)).map g).toArray++(((List.range (n*sz)).map f).toArray++rest)) e)) w.heap.size K sz (xs++ys) x:=by
 have hcell: ∀a,I a->(w.drew.alloc (.cells (((List.range (L*sz)).map g).toArray++(((List.range (n*sz)).map f).toArray++rest)) e)).cell? a=w.cell? a:=fun a ha=>by
  exact World.cell?_alloc_lt w.drew _ a (zbq (hr.cells a ha))
 refine ⟨_,zbs w.drew _ e,?_,by simp;omega,fun i el hi=>?_,fun i j el lf hi hj=>?_,fun a ha hb=>absurd hb (Nat.ne_of_lt (zbq (hr.cells a ha)))⟩
 ·simp only [Array.size_append,List.size_toArray,y23,y54,hrest]
  rw [<- y29,<- y29]
  congr 1;omega
 ·rcases y28 i xs.length with h | h
  ·rw [y10 h] at hi;exact (hx i el hi).1
  ·rw [y18 h] at hi;exact (hy _ el hi).1
 ·rcases y28 i xs.length with h | h
  ·rw [y10 h] at hi
   obtain ⟨h1,h2⟩:=hx i el hi
   obtain ⟨h3,h4⟩:=h2 j lf hj
   have hjl:=z7 hj
   have hlt:i*sz+j<L*sz:=by
    have:(i+1)*sz<=L*sz:=y16 sz (by omega)
    rw [y29] at this;omega
   refine ⟨h3,?_⟩
   have:(((List.range (L*sz)).map g).toArray++(((List.range (n*sz)).map f).toArray++rest)).getD (i*sz+j) undef=g (i*sz+j):=by
    rw [y15,Array.getElem?_append_left (by simpa using hlt)]
    simp [hlt]
   rw [this]
   exact h4.mono (fun _ h=>h) hcell (y13 _) (fun _ h=>by simp at h)
  ·rw [y18 h] at hi
   obtain ⟨h1,h2⟩:=hy _ el hi
   obtain ⟨h3,h4⟩:=h2 j lf hj
   have hjl:=z7 hj
   have hil:=z7 hi
   have hge:L*sz<=i*sz:=y16 sz (by omega)
   have hlt:i*sz+j - L*sz<n*sz:=by
    have:(i - xs.length+1)*sz<=n*sz:=y16 sz (by omega)
    rw [y29,Nat.sub_mul,hL] at this;omega
   refine ⟨h3,?_⟩
   have:(((List.range (L*sz)).map g).toArray++(((List.range (n*sz)).map f).toArray++rest)).getD (i*sz+j) undef=f ((i - xs.length)*sz+j):=by
    rw [y15,Array.getElem?_append_right (by simp;omega)]
    simp only [List.size_toArray,y23,y54]
    rw [Array.getElem?_append_left (by simpa using hlt)]
    simp only [List.getElem?_toArray,y40,List.getElem?_range hlt,y37,y44]
    congr 1
    rw [Nat.sub_mul,hL];omega
   rw [this]
   exact h4.mono (fun _ h=>h) hcell (y13 _) (fun _ h=>by simp at h)
end
section
variable {I I':Addr->Prop} {ρ:Infs} {P:Program} {w w':World} {H:Hp}
theorem div_at {sz i j:Nat} (h:j<sz):(i*sz+j) / sz=i/\(i*sz+j) % sz=j:=by
 constructor
 ·rw [Nat.add_comm,Nat.add_mul_div_right _ _ (by omega),Nat.div_eq_of_lt h,y41]
 ·rw [Nat.add_comm,Nat.add_mul_mod_self_right,Nat.mod_eq_of_lt h]
theorem Reads.flat {ys:List V} {sz:Nat} {b:Value} (hy:Reads I ρ w ys sz b) (hsz:0<sz):
  ∃(ad:Option Addr) (cp:Nat) (f:Nat->Value),b= .slice ad ys.length cp/\(ad=none->ys.length=0)/\(∀ad',ad=some ad'-> ∀k,k<ys.length*sz->w.cell? (ad'.add k)=some (f k))/\
   (∀(i:Nat) (e:V),ys[i]? =some e->(leaves e).length=sz/\ ∀(j:Nat) (lf:V),(leaves e)[j]? =some lf->deep1 lf=true/\VR I [] w.cell? lf (f (i*sz+j)))/\ ∀k,k<ys.length*sz->(f k).oneCell'=true:=by
 obtain ⟨⟨ad,cp,rfl,hc,hn,hl,vals,hv⟩⟩:=hy
 have key: ∀k,k<ys.length*sz-> ∃i j e lf,ys[i]? =some e/\(leaves e)[j]? =some lf/\k=i*sz+j/\i=k / sz/\j=k % sz:=by
  intro k hk
  have hi:k / sz<ys.length:=(Nat.div_lt_iff_lt_mul hsz).2 hk
  have hj:k % sz<(leaves ys[k / sz]).length:=by rw [hl _ _ (y6 hi)];exact Nat.mod_lt _ hsz
  exact ⟨k / sz,k % sz,_,_,y6 hi,y6 hj,(Nat.div_add_mod' k sz).symm,rfl,rfl⟩
 refine ⟨ad,cp,fun k=>vals (k / sz) (k % sz),rfl,fun e=>by rw [hn e];rfl,fun ad' ha k hk=>?_,fun i e hi=>⟨hl i e hi,fun j lf hj=>?_⟩,fun k hk=>?_⟩
 ·obtain ⟨i,j,e,lf,h1,h2,h3,h4,h5⟩:=key k hk
  rw [h3]
  have:=(hv i j e lf h1 h2).2.2 ad' ha
  rw [this,h4,h5,Nat.div_add_mod']
 ·have hjs:j<sz:=by rw [<- hl i e hi];exact z7 hj
  simp only [(div_at hjs).1,(div_at hjs).2]
  exact ⟨(hv i j e lf hi hj).1,(hv i j e lf hi hj).2.1 []⟩
 ·obtain ⟨i,j,e,lf,h1,h2,h3,h4,h5⟩:=key k hk
  simp only [<- h4,<- h5]
  exact ((hv i j e lf h1 h2).2.1 []).oneCell (zk (hv i j e lf h1 h2).1)
theorem zb9 {f:Nat->Value} {n k:Nat} (h:k<n):((List.range n).map f).getD k undef=f k:=by
 simp [y14,h]
theorem zca (hr:HR I ρ w H) {t t2 ty:TypeId} {sz:Nat} (ht:okSl P t sz=true) (h2: ∃e2,P.underlying t2=some (.slice e2)) {x v:V} {a b:Value} {ys:List V} {H':Hp} (hx:VR I ρ w.cell? x a) (hy:Reads I ρ w ys sz b) (h:appv H sz x ys=some (v,H')):
  ∃u w',(Builtin.append_ #[t,t2] ty #[a,b]).run P w= .ok u w'/\Step I ρ w H v H' u w':=by
 have hsz:=(zbd ht).1
 obtain ⟨ad,cp2,f,rfl,hn,hf,hel,hone⟩:=hy.flat hsz
 -- a new block, at a place of its own
 cases hx<;>try (simp [appv] at h;done)
 case sl z xs a0 cp s vals hc hz hnn hs hd hcell hv=>
  cases z<;>cases xs<;>simp only [appv,reduceCtorEq] at h
  split at h
  ·rename_i hmost
   simp only [y1,y7] at h
   obtain ⟨rfl,rfl⟩:=h
   have ha0:a0=none:=by cases a0 with
    | none=>rfl
    | some q=>cases hz
   subst ha0
   obtain rfl:=hnn rfl
   by_cases h0:ys.length=0
   ·have hy0:ys=[]:=y33 h0
    refine ⟨_,_,zb6 (base:=none) (sLen:=0) (sCap:=0) (n:=ys.length) ht h2 (by omega) f hn hf (w':=w) rfl,?_⟩
    subst hy0
    refine ⟨I,ρ++[some (.nrow sz 0)], .vw _ _ _ _ _ _ (by simp [hr.len]) ⟨_,_,rfl⟩ fun inf hinf=>?_,hr.push (.inl ⟨rfl,rfl,rfl⟩) (fun B hB=>by cases hB),Nxt.push _ (fun B hB=>by cases hB) (Grow.refl _ _ _) (by rw [hr.len];exact y13 _)⟩
    rw [<- hr.len] at hinf
    simp only [y25,y1] at hinf;subst hinf
    exact ⟨y13 _,fun _=>⟨rfl,rfl,rfl⟩⟩
   ·obtain ⟨K,e,rest,hK,hrest,hrun⟩:=zb7 (P:=P) (w:=w) (ty:=ty) (base:=none) (sLen:=0) (sCap:=0) (c2:=cp2) ht h2 (by omega) (by omega) f (fun _=>undef) (fun _=>rfl) (fun ad' h=>by cases h) hn hf
    refine ⟨_,_,by simpa using hrun,?_⟩
    have hrow:=zb8 (x:=true) (xs:=[]) (g:=fun _=>undef) hr hK hrest hsz rfl rfl (e:=e) (fun i e h=>by simp at h) hel
    simp only [y45] at hrow
    have hempty:ys.isEmpty=false:=by cases ys with
     | nil=>simp at h0
     | cons a l=>rfl
    rw [hempty]
    simp only [Nat.zero_mul,List.range_zero,y57,Array.empty_append,y41] at hrow hrun ⊢
    refine ⟨I,ρ++[some (.row w.heap.size K sz 0 ys.length)],?_,(hr.drew.alloc _).push (.inr ⟨rfl,_,K,rfl,hrow⟩) (fun B hB hl=>?_),Nxt.push _ (fun B hB=>?_) ((Grow.alloc hr.drew _ _).of_drew) (by rw [hr.len];exact y13 _)⟩
    ·refine .vw _ _ _ _ _ _ (by simp [hr.len]) ⟨_,_,rfl⟩ fun inf hinf=>?_
     rw [<- hr.len] at hinf
     simp only [y25,y1] at hinf;subst hinf
     exact ⟨y13 _,fun _=>⟨by omega,fun _=>by omega,_,K,rfl,by omega,fun _=>by omega,fun _=>by simp⟩⟩
    ·simp only [Has,Inf.has] at hB;have:=hr.live_lt hl;omega
    ·simp only [Has,Inf.has] at hB;omega
  ·cases h
 case vw id ver off len md hi0 ho hp=>
  simp only [appv] at h
  cases hrow:row? H id ver with
  | none=>simp [hrow] at h
  | some r =>
   simp only [hrow,y4] at h
   obtain ⟨z,sz',xs,x⟩:=r
   have hH:=z6 hrow
   simp only at h hH
   have hil:id<ρ.length:=hi0
   by_cases hs:sz=sz'
   ·rw [if_pos hs] at h
    subst hs
    by_cases hmd:md=1
    ·rw [if_pos hmd] at h
     subst hmd
     by_cases ho0:off=0
     ·rw [if_pos ho0] at h
      subst ho0
      by_cases hmost:xs.length+ys.length<=most
      ·rw [if_pos hmost] at h
       simp only [y1,y7] at h
       obtain ⟨rfl,rfl⟩:=h
       rcases hr.row hrow with ⟨h1,h2',h3⟩ | ⟨h1,B,K,h3,h4⟩
       ·-- nothing has been made yet
        simp only at h1 h2' h3;subst h1;subst h2'
        obtain ⟨rfl,_,hlen⟩:=(hp _ h3).2 rfl
        subst hlen
        by_cases h0:ys.length=0
        ·have hy0:ys=[]:=y33 h0
         refine ⟨_,_,zb6 (base:=none) (sLen:=0) (sCap:=0) (n:=ys.length) ht h2 (by omega) f hn hf (w':=w) rfl,?_⟩
         subst hy0
         have hpers:Pers (some (some (.nrow sz ver))) (some (some (.nrow sz (ver+1)))):= .inr (.inr (.inl ⟨_,by omega,rfl⟩))
         refine ⟨I,ρ.set id (some (.nrow sz (ver+1))), .vw _ _ _ _ _ _ (by simpa using hil) ⟨_,_,rfl⟩ fun inf hinf=>?_,hr.upd hH h3 (fun _ h=>h) (fun _ _=>rfl) hr.cells (fun _ _ _ _ _ _=>rfl) (fun _ h=> .inl h) hpers (.inl ⟨rfl,rfl,rfl⟩) (fun B hB=>by cases hB),Nxt.upd h3 (fun _ h=>h) (fun _ h=> .inl h) hpers (fun B hB=>by cases hB) (Grow.refl _ _ _) (by rw [hr.len];exact y13 _)⟩
         rw [y22 (z7 h3)] at hinf
         simp only [y1] at hinf;subst hinf
         exact ⟨y13 _,fun _=>⟨rfl,rfl,rfl⟩⟩
        ·obtain ⟨K,e,rest,hK,hrest,hrun⟩:=zb7 (P:=P) (w:=w) (ty:=ty) (base:=none) (sLen:=0) (sCap:=0) (c2:=cp2) ht h2 (by omega) (by simp only [y24] at hmost;omega) f (fun _=>undef) (fun _=>rfl) (fun ad' h=>by cases h) hn hf
         refine ⟨_,_,by simpa using hrun,?_⟩
         have hrow':=zb8 (x:=x) (xs:=[]) (g:=fun _=>undef) hr hK hrest hsz rfl rfl (e:=e) (fun i e h=>by simp at h) hel
         simp only [y45] at hrow'
         have hempty:ys.isEmpty=false:=by cases ys with
          | nil=>simp at h0
          | cons a l=>rfl
         rw [hempty]
         simp only [Nat.zero_mul,List.range_zero,y57,Array.empty_append,y41,y45,y24,Bool.and_false] at hrow' hrun ⊢
         have hpers:Pers (some (some (.nrow sz ver))) (some (some (.row w.heap.size K sz (ver+1) ys.length))):= .inr (.inr (.inr ⟨_,_,_,_,by omega,rfl⟩))
         refine ⟨I,ρ.set id (some (.row w.heap.size K sz (ver+1) ys.length)),?_,(hr.drew.alloc _).upd hH h3 (fun _ h=>h) (fun _ _=>rfl) (hr.drew.alloc _).cells (fun _ _ _ _ _ _=>rfl) (fun _ h=> .inl h) hpers (.inr ⟨rfl,_,K,rfl,hrow'⟩) (fun B hB k inf hk hq hb=>?_),Nxt.upd h3 (fun _ h=>h) (fun _ h=> .inl h) hpers (fun B hB=>?_) ((Grow.alloc hr.drew _ _).of_drew) (by rw [hr.len];exact y13 _)⟩
         ·refine .vw _ _ _ _ _ _ (by simpa using hil) ⟨_,_,rfl⟩ fun inf hinf=>?_
          rw [y22 (z7 h3)] at hinf
          simp only [y1] at hinf;subst hinf
          exact ⟨y13 _,fun _=>⟨by omega,fun _=>by omega,_,K,rfl,by omega,fun _=>by omega,fun _=>by simp⟩⟩
         ·simp only [Has,Inf.has] at hB;have:=hr.live_lt ⟨k,inf,hq,hb⟩;omega
         ·simp only [Has,Inf.has] at hB;omega
       ·-- a row that stands in a block
        simp only at h1 h3 h4;subst h1
        obtain ⟨e1,e2,ad0,cp0,rfl,e3,e4,e5⟩:=(hp _ h3).2 rfl
        have e2:=e2 rfl
        have e4:=e4 (by decide)
        simp only [y41] at e1 e2 e4
        subst e2;subst e4
        obtain ⟨arr,hc,hsize,hK,hl,hv,hI⟩:=h4
        have hold: ∀k,k<xs.length*sz->w.cell? (ad0.add k)=some (arr.getD k undef):=by
         intro k hk
         have hpos:0<cp0:=by
          rcases Nat.eq_zero_or_pos xs.length with h | h
          ·rw [h] at hk;simp at hk
          ·omega
         rw [e5 hpos,add_mk,Nat.zero_mul,y41]
         refine hc.cell k ?_
         have:=y16 sz hK.1
         omega
        by_cases hfits:xs.length+ys.length<=cp0
        ·-- in place
         have hfit:xs.length*sz+((List.range (ys.length*sz)).map f).length<=cp0*sz:=by
          simp only [y23,y54]
          rw [<- y29]
          exact y16 sz hfits
         have hst:(match (some ad0:Option Addr) with | some a=>storeCells (a.add (xs.length*sz)) ((List.range (ys.length*sz)).map f) | none=>(pure ():Sem Unit)).run P w= .ok () (w.setRow B (arrPut arr (xs.length*sz) ((List.range (ys.length*sz)).map f))):=by
          simp only
          rcases Nat.eq_zero_or_pos ys.length with h | h
          ·rw [h]
           simp only [Nat.zero_mul,List.range_zero,y57,storeCells,Sem.run_pure]
           congr 1
           obtain ⟨ty',hB⟩:=hc
           have:arrPut arr (xs.length*sz) []=arr:=by simp [arrPut]
           rw [this,setRow_self w B arr ty' (0,0) hB]
          ·rw [e5 (by omega),add_mk,Nat.zero_mul,y41]
           exact zb5 hc (by omega) (fun v hv'=>by
            obtain ⟨k,hk,rfl⟩:=List.mem_map.1 hv'
            exact hone k (by simpa using hk))
         refine ⟨_,_,zb6 ht h2 hfits f hn hf hst,?_⟩
         have hwr:=zbz hr hH h3 hc hsize hI hfit (.inr (y13 _)) (xs':=xs++ys) (ver':=ver+1) (.inr (by omega)) (by simp) ⟨by simpa using hfits,hK.2⟩ (fun i e hi=>by
          rcases y28 i xs.length with h | h
          ·rw [y10 h] at hi
           refine ⟨hl i e hi,fun j lf hj=>?_⟩
           have hjl:j<sz:=by rw [<- hl i e hi];exact z7 hj
           have hlt:i*sz+j<xs.length*sz:=by
            have:(i+1)*sz<=xs.length*sz:=y16 sz (by omega)
            rw [y29] at this;omega
           rw [if_neg (by omega)]
           exact hv i j e lf hi hj
          ·rw [y18 h] at hi
           obtain ⟨g1,g2⟩:=hel _ e hi
           refine ⟨g1,fun j lf hj=>?_⟩
           have hjl:j<sz:=by rw [<- g1];exact z7 hj
           have hil':=z7 hi
           have hge:xs.length*sz<=i*sz:=y16 sz (by omega)
           have hlt:i*sz+j - xs.length*sz<ys.length*sz:=by
            have:(i - xs.length+1)*sz<=ys.length*sz:=y16 sz (by omega)
            rw [y29,Nat.sub_mul] at this;omega
           rw [if_pos (by simp only [y23,y54];omega),zb9 hlt]
           have:i*sz+j - xs.length*sz=(i - xs.length)*sz+j:=by rw [Nat.sub_mul];omega
           rw [this]
           exact g2 j lf hj)
         obtain ⟨w1,w2,w3⟩:=hwr
         rw [show (xs++ys).length=xs.length+ys.length from by simp] at w1 w2
         refine ⟨I,_, .vw _ _ _ _ _ _ (by simpa using hil) ⟨_,_,rfl⟩ fun inf hinf=>?_,w1,w2⟩
         rw [y22 (z7 h3)] at hinf
         simp only [y1] at hinf;subst hinf
         exact ⟨y13 _,fun _=>⟨by omega,fun _=>by omega,_,_,rfl,by omega,fun _=>by omega,fun hq=>e5 hq⟩⟩
        ·-- elsewhere
         obtain ⟨K',e,rest,hK',hrest,hrun⟩:=zb7 (P:=P) (w:=w) (ty:=ty) (base:=some ad0) (sLen:=xs.length) (sCap:=cp0) (c2:=cp2) ht h2 hfits hmost f (fun k=>arr.getD k undef) (fun h=>by cases h) (fun ad' h=>by simp only [y1] at h;subst h;exact hold) hn hf
         refine ⟨_,_,hrun,?_⟩
         have hrow':=zb8 (x:=x) (xs:=xs) (g:=fun k=>arr.getD k undef) hr hK' hrest hsz rfl rfl (e:=e) (fun i e hi=>⟨hl i e hi,fun j lf hj=>hv i j e lf hi hj⟩) hel
         have hpers:Pers (some (some (.row B cp0 sz ver xs.length))) (some (some (.row w.heap.size K' sz (ver+1) (xs++ys).length))):= .inr (.inr ⟨_,_,_,_,by omega,rfl⟩)
         refine ⟨I,ρ.set id (some (.row w.heap.size K' sz (ver+1) (xs++ys).length)),?_,(hr.drew.alloc _).upd hH h3 (fun _ h=>h) (fun _ _=>rfl) (hr.drew.alloc _).cells (fun _ _ _ _ _ _=>rfl) (fun _ h=> .inl h) hpers (.inr ⟨rfl,_,K',rfl,hrow'⟩) (fun B' hB k inf hk hq hb=>?_),Nxt.upd h3 (fun _ h=>h) (fun _ h=> .inl h) hpers (fun B' hB=>?_) ((Grow.alloc hr.drew _ _).of_drew) (by rw [hr.len];exact y13 _)⟩
         ·refine .vw _ _ _ _ _ _ (by simpa using hil) ⟨_,_,rfl⟩ fun inf hinf=>?_
          rw [y22 (z7 h3)] at hinf
          simp only [y1] at hinf;subst hinf
          exact ⟨y13 _,fun _=>⟨by simp,fun _=>by simp,_,K',rfl,by omega,fun _=>by omega,fun _=>by simp⟩⟩
         ·simp only [Has,Inf.has] at hB;have:=hr.live_lt ⟨k,inf,hq,hb⟩;omega
         ·simp only [Has,Inf.has] at hB;omega
      ·rw [if_neg hmost] at h;cases h
     ·rw [if_neg ho0] at h;cases h
    ·rw [if_neg hmd] at h
     by_cases hmd0:md=0
     ·rw [if_pos hmd0] at h
      subst hmd0
      by_cases hroom:off+len+ys.length<=xs.length
      ·rw [if_pos hroom] at h
       by_cases hx1:x=true
       ·rw [if_pos hx1] at h
        subst hx1
        simp only [y1,y7] at h
        obtain ⟨rfl,rfl⟩:=h
        rcases hr.row hrow with ⟨h1,h2',h3⟩ | ⟨h1,B,K,h3,h4⟩
        ·simp only at h1 h2' h3;subst h1;subst h2'
         obtain ⟨rfl,ho1,hlen⟩:=(hp _ h3).2 rfl
         subst hlen;subst ho1
         have h0:ys.length=0:=by simp only [y24] at hroom;omega
         have hy0:ys=[]:=y33 h0
         refine ⟨_,_,zb6 (base:=none) (sLen:=0) (sCap:=0) (n:=ys.length) ht h2 (by omega) f hn hf (w':=w) rfl,?_⟩
         subst hy0
         refine ⟨I,ρ.set id (some (.nrow sz ver)), .vw _ _ _ _ _ _ (by simpa using hil) ⟨_,_,rfl⟩ fun inf hinf=>?_,hr.upd hH h3 (fun _ h=>h) (fun _ _=>rfl) hr.cells (fun _ _ _ _ _ _=>rfl) (fun _ h=> .inl h) (Pers.refl _) (.inl ⟨rfl,rfl,rfl⟩) (fun B hB=>by cases hB),Nxt.upd h3 (fun _ h=>h) (fun _ h=> .inl h) (Pers.refl _) (fun B hB=>by cases hB) (Grow.refl _ _ _) (by rw [hr.len];exact y13 _)⟩
         rw [y22 (z7 h3)] at hinf
         simp only [y1] at hinf;subst hinf
         exact ⟨y13 _,fun _=>⟨rfl,rfl,rfl⟩⟩
        ·simp only at h1 h3 h4;subst h1
         obtain ⟨e1,e2,ad0,cp0,rfl,e3,e4,e5⟩:=(hp _ h3).2 rfl
         have e4:=e4 (by decide)
         subst e4
         obtain ⟨arr,hc,hsize,hK,hl,hv,hI⟩:=h4
         have hfits:len+ys.length<=cp0:=by omega
         have hfit:(off+len)*sz+((List.range (ys.length*sz)).map f).length<=(off+cp0)*sz:=by
          simp only [y23,y54]
          rw [<- y29]
          exact y16 sz (by omega)
         have hst:(match (some ad0:Option Addr) with | some a=>storeCells (a.add (len*sz)) ((List.range (ys.length*sz)).map f) | none=>(pure ():Sem Unit)).run P w= .ok () (w.setRow B (arrPut arr ((off+len)*sz) ((List.range (ys.length*sz)).map f))):=by
          simp only
          rcases Nat.eq_zero_or_pos ys.length with h | h
          ·rw [h]
           simp only [Nat.zero_mul,List.range_zero,y57,storeCells,Sem.run_pure]
           congr 1
           obtain ⟨ty',hB⟩:=hc
           have:arrPut arr ((off+len)*sz) []=arr:=by simp [arrPut]
           rw [this,setRow_self w B arr ty' (0,0) hB]
          ·rw [e5 (by omega),add_mk,<- y29]
           exact zb5 hc (by omega) (fun v hv'=>by
            obtain ⟨k,hk,rfl⟩:=List.mem_map.1 hv'
            exact hone k (by simpa using hk))
         refine ⟨_,_,zb6 ht h2 hfits f hn hf hst,?_⟩
         have hlen':(xs.take (off+len)++ys++xs.drop (off+len+ys.length)).length=xs.length:=by simp;omega
         have hwr:=zbz hr hH h3 hc hsize hI hfit (.inl rfl) (xs':=xs.take (off+len)++ys++xs.drop (off+len+ys.length)) (ver':=ver) (.inl ⟨rfl,hlen'⟩) (by omega) (by omega) (fun i e hi=>by
          have hto:(xs.take (off+len)).length=off+len:=by simp;omega
          have keep:xs[i]? =some e->(i<off+len\/off+len+ys.length<=i)->(leaves e).length=sz/\ ∀(j:Nat) (lf:V),(leaves e)[j]? =some lf->deep1 lf=true/\VR I [] w.cell? lf (if (off+len)*sz<=i*sz+j/\i*sz+j<(off+len)*sz+((List.range (ys.length*sz)).map f).length then ((List.range (ys.length*sz)).map f).getD (i*sz+j - (off+len)*sz) undef else arr.getD (i*sz+j) undef):=fun hi hside=>by
           refine ⟨hl i e hi,fun j lf hj=>?_⟩
           have hjl:j<sz:=by rw [<- hl i e hi];exact z7 hj
           rw [if_neg (by
            simp only [y23,y54,<- y29]
            rcases hside with h | h
            ·have:(i+1)*sz<=(off+len)*sz:=y16 sz (by omega)
             rw [y29] at this;omega
            ·have:(off+len+ys.length)*sz<=i*sz:=y16 sz (by omega)
             omega)]
           exact hv i j e lf hi hj
          rw [y31] at hi
          rcases y28 i (off+len) with h | h
          ·rw [y10 (by omega),y46,if_pos h] at hi
           exact keep hi (.inl h)
          ·rw [y18 (by omega),hto] at hi
           rcases y28 (i - (off+len)) ys.length with h' | h'
           ·rw [y10 h'] at hi
            obtain ⟨g1,g2⟩:=hel _ e hi
            refine ⟨g1,fun j lf hj=>?_⟩
            have hjl:j<sz:=by rw [<- g1];exact z7 hj
            have hge:(off+len)*sz<=i*sz:=y16 sz (by omega)
            have hlt:i*sz+j - (off+len)*sz<ys.length*sz:=by
             have:(i - (off+len)+1)*sz<=ys.length*sz:=y16 sz (by omega)
             rw [y29,Nat.sub_mul] at this;omega
            rw [if_pos (by simp only [y23,y54];omega),zb9 hlt]
            have:i*sz+j - (off+len)*sz=(i - (off+len))*sz+j:=by rw [Nat.sub_mul];omega
            rw [this]
            exact g2 j lf hj
           ·rw [y18 h',y38] at hi
            have:off+len+ys.length+(i - (off+len) - ys.length)=i:=by omega
            rw [this] at hi
            exact keep hi (.inr (by omega)))
         obtain ⟨w1,w2,w3⟩:=hwr
         rw [hlen'] at w1 w2
         refine ⟨I,_, .vw _ _ _ _ _ _ (by simpa using hil) ⟨_,_,rfl⟩ fun inf hinf=>?_,w1,w2⟩
         rw [y22 (z7 h3)] at hinf
         simp only [y1] at hinf;subst hinf
         exact ⟨y13 _,fun _=>⟨by omega,fun h=>by omega,_,_,rfl,by omega,fun _=>rfl,fun hq=>e5 hq⟩⟩
       ·rw [if_neg hx1] at h;cases h
      ·rw [if_neg hroom] at h;cases h
     ·rw [if_neg hmd0] at h;cases h
   ·rw [if_neg hs] at h;cases h
end
section
variable {I I':Addr->Prop} {ρ:Infs} {P:Program} {w w':World} {H:Hp}
structure Shr (I:Addr->Prop) (ρ:Infs) (w:World) (H:Hp) (I':Addr->Prop) (H':Hp):Prop where
 sub: ∀a,I a->I' a
 new: ∀a,I' a->I a\/Live ρ a.block
 hr:HR I' ρ w H'
 len:H'.length=H.length
theorem Shr.refl (hr:HR I ρ w H):Shr I ρ w H I H:=⟨fun _ h=>h,fun _ h=> .inl h,hr,rfl⟩
theorem Shr.trans {I1 I2:Addr->Prop} {H1 H2:Hp} (a:Shr I ρ w H I1 H1) (b:Shr I1 ρ w H1 I2 H2):Shr I ρ w H I2 H2:=
 ⟨fun x h=>b.sub x (a.sub x h),fun x h=>by rcases b.new x h with h | h;exact a.new x h;exact .inr h,b.hr,by rw [b.len,a.len]⟩
theorem VR.more {c:Addr->Option Value} {v:V} {x:Value} (h:VR I ρ c v x) (hI: ∀a,I a->I' a):VR I' ρ c v x:=h.mono hI (fun _ _=>rfl) (y13 _) (fun _ _=>Pers.refl _)
theorem zcb {i:Option Inf} {id:Nat} (h:ρ[id]? =some i):ρ.set id i=ρ:=by
 refine List.ext_getElem? fun k=>?_
 by_cases hk:id=k
 ·subst hk;rw [y22 (z7 h),h]
 ·rw [y27 hk]
theorem zcc (hr:HR I ρ w H) {v d:V} {x:Value} {H':Hp} (hx:VR I ρ w.cell? v x) (h:share1 H v=some (d,H')):
  ∃I',Shr I ρ w H I' H'/\deep1 d=true/\ ∀ρ',VR I' ρ' w.cell? d x:=by
 have plain: ∀{v:V},VR I ρ w.cell? v x->deep1 v=true-> ∃I',Shr I ρ w H I' H/\deep1 v=true/\ ∀ρ',VR I' ρ' w.cell? v x:=fun hv hd=>⟨I,Shr.refl hr,hd,fun ρ'=>hv.deep hd ρ'⟩
 cases v<;>simp only [share1,y1,y7,reduceCtorEq] at h
 case int k n=>obtain ⟨rfl,rfl⟩:=h;exact plain hx rfl
 case bool b=>obtain ⟨rfl,rfl⟩:=h;exact plain hx rfl
 case str l=>obtain ⟨rfl,rfl⟩:=h;exact plain hx rfl
 case sl z xs=>obtain ⟨rfl,rfl⟩:=h;exact plain hx rfl
 case nili=>obtain ⟨rfl,rfl⟩:=h;exact plain hx rfl
 case vw id ver off len md=>
  cases hx with
  | vw id ver off len md x hi0 ho hp=>
  cases hrow:row? H id ver with
  | none=>simp [hrow] at h
  | some r=>
   obtain ⟨z,sz,xs,fl⟩:=r
   simp only [hrow,y4,y1,y7] at h
   obtain ⟨rfl,rfl⟩:=h
   have hH:=z6 hrow
   rcases hr.row hrow with ⟨h1,h2,h3⟩ | ⟨h1,B,K,h3,h4⟩
   ·simp only at h1 h2 h3;subst h1;subst h2
    obtain ⟨rfl,e1,e2⟩:=(hp _ h3).2 rfl
    subst e1;subst e2
    have hcut:cut ([]:List V) 0 0 md=[]:=by unfold cut;split<;>simp
    rw [hcut]
    refine ⟨I,⟨fun _ h=>h,fun _ h=> .inl h,?_,by simp⟩,rfl,fun ρ'=> .sl true [] none 0 0 (fun _ _=>undef) (by simp) rfl (fun _=>rfl) (fun i x h=>by simp at h) (fun i j x lf h=>by simp at h) (fun ad i j x lf h=>by simp at h) (fun i j x lf h=>by simp at h)⟩
    have:=hr.upd (b':= .row ver true sz [] false) (i':=some (.nrow sz ver)) (w':=w) hH h3 (fun _ h=>h) (fun _ _=>rfl) hr.cells (fun _ _ _ _ _ _=>rfl) (fun _ h=> .inl h) (Pers.refl _) (.inl ⟨rfl,rfl,rfl⟩) (fun B hB=>by cases hB)
    rwa [zcb h3] at this
   ·simp only at h1 h3 h4;subst h1
    obtain ⟨e1,e2,ad,cp,rfl,e3,e4,e5⟩:=(hp _ h3).2 rfl
    obtain ⟨c1,c2⟩:=zbg e1 e2
    have hrow4:=h4
    obtain ⟨arr,hc,hsize,hK,hl,hv,hI⟩:=h4
    have hin: ∀(i j:Nat) (e lf:V),xs[i]? =some e->(leaves e)[j]? =some lf->i*sz+j<xs.length*sz:=fun i j e lf hi hj=>by
     have hjl:j<sz:=by rw [<- hl i e hi];exact z7 hj
     have hil:=z7 hi
     have:(i+1)*sz<=xs.length*sz:=y16 sz (by omega)
     rw [y29] at this;omega
    have hle:xs.length*sz<=arr.size:=by rw [hsize];exact y16 sz hK.1
    refine ⟨fun a=>I a\/(a.spot=none/\a.block=B/\a.off<xs.length*sz),⟨fun _ h=> .inl h,fun a h=>?_,?_,by simp⟩,rfl,fun ρ'=>?_⟩
    ·rcases h with h | h
     ·exact .inl h
     ·exact .inr ⟨id,_,h3,by rw [h.2.1];rfl⟩
    ·have:=hr.upd (I':=fun a=>I a\/(a.spot=none/\a.block=B/\a.off<xs.length*sz)) (b':= .row ver false sz xs false) (i':=some (.row B K sz ver xs.length)) (w':=w) hH h3 (fun _ h=> .inl h) (fun _ _=>rfl) (fun a ha=>by
      rcases ha with ha | ⟨q1,q2,q3⟩
      ·exact hr.cells a ha
      ·obtain ⟨b,o,s⟩:=a
       simp only at q1 q2 q3;subst q1;subst q2
       rw [hc.cell o (by omega)];rfl) (fun _ _ _ _ _ _=>rfl) (fun a ha=>by
      rcases ha with ha | ⟨q1,q2,q3⟩
      ·exact .inl ha
      ·exact .inr fun k inf B' hk hq hb e=>hk (hr.apart k id inf _ B' hq h3 hb (by rw [<- e,q2];rfl))) (Pers.refl _) (.inr ⟨rfl,B,K,rfl,arr,hc,hsize,hK,hl,fun i j e lf hi hj=>⟨(hv i j e lf hi hj).1,(hv i j e lf hi hj).2.more fun _ h=> .inl h⟩,fun a ha hb=>?_⟩) (fun B' hB' k inf hk hq hb=>?_)
     ·rwa [zcb h3] at this
     ·rcases ha with ha | ⟨q1,q2,q3⟩
      ·exact ⟨rfl,(hI a ha hb).2⟩
      ·exact ⟨rfl,q3⟩
     ·simp only [Has,Inf.has] at hB';subst hB'
      exact hk (hr.apart k id inf _ B hq h3 hb rfl)
    ·have:=VR.sl (I:=fun a=>I a\/(a.spot=none/\a.block=B/\a.off<xs.length*sz)) (ρ:=ρ') (c:=w.cell?) false (cut xs off len md) (some ad) cp sz (fun i j=>arr.getD ((off+i)*sz+j) undef) (by omega) rfl (fun e=>by cases e) (fun i e hi=>hl _ e (c2 i e hi)) (fun i j e lf hi hj=>(hv _ j e lf (c2 i e hi) hj).1) (fun ad' i j e lf ha hi hj=>?_) (fun i j e lf hi hj=>((hv _ j e lf (c2 i e hi) hj).2.deep (hv _ j e lf (c2 i e hi) hj).1 ρ').more fun _ h=> .inl h)
     ·rw [c1] at this;exact this
     ·simp only [y1] at ha;subst ha
      have hpos:0<cp:=by have:=z7 hi;omega
      have hlt:=hin _ j e lf (c2 i e hi) hj
      rw [e5 hpos,add_mk,<- y53,<- y29]
      exact ⟨.inr ⟨rfl,rfl,hlt⟩,hc.cell _ (by omega)⟩
end
section
variable {I I':Addr->Prop} {ρ:Infs} {P:Program} {w w':World} {H:Hp}
theorem zcd: ∀{vs ds:List V} {I:Addr->Prop} {H H':Hp} (xs:Nat->Value) (hr:HR I ρ w H) (hx: ∀(i:Nat) (v:V),vs[i]? =some v->VR I ρ w.cell? v (xs i)) (h:shareL H vs=some (ds,H')),
  ∃I',Shr I ρ w H I' H'/\ds.length=vs.length/\(∀(i:Nat) (d:V),ds[i]? =some d->deep1 d=true/\ ∀ρ',VR I' ρ' w.cell? d (xs i))
 | [],ds,I,H,H',xs,hr,hx,h=>by
  simp only [shareL,y1,y7] at h
  obtain ⟨rfl,rfl⟩:=h
  exact ⟨I,Shr.refl hr,rfl,fun i d h=>by simp at h⟩
 | v::l,ds,I,H,H',xs,hr,hx,h=>by
  simp only [shareL] at h
  cases h1:share1 H v with
  | none=>simp [h1] at h
  | some p=>
   obtain ⟨d,H1⟩:=p
   simp only [h1,y4] at h
   cases h2:shareL H1 l with
   | none=>simp [h2] at h
   | some q=>
    obtain ⟨es,H2⟩:=q
    simp only [h2,y4,y1,y7] at h
    obtain ⟨rfl,rfl⟩:=h
    obtain ⟨I1,s1,d1,v1⟩:=zcc hr (hx 0 v rfl) h1
    obtain ⟨I2,s2,l2,v2⟩:=zcd (fun i=>xs (i+1)) s1.hr (fun i v hi=>(hx (i+1) v (by simpa using hi)).more s1.sub) h2
    refine ⟨I2,s1.trans s2,by simp [l2],fun i d' hi=>?_⟩
    cases i with
    | zero=>simp only [y35,y1] at hi;subst hi;exact ⟨d1,fun ρ'=>(v1 ρ').more s2.sub⟩
    | succ i=>exact v2 i d' (by simpa using hi)
def deepV (d:V):Prop:= ∀(j:Nat) (lf:V),(leaves d)[j]? =some lf->deep1 lf=true
theorem VR.agg_inv {c:Addr->Option Value} {cs:List V} {x:Value} (h:VR I ρ c (.agg cs) x): ∃arr,x= .agg arr/\arr.size=cs.length/\goods cs=true/\ ∀(i:Nat) (v:V),cs[i]? =some v->VR I ρ c v (arr.getD i undef):=by
 cases h with
 | agg cs arr hs hg hv=>exact ⟨arr,rfl,hs,hg,hv⟩
theorem zce (hr:HR I ρ w H) {v d:V} {x:Value} {H':Hp} (hx:VR I ρ w.cell? v x) (h:share H v=some (d,H')):
  ∃I',Shr I ρ w H I' H'/\deepV d/\ ∀ρ',VR I' ρ' w.cell? d x:=by
 by_cases ha: ∃cs,v= .agg cs
 ·obtain ⟨cs,rfl⟩:=ha
  obtain ⟨arr,rfl,hs,hg,hv⟩:=hx.agg_inv
  simp only [share] at h
  cases h1:shareL H cs with
  | none=>simp [h1] at h
  | some p=>
   obtain ⟨ds,H1⟩:=p
   simp only [h1,y4,y1,y7] at h
   obtain ⟨rfl,rfl⟩:=h
   obtain ⟨I1,s1,l1,v1⟩:=zcd (fun i=>arr.getD i undef) hr hv h1
   exact ⟨I1,s1,fun j lf hj=>(v1 j lf hj).1,fun ρ'=> .agg _ arr (by rw [hs,l1]) (zj fun i d hi=>zk (v1 i d hi).1) fun i d hi=>(v1 i d hi).2 ρ'⟩
 ·have h':share1 H v=some (d,H'):=by cases v<;>first | exact h | exact absurd ⟨_,rfl⟩ ha
  obtain ⟨I1,s1,d1,v1⟩:=zcc hr hx h'
  refine ⟨I1,s1,fun j lf hj=>?_,v1⟩
  have:leaves d=[d]:=by cases d<;>first | rfl | simp [deep1] at d1
  rw [this] at hj
  cases j with
  | zero=>simp at hj;subst hj;exact d1
  | succ j=>simp at hj
theorem zcf: ∀{vs ds:List V} {I:Addr->Prop} {H H':Hp} (xs:Nat->Value) (hr:HR I ρ w H) (hx: ∀(i:Nat) (v:V),vs[i]? =some v->VR I ρ w.cell? v (xs i)) (h:shareE H vs=some (ds,H')),
  ∃I',Shr I ρ w H I' H'/\ds.length=vs.length/\(∀(i:Nat) (d:V),ds[i]? =some d->deepV d/\ ∀ρ',VR I' ρ' w.cell? d (xs i))
 | [],ds,I,H,H',xs,hr,hx,h=>by
  simp only [shareE,y1,y7] at h
  obtain ⟨rfl,rfl⟩:=h
  exact ⟨I,Shr.refl hr,rfl,fun i d h=>by simp at h⟩
 | v::l,ds,I,H,H',xs,hr,hx,h=>by
  simp only [shareE] at h
  cases h1:share H v with
  | none=>simp [h1] at h
  | some p=>
   obtain ⟨d,H1⟩:=p
   simp only [h1,y4] at h
   cases h2:shareE H1 l with
   | none=>simp [h2] at h
   | some q=>
    obtain ⟨es,H2⟩:=q
    simp only [h2,y4,y1,y7] at h
    obtain ⟨rfl,rfl⟩:=h
    obtain ⟨I1,s1,d1,v1⟩:=zce hr (hx 0 v rfl) h1
    obtain ⟨I2,s2,l2,v2⟩:=zcf (fun i=>xs (i+1)) s1.hr (fun i v hi=>(hx (i+1) v (by simpa using hi)).more s1.sub) h2
    refine ⟨I2,s1.trans s2,by simp [l2],fun i d' hi=>?_⟩
    cases i with
    | zero=>simp only [y35,y1] at hi;subst hi;exact ⟨d1,fun ρ'=>(v1 ρ').more s2.sub⟩
    | succ i=>exact v2 i d' (by simpa using hi)
def Blks (I:Addr->Prop) (w:World) (bs:List Blk) (is:Infs):Prop:=
 is.length=bs.length/\ ∀(i:Nat) (b:Blk) (j:Option Inf),bs[i]? =some b->is[i]? =some j->(∃ver z sz xs x,b= .row ver z sz xs x)/\BlkOk I [] w b j
theorem Blks.nil:Blks I w [] []:=⟨rfl,fun i b j h=>by simp at h⟩
theorem Blks.append {b1 b2:List Blk} {i1 i2:Infs} (h1:Blks I w b1 i1) (h2:Blks I w b2 i2):Blks I w (b1++b2) (i1++i2):=by
 refine ⟨by simp [h1.1,h2.1],fun i b j hb hj=>?_⟩
 rcases y28 i b1.length with h | h
 ·rw [y10 h] at hb
  rw [y10 (by rw [h1.1];exact h)] at hj
  exact h1.2 i b j hb hj
 ·rw [y18 h] at hb
  rw [y18 (by rw [h1.1];exact h),h1.1] at hj
  exact h2.2 _ b j hb hj
def D1 (I:Addr->Prop) (w:World) (d:V) (x:Value) (bs:List Blk) (is:Infs):Prop:=
 Blks I w bs is/\ ∀(K:Hp) (ρK:Infs),ρK.length=K.length->(put1 K d).2=K++bs/\VR I (ρK++is) w.cell? (put1 K d).1 x/\good (put1 K d).1=true
theorem D1.deep {d:V} {x:Value} (hd:deep1 d=true) (h: ∀ρ',VR I ρ' w.cell? d x):D1 I w d x [] []:=by
 refine ⟨Blks.nil,fun K ρK hl=>?_⟩
 have:put1 K d=(d,K):=by cases d<;>first | rfl | simp [deep1] at hd
 rw [this]
 exact ⟨by simp,h _,zk hd⟩
def DL (I:Addr->Prop) (w:World) (ds:List V) (xs:Nat->Value) (bs:List Blk) (is:Infs):Prop:=
 Blks I w bs is/\ ∀(K:Hp) (ρK:Infs),ρK.length=K.length->(putL K ds).2=K++bs/\(putL K ds).1.length=ds.length/\ ∀(i:Nat) (v:V),(putL K ds).1[i]? =some v->VR I (ρK++is) w.cell? v (xs i)/\good v=true
theorem VR.longer {c:Addr->Option Value} {v:V} {x:Value} (h:VR I ρ c v x) (is:Infs):VR I (ρ++is) c v x:=
 h.mono (fun _ h=>h) (fun _ _=>rfl) (by simp) (fun id hid=>by rw [y10 hid];exact Pers.refl _)
theorem DL.nil (xs:Nat->Value):DL I w [] xs [] []:=⟨Blks.nil,fun K ρK hl=>⟨by simp [putL],rfl,fun i v h=>by simp [putL] at h⟩⟩
theorem DL.cons {d:V} {ds:List V} {xs:Nat->Value} {b1 b2:List Blk} {i1 i2:Infs} (h1:D1 I w d (xs 0) b1 i1) (h2:DL I w ds (fun i=>xs (i+1)) b2 i2):DL I w (d::ds) xs (b1++b2) (i1++i2):=by
 refine ⟨h1.1.append h2.1,fun K ρK hl=>?_⟩
 obtain ⟨p1,p2,p3⟩:=h1.2 K ρK hl
 obtain ⟨q1,q2,q3⟩:=h2.2 (put1 K d).2 (ρK++i1) (by rw [p1];simp [hl,h1.1.1])
 simp only [putL]
 refine ⟨by rw [q1,p1,y31],by simp [q2],fun i v hi=>?_⟩
 cases i with
 | zero=>
  simp only [y35,y1] at hi;subst hi
  rw [<- y31]
  exact ⟨p2.longer _,p3⟩
 | succ i=>
  rw [<- y31]
  exact q3 i v (by simpa using hi)
def D (I:Addr->Prop) (w:World) (d:V) (x:Value) (bs:List Blk) (is:Infs):Prop:=
 Blks I w bs is/\ ∀(K:Hp) (ρK:Infs),ρK.length=K.length->(put K d).2=K++bs/\VR I (ρK++is) w.cell? (put K d).1 x
theorem D.agg {ds:List V} {arr:Array Value} {bs:List Blk} {is:Infs} (hs:arr.size=ds.length) (h:DL I w ds (fun i=>arr.getD i undef) bs is):D I w (.agg ds) (.agg arr) bs is:=by
 refine ⟨h.1,fun K ρK hl=>?_⟩
 obtain ⟨p1,p2,p3⟩:=h.2 K ρK hl
 simp only [put]
 exact ⟨p1, .agg _ arr (by rw [p2,hs]) (zj fun i v hi=>(p3 i v hi).2) fun i v hi=>(p3 i v hi).1⟩
theorem D.of1 {d:V} {x:Value} {bs:List Blk} {is:Infs} (h:D1 I w d x bs is) (hd: ∀cs,d≠ .agg cs):D I w d x bs is:=by
 have: ∀K,put K d=put1 K d:=fun K=>by cases d<;>first | rfl | exact absurd rfl (hd _)
 exact ⟨h.1,fun K ρK hl=>by rw [this];exact ⟨(h.2 K ρK hl).1,(h.2 K ρK hl).2.1⟩⟩
theorem D.deep {d:V} {x:Value} (hd:deepV d) (h: ∀ρ',VR I ρ' w.cell? d x):D I w d x [] []:=by
 by_cases ha: ∃cs,d= .agg cs
 ·obtain ⟨cs,rfl⟩:=ha
  obtain ⟨arr,rfl,hs,hg,_⟩:=(h []).agg_inv
  refine .agg hs ?_
  have key: ∀(cs:List V) (xs:Nat->Value),(∀(j:Nat) (lf:V),cs[j]? =some lf->deep1 lf=true/\ ∀ρ',VR I ρ' w.cell? lf (xs j))->DL I w cs xs [] []:=by
   intro cs
   induction cs with
   | nil=>intro xs _;exact DL.nil xs
   | cons a l ih=>
    intro xs hx
    have:=DL.cons (D1.deep (hx 0 a rfl).1 (hx 0 a rfl).2) (ih (fun i=>xs (i+1)) fun j lf hj=>hx (j+1) lf (by simpa using hj))
    simpa using this
  refine key cs _ fun j lf hj=>⟨hd j lf hj,fun ρ'=>?_⟩
  obtain ⟨arr',e,_,_,hv⟩:=(h ρ').agg_inv
  cases e
  exact hv j lf hj
 ·have hl:leaves d=[d]:=by cases d<;>first | rfl | exact absurd ⟨_,rfl⟩ ha
  exact .of1 (.deep (hd 0 d (by rw [hl];rfl)) h) fun cs e=>ha ⟨cs,e⟩
def Ds (I:Addr->Prop) (w:World) (ds:List V) (xs:Nat->Value) (bs:List Blk) (is:Infs):Prop:=
 Blks I w bs is/\ ∀(K:Hp) (ρK:Infs),ρK.length=K.length->(putT K ds).2=K++bs/\(putT K ds).1.length=ds.length/\ ∀(i:Nat) (v:V),(putT K ds).1[i]? =some v->VR I (ρK++is) w.cell? v (xs i)
theorem Ds.nil (xs:Nat->Value):Ds I w [] xs [] []:=⟨Blks.nil,fun K ρK hl=>⟨by simp [putT],rfl,fun i v h=>by simp [putT] at h⟩⟩
theorem Ds.cons {d:V} {ds:List V} {xs:Nat->Value} {b1 b2:List Blk} {i1 i2:Infs} (h1:D I w d (xs 0) b1 i1) (h2:Ds I w ds (fun i=>xs (i+1)) b2 i2):Ds I w (d::ds) xs (b1++b2) (i1++i2):=by
 refine ⟨h1.1.append h2.1,fun K ρK hl=>?_⟩
 obtain ⟨p1,p2⟩:=h1.2 K ρK hl
 obtain ⟨q1,q2,q3⟩:=h2.2 (put K d).2 (ρK++i1) (by rw [p1];simp [hl,h1.1.1])
 simp only [putT]
 refine ⟨by rw [q1,p1,y31],by simp [q2],fun i v hi=>?_⟩
 cases i with
 | zero=>
  simp only [y35,y1] at hi;subst hi
  rw [<- y31]
  exact p2.longer _
 | succ i=>
  rw [<- y31]
  exact q3 i v (by simpa using hi)
end
section
variable {I I':Addr->Prop} {ρ:Infs} {P:Program} {w w':World} {H:Hp}
theorem Blks.more {bs:List Blk} {is:Infs} (h:Blks I w bs is) (hI: ∀a,I a->I' a) (hn: ∀a,I' a->I a\/ ¬Live is a.block):Blks I' w bs is:=by
 refine ⟨h.1,fun i b j hb hj=>⟨(h.2 i b j hb hj).1,(h.2 i b j hb hj).2.move hI (fun _ _=>rfl) (fun _ _=>rfl) (fun B a hB ha=>?_) (y13 _) (fun _ _=>Pers.refl _)⟩⟩
 rcases hn a ha with h1 | h1
 ·exact .inl h1
 ·refine .inr fun e=>h1 ?_
  cases j with
  | none=>cases hB
  | some inf=>exact ⟨i,inf,hj,by rw [e];exact hB⟩
theorem Ds.more {ds:List V} {xs:Nat->Value} {bs:List Blk} {is:Infs} (h:Ds I w ds xs bs is) (hI: ∀a,I a->I' a) (hn: ∀a,I' a->I a\/ ¬Live is a.block):Ds I' w ds xs bs is:=
 ⟨h.1.more hI hn,fun K ρK hl=>⟨(h.2 K ρK hl).1,(h.2 K ρK hl).2.1,fun i v hi=>((h.2 K ρK hl).2.2 i v hi).more hI⟩⟩
theorem D.more {d:V} {x:Value} {bs:List Blk} {is:Infs} (h:D I w d x bs is) (hI: ∀a,I a->I' a) (hn: ∀a,I' a->I a\/ ¬Live is a.block):D I' w d x bs is:=
 ⟨h.1.more hI hn,fun K ρK hl=>⟨(h.2 K ρK hl).1,((h.2 K ρK hl).2).more hI⟩⟩
theorem DL.more {ds:List V} {xs:Nat->Value} {bs:List Blk} {is:Infs} (h:DL I w ds xs bs is) (hI: ∀a,I a->I' a) (hn: ∀a,I' a->I a\/ ¬Live is a.block):DL I' w ds xs bs is:=
 ⟨h.1.more hI hn,fun K ρK hl=>⟨(h.2 K ρK hl).1,(h.2 K ρK hl).2.1,fun i v hi=>⟨((h.2 K ρK hl).2.2 i v hi).1.more hI,((h.2 K ρK hl).2.2 i v hi).2⟩⟩⟩
theorem D1.more {d:V} {x:Value} {bs:List Blk} {is:Infs} (h:D1 I w d x bs is) (hI: ∀a,I a->I' a) (hn: ∀a,I' a->I a\/ ¬Live is a.block):D1 I' w d x bs is:=
 ⟨h.1.more hI hn,fun K ρK hl=>⟨(h.2 K ρK hl).1,((h.2 K ρK hl).2.1).more hI,(h.2 K ρK hl).2.2⟩⟩
theorem zcg {K:Hp} {ρK:Infs} {inf:Inf} {ver off len md:Nat} {x:Value} {c:Addr->Option Value} (hl:ρK.length=K.length) (h:vwOk inf ver off len md x) (ho: ∃a cp,x= .slice a len cp):VR I (ρK++[some inf]) c (.vw K.length ver off len md) x:=by
 refine .vw _ _ _ _ _ _ (by simp [hl]) ho fun inf' hinf=>?_
 rw [<- hl] at hinf
 simp only [y25,y1] at hinf;subst hinf
 exact h
theorem own_ok (hr:HR I ρ w H) {id ver len md:Nat} {x:Value} (hx:VR I ρ w.cell? (.vw id ver 0 len md) x) {z:Bool} {sz:Nat} {xs:List V} {fl:Bool} (hrow:row? H id ver=some (z,sz,xs,fl)) (hmd:md=1\/(md=0/\fl=true)):
  ∃inf,ρ[id]? =some (some inf)/\ ∃inf',inf'.has=inf.has/\D1 I w (.own z sz fl (cut xs 0 len md)) x [.row 0 z sz (cut xs 0 len md) fl] [some inf']:=by
 cases hx with
 | vw id ver off len md x hi0 ho hp=>
 have hmd2:md≠2:=by omega
 rcases hr.row hrow with ⟨h1,h2,h3⟩ | ⟨h1,B,K,h3,h4⟩
 ·simp only at h1 h2 h3;subst h1;subst h2
  obtain ⟨rfl,e1,e2⟩:=(hp _ h3).2 rfl
  subst e2
  have hcut:cut ([]:List V) 0 0 md=[]:=by unfold cut;split<;>simp
  rw [hcut]
  refine ⟨_,h3, .nrow sz 0,rfl,⟨rfl,fun i b j hb hj=>?_⟩,fun K ρK hl=>⟨rfl,zcg hl ⟨y13 _,fun _=>⟨rfl,rfl,rfl⟩⟩ ⟨_,_,rfl⟩,rfl⟩⟩
  cases i with
  | zero=>simp at hb hj;subst hb;subst hj;exact ⟨⟨_,_,_,_,_,rfl⟩, .inl ⟨rfl,rfl,rfl⟩⟩
  | succ i=>simp at hb
 ·simp only at h1 h3 h4;subst h1
  obtain ⟨e1,e2,ad,cp,rfl,e3,e4,e5⟩:=(hp _ h3).2 rfl
  obtain ⟨c1,c2⟩:=zbg e1 e2
  have e4:=e4 hmd2
  simp only [y41] at e1 e2 e4 c2
  subst e4
  obtain ⟨arr,hc,hsize,hK,hl,hv,hI⟩:=h4
  refine ⟨_,h3, .row B cp sz 0 len,rfl,⟨rfl,fun i b j hb hj=>?_⟩,fun K ρK hl'=>⟨rfl,?_,rfl⟩⟩
  ·cases i with
   | zero=>
    simp at hb hj;subst hb;subst hj
    refine ⟨⟨_,_,_,_,_,rfl⟩, .inr ⟨rfl,B,cp,by rw [c1],arr,hc,hsize,by omega,fun i e hi=>hl i e (c2 i e hi),fun i j e lf hi hj=>hv i j e lf (c2 i e hi) hj,fun a ha hb=>?_⟩⟩
    obtain ⟨g1,g2⟩:=hI a ha hb
    refine ⟨g1,?_⟩
    rcases hmd with h | ⟨_,h⟩
    ·rw [c1,e2 h];exact g2
    ·rw [g1] at h;cases h
   | succ i=>simp at hb
  ·simp only [put1,c1]
   exact zcg hl' ⟨y13 _,fun _=>⟨by omega,fun _=>by omega,ad,cp,rfl,by omega,fun _=>by omega,fun h=>by have:=e5 h;simpa using this⟩⟩ ⟨_,_,rfl⟩
theorem HR.drop (hr:HR I ρ w H) {id:Nat} {b:Blk} {i:Option Inf} (hb:H[id]? =some b) (hi:ρ[id]? =some i):HR I (ρ.set id none) w (H.set id .dead):=
 hr.upd hb hi (fun _ h=>h) (fun _ _=>rfl) hr.cells (fun _ _ _ _ _ _=>rfl) (fun _ h=> .inl h) (by
  match i with
  | none=>rfl
  | some (.box B)=>exact .inl rfl
  | some (.dsk B D)=>exact .inl rfl
  | some (.row B K sz v L)=>exact .inl rfl
  | some (.nrow sz v)=>exact .inl rfl) rfl (fun B hB=>by cases hB)
theorem zch {id B:Nat} (h:Live (ρ.set id none) B):Live ρ B:=by
 obtain ⟨k,inf,hk,hB⟩:=h
 by_cases e:id=k
 ·subst e
  have:=z7 hk
  rw [List.length_set] at this
  rw [y22 this] at hk;simp at hk
 ·rw [y27 e] at hk;exact ⟨k,inf,hk,hB⟩
structure Gone (I:Addr->Prop) (ρ:Infs) (w:World) (H:Hp) (I':Addr->Prop) (ρ':Infs) (H':Hp) (is:Infs):Prop where
 sub: ∀a,I a->I' a
 new: ∀a,I' a->I a\/Live ρ a.block
 hr:HR I' ρ' w H'
 len:H'.length=H.length
 pers: ∀k:Nat,Pers ρ[k]? ρ'[k]?
 live: ∀B,Live ρ' B->Live ρ B
 gone: ∀B,Live is B->Live ρ B/\ ¬Live ρ' B
 apart:Apart is
theorem Gone.refl (hr:HR I ρ w H):Gone I ρ w H I ρ H []:=
 ⟨fun _ h=>h,fun _ h=> .inl h,hr,rfl,fun _=>Pers.refl _,fun _ h=>h,fun B ⟨k,inf,hk,_⟩=>by simp at hk,fun i j a b B h=>by simp at h⟩
theorem Gone.of_shr {I':Addr->Prop} {H':Hp} (s:Shr I ρ w H I' H'):Gone I ρ w H I' ρ H' []:=
 ⟨s.sub,s.new,s.hr,s.len,fun _=>Pers.refl _,fun _ h=>h,fun B ⟨k,inf,hk,_⟩=>by simp at hk,fun i j a b B h=>by simp at h⟩
theorem zci {a b:Infs} {B:Nat} (h:Live (a++b) B):Live a B\/Live b B:=by
 obtain ⟨k,inf,hk,hB⟩:=h
 rcases y28 k a.length with h | h
 ·rw [y10 h] at hk;exact .inl ⟨k,inf,hk,hB⟩
 ·rw [y18 h] at hk;exact .inr ⟨_,inf,hk,hB⟩
theorem Apart.append {a b:Infs} (ha:Apart a) (hb:Apart b) (h: ∀B,Live a B-> ¬Live b B):Apart (a++b):=by
 intro i j p q B hi hj hp hq
 rcases y28 i a.length with h1 | h1
 ·rw [y10 h1] at hi
  rcases y28 j a.length with h2 | h2
  ·rw [y10 h2] at hj
   exact ha i j p q B hi hj hp hq
  ·rw [y18 h2] at hj
   exact absurd ⟨_,q,hj,hq⟩ (h B ⟨_,p,hi,hp⟩)
 ·rw [y18 h1] at hi
  rcases y28 j a.length with h2 | h2
  ·rw [y10 h2] at hj
   exact absurd ⟨_,p,hi,hp⟩ (h B ⟨_,q,hj,hq⟩)
  ·rw [y18 h2] at hj
   have:=hb _ _ p q B hi hj hp hq
   omega
theorem Gone.trans {I1 I2:Addr->Prop} {ρ1 ρ2:Infs} {H1 H2:Hp} {is1 is2:Infs} (a:Gone I ρ w H I1 ρ1 H1 is1) (b:Gone I1 ρ1 w H1 I2 ρ2 H2 is2):Gone I ρ w H I2 ρ2 H2 (is1++is2) where
 sub:=fun x h=>b.sub x (a.sub x h)
 new:=fun x h=>by rcases b.new x h with h | h;exact a.new x h;exact .inr (a.live _ h)
 hr:=b.hr
 len:=by rw [b.len,a.len]
 pers:=fun k=>(a.pers k).trans (b.pers k)
 live:=fun B h=>a.live B (b.live B h)
 gone:=fun B h=>by
  rcases zci h with h | h
  ·obtain ⟨h1,h2⟩:=a.gone B h
   exact ⟨h1,fun h3=>h2 (b.live B h3)⟩
  ·obtain ⟨h1,h2⟩:=b.gone B h
   exact ⟨a.live B h1,h2⟩
 apart:=a.apart.append b.apart fun B h1 h2=>(a.gone B h1).2 (b.gone B h2).1
def tkI (ρ:Infs):V->Infs
 | .vw id _ _ _ _=>ρ.set id none
 | _=>ρ
theorem zcj (hr:HR I ρ w H) {sz:Nat} {v d:V} {x:Value} {H':Hp} (hx:VR I ρ w.cell? v x) (h:take H sz v=some (d,H')):
  ∃ρ' bs is,Gone I ρ w H I ρ' H' is/\D I w d x bs is/\ρ'=tkI ρ v:=by
 cases v<;>simp only [take,reduceCtorEq] at h
 case sl z xs=>
  cases z<;>cases xs<;>simp only [take,reduceCtorEq,y1,y7] at h
  obtain ⟨rfl,rfl⟩:=h
  cases hx with
  | sl z xs a cp s vals hc hz hn hs hd hcell hv=>
   have ha0:a=none:=by cases a with
    | none=>rfl
    | some q=>cases hz
   subst ha0
   obtain rfl:=hn rfl
   refine ⟨ρ,[.row 0 true sz [] true],[some (.nrow sz 0)],⟨fun _ h=>h,fun _ h=> .inl h,hr,rfl,fun _=>Pers.refl _,fun _ h=>h,fun B ⟨k,inf,hk,hB⟩=>?_,fun i j a b B h1 h2=>?_⟩, .of1 ⟨⟨rfl,fun i b j hb hj=>?_⟩,fun K ρK hl=>⟨rfl,zcg hl ⟨y13 _,fun _=>⟨rfl,rfl,rfl⟩⟩ ⟨_,_,rfl⟩,rfl⟩⟩ (fun cs e=>by cases e),rfl⟩
   ·cases k with
    | zero=>simp at hk;subst hk;cases hB
    | succ k=>simp at hk
   ·have:=z7 h1;have:=z7 h2;simp at*;omega
   ·cases i with
    | zero=>simp at hb hj;subst hb;subst hj;exact ⟨⟨_,_,_,_,_,rfl⟩, .inl ⟨rfl,rfl,rfl⟩⟩
    | succ i=>simp at hb
 case vw id ver off len md=>
  cases hrow:row? H id ver with
  | none=>simp [hrow] at h
  | some r=>
   obtain ⟨z,sz',xs,fl⟩:=r
   simp only [hrow,y4] at h
   by_cases h0:off=0
   ·rw [if_pos h0] at h
    by_cases hmd:md=1\/(md=0/\fl=true)
    ·rw [if_pos hmd] at h
     by_cases h2:sz=sz'
     ·rw [if_pos h2] at h
      simp only [y1,y7] at h
      obtain ⟨rfl,rfl⟩:=h
      subst h0;subst h2
      obtain ⟨inf,hi,inf',hb,hD⟩:=own_ok hr hx hrow hmd
      have hpers:Pers (some (some inf)) (some none):=by
       match inf with
       | .box B=>exact .inl rfl
       | .dsk B D=>exact .inl rfl
       | .row B K sz v L=>exact .inl rfl
       | .nrow sz v=>exact .inl rfl
      have hgone: ∀B,Live [some inf'] B->Live ρ B/\ ¬Live (ρ.set id none) B:=by
       rintro B ⟨k,i2,hk,hB⟩
       cases k with
       | zero=>
        simp at hk;subst hk
        rw [hb] at hB
        refine ⟨⟨id,inf,hi,hB⟩,?_⟩
        rintro ⟨k,i3,hk,hB'⟩
        by_cases e:id=k
        ·subst e
         rw [y22 (z7 hi)] at hk;simp at hk
        ·rw [y27 e] at hk
         exact e (hr.apart id k inf i3 B hi hk hB hB')
       | succ k=>simp at hk
      have hap:Apart [some inf']:=by
       intro i j a b B h1 h2
       have:=z7 h1;have:=z7 h2;simp at*;omega
      exact ⟨_,_,_,⟨fun _ h=>h,fun _ h=> .inl h,hr.drop (z6 hrow) hi,by simp,fun k=>Pers.at_set hi hpers k,fun B h=>zch h,hgone,hap⟩, .of1 hD (fun cs e=>by cases e),rfl⟩
     ·rw [if_neg h2] at h;cases h
    ·rw [if_neg hmd] at h;cases h
   ·rw [if_neg h0] at h;cases h
end
section
variable {I I':Addr->Prop} {ρ:Infs} {P:Program} {w w':World} {H:Hp}
def Le (H H0:Hp):Prop:=H.length=H0.length/\ ∀(id:Nat) (b:Blk),H[id]? =some b->H0[id]? =some b\/ ∃ver z sz xs x,b= .row ver z sz xs false/\H0[id]? =some (.row ver z sz xs x)
theorem Le.refl (H:Hp):Le H H:=⟨rfl,fun _ _ h=> .inl h⟩
theorem Le.row {H H0:Hp} (h:Le H H0) {id ver:Nat} {z:Bool} {sz:Nat} {xs:List V} {fl:Bool} (hr:row? H id ver=some (z,sz,xs,fl)): ∃fl0,row? H0 id ver=some (z,sz,xs,fl0)/\(fl=true->fl0=true):=by
 have h1:=z6 hr
 rcases h.2 id _ h1 with h2 | ⟨v,z',sz',xs',x,e,h2⟩
 ·exact ⟨fl,by simp [row?,h2],fun h=>h⟩
 ·simp only [Blk.row.injEq] at e
  obtain ⟨rfl,rfl,rfl,rfl,rfl⟩:=e
  exact ⟨x,by simp [row?,h2],fun h=>by cases h⟩
theorem Le.set {H H0:Hp} (h:Le H H0) (id:Nat) (b:Blk):Le (H.set id b) (H0.set id b):=by
 refine ⟨by simp [h.1],fun k c hk=>?_⟩
 by_cases e:id=k
 ·subst e
  have hl:=z7 hk
  rw [List.length_set] at hl
  rw [y22 hl] at hk
  rw [y22 (by rw [<- h.1];exact hl)]
  exact .inl hk
 ·rw [y27 e] at hk
  rw [y27 e]
  exact h.2 k c hk
theorem Le.shared {H H0:Hp} (h:Le H H0) {id ver:Nat} {z:Bool} {sz:Nat} {xs:List V} {fl:Bool} (hr:row? H id ver=some (z,sz,xs,fl)):Le (H.set id (.row ver z sz xs false)) H0:=by
 refine ⟨by simp [h.1],fun k c hk=>?_⟩
 by_cases e:id=k
 ·subst e
  have hl:=z7 hk
  rw [List.length_set] at hl
  rw [y22 hl] at hk
  simp only [y1] at hk;subst hk
  obtain ⟨fl0,h0,_⟩:=h.row hr
  exact .inr ⟨_,_,_,_,_,rfl,z6 h0⟩
 ·rw [y27 e] at hk
  exact h.2 k c hk
theorem zck {H0 H':Hp} {v d:V} (h:share1 H v=some (d,H')) (hle:Le H H0):Le H' H0:=by
 cases v<;>simp only [share1,y1,y7,reduceCtorEq] at h
 case int k n=>rw [<- h.2];exact hle
 case bool b=>rw [<- h.2];exact hle
 case str l=>rw [<- h.2];exact hle
 case sl z xs=>rw [<- h.2];exact hle
 case nili=>rw [<- h.2];exact hle
 case vw id ver off len md=>
  cases hrow:row? H id ver with
  | none=>simp [hrow] at h
  | some r=>
   obtain ⟨z,sz,xs,fl⟩:=r
   simp only [hrow,y4,y1,y7] at h
   rw [<- h.2];exact hle.shared hrow
theorem zcl: ∀{vs ds:List V} {H H0 H':Hp},shareL H vs=some (ds,H')->Le H H0->Le H' H0
 | [],ds,H,H0,H',h,hle=>by simp only [shareL,y1,y7] at h;rw [<- h.2];exact hle
 | v::l,ds,H,H0,H',h,hle=>by
  simp only [shareL] at h
  cases h1:share1 H v with
  | none=>rw [h1] at h;cases h
  | some p=>
   simp only [h1,y4] at h
   cases h2:shareL p.2 l with
   | none=>rw [h2] at h;cases h
   | some q=>
    simp only [h2,y4,y1,y7] at h
    rw [<- h.2]
    exact zcl h2 (zck h1 hle)
theorem zcm {H0 H':Hp} {v d:V} (h:share H v=some (d,H')) (hle:Le H H0):Le H' H0:=by
 by_cases ha: ∃cs,v= .agg cs
 ·obtain ⟨cs,rfl⟩:=ha
  simp only [share] at h
  cases h1:shareL H cs with
  | none=>rw [h1] at h;cases h
  | some p=>
   simp only [h1,y4,y1,y7] at h
   rw [<- h.2];exact zcl h1 hle
 ·have h':share1 H v=some (d,H'):=by cases v<;>first | exact h | exact absurd ⟨_,rfl⟩ ha
  exact zck h' hle
def tkH (H0:Hp):V->Hp
 | .vw id _ _ _ _=>H0.set id .dead
 | _=>H0
theorem zcn {H0 H':Hp} {sz:Nat} {v d:V} (h:take H sz v=some (d,H')) (hle:Le H H0): ∃d0 H0',take H0 sz v=some (d0,H0')/\Le H' H0'/\H0'=tkH H0 v:=by
 cases v<;>simp only [take,reduceCtorEq] at h
 case sl z xs=>
  cases z<;>cases xs<;>simp only [take,reduceCtorEq,y1,y7] at h
  exact ⟨_,H0,rfl,by rw [<- h.2];exact hle,rfl⟩
 case vw id ver off len md=>
  cases hrow:row? H id ver with
  | none=>simp [hrow] at h
  | some r=>
   obtain ⟨z,sz',xs,fl⟩:=r
   obtain ⟨fl0,h0,hfl⟩:=hle.row hrow
   simp only [hrow,y4] at h
   by_cases q0:off=0
   ·rw [if_pos q0] at h
    by_cases q1:md=1\/(md=0/\fl=true)
    ·rw [if_pos q1] at h
     by_cases q2:sz=sz'
     ·rw [if_pos q2] at h
      simp only [y1,y7] at h
      refine ⟨.own z sz fl0 (cut xs 0 len md),H0.set id .dead,?_,?_,rfl⟩
      ·simp only [take,h0,y4,if_pos q0,if_pos q2]
       rw [if_pos (by rcases q1 with q1 | q1;exact .inl q1;exact .inr ⟨q1.1,hfl q1.2⟩)]
      ·rw [<- h.2];exact hle.set id .dead
     ·rw [if_neg q2] at h;cases h
    ·rw [if_neg q1] at h;cases h
   ·rw [if_neg q0] at h;cases h
theorem HR.drop0 {I0:Addr->Prop} {H0:Hp} (hr0:HR I0 ρ w H0) {id:Nat} {i:Option Inf} (hl:id<H0.length) (hi:ρ[id]? =some i):HR I0 (ρ.set id none) w (H0.set id .dead):=
 hr0.drop (y6 hl) hi
theorem zco: ∀{vs ds:List V} {ms:List Nat} {I I0:Addr->Prop} {ρ:Infs} {H H0 H':Hp} (xs:Nat->Value) (hr:HR I ρ w H) (hr0:HR I0 ρ w H0) (hle:Le H H0) (hx: ∀(i:Nat) (v:V),vs[i]? =some v->VR I ρ w.cell? v (xs i)) (h:args H ms vs=some (ds,H')),
  ∃I' ρ' bs is,Gone I ρ w H I' ρ' H' is/\Ds I' w ds xs bs is/\ds.length=vs.length/\HR I0 ρ' w (takes H0 ms vs)
 | [],ds,ms,I,I0,ρ,H,H0,H',xs,hr,hr0,hle,hx,h=>by
  simp only [args,y1,y7] at h
  obtain ⟨rfl,rfl⟩:=h
  refine ⟨I,ρ,[],[],Gone.refl hr,Ds.nil xs,rfl,?_⟩
  cases ms<;>exact hr0
 | v ::l,ds,ms,I,I0,ρ,H,H0,H',xs,hr,hr0,hle,hx,h=>by
  -- one argument, and the others
  have key: ∀{d:V} {H1:Hp} {ms':List Nat} {H01:Hp} {I1:Addr->Prop} {ρ1:Infs} {bs1:List Blk} {is1:Infs} {es:List V} {H2:Hp},Gone I ρ w H I1 ρ1 H1 is1->D I1 w d (xs 0) bs1 is1->HR I0 ρ1 w H01->Le H1 H01->args H1 ms' l=some (es,H2)->
    ∃I' ρ' bs is,Gone I ρ w H I' ρ' H2 is/\Ds I' w (d::es) xs bs is/\(d::es).length=(v::l).length/\HR I0 ρ' w (takes H01 ms' l):=by
   intro d H1 ms' H01 I1 ρ1 bs1 is1 es H2 g1 d1 hr01 hle1 h2
   obtain ⟨I2,ρ2,bs2,is2,g2,d2,l2,t2⟩:=zco (fun i=>xs (i+1)) g1.hr hr01 hle1 (fun i u hi=>(hx (i+1) u (by simpa using hi)).mono g1.sub (fun _ _=>rfl) (by rw [hr.len,g1.hr.len,g1.len];exact y13 _) (fun k _=>g1.pers k)) h2
   refine ⟨I2,ρ2,bs1++bs2,is1++is2,g1.trans g2, .cons (d1.more g2.sub fun a ha=>?_) d2,by simp [l2],t2⟩
   rcases g2.new a ha with h | h
   ·exact .inl h
   ·exact .inr fun hl=>(g1.gone _ hl).2 h
  have shared: ∀{ms':List Nat},((share H v).bind fun p=>(args p.2 ms' l).bind fun q=>some (p.1::q.1,q.2))=some (ds,H')-> ∃I' ρ' bs is,Gone I ρ w H I' ρ' H' is/\Ds I' w ds xs bs is/\ds.length=(v::l).length/\HR I0 ρ' w (takes H0 ms' l):=by
   intro ms' h
   cases h1:share H v with
   | none=>rw [h1] at h;cases h
   | some p=>
    obtain ⟨d,H1⟩:=p
    simp only [h1,y4] at h
    cases h2:args H1 ms' l with
    | none=>rw [h2] at h;cases h
    | some q=>
     obtain ⟨es,H2⟩:=q
     simp only [h2,y4,y1,y7] at h
     obtain ⟨rfl,rfl⟩:=h
     obtain ⟨I1,s1,d1,v1⟩:=zce hr (hx 0 v rfl) h1
     exact key (Gone.of_shr s1) (.deep d1 v1) hr0 (zcm h1 hle) h2
  cases ms with
  | nil=>
   simp only [args] at h
   have:=shared h
   simpa [takes] using this
  | cons m ms=>
   cases m with
   | zero=>
    simp only [args] at h
    have:=shared h
    simpa [takes] using this
   | succ sz=>
    simp only [args] at h
    cases h1:take H sz v with
    | none=>rw [h1] at h;cases h
    | some p=>
     obtain ⟨d,H1⟩:=p
     simp only [h1,y4] at h
     cases h2:args H1 ms l with
     | none=>rw [h2] at h;cases h
     | some q=>
      obtain ⟨es,H2⟩:=q
      simp only [h2,y4,y1,y7] at h
      obtain ⟨rfl,rfl⟩:=h
      obtain ⟨ρ1,bs1,is1,g1,d1,e1⟩:=zcj hr (hx 0 v rfl) h1
      obtain ⟨d0,H01,t1,le1,hcase⟩:=zcn h1 hle
      have hr01:HR I0 ρ1 w H01:=by
       subst hcase;subst e1
       have hv:=hx 0 v rfl
       generalize xs 0=x0 at hv
       cases hv with
       | vw id ver off len md x hi0 ho hp=>exact hr0.drop0 (by rw [<- hr0.len];exact hi0) (y6 hi0)
       | _=>exact hr0
      have:=key g1 d1 hr01 le1 h2
      simpa [takes,t1] using this
theorem D1.of_own {z:Bool} {sz:Nat} {fl:Bool} {xs:List V} {x:Value} {bs:List Blk} {is:Infs} (h:D I w (.own z sz fl xs) x bs is):D1 I w (.own z sz fl xs) x bs is:=
 ⟨h.1,fun K ρK hl=>⟨(h.2 K ρK hl).1,(h.2 K ρK hl).2,rfl⟩⟩
theorem zcp {sz:Nat} {v d:V} {H':Hp} (h:take H sz v=some (d,H')): ∃z sz fl xs,d= .own z sz fl xs:=by
 cases v<;>simp only [take,reduceCtorEq] at h
 case sl z xs=>
  cases z<;>cases xs<;>simp only [take,reduceCtorEq,y1,y7] at h
  exact ⟨_,_,_,_,h.1.symm⟩
 case vw id ver off len md=>
  cases hrow:row? H id ver with
  | none=>simp [hrow] at h
  | some r=>
   simp only [hrow,y4] at h
   split at h<;>try cases h
   split at h<;>try cases h
   split at h<;>try cases h
   exact ⟨_,_,_,_,rfl⟩
theorem zcq (hr:HR I ρ w H) {ow:Nat} {v d:V} {x:Value} {H':Hp} (hx:VR I ρ w.cell? v x) (h:out1 ow H v=some (d,H')):
  ∃I' ρ' bs is,Gone I ρ w H I' ρ' H' is/\D1 I' w d x bs is/\ ∀cs,d≠ .agg cs:=by
 cases ow with
 | zero=>
  obtain ⟨I1,s1,d1,v1⟩:=zcc hr hx h
  exact ⟨I1,ρ,[],[],Gone.of_shr s1, .deep d1 v1,fun cs e=>by rw [e] at d1;cases d1⟩
 | succ sz=>
  obtain ⟨z,sz',fl,xs,rfl⟩:=zcp h
  obtain ⟨ρ1,bs1,is1,g1,d1,e1⟩:=zcj hr hx h
  exact ⟨I,ρ1,bs1,is1,g1, .of_own d1,fun cs e=>by cases e⟩
theorem zcr: ∀{vs ds:List V} {ow:List Nat} {I:Addr->Prop} {ρ:Infs} {H H':Hp} (xs:Nat->Value) (hr:HR I ρ w H) (hx: ∀(i:Nat) (v:V),vs[i]? =some v->VR I ρ w.cell? v (xs i)) (h:outL ow H vs=some (ds,H')),
  ∃I' ρ' bs is,Gone I ρ w H I' ρ' H' is/\DL I' w ds xs bs is/\ds.length=vs.length
 | [],ds,ow,I,ρ,H,H',xs,hr,hx,h=>by
  simp only [outL,y1,y7] at h
  obtain ⟨rfl,rfl⟩:=h
  exact ⟨I,ρ,[],[],Gone.refl hr,DL.nil xs,rfl⟩
 | v::l,ds,ow,I,ρ,H,H',xs,hr,hx,h=>by
  simp only [outL] at h
  cases h1:out1 (ow.headD 0) H v with
  | none=>rw [h1] at h;cases h
  | some p=>
   obtain ⟨d,H1⟩:=p
   simp only [h1,y4] at h
   cases h2:outL ow.tail H1 l with
   | none=>rw [h2] at h;cases h
   | some q=>
    obtain ⟨es,H2⟩:=q
    simp only [h2,y4,y1,y7] at h
    obtain ⟨rfl,rfl⟩:=h
    obtain ⟨I1,ρ1,b1,i1,g1,d1,_⟩:=zcq hr (hx 0 v rfl) h1
    obtain ⟨I2,ρ2,b2,i2,g2,d2,l2⟩:=zcr (fun i=>xs (i+1)) g1.hr (fun i u hi=>(hx (i+1) u (by simpa using hi)).mono g1.sub (fun _ _=>rfl) (by rw [hr.len,g1.hr.len,g1.len];exact y13 _) (fun k _=>g1.pers k)) h2
    refine ⟨I2,ρ2,b1++b2,i1++i2,g1.trans g2, .cons (d1.more g2.sub fun a ha=>?_) d2,by simp [l2]⟩
    rcases g2.new a ha with h | h
    ·exact .inl h
    ·exact .inr fun hl=>(g1.gone _ hl).2 h
theorem out_ok (hr:HR I ρ w H) {ow:List Nat} {v d:V} {x:Value} {H':Hp} (hx:VR I ρ w.cell? v x) (h:out ow H v=some (d,H')):
  ∃I' ρ' bs is,Gone I ρ w H I' ρ' H' is/\D I' w d x bs is:=by
 by_cases ha: ∃cs,v= .agg cs
 ·obtain ⟨cs,rfl⟩:=ha
  obtain ⟨arr,rfl,hs,hg,hv⟩:=hx.agg_inv
  simp only [out] at h
  cases h1:outL ow H cs with
  | none=>rw [h1] at h;cases h
  | some p=>
   obtain ⟨ds,H1⟩:=p
   simp only [h1,y4,y1,y7] at h
   obtain ⟨rfl,rfl⟩:=h
   obtain ⟨I1,ρ1,b1,i1,g1,d1,l1⟩:=zcr (fun i=>arr.getD i undef) hr hv h1
   exact ⟨I1,ρ1,b1,i1,g1, .agg (by rw [hs,l1]) d1⟩
 ·have h':out1 (ow.headD 0) H v=some (d,H'):=by cases v<;>first | exact h | exact absurd ⟨_,rfl⟩ ha
  obtain ⟨I1,ρ1,b1,i1,g1,d1,hd⟩:=zcq hr hx h'
  exact ⟨I1,ρ1,b1,i1,g1, .of1 d1 hd⟩
theorem zcs: ∀{vs ds:List V} {ow:List (List Nat)} {I:Addr->Prop} {ρ:Infs} {H H':Hp} (xs:Nat->Value) (hr:HR I ρ w H) (hx: ∀(i:Nat) (v:V),vs[i]? =some v->VR I ρ w.cell? v (xs i)) (h:outT ow H vs=some (ds,H')),
  ∃I' ρ' bs is,Gone I ρ w H I' ρ' H' is/\Ds I' w ds xs bs is/\ds.length=vs.length
 | [],ds,ow,I,ρ,H,H',xs,hr,hx,h=>by
  simp only [outT,y1,y7] at h
  obtain ⟨rfl,rfl⟩:=h
  exact ⟨I,ρ,[],[],Gone.refl hr,Ds.nil xs,rfl⟩
 | v::l,ds,ow,I,ρ,H,H',xs,hr,hx,h=>by
  simp only [outT] at h
  cases h1:out (ow.headD []) H v with
  | none=>rw [h1] at h;cases h
  | some p=>
   obtain ⟨d,H1⟩:=p
   simp only [h1,y4] at h
   cases h2:outT ow.tail H1 l with
   | none=>rw [h2] at h;cases h
   | some q=>
    obtain ⟨es,H2⟩:=q
    simp only [h2,y4,y1,y7] at h
    obtain ⟨rfl,rfl⟩:=h
    obtain ⟨I1,ρ1,b1,i1,g1,d1⟩:=out_ok hr (hx 0 v rfl) h1
    obtain ⟨I2,ρ2,b2,i2,g2,d2,l2⟩:=zcs (fun i=>xs (i+1)) g1.hr (fun i u hi=>(hx (i+1) u (by simpa using hi)).mono g1.sub (fun _ _=>rfl) (by rw [hr.len,g1.hr.len,g1.len];exact y13 _) (fun k _=>g1.pers k)) h2
    refine ⟨I2,ρ2,b1++b2,i1++i2,g1.trans g2, .cons (d1.more g2.sub fun a ha=>?_) d2,by simp [l2]⟩
    rcases g2.new a ha with h | h
    ·exact .inl h
    ·exact .inr fun hl=>(g1.gone _ hl).2 h
end
def packX:List Value->Value
 | [x]=>x
 | l=> .tuple l.toArray
def InlOk (P:Program) (f:FuncId) (vs:List V) (H:Hp) (rs:List V) (H':Hp):Prop:=
 ∀(I:Addr->Prop) (ρ:Infs) (w:World) (xs:List Value),xs.length=vs.length->HR I ρ w H->(∀(i:Nat) (v:V),vs[i]? =some v->VR I ρ w.cell? v (xs.getD i undef))->
  Calls P f xs.toArray w fun e w'=> ∃(I':Addr->Prop) (ρ':Infs) (ys:List Value),e= .returned (packX ys)/\ys.length=rs.length/\(∀(i:Nat) (v:V),rs[i]? =some v->VR I' ρ' w'.cell? v (ys.getD i undef))/\HR I' ρ' w' H'/\Nxt H.length I ρ w I' ρ' w'
def DeepOk (P:Program) (f:FuncId) (ds rs:List V):Prop:=
 ∀(I:Addr->Prop) (w:World) (xs:List Value) (bs:List Blk) (is:Infs),xs.length=ds.length->(∀a,I a->(w.cell? a).isSome=true)->Apart is->Ds I w ds (fun i=>xs.getD i undef) bs is->
  Calls P f xs.toArray w fun e w'=> ∃(I':Addr->Prop) (ys:List Value) (bs':List Blk) (is':Infs),e= .returned (packX ys)/\ys.length=rs.length/\Ds I' w' rs (fun i=>ys.getD i undef) bs' is'/\Apart is'/\(∀a,I' a->(w'.cell? a).isSome=true)/\Nxt 0 I is w I' is' w'
def OrcOk (P:Program) (O:Orc):Prop:=
 (∀f vs H rs H',O.inl f vs H=some (rs,H')->InlOk P f vs H rs H')/\(∀f ds rs,O.deep f ds=some rs->DeepOk P f ds rs)
section
variable {I I':Addr->Prop} {ρ:Infs} {P:Program} {w w':World} {H:Hp}
theorem zct {c:Addr->Option Value} {vs:List V} {xs:List Value} (hl:xs.length=vs.length) (h: ∀(i:Nat) (v:V),vs[i]? =some v->VR I ρ c v (xs.getD i undef)):VR I ρ c (pack vs) (packX xs):=by
 match vs,xs,hl with
 | [],[],_=>exact .tup [] #[] rfl (fun i v h=>by simp at h)
 | [v],[x],_=>exact h 0 v rfl
 | v::v'::l,x::x'::m,hl=>
  refine .tup _ _ (by simpa using hl) fun i u hi=>?_
  have:=h i u hi
  simpa [y15,y14] using this
theorem HR.join {I1 I2:Addr->Prop} {ρ1 is is':Infs} {H1 bs':Hp} (hr:HR I1 ρ1 w H1) (hd: ∀B,Live is B-> ¬Live ρ1 B) (hb:Blks I2 w' bs' is') (ha:Apart is') (hc: ∀a,I2 a->(w'.cell? a).isSome=true) (n:Nxt 0 I1 is w I2 is' w'):HR I2 (ρ1++is') w' (H1++bs'):=by
 have hkeep: ∀B,Live ρ1 B->w'.heap[B]? =w.heap[B]? :=fun B hB=>n.grow.keep B (hr.live_lt hB) fun h=>hd B h hB
 refine ⟨by simp [hr.len,hb.1],fun id b i hbi hi=>?_,hr.apart.append ha fun B h1 h2=>?_,hc⟩
 ·rcases y28 id H1.length with h | h
  ·rw [y10 h] at hbi
   rw [y10 (by rw [hr.len];exact h)] at hi
   refine (hr.blk id b i hbi hi).move n.sub n.grow.cells (fun B hB=>?_) (fun B a hB ha'=>?_) (by simp) (fun k hk=>by rw [y10 hk];exact Pers.refl _)
   ·cases i with
    | none=>cases hB
    | some inf=>exact hkeep B ⟨id,inf,hi,hB⟩
   ·have hl:Live ρ1 B:=by
     cases i with
     | none=>cases hB
     | some inf=>exact ⟨id,inf,hi,hB⟩
    rcases n.new a ha' with h1 | h1 | h1
    ·exact .inl h1
    ·exact .inr fun e=>hd _ h1 (by rw [e];exact hl)
    ·exact .inr fun e=>by have:=hr.live_lt hl;omega
  ·rw [y18 h] at hbi
   rw [y18 (by rw [hr.len];exact h),hr.len] at hi
   obtain ⟨⟨ver,z,sz,xs,x,rfl⟩,hok⟩:=hb.2 _ b i hbi hi
   exact hok
 ·rcases n.live B h2 with h3 | h3
  ·exact hd B h3 h1
  ·have:=hr.live_lt h1;omega
theorem zcu {I':Addr->Prop} {ρ':Infs} {c c':Addr->Option Value} {v:V} {x:Value} (h:VR I ρ c v x) (hs:scalar v=true):VR I' ρ' c' v x:=by
 cases h with
 | int k n h=>exact .int k n h
 | bool b=>exact .bool b
 | str l s h hb=>exact .str l s h hb
 | _=>simp [scalar] at hs
theorem zcv {I':Addr->Prop} {ρ':Infs} {c c':Addr->Option Value} {v:V} {x:Value} (h:VR I ρ c v x) (hs:(leaves v).all scalar=true):VR I' ρ' c' v x:=by
 by_cases ha: ∃cs,v= .agg cs
 ·obtain ⟨cs,rfl⟩:=ha
  obtain ⟨arr,rfl,h1,h2,h3⟩:=h.agg_inv
  exact .agg cs arr h1 h2 fun i u hi=>zcu (h3 i u hi) (by
   rw [y51] at hs
   exact hs u (y52 hi))
 ·have hl:leaves v=[v]:=by cases v<;>first | rfl | exact absurd ⟨_,rfl⟩ ha
  rw [hl] at hs
  exact zcu h (by simpa using hs)
theorem zcw: ∀{rs:List V},scalars rs=true-> ∀(i:Nat) (v:V),rs[i]? =some v->(leaves v).all scalar=true
 | [],_,i,v,h=>by simp at h
 | a::l,hs,i,v,h=>by
  simp only [scalars,y5] at hs
  cases i with
  | zero=>simp at h;subst h;exact hs.1
  | succ i=>exact zcw hs.2 i v (by simpa using h)
theorem zcx: ∀{cs:List V} (K:Hp),cs.all scalar=true->putL K cs=(cs,K)
 | [],K,_=>rfl
 | a::l,K,h=>by
  simp only [List.all_cons,y5] at h
  have:put1 K a=(a,K):=by cases a<;>first | rfl | simp [scalar] at h
  simp only [putL,this,zcx K h.2]
theorem zcy {v:V} (K:Hp) (h:(leaves v).all scalar=true):put K v=(v,K):=by
 by_cases ha: ∃cs,v= .agg cs
 ·obtain ⟨cs,rfl⟩:=ha
  simp only [put,zcx K (show cs.all scalar=true from h)]
 ·have hl:leaves v=[v]:=by cases v<;>first | rfl | exact absurd ⟨_,rfl⟩ ha
  rw [hl] at h
  have h2:scalar v=true:=by simpa using h
  cases v<;>first | rfl | simp [scalar] at h2
theorem zcz: ∀{rs:List V} (K:Hp),scalars rs=true->putT K rs=(rs,K)
 | [],K,_=>rfl
 | a::l,K,h=>by
  simp only [scalars,y5] at h
  simp only [putT,zcy K h.1,zcz K h.2]
theorem zc0 {T:Nat->Option MFun} {O:Orc} (hO:OrcOk P O) (hr:HR I ρ w H) {f:FuncId} {vs:List V} {xs:List Value} (hl:xs.length=vs.length) (hx: ∀(i:Nat) (v:V),vs[i]? =some v->VR I ρ w.cell? v (xs.getD i undef)) {v:V} {H':Hp} (h:vcall T O f vs H=some (v,H')):
  Calls P f xs.toArray w fun e w'=> ∃u,e= .returned u/\Step I ρ w H v H' u w':=by
 unfold vcall at h
 cases hT:T f with
 | none=>simp [hT] at h
 | some mf=>
  simp only [hT] at h
  by_cases hi:mf.inline=true
  ·rw [if_pos hi] at h
   cases h1:O.inl f vs H with
   | none=>simp [h1] at h
   | some p=>
    obtain ⟨rs,H1⟩:=p
    simp only [h1,y4,y1,y7] at h
    obtain ⟨rfl,rfl⟩:=h
    refine (hO.1 f vs H rs H1 h1 I ρ w xs hl hr hx).mono ?_
    rintro e w' ⟨I',ρ',ys,rfl,hy1,hy2,hy3,hy4⟩
    exact ⟨_,rfl,I',ρ',zct hy1 hy2,hy3,hy4⟩
  ·rw [if_neg hi] at h
   cases h1:args H mf.modes vs with
   | none=>simp [h1] at h
   | some p=>
    obtain ⟨ds,H1⟩:=p
    simp only [h1,y4] at h
    cases h2:O.deep f ds with
    | none=>simp [h2] at h
    | some rs=>
     simp only [h2,y4] at h
     obtain ⟨I1,ρ1,bs,is,g,hds,hdl,htk⟩:=zco (fun i=>xs.getD i undef) hr hr (Le.refl H) hx h1
     refine (hO.2 f ds rs h2 I1 w xs bs is (by rw [hl,hdl]) g.hr.cells g.apart hds).mono ?_
     rintro e w' ⟨I2,ys,bs',is',rfl,hy1,hy2,hy3,hy4,n⟩
     have hkeep: ∀B,B<w.heap.size-> ¬Live ρ B->w'.heap[B]? =w.heap[B]? :=fun B hB hS=>n.grow.keep B hB fun h=>hS (g.gone B h).1
     have hgrow:Grow (Live ρ) I w w':=⟨n.grow.os,n.grow.tape,n.grow.output,n.grow.size,hkeep,fun a ha=>n.grow.cells a (g.sub a ha)⟩
     have hlenρ:H.length<=ρ1.length:=by rw [g.hr.len,g.len];exact y13 _
     refine ⟨_,rfl,?_⟩
     by_cases hs:scalars rs=true
     ·rw [if_pos hs] at h
      simp only [y1,y7] at h
      obtain ⟨rfl,rfl⟩:=h
      obtain ⟨k1,k2,k3⟩:=hy2.2 [] [] rfl
      rw [zcz _ hs] at k2 k3
      have hvr:VR I ρ1 w'.cell? (pack rs) (packX ys):=zct hy1 fun i v hi=>zcv (k3 i v hi) (zcw hs i v hi)
      refine ⟨I,ρ1,hvr,htk.move (fun B hB=>n.grow.keep B (htk.live_lt hB) fun h=>(g.gone B h).2 hB) (fun a ha=>n.grow.cells a (g.sub a ha)),⟨fun _ h=>h,fun _ h=> .inl h,hgrow,fun B hB=> .inl (g.live B hB),fun id _=>g.pers id, .inl hlenρ⟩⟩
     ·rw [if_neg hs] at h
      simp only [y1,y7] at h
      obtain ⟨rfl,rfl⟩:=h
      obtain ⟨k1,k2,k3⟩:=hy2.2 H1 ρ1 g.hr.len
      rw [k1]
      refine ⟨I2,ρ1++is',zct (by rw [k2,hy1]) k3,HR.join g.hr (fun B h=>(g.gone B h).2) hy2.1 hy3 hy4 n,⟨fun a ha=>n.sub a (g.sub a ha),fun a ha=>?_,hgrow,fun B hB=>?_,fun id hid=>?_, .inl (by simp;omega)⟩⟩
      ·rcases n.new a ha with h1 | h1 | h1
       ·rcases g.new a h1 with h2 | h2
        ·exact .inl h2
        ·exact .inr (.inl h2)
       ·exact .inr (.inl (g.gone _ h1).1)
       ·exact .inr (.inr h1)
      ·rcases zci hB with h1 | h1
       ·exact .inl (g.live B h1)
       ·rcases n.live B h1 with h2 | h2
        ·exact .inl (g.gone B h2).1
        ·exact .inr h2
      ·rw [y10 (by omega)];exact g.pers id
end
def Does (P:Program) (o:Oper) (a:Act) (w:World) (K:Value->World->Prop):Prop:=
 match (execOp a.eval o).run P w with
 | .ok (.value u) w'=>K u w'
 | .ok .skip w'=>K undef w'
 | .ok (.enter f xs) w'=>Calls P f xs w' fun e w''=> ∃u,e= .returned u/\K u w''
 | _=>False
def okArgs:List MArg->List Operand->Bool
 | [],[]=>true
 | m::l,x::k=>okArg m x && okArgs l k
 | _,_=>false
def okOpt:Option MArg->Option Operand->Bool
 | none,none=>true
 | some m,some x=>okArg m x
 | _,_=>false
section
variable {I:Addr->Prop} {ρ:Infs} {P:Program} {w:World} {H:Hp} {a:Act} {fr:Fr}
theorem Does.value {o:Oper} {K:Value->World->Prop} {u:Value} {w':World} {s:Sem Value} (h:execOp a.eval o=(do pure (.value (<- s)))) (hs:s.run P w= .ok u w') (k:K u w'):Does P o a w K:=by
 unfold Does;rw [h];simp [hs,k]
theorem Does.unit {o:Oper} {K:Value->World->Prop} {w':World} {s:Sem Unit} (h:execOp a.eval o=(do s;pure .skip)) (hs:s.run P w= .ok () w') (k:K undef w'):Does P o a w K:=by
 unfold Does;rw [h];simp [hs,k]
theorem Does.pure {o:Oper} {K:Value->World->Prop} {u:Value} (h:execOp a.eval o=Pure.pure (.value u)) (k:K u w):Does P o a w K:=by
 unfold Does;rw [h];simp [k]
theorem zc1: ∀{ms:List MArg} {xs:List Operand},okArgs ms xs=true-> ∀{c:Addr->Option Value} {fr:Fr} {a:Act},FR I ρ c fr a.tmps->xs.length=ms.length/\ ∀(i:Nat) (v:V),(MArgs.vals fr ms)[i]? =some v->VR I ρ c v ((xs.map a.eval).getD i undef)
 | [],[],_,c,fr,a,hf=>⟨rfl,fun i v h=>by simp [MArgs.vals] at h⟩
 | [],_::_,h,c,fr,a,hf=>by simp [okArgs] at h
 | _::_,[],h,c,fr,a,hf=>by simp [okArgs] at h
 | m::l,x::k,h,c,fr,a,hf=>by
  simp only [okArgs,y5] at h
  obtain ⟨e,r⟩:=zc1 h.2 hf
  refine ⟨by simp [e],fun i v hi=>?_⟩
  cases i with
  | zero=>simp [MArgs.vals] at hi;subst hi;simpa using arg_vr h.1 hf
  | succ i=>simpa using r i v (by simpa [MArgs.vals] using hi)
theorem opt_vr {m:Option MArg} {x:Option Operand} (h:okOpt m x=true) (hf:FR I ρ w.cell? fr a.tmps) {n:Option Int} (hn:optInt fr m=some n):OptR (x.map a.eval) n:=by
 cases m with
 | none=>cases x with
  | none=>simp only [optInt,y1] at hn;subst hn;exact rfl
  | some x=>simp [okOpt] at h
 | some m=>cases x with
  | none=>simp [okOpt] at h
  | some x=>
   have hv:=arg_vr (by simpa only [okOpt] using h:okArg m x=true) hf
   simp only [optInt] at hn
   split at hn
   ·rename_i k j hj
    simp only [y1] at hn;subst hn
    rw [hj] at hv
    exact ⟨k,by simp [hv.of_int.1]⟩
   ·cases hn
def isInt (P:Program) (t:TypeId) (k:IntKind):Bool:=match P.underlying t with | some (.int k')=>decide (k=k') | _=>false
theorem VR.of_bool {c:Addr->Option Value} {b:Bool} {x:Value} (h:VR I ρ c (.bool b) x):x= .bool b:=by cases h;rfl
theorem zc2 {t:TypeId} {k:IntKind} (h:isInt P t k=true):P.underlying t=some (.int k):=by
 unfold isInt at h;split at h
 ·rename_i e;simp at h;subst h;exact e
 ·cases h
def isBool (P:Program) (t:TypeId):Bool:=match P.underlying t with | some .bool=>true | _=>false
theorem zc3 {t:TypeId} (h:isBool P t=true):P.underlying t=some .bool:=by
 unfold isBool at h;split at h
 ·assumption
 ·cases h
def okNil (P:Program) (t:TypeId) (k:Nat):Bool:=match P.underlying t,k with
 | some (.slice _),0=>true
 | some (.pointer _),1=>true
 | some (.func _ _ _),2=>true
 | _,_=>false
def nilC:Nat->Operand->Bool
 | 0, .const (.slice none _ _)=>true
 | 1, .const (.pointer none)=>true
 | 2, .const .nilFunc=>true
 | _,_=>false
theorem zc4 (d:Nat) (t e:TypeId) (x:Option Addr) (l c l' c':Nat) (h:P.underlying t=some (.slice e)):(Op.equalIn (d+1) t (.slice x l c) (.slice none l' c')).run P w= .ok x.isNone w:=by
 cases x<;>simp [Op.equalIn,run_underlying h]
theorem zc5 (d:Nat) (t e:TypeId) (x:Option Addr) (l c l' c':Nat) (h:P.underlying t=some (.slice e)):(Op.equalIn (d+1) t (.slice none l' c') (.slice x l c)).run P w= .ok x.isNone w:=by
 cases x<;>simp [Op.equalIn,run_underlying h]
theorem zc6 (d:Nat) (t e:TypeId) (x:Option Addr) (h:P.underlying t=some (.pointer e)):(Op.equalIn (d+1) t (.pointer x) (.pointer none)).run P w= .ok x.isNone w:=by
 cases x<;>simp [Op.equalIn,run_underlying h]
theorem zc7 (d:Nat) (t e:TypeId) (x:Option Addr) (h:P.underlying t=some (.pointer e)):(Op.equalIn (d+1) t (.pointer none) (.pointer x)).run P w= .ok x.isNone w:=by
 cases x<;>simp [Op.equalIn,run_underlying h]
theorem zc8 (d:Nat) (t:TypeId) {p q r} (h:P.underlying t=some (.func p q r)):(Op.equalIn (d+1) t .nilFunc .nilFunc).run P w= .ok true w:=by
 simp [Op.equalIn,run_underlying h]
theorem zc9 (d:Nat) (t:TypeId) {p q r f x y} (h:P.underlying t=some (.func p q r)):(Op.equalIn (d+1) t (.func f x y) .nilFunc).run P w= .ok false w:=by
 simp [Op.equalIn,run_underlying h]
theorem zda (d:Nat) (t:TypeId) {p q r f x y} (h:P.underlying t=some (.func p q r)):(Op.equalIn (d+1) t .nilFunc (.func f x y)).run P w= .ok false w:=by
 simp [Op.equalIn,run_underlying h]
theorem zdb (op:BinOp) (t:TypeId) (p q:Operand) {u z:Value} (hu:u≠ .nilIface) (hu2: ∀cs,u≠ .agg cs):(eqGuard op t p q u z).run P w= .ok () w:=by
 cases u<;>first | exact absurd rfl hu | exact absurd rfl (hu2 _) | (unfold eqGuard;cases op<;>simp)
def plainV:Value->Bool
 | .slice _ _ _=>true
 | .pointer _=>true
 | .nilFunc=>true
 | .func _ _ _=>true
 | _=>false
theorem zdc {t:TypeId} {u z:Value} {b:Bool} (hu:plainV u=true) (h:(Op.equal t u z).run P w= .ok b w) (neg:Bool) (p q:Operand):
  (do eqGuard (if neg=true then .neq else .eql) t p q u z;binOp (if neg=true then .neq else .eql) t u z:Sem Value).run P w= .ok (.bool (if neg=true then !b else b)) w:=by
 simp only [Sem.run_bind,zdb (P:=P) (w:=w) _ t p q (u:=u) (z:=z) (by rintro rfl;cases hu) (by rintro cs rfl;cases hu),Result.andThen_ok]
 cases u<;>simp only [plainV,y17] at hu<;>cases neg<;>simp [binOp,h]
theorem zdd (hr:HR I ρ w H) {t:TypeId} {k:Nat} (ht:okNil P t k=true) {x:V} {u:Value} {q:Operand} (hz:nilC k q=true) (hx:VR I ρ w.cell? x u) {b:Bool} (h:visnil H k x=some b):
  (Op.equal t u (a.eval q)).run P w= .ok b w/\(Op.equal t (a.eval q) u).run P w= .ok b w/\plainV u=true/\plainV (a.eval q)=true:=by
 unfold okNil at ht
 split at ht<;>try (cases ht;done)
 ·-- slices
  rename_i e he
  cases q<;>try (simp [nilC] at hz;done)
  rename_i q
  cases q<;>try (simp [nilC] at hz;done)
  rename_i q n c
  cases q<;>try (simp [nilC] at hz;done)
  have sh: ∃ad n c,u= .slice ad n c/\ad.isNone=b:=by
   cases hx<;>try (simp [visnil] at h;done)
   case sl z xs ad cp s vals hc hz' hn hs hd hcell hv=>simp only [visnil,y1] at h;subst h;exact ⟨_,_,_,rfl,hz'.symm⟩
   case psl xs ad cp vals hc hg hcell hv=>simp only [visnil,y1] at h;subst h;exact ⟨_,_,_,rfl,rfl⟩
   case vw id ver off len md hi ho hp=>
    simp only [visnil] at h
    cases hrow:row? H id ver with
    | none=>simp [hrow] at h
    | some r=>
     simp only [hrow,y37,y1] at h;subst h
     rcases hr.row hrow with ⟨h1,h2,h3⟩ | ⟨h1,B,K,h2,h3⟩
     ·obtain ⟨e1,e2,e3⟩:=(hp _ h3).2 rfl
      exact ⟨_,_,_,e1,by rw [h1];rfl⟩
     ·obtain ⟨e1,e2,ad,cp,e3,e4⟩:=(hp _ h2).2 rfl
      exact ⟨_,_,_,e3,by rw [h1];rfl⟩
  obtain ⟨ad,n',c',rfl,hb⟩:=sh
  subst hb
  exact ⟨zc4 9999 t e _ _ _ _ _ he,zc5 9999 t e _ _ _ _ _ he,rfl,rfl⟩
 ·-- pointers
  rename_i e he
  cases q<;>try (simp [nilC] at hz;done)
  rename_i q
  cases q<;>try (simp [nilC] at hz;done)
  rename_i q
  cases q<;>try (simp [nilC] at hz;done)
  have sh: ∃ad,u= .pointer ad/\ad.isNone=b:=by
   cases hx<;>try (simp [visnil] at h;done)
   case nilp=>simp only [visnil,y1] at h;subst h;exact ⟨_,rfl,rfl⟩
   case ptr id off hi ho hp=>simp only [visnil,y1] at h;subst h;obtain ⟨ad,rfl⟩:=ho;exact ⟨_,rfl,rfl⟩
   case dp id hi ho hp=>simp only [visnil,y1] at h;subst h;obtain ⟨ad,rfl⟩:=ho;exact ⟨_,rfl,rfl⟩
   case ep id ver i j hi ho hp=>simp only [visnil,y1] at h;subst h;obtain ⟨ad,rfl⟩:=ho;exact ⟨_,rfl,rfl⟩
   case rp=>simp only [visnil,y1] at h;subst h;exact ⟨_,rfl,rfl⟩
  obtain ⟨ad,rfl,hb⟩:=sh
  subst hb
  exact ⟨zc6 9999 t e _ he,zc7 9999 t e _ he,rfl,rfl⟩
 ·rename_i e1 e2 e3 he
  cases q<;>try (simp [nilC] at hz;done)
  rename_i q
  cases q<;>try (simp [nilC] at hz;done)
  cases hx<;>try (simp [visnil] at h;done)
  case nilf=>
   simp only [visnil,y1] at h;subst h
   exact ⟨zc8 9999 t he,zc8 9999 t he,rfl,rfl⟩
  case fn=>
   simp only [visnil,y1] at h;subst h
   exact ⟨zc9 9999 t he,zda 9999 t he,rfl,rfl⟩
end
section
variable {I:Addr->Prop} {ρ:Infs} {P:Program} {w:World} {H:Hp} {a:Act} {fr:Fr} {T:Nat->Option MFun} {O:Orc}
abbrev Go (P:Program) (T:Nat->Option MFun) (O:Orc) (I:Addr->Prop) (ρ:Infs) (a:Act) (w:World) (fr:Fr) (H:Hp) (m:MOp) (o:Oper):Prop:=
 ∀(v:V) (H':Hp),ev T O fr H m=some (v,H')->Does P o a w (Step I ρ w H v H')
theorem go_mv (hr:HR I ρ w H) (hf:FR I ρ w.cell? fr a.tmps) {m:MArg} {o:Oper} {x:Operand} (ho:o.op= .move x\/o.op= .assign x) (hx:okArg m x=true):Go P T O I ρ a w fr H (.mv m) o:=by
 intro v H' h
 simp only [ev,y1,y7] at h
 obtain ⟨rfl,rfl⟩:=h
 exact Does.pure (by rcases ho with h | h<;>simp [execOp,h]) (Step.same hr (arg_vr hx hf))
theorem zde (hr:HR I ρ w H) (hf:FR I ρ w.cell? fr a.tmps) {mc ma mb:MArg} {o:Oper} {c x y:Operand} (ho:o.op= .pick c x y) (h1:okArg mc c=true) (h2:okArg ma x=true) (h3:okArg mb y=true):Go P T O I ρ a w fr H (.pick mc ma mb) o:=by
 intro v H' h
 simp only [ev] at h
 split at h
 ·rename_i b hb
  simp only [y1,y7] at h
  obtain ⟨rfl,rfl⟩:=h
  have hc:=arg_vr h1 hf
  rw [hb] at hc
  have hc:=hc.of_bool
  unfold Does
  have:(execOp a.eval o).run P w= .ok (.value (if b=true then a.eval x else a.eval y)) w:=by simp [execOp,ho,asBool,hc]
  rw [this]
  refine Step.same hr ?_
  cases b
  ·exact arg_vr h3 hf
  ·exact arg_vr h2 hf
 ·cases h
theorem go_bin (hr:HR I ρ w H) (hf:FR I ρ w.cell? fr a.tmps) {op:BinOp} {ma mb:MArg} {o:Oper} {t t2:TypeId} {x y:Operand} (ho:o.op= .binOp op t x y t2) (h2:okArg ma x=true) (h3:okArg mb y=true):Go P T O I ρ a w fr H (.bin op ma mb) o:=by
 intro v H' h
 simp only [ev] at h
 cases hv:vbin op (ma.val fr) (mb.val fr) with
 | none=>simp [hv] at h
 | some u=>
  simp only [hv,y4,y1,y7] at h
  obtain ⟨rfl,rfl⟩:=h
  obtain ⟨z,hz,hvr⟩:=zv (P:=P) (w:=w) (arg_vr h2 hf) (arg_vr h3 hf) hv t x y
  exact Does.value (by simp [execOp,ho]) hz (Step.same hr hvr)
theorem go_un (hr:HR I ρ w H) (hf:FR I ρ w.cell? fr a.tmps) {op:UnOp} {ma:MArg} {o:Oper} {t:TypeId} {x:Operand} (ho:o.op= .unOp op t x) (h2:okArg ma x=true):Go P T O I ρ a w fr H (.un op ma) o:=by
 intro v H' h
 simp only [ev] at h
 cases hv:vun op (ma.val fr) with
 | none=>simp [hv] at h
 | some u=>
  simp only [hv,y4,y1,y7] at h
  obtain ⟨rfl,rfl⟩:=h
  obtain ⟨z,hz,hvr⟩:=vun_ok (P:=P) (w:=w) (arg_vr h2 hf) hv
  exact Does.value (by simp [execOp,ho]) hz (Step.same hr hvr)
theorem go_eqb (hr:HR I ρ w H) (hf:FR I ρ w.cell? fr a.tmps) {neg:Bool} {ma mb:MArg} {o:Oper} {t t2:TypeId} {x y:Operand} (ho:o.op= .binOp (if neg=true then .neq else .eql) t x y t2) (ht:isBool P t=true) (h2:okArg ma x=true) (h3:okArg mb y=true):Go P T O I ρ a w fr H (.eqn neg [] ma mb) o:=by
 intro v H' h
 simp only [ev] at h
 cases hv:veq [] (ma.val fr) (mb.val fr) with
 | none=>simp [hv] at h
 | some u=>
  simp only [hv,y4,y1,y7] at h
  obtain ⟨rfl,rfl⟩:=h
  have hx:=arg_vr h2 hf
  have hy:=arg_vr h3 hf
  unfold veq at hv
  split at hv
  ·simp at hv
  ·rename_i p q hp hq
   simp only [if_true,y1] at hv;subst hv
   rw [hp] at hx;rw [hq] at hy
   have e1:=hx.of_bool
   have e2:=hy.of_bool
   refine Does.value (u:= .bool (if neg=true then !(p==q) else (p==q))) (w':=w) (by simp only [execOp,ho]<;>rfl) ?_ (Step.same hr (.bool _))
   simp only [Sem.run_bind,zdb (P:=P) (w:=w) _ t x y (u:=a.eval x) (z:=a.eval y) (by rw [e1];simp) (by rw [e1];simp),Result.andThen_ok]
   rw [e1,e2]
   have:=run_equal_bool (P:=P) w t p q (zc3 ht)
   cases neg<;>simp [binOp,this]
  ·cases hv
theorem zdf (hr:HR I ρ w H) (hf:FR I ρ w.cell? fr a.tmps) {neg:Bool} {k:Nat} {ma:MArg} {o:Oper} {t t2:TypeId} {x y:Operand} (ho:o.op= .binOp (if neg=true then .neq else .eql) t x y t2) (ht:okNil P t k=true) (h2:(okArg ma x && nilC k y || okArg ma y && nilC k x)=true):Go P T O I ρ a w fr H (.isnil neg k ma) o:=by
 intro v H' h
 simp only [ev] at h
 cases hv:visnil H k (ma.val fr) with
 | none=>simp [hv] at h
 | some b=>
  simp only [hv,y4,y1,y7] at h
  obtain ⟨rfl,rfl⟩:=h
  simp only [y39,y5] at h2
  rcases h2 with ⟨h2,h3⟩ | ⟨h2,h3⟩
  ·obtain ⟨r1,r2,r3,r4⟩:=zdd (a:=a) (P:=P) hr ht h3 (arg_vr h2 hf) hv
   exact Does.value (by simp only [execOp,ho]<;>rfl) (zdc r3 r1 neg x y) (Step.same hr (.bool _))
  ·obtain ⟨r1,r2,r3,r4⟩:=zdd (a:=a) (P:=P) hr ht h3 (arg_vr h2 hf) hv
   exact Does.value (by simp only [execOp,ho]<;>rfl) (zdc r4 r2 neg x y) (Step.same hr (.bool _))
theorem zdg (hr:HR I ρ w H) (hf:FR I ρ w.cell? fr a.tmps) {k:IntKind} {ma:MArg} {o:Oper} {s d:TypeId} {x:Operand} (ho:o.op= .convert s d x) (hs:(P.underlying s).isSome=true) (hd:isInt P d k=true) (h2:okArg ma x=true):Go P T O I ρ a w fr H (.conv k ma) o:=by
 intro v H' h
 simp only [ev] at h
 split at h
 ·rename_i k' n hn
  simp only [y1,y7] at h
  obtain ⟨rfl,rfl⟩:=h
  have hx:=arg_vr h2 hf
  rw [hn] at hx
  obtain ⟨e,_⟩:=hx.of_int
  refine Does.value (u:= .int k (wrp k n)) (w':=w) (by simp only [execOp,ho]<;>rfl) ?_ (Step.same hr (.int _ _ (zn _ _)))
  obtain ⟨d',hd'⟩:=Option.isSome_iff_exists.1 hs
  rw [e]
  simp [convert,run_underlying hd',run_underlying (zc2 hd),Conv.intToInt,wrp]
 ·cases h
def okBytes (P:Program) (s d:TypeId):Bool:=match P.underlying s with
 | some (.slice e)=>(match P.underlying e,P.underlying d with | some (.int .u8),some .string=>true | _,_=>false)
 | _=>false
theorem zdh (hr:HR I ρ w H) {x:V} {ys:List V} {u:Value} (hx:VR I ρ w.cell? x u) (h:elems H x=some ys):ys.length<=9223372036854775807:=by
 cases hx<;>try (simp [elems] at h;done)
 case sl z xs a cp s vals hc hz hn hs' hd hcell hv=>simp only [elems,y1] at h;subst h;exact hc.2
 case vw id ver off len md hi ho hp=>
  simp only [elems] at h
  cases hrow:row? H id ver with
  | none=>simp [hrow] at h
  | some r=>
   simp only [hrow,y4,y1] at h;subst h
   rcases hr.row hrow with ⟨h1,h2,h3⟩ | ⟨h1,B,K,h2,arr,h3,h4,h5,h6⟩
   ·rw [h2];unfold cut;split<;>split<;>simp
   ·obtain ⟨e1,e2,_⟩:=(hp _ h2).2 rfl
    rw [(zbg e1 e2).1];omega
theorem VR.tup_inv {c:Addr->Option Value} {cs:List V} {x:Value} (h:VR I ρ c (.tup cs) x): ∃arr,x= .tuple arr/\arr.size=cs.length/\ ∀(i:Nat) (v:V),cs[i]? =some v->VR I ρ c v (arr.getD i undef):=by
 cases h with
 | tup vs arr hs h=>exact ⟨arr,rfl,hs,h⟩
theorem VR.fn_inv {c:Addr->Option Value} {f:Nat} {cs:List V} {x:Value} (h:VR I ρ c (.fn f cs) x): ∃arr,x= .func (.func f) #[] arr/\arr.size=cs.length/\goods cs=true/\ ∀(i:Nat) (v:V),cs[i]? =some v->VR I ρ c v (arr.getD i undef):=by
 cases h with
 | fn f cs arr hs hg h=>exact ⟨arr,rfl,hs,hg,h⟩
theorem go_b2s (hr:HR I ρ w H) (hf:FR I ρ w.cell? fr a.tmps) {ma:MArg} {o:Oper} {s d:TypeId} {x:Operand} (ho:o.op= .convert s d x) (ht:okBytes P s d=true) (h2:okArg ma x=true):Go P T O I ρ a w fr H (.b2s ma) o:=by
 intro v H' h
 simp only [ev] at h
 cases hv:elems H (ma.val fr) with
 | none=>simp [hv] at h
 | some ys=>
  simp only [hv,y4] at h
  split at h
  ·rename_i hu
   simp only [y1,y7] at h
   obtain ⟨rfl,rfl⟩:=h
   have hrd:=zbh hr (arg_vr h2 hf) hv 1 (fun i e hi=>by obtain ⟨n,rfl⟩:=zbk hu i e hi;rfl)
   unfold okBytes at ht
   split at ht
   ·rename_i e he
    split at ht
    ·rename_i h3 h4
     have hlen:ys.length<=9223372036854775807:=zdh hr (arg_vr h2 hf) hv
     obtain ⟨z,hz,hl⟩:=b2s_ok hrd hu he h3 h4
     exact Does.value (by simp only [execOp,ho]<;>rfl) hz (Step.same hr (.str _ _ hl (by simpa using hlen)))
    ·cases ht
   ·cases ht
  ·cases h
theorem go_ext (hr:HR I ρ w H) (hf:FR I ρ w.cell? fr a.tmps) {i:Nat} {ma:MArg} {o:Oper} {x:Operand} (ho:o.op= .extract x i) (h2:okArg ma x=true):Go P T O I ρ a w fr H (.ext ma i) o:=by
 intro v H' h
 simp only [ev] at h
 split at h
 ·rename_i vs hn
  cases hi:vs[i]? with
  | none=>simp [hi] at h
  | some u=>
   simp only [hi,y4,y1,y7] at h
   obtain ⟨rfl,rfl⟩:=h
   have hx:=arg_vr h2 hf
   rw [hn] at hx
   obtain ⟨arr,e,hs,hv⟩:=hx.tup_inv
   have hlt:i<arr.size:=by rw [hs];exact z7 hi
   refine Does.value (u:=arr.getD i undef) (w':=w) (by simp only [execOp,ho]<;>rfl) ?_ (Step.same hr (hv i _ hi))
   rw [e]
   simp [Instr.extract,hlt]
 ·cases h
def okF (P:Program) (t:TypeId) (f off n:Nat) (agg:Bool):Bool:=match P.underlying t with
 | some (.struct fs)=>(match fs[f]? with | some g=>g.offset==off && okT P g.type n agg | none=>false)
 | _=>false
theorem zdi {t:TypeId} {n:Nat} {agg:Bool} (ht:okT P t n agg=true) {cs:List V} {arr:Array Value} {off:Nat} {v:V} (hs:arr.size=cs.length) (hg:goods cs=true) (hv: ∀(i:Nat) (v:V),cs[i]? =some v->VR I ρ w.cell? v (arr.getD i undef)) (h:Dvm.part cs off n agg=some v):
  ∃u,(Go.part t arr off).run P w= .ok u w/\VR I ρ w.cell? v u:=by
 obtain ⟨h1,h2,h3⟩:=zy ht
 obtain ⟨hle,hvr⟩:=z5 (vals:=fun i=>arr.getD i undef) h hg hv h3
 refine ⟨_,?_,hvr⟩
 simp only [Go.part,Sem.run_bind,h2,Result.andThen_ok]
 cases agg with
 | true=>
  simp only [if_true,Sem.run_bind,h1,Result.andThen_ok,Sem.run_pure]
  congr 2
  apply Array.ext
  ·simp;omega
  ·intro i hi1 hi2
   simp at hi1 hi2
   have:off+i<arr.size:=by omega
   simp [this]
 | false=>
  have:=h3 rfl
  subst this
  have hlt:off<arr.size:=by omega
  simp [hlt]
theorem go_fld (hr:HR I ρ w H) (hf:FR I ρ w.cell? fr a.tmps) {f off n:Nat} {agg:Bool} {ma:MArg} {o:Oper} {t:TypeId} {x:Operand} (ho:o.op= .field t x f) (ht:okF P t f off n agg=true) (h2:okArg ma x=true):Go P T O I ρ a w fr H (.fld ma off n agg) o:=by
 intro v H' h
 simp only [ev] at h
 split at h
 ·rename_i cs hn
  cases hp:Dvm.part cs off n agg with
  | none=>simp [hp] at h
  | some u=>
   simp only [hp,y4,y1,y7] at h
   obtain ⟨rfl,rfl⟩:=h
   have hx:=arg_vr h2 hf
   rw [hn] at hx
   obtain ⟨arr,e,hs,hg,hv⟩:=hx.agg_inv
   unfold okF at ht
   split at ht
   ·rename_i fs hfs
    split at ht
    ·rename_i g hg'
     simp only [y5,beq_iff_eq] at ht
     obtain ⟨rfl,ht⟩:=ht
     obtain ⟨z,hz,hvr⟩:=zdi ht hs hg hv hp
     refine Does.value (by simp only [execOp,ho]<;>rfl) ?_ (Step.same hr hvr)
     rw [e]
     simp [Instr.field,run_underlying hfs,hg',asAgg,hz]
    ·cases ht
   ·cases ht
 ·cases h
theorem zdj (hr:HR I ρ w H) (hf:FR I ρ w.cell? fr a.tmps) {n:Nat} {agg:Bool} {ma:MArg} {o:Oper} {t:TypeId} {x:Operand} (ho:o.op= .load t x) (ht:okT P t n agg=true) (h2:okArg ma x=true):Go P T O I ρ a w fr H (.load ma n agg) o:=by
 intro v H' h
 simp only [ev] at h
 cases hv:vload H n agg (ma.val fr) with
 | none=>simp [hv] at h
 | some u=>
  simp only [hv,y4,y1,y7] at h
  obtain ⟨rfl,rfl⟩:=h
  obtain ⟨ad,e,z,hz,hvr⟩:=zba hr ht (arg_vr h2 hf) hv
  refine Does.value (by simp only [execOp,ho]<;>rfl) ?_ (Step.same hr hvr)
  rw [e]
  simp [Instr.loadAt,Instr.sureAddr,hz]
theorem zdk {c:Addr->Option Value} {x:V} {u:Value} {off:Nat} {v:V} (hx:VR I ρ c x u) (h:vfaddr off x=some v): ∃ad,u= .pointer (some ad):=by
 cases hx<;>first | exact ⟨_,rfl⟩ | assumption | (simp [vfaddr] at h)
theorem zdl (hr:HR I ρ w H) (hf:FR I ρ w.cell? fr a.tmps) {f off n:Nat} {agg:Bool} {ma:MArg} {o:Oper} {t:TypeId} {x:Operand} (ho:o.op= .fieldAddr t x f) (ht:okF P t f off n agg=true) (hn:n≠0) (h2:okArg ma x=true):Go P T O I ρ a w fr H (.faddr ma off) o:=by
 intro v H' h
 simp only [ev] at h
 cases hv:vfaddr off (ma.val fr) with
 | none=>simp [hv] at h
 | some u=>
  simp only [hv,y4,y1,y7] at h
  obtain ⟨rfl,rfl⟩:=h
  obtain ⟨ad,e⟩:=zdk (arg_vr h2 hf) hv
  have hvr:=zbb (arg_vr h2 hf) hv ad e
  unfold okF at ht
  split at ht
  ·rename_i fs hfs
   split at ht
   ·rename_i g hg'
    simp only [y5,beq_iff_eq] at ht
    obtain ⟨rfl,ht⟩:=ht
    refine Does.value (by simp only [execOp,ho]<;>rfl) ?_ (Step.same hr hvr)
    rw [e]
    simp [Instr.fieldAt,run_underlying hfs,hg',Instr.sureAddr,fieldPlace,(zy ht).1,hn]
   ·cases ht
  ·cases ht
theorem zdm (hr:HR I ρ w H) (hf:FR I ρ w.cell? fr a.tmps) {sz:Nat} {ma mi:MArg} {o:Oper} {t:TypeId} {x i:Operand} (ho:o.op= .indexAddr t x i) (ht:okSl P t sz=true) (h2:okArg ma x=true) (h3:okArg mi i=true):Go P T O I ρ a w fr H (.iaddr ma mi sz) o:=by
 intro v H' h
 simp only [ev] at h
 split at h
 ·rename_i k n hn
  cases hv:viaddr H sz (ma.val fr) n with
  | none=>simp [hv] at h
  | some u=>
   simp only [hv,y4,y1,y7] at h
   obtain ⟨rfl,rfl⟩:=h
   have hi:=arg_vr h3 hf
   rw [hn] at hi
   obtain ⟨e,_⟩:=hi.of_int
   obtain ⟨z,hz,hvr⟩:=zbf (k:=k) hr ht (arg_vr h2 hf) hv
   refine Does.value (by simp only [execOp,ho]<;>rfl) ?_ (Step.same hr hvr)
   rw [e];exact hz
 ·cases h
def okAr (P:Program) (t:TypeId) (len sz:Nat) (agg:Bool):Bool:=match P.underlying t with
 | some (.array n e)=>n==len && okT P e sz agg
 | _=>false
theorem zdn {t:TypeId} {len sz:Nat} {agg:Bool} (h:okAr P t len sz agg=true): ∃e,P.underlying t=some (.array len e)/\okT P e sz agg=true:=by
 unfold okAr at h
 split at h
 ·rename_i n e he
  simp only [y5,beq_iff_eq] at h
  exact ⟨e,h.1▸he,h.2⟩
 ·cases h
theorem zdo (hr:HR I ρ w H) (hf:FR I ρ w.cell? fr a.tmps) {len sz:Nat} {agg:Bool} {ma mi:MArg} {o:Oper} {t:TypeId} {x i:Operand} (ho:o.op= .indexAddr t x i) (ht:okAr P t len sz agg=true) (h2:okArg ma x=true) (h3:okArg mi i=true):Go P T O I ρ a w fr H (.aaddr ma mi len sz) o:=by
 intro v H' h
 simp only [ev] at h
 split at h
 ·rename_i k n id off hn hp
  split at h
  ·rename_i h0
   split at h
   ·rename_i hlt
    simp only [y1,y7] at h
    obtain ⟨rfl,rfl⟩:=h
    have hi:=arg_vr h3 hf
    rw [hn] at hi
    obtain ⟨e,_⟩:=hi.of_int
    have hx:=arg_vr h2 hf
    rw [hp] at hx
    obtain ⟨ad,e2⟩:=zdk (off:=n.toNat*sz) hx rfl
    have hvr:=zbb (off:=n.toNat*sz) hx rfl ad e2
    obtain ⟨el,he,hel⟩:=zdn ht
    refine Does.value (by simp only [execOp,ho]<;>rfl) ?_ (Step.same hr hvr)
    rw [e,e2]
    have:n<(len:Int):=by omega
    simp [Instr.indexAt,asIntOf,run_underlying he,Instr.sureAddr,h0,this,(zy hel).1]
   ·cases h
  ·cases h
 ·cases h
theorem go_idx (hr:HR I ρ w H) (hf:FR I ρ w.cell? fr a.tmps) {len sz:Nat} {agg:Bool} {ma mi:MArg} {o:Oper} {t:TypeId} {x i:Operand} (ho:o.op= .index t x i) (ht:okAr P t len sz agg=true) (h2:okArg ma x=true) (h3:okArg mi i=true):Go P T O I ρ a w fr H (.idx ma mi len sz agg) o:=by
 intro v H' h
 simp only [ev] at h
 split at h
 ·rename_i k n cs hn hp
  split at h
  ·rename_i h0
   split at h
   ·rename_i hlt
    cases hpt:Dvm.part cs (n.toNat*sz) sz agg with
    | none=>simp [hpt] at h
    | some u=>
     simp only [hpt,y4,y1,y7] at h
     obtain ⟨rfl,rfl⟩:=h
     have hi:=arg_vr h3 hf
     rw [hn] at hi
     obtain ⟨e,_⟩:=hi.of_int
     have hx:=arg_vr h2 hf
     rw [hp] at hx
     obtain ⟨arr,e2,hs,hg,hv⟩:=hx.agg_inv
     obtain ⟨el,he,hel⟩:=zdn ht
     obtain ⟨z,hz,hvr⟩:=zdi hel hs hg hv hpt
     refine Does.value (by simp only [execOp,ho]<;>rfl) ?_ (Step.same hr hvr)
     rw [e,e2]
     have:n<(len:Int):=by omega
     simp [Instr.index,asIntOf,run_underlying he,h0,this,(zy hel).1,hz]
   ·cases h
  ·cases h
 ·cases h
theorem zdp (hr:HR I ρ w H) (hf:FR I ρ w.cell? fr a.tmps) {ma:MArg} {o:Oper} {x:Operand} (ho:o.op= .nilCheck x) (h2:okArg ma x=true):Go P T O I ρ a w fr H (.nilck ma) o:=by
 intro v H' h
 have hx:=arg_vr h2 hf
 simp only [ev] at h
 have key: ∀u,a.eval x=u->((∃ad,u= .pointer (some ad))\/(∃f cs,u= .func (.func f) #[] cs))->VR I ρ w.cell? (ma.val fr) u->Does P o a w (Step I ρ w H (ma.val fr) H):=by
  intro u e hu hvr
  refine Does.pure (u:=u) ?_ (Step.same hr hvr)
  rcases hu with ⟨ad,rfl⟩ | ⟨f,cs,rfl⟩<;>simp [execOp,ho,e]
 split at h
 ·rename_i id off hp
  simp only [y1,y7] at h
  obtain ⟨rfl,rfl⟩:=h
  rw [<- hp]
  refine key _ rfl (.inl ?_) hx
  rw [hp] at hx
  exact zdk (off:=0) hx rfl
 ·rename_i id ver i j hp
  simp only [y1,y7] at h
  obtain ⟨rfl,rfl⟩:=h
  rw [<- hp]
  refine key _ rfl (.inl ?_) hx
  rw [hp] at hx
  exact zdk (off:=0) hx rfl
 ·rename_i cs hp
  simp only [y1,y7] at h
  obtain ⟨rfl,rfl⟩:=h
  rw [<- hp]
  refine key _ rfl (.inl ?_) hx
  rw [hp] at hx
  exact zdk (off:=0) hx rfl
 ·rename_i f cs hp
  simp only [y1,y7] at h
  obtain ⟨rfl,rfl⟩:=h
  rw [<- hp]
  refine key _ rfl (.inr ?_) hx
  rw [hp] at hx
  obtain ⟨arr,e,_⟩:=hx.fn_inv
  exact ⟨_,_,e⟩
 ·cases h
theorem zdq (hr:HR I ρ w H) (hf:FR I ρ w.cell? fr a.tmps) {f:Nat} {ms:List MArg} {o:Oper} {xs:Array Operand} (ho:o.op= .makeFunc (.func f) #[] xs) (h2:okArgs ms xs.toList=true):Go P T O I ρ a w fr H (.mkfn f ms) o:=by
 intro v H' h
 simp only [ev] at h
 split at h
 ·rename_i hg
  simp only [y1,y7] at h
  obtain ⟨rfl,rfl⟩:=h
  obtain ⟨hl,hv⟩:=zc1 h2 hf
  refine Does.value (u:= .func (.func f) #[] (xs.map a.eval)) (w':=w) (by simp only [execOp,ho]<;>rfl) (by simp [Instr.makeFunc]) (Step.same hr (.fn f _ _ (by simpa [MArgs.vals] using hl) hg fun i u hi=>?_))
  have:=hv i u hi
  simpa [y15,y14] using this
 ·cases h
def notIf (P:Program) (t:TypeId):Bool:=match P.underlying t with
 | some (.interface _)=>false
 | some _=>true
 | none=>false
theorem zdr (hr:HR I ρ w H) (hf:FR I ρ w.cell? fr a.tmps) {ma:MArg} {o:Oper} {t:TypeId} {x:Operand} (ho:o.op= .makeInterface t x) (ht:notIf P t=true) (h2:okArg ma x=true):Go P T O I ρ a w fr H (.mkif t ma) o:=by
 intro v H' h
 simp only [ev] at h
 split at h
 ·rename_i hg
  simp only [y1,y7] at h
  obtain ⟨rfl,rfl⟩:=h
  refine Does.value (u:= .iface t (a.eval x)) (w':=w) (by simp only [execOp,ho]<;>rfl) ?_ (Step.same hr (.ifc t _ _ (arg_vr h2 hf)))
  unfold notIf at ht
  split at ht
  ·cases ht
  ·rename_i d hd hne
   cases d<;>simp_all [Instr.makeInterface,run_underlying hne]
  ·cases ht
 ·cases h
theorem go_slc (hr:HR I ρ w H) (hf:FR I ρ w.cell? fr a.tmps) {ma:MArg} {lo hi mx:Option MArg} {sz:Nat} {o:Oper} {t:TypeId} {x:Operand} {xl xh xm:Option Operand} (ho:o.op= .slice t x xl xh xm) (ht:okSl P t sz=true) (h2:okArg ma x=true) (h3:okOpt lo xl=true) (h4:okOpt hi xh=true) (h5:okOpt mx xm=true):Go P T O I ρ a w fr H (.slc ma lo hi mx sz) o:=by
 intro v H' h
 simp only [ev] at h
 cases e1:optInt fr lo with
 | none=>simp [e1] at h
 | some l=>
  cases e2:optInt fr hi with
  | none=>simp [e1,e2] at h
  | some hh=>
   cases e3:optInt fr mx with
   | none=>simp [e1,e2,e3] at h
   | some m=>
    simp only [e1,e2,e3,y4] at h
    obtain ⟨rfl,u,hu,hvr⟩:=zbp (P:=P) hr ht (arg_vr h2 hf) (opt_vr h3 hf e1) (opt_vr h4 hf e2) (opt_vr h5 hf e3) h
    exact Does.value (by simp only [execOp,ho]<;>rfl) hu (Step.same hr hvr)
end
def isI (P:Program) (t:TypeId):Bool:=match P.underlying t with | some (.int _)=>true | _=>false
def isS (P:Program) (t:TypeId):Bool:=match P.underlying t with | some .string=>true | _=>false
theorem zds {P:Program} {t:TypeId} (h:isI P t=true): ∃k,P.underlying t=some (.int k):=by
 unfold isI at h;split at h
 ·rename_i k e;exact ⟨k,e⟩
 ·cases h
theorem zdt {P:Program} {t:TypeId} (h:isS P t=true):P.underlying t=some .string:=by
 unfold isS at h;split at h
 ·assumption
 ·cases h
def okLeaf (P:Program) (t:TypeId) (k:Nat):Bool:=okT P t 1 false && (match k with
 | 0=>isBool P t
 | 1=>isI P t
 | 2=>isS P t
 | _=>false)
def okEqG (P:Program) (rec:TypeId->List Nat->Bool):Nat->List Field->List Nat->Bool
 | _,[],[]=>true
 | o, f :: fs, ks => !(f.name == "_") && f.offset == o && (match P.info? f.type, P.underlying f.type with
  | some i,some d=>okT P f.type i.size (aggD d) && decide (i.size<=ks.length) && rec f.type (ks.take i.size) && okEqG P rec (o+i.size) fs (ks.drop i.size)
  | _,_=>false)
 | _,_,_=>false
def okEqN (P:Program):Nat->TypeId->List Nat->Bool
 | 0,_,_=>false
 | d+1,t,ks=>match P.underlying t with
  | some (.struct fs)=>!(P.stoodInHeld t) && okEqG P (okEqN P d) 0 fs.toList ks
  | _=>(match ks with | [k]=>okLeaf P t k | _=>false)
def okEq (P:Program) (t:TypeId) (ks:List Nat):Bool:=(match P.underlying t with | some (.struct _)=>true | _=>false) && !(P.eqGuardType P.depth t) && okEqN P 5 t ks && !ks.isEmpty
section
variable {I:Addr->Prop} {ρ:Infs} {P:Program} {w:World} {H:Hp} {a:Act} {fr:Fr} {T:Nat->Option MFun} {O:Orc}
theorem zdu {c:Addr->Option Value} {t:TypeId} {k:Nat} (ht:okLeaf P t k=true) {x y:V} {u z:Value} (hx:VR I ρ c x u) (hy:VR I ρ c y z) {b:Bool} (h:veq1 k x y=some b) (d:Nat):(Op.equalIn (d+1) t u z).run P w= .ok b w:=by
 simp only [okLeaf,y5] at ht
 obtain ⟨_,ht⟩:=ht
 unfold veq1 at h
 split at h
 ·rename_i k1 p k2 q
  split at h
  ·rename_i e
   subst e
   simp only [y1] at h;subst h
   obtain ⟨k',he⟩:=zds ht
   rw [hx.of_int.1,hy.of_int.1,run_equalIn_int w d t k1 k' p q he,zu]
  ·cases h
 ·rename_i p q
  simp only [y1] at h;subst h
  have he:=zc3 ht
  rw [hx.of_bool,hy.of_bool,run_equalIn_bool w d t p q he]
 ·rename_i p q
  simp only [y1] at h;subst h
  have he:=zdt ht
  cases hx with
  | str l s hl hb=>
   cases hy with
   | str l' s' hl' hb'=>
    rw [run_equalIn_string w d t s s' he,str_eq,hl,hl']
 ·cases h
theorem zdv: ∀{ks:List Nat} {cs ds:List V} {b:Bool} (n:Nat),n<=ks.length->veqL ks cs ds=some b-> ∃b1 b2,veqL (ks.take n) (cs.take n) (ds.take n)=some b1/\veqL (ks.drop n) (cs.drop n) (ds.drop n)=some b2/\b=(b1 && b2)
 | ks,cs,ds,b,0,_,h=>⟨true,b,by simp [veqL],by simpa using h,by simp⟩
 | [],_,_,_,n+1,hn,_=>by simp at hn
 | k::ks,[],ds,b,n+1,hn,h=>by simp [veqL] at h
 | k::ks,c::cs,[],b,n+1,hn,h=>by simp [veqL] at h
 | k::ks,c::cs,d::ds,b,n+1,hn,h=>by
  simp only [veqL] at h
  cases he:veq1 k c d with
  | none=>simp [he] at h
  | some b1=>
   simp only [he,y4] at h
   cases hr:veqL ks cs ds with
   | none=>simp [hr] at h
   | some b2=>
    simp only [hr,y4,y1] at h
    obtain ⟨x1,x2,h1,h2,h3⟩:=zdv n (by simpa using hn) hr
    exact ⟨b1 && x1,x2,by simp [veqL,he,h1],by simpa using h2,by rw [<- h,h3,Bool.and_assoc]⟩
theorem zdw: ∀{ks:List Nat} {cs ds:List V} {b:Bool},veqL ks cs ds=some b->cs.length=ks.length/\ds.length=ks.length
 | [],[],[],_,_=>⟨rfl,rfl⟩
 | [],[],_::_,_,h=>by simp [veqL] at h
 | [],_::_,_,_,h=>by simp [veqL] at h
 | _::_,[],_,_,h=>by simp [veqL] at h
 | _::_,_::_,[],_,h=>by simp [veqL] at h
 | k::ks,c::cs,d::ds,b,h=>by
  simp only [veqL] at h
  cases he:veq1 k c d with
  | none=>simp [he] at h
  | some b1=>
   simp only [he,y4] at h
   cases hr:veqL ks cs ds with
   | none=>simp [hr] at h
   | some b2=>
    obtain ⟨h1,h2⟩:=zdw hr
    exact ⟨by simp [h1],by simp [h2]⟩
def aggOf (P:Program) (t:TypeId):Bool:=match P.underlying t with
 | some d=>aggD d
 | none=>false
def Rep (I:Addr->Prop) (ρ:Infs) (c:Addr->Option Value) (agg:Bool) (cs:List V) (u:Value):Prop:=match agg with
 | true=> ∃xs:Array Value,u= .agg xs/\xs.size=cs.length/\ ∀(i:Nat) (v:V),cs[i]? =some v->VR I ρ c v (xs.getD i undef)
 | false=> ∃v,cs=[v]/\VR I ρ c v u
theorem zdx {c:Addr->Option Value} {t:TypeId} {n o:Nat} {agg:Bool} {xs:Array Value} {cs:List V} (ht:okT P t n agg=true) (hsz:o+n<=xs.size) (hn:cs.length=n) (hx: ∀(i:Nat) (v:V),cs[i]? =some v->VR I ρ c v (xs.getD (o+i) undef)):
  ∃u,(Go.part t xs o).run P w= .ok u w/\Rep I ρ c agg cs u:=by
 obtain ⟨h1,h2,h3⟩:=zy ht
 cases agg with
 | true=>
  refine ⟨.agg (xs.extract o (o+n)),?_,_,rfl,by simp;omega,fun i v hi=>?_⟩
  ·simp [Go.part,h2,h1]
  ·have hin:i<n:=by have:=z7 hi;omega
   have:=hx i v hi
   rw [y15] at this ⊢
   rw [Array.getElem?_extract_of_lt (by omega)]
   simpa [show o+i<xs.size by omega] using this
 | false=>
  have:=h3 rfl
  subst this
  match cs,hn with
  | [v],_=>
   refine ⟨xs.getD o undef,?_,v,rfl,hx 0 v rfl⟩
   have:o<xs.size:=by omega
   simp [Go.part,h2,this]
theorem zdy {c:Addr->Option Value} {xs ys:Array Value} {d:Nat} {rec:TypeId->List Nat->Bool}
  (ih: ∀(t:TypeId) (ks:List Nat) (cs ds:List V) (b:Bool) (u z:Value),rec t ks=true->veqL ks cs ds=some b->Rep I ρ c (aggOf P t) cs u->Rep I ρ c (aggOf P t) ds z->(Op.equalIn d t u z).run P w= .ok b w):
  ∀(fs:List Field) (ks:List Nat) (cs ds:List V) (o:Nat) (b:Bool),okEqG P rec o fs ks=true->veqL ks cs ds=some b->xs.size=o+cs.length->ys.size=o+ds.length->
  (∀(i:Nat) (v:V),cs[i]? =some v->VR I ρ c v (xs.getD (o+i) undef))->(∀(i:Nat) (v:V),ds[i]? =some v->VR I ρ c v (ys.getD (o+i) undef))->(Op.eqFields d xs ys fs).run P w= .ok b w
 | [],[],cs,ds,o,b,_,h,_,_,_,_=>by
  obtain ⟨h1,h2⟩:=zdw h
  have e1:=y33 h1
  have e2:=y33 h2
  subst e1;subst e2
  simp only [veqL,y1] at h;subst h
  simp [Op.eqFields]
 | [],k::ks,cs,ds,o,b,hok,_,_,_,_,_=>by simp [okEqG] at hok
 | f::fs,ks,cs,ds,o,b,hok,h,hsx,hsy,hx,hy=>by
  simp only [okEqG,y5,y55,beq_iff_eq,beq_eq_false_iff_ne] at hok
  obtain ⟨⟨h1,h2⟩,hok⟩:=hok
  split at hok
  ·rename_i i dd hi hu
   simp only [y5,decide_eq_true_eq] at hok
   obtain ⟨⟨⟨hT,hle⟩,hrec⟩,hrest⟩:=hok
   obtain ⟨l1,l2⟩:=zdw h
   obtain ⟨b1,b2,v1,v2,rfl⟩:=zdv i.size hle h
   have hagg:aggOf P f.type=aggD dd:=by simp [aggOf,hu]
   have take_get: ∀{l:List V} {k:Nat} {v:V},(l.take i.size)[k]? =some v->l[k]? =some v:=fun {l k v} hk=>by
    rw [y46] at hk
    split at hk
    ·exact hk
    ·cases hk
   obtain ⟨u,hu1,hu2⟩:=zdx (P:=P) (w:=w) (cs:=cs.take i.size) hT (by omega) (by simp;omega) (fun k v hk=>hx k v (take_get hk))
   obtain ⟨z,hz1,hz2⟩:=zdx (P:=P) (w:=w) (cs:=ds.take i.size) hT (by omega) (by simp;omega) (fun k v hk=>hy k v (take_get hk))
   have hleaf:=ih f.type _ _ _ b1 u z hrec v1 (by rw [hagg];exact hu2) (by rw [hagg];exact hz2)
   have hr:=zdy (xs:=xs) (ys:=ys) ih fs _ _ _ (o+i.size) b2 hrest v2 (by rw [hsx,y12];omega) (by rw [hsy,y12];omega) (fun k v hk=>by rw [y38] at hk;have:=hx _ v hk;rwa [show o+i.size+k=o+(i.size+k) by omega]) (fun k v hk=>by rw [y38] at hk;have:=hy _ v hk;rwa [show o+i.size+k=o+(i.size+k) by omega])
   simp only [Op.eqFields]
   rw [if_pos h1,h2]
   simp only [Sem.run_bind,hu1,hz1,Result.andThen_ok,hleaf]
   cases b1
   ·simp
   ·simp only [Bool.not_true,y17,if_false,y58];exact hr
  ·cases hok
theorem zdz {c:Addr->Option Value}: ∀(d D:Nat) (t:TypeId) (ks:List Nat) (cs ds:List V) (b:Bool) (u z:Value),okEqN P d t ks=true->veqL ks cs ds=some b->Rep I ρ c (aggOf P t) cs u->Rep I ρ c (aggOf P t) ds z->(Op.equalIn (D+d) t u z).run P w= .ok b w
 | 0,D,t,ks,cs,ds,b,u,z,hok,_,_,_=>by simp [okEqN] at hok
 | d +1,D,t,ks,cs,ds,b,u,z,hok,h,hx,hy=>by
  simp only [okEqN] at hok
  split at hok
  ·rename_i fs hfs
   simp only [y5,y55] at hok
   have ha:aggOf P t=true:=by simp [aggOf,hfs,aggD]
   rw [ha] at hx hy
   obtain ⟨xs,rfl,s1,v1⟩:=hx
   obtain ⟨ys,rfl,s2,v2⟩:=hy
   have hfo:P.fieldsOf t=fs:=by simp [Program.fieldsOf,hfs]
   have hse:=run_equalIn_struct (P:=P) w (D+d) t xs ys (by rw [hfo];exact hfs) hok.1
   rw [hfo] at hse
   show (Op.equalIn (D+d+1) t (.agg xs) (.agg ys)).run P w= .ok b w
   rw [hse]
   exact zdy (fun t ks cs ds b u z h1 h2 h3 h4=>zdz d D t ks cs ds b u z h1 h2 h3 h4) fs.toList ks cs ds 0 b hok.2 h (by omega) (by omega) (fun i v hi=>by rw [y41];exact v1 i v hi) (fun i v hi=>by rw [y41];exact v2 i v hi)
  ·split at hok
   ·rename_i k
    have ha:aggOf P t=false:=by
     simp only [okLeaf,y5] at hok
     have h1:=hok.1
     unfold okT at h1
     unfold aggOf
     split at h1
     ·rename_i i d' hi hd'
      simp only [y5,beq_iff_eq] at h1
      rw [hd'];exact h1.1.2
     ·cases h1
    rw [ha] at hx hy
    obtain ⟨x,rfl,hx⟩:=hx
    obtain ⟨y,rfl,hy⟩:=hy
    simp only [veqL] at h
    cases he:veq1 k x y with
    | none=>simp [he] at h
    | some b1=>
     simp only [he,y4,Bool.and_true,y1] at h
     subst h
     exact zdu hok hx hy he (D+d)
   ·cases hok
theorem go_eqs (hr:HR I ρ w H) (hf:FR I ρ w.cell? fr a.tmps) {neg:Bool} {ks:List Nat} {ma mb:MArg} {o:Oper} {t t2:TypeId} {x y:Operand} (ho:o.op= .binOp (if neg=true then .neq else .eql) t x y t2) (ht:okEq P t ks=true) (h2:okArg ma x=true) (h3:okArg mb y=true):Go P T O I ρ a w fr H (.eqn neg ks ma mb) o:=by
 intro v H' h
 simp only [ev] at h
 cases hv:veq ks (ma.val fr) (mb.val fr) with
 | none=>simp [hv] at h
 | some b=>
  simp only [hv,y4,y1,y7] at h
  obtain ⟨rfl,rfl⟩:=h
  have hx:=arg_vr h2 hf
  have hy:=arg_vr h3 hf
  simp only [okEq,y5,y55,List.isEmpty_eq_false_iff] at ht
  obtain ⟨⟨⟨hst,hgd⟩,hok⟩,hne⟩:=ht
  split at hst
  ·rename_i fs hfs
   unfold veq at hv
   split at hv
   ·rename_i cs ds hp hq
    rw [if_neg hne] at hv
    rw [hp] at hx;rw [hq] at hy
    obtain ⟨xs,e1,s1,g1,v1⟩:=hx.agg_inv
    obtain ⟨ys,e2,s2,g2,v2⟩:=hy.agg_inv
    have ha:aggOf P t=true:=by simp [aggOf,hfs,aggD]
    have heq:(Op.equal t (.agg xs) (.agg ys)).run P w= .ok b w:=
     zdz (P:=P) (w:=w) (I:=I) (ρ:=ρ) (c:=w.cell?) 5 9995 t ks cs ds b _ _ hok hv (by rw [ha];exact ⟨xs,rfl,s1,v1⟩) (by rw [ha];exact ⟨ys,rfl,s2,v2⟩)
    refine Does.value (u:= .bool (if neg=true then !b else b)) (w':=w) (by simp only [execOp,ho]<;>rfl) ?_ (Step.same hr (.bool _))
    rw [e1,e2]
    simp only [Sem.run_bind,run_eqGuard_agg (P:=P) w _ t x y xs ys hgd,Result.andThen_ok]
    cases neg<;>simp [binOp,heq]
   ·rw [if_neg hne] at hv;cases hv
   ·cases hv
  ·cases hst
end
end Go.Dvm
