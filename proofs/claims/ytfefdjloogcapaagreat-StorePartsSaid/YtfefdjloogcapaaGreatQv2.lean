/- A small machine over plain values, and its soundness over the model: part 3. -/
import Derived.Control
import Derived.Calls
import Derived.Laws.World
import Derived.Laws.Sem
import Derived.Laws.Cells
import Derived.Laws.CopyRow
import Derived.Tactics
import Derived.RowKit
import Derived.Laws.Strings
import Derived.Laws.StructEq
import Derived.Laws.BytesArg
import Derived.Laws.Tables
import Derived.Laws.AppendOwn
import Derived.Laws.Entries
import Derived.Laws.Small
import Derived.Laws.MakeOwn
import Derived.Great.BuildSlice
import GoSem.Builtin.Clear
import Derived.MapKept
import Derived.Orders
import Derived.ChangeArms
import Derived.Below
import Derived.Carry
import Derived.OpenShut
import Derived.WideShapes
import Derived.WalkKit
import Derived.Maps.RangeWalk
import Derived.Deep.QuietTactic
import Derived.Test.YtfefdjloogcapaaGreatQv1
set_option linter.all false
set_option maxRecDepth 100000
namespace Go.Dvm
section
variable {T:Nat->Option MFun} {O:Orc} {m h0:Nat} {fr fr':Fr} {H:Hp}
def Stays (T:Nat->Option MFun) (O:Orc) (H:Hp):Fr->List MO->Fr->Prop
 | fr,[],fr'=>fr=fr'
 | fr,o::l,fr'=> ∃fr1,step T O fr H o=some (fr1,H)/\Stays T O H fr1 l fr'
theorem zje: ∀{l:List MO} {fr fr':Fr},Stays T O H fr l fr'->steps T O fr H l=some (fr',H)/\ ∀(i:Nat) (p:Fr×Hp),(trace T O fr H l)[i]? =some p->p.2=H/\ ∀o,l[i]? =some o-> ∃f,step T O p.1 H o=some (f,H)
 | [],fr,fr',h=>by
  simp only [Stays] at h;subst h
  refine ⟨rfl,fun i p hi=>?_⟩
  cases i with
  | zero=>simp [trace] at hi;subst hi;exact ⟨rfl,fun o h=>by simp at h⟩
  | succ i=>simp [trace] at hi
 | o::l,fr,fr',h=>by
  obtain ⟨fr1,h1,h2⟩:=h
  obtain ⟨s1,s2⟩:=zje h2
  refine ⟨by simp only [steps,h1,y4];exact s1,fun i p hi=>?_⟩
  cases i with
  | zero=>
   simp only [trace,y35,y1] at hi;subst hi
   exact ⟨rfl,fun o' ho=>by simp at ho;subst ho;exact ⟨fr1,h1⟩⟩
  | succ i=>
   simp only [trace,h1,List.getElem?_cons_succ] at hi
   obtain ⟨q1,q2⟩:=s2 i p hi
   exact ⟨q1,fun o' ho=>q2 o' (by simpa using ho)⟩
theorem zjf: ∀{l:List MO} {fr fr':Fr},Stays T O H fr l fr'-> ∀i,i<=l.length-> ∃p,(trace T O fr H l)[i]? =some p
 | [],fr,fr',h,i,hi=>by simp at hi;subst hi;exact ⟨_,rfl⟩
 | o::l,fr,fr',h,i,hi=>by
  obtain ⟨fr1,h1,h2⟩:=h
  cases i with
  | zero=>exact ⟨(fr,H),rfl⟩
  | succ i=>
   obtain ⟨p,hp⟩:=zjf h2 i (by simpa using hi)
   exact ⟨p,by simp only [trace,h1,List.getElem?_cons_succ];exact hp⟩
theorem zjg {l:List MO} (h:Stays T O H fr l fr'): ∀{chk:List (Nat×Nat)},chk.all (fun p=>decide (p.1<l.length) && decide (p.2<l.length))=true->allSame T O (trace T O fr H l) l chk
 | [],_=>trivial
 | (r,e)::c,hc=>by
  simp only [List.all_cons,y5,decide_eq_true_eq] at hc
  have key: ∀e,e<=l.length->sameAt T O (trace T O fr H l) l r e:=by
   intro e he
   obtain ⟨p,hp⟩:=zjf h r (by omega)
   obtain ⟨q,hq⟩:=zjf h e he
   obtain ⟨p1,p2⟩:=(zje h).2 r p hp
   obtain ⟨q1,_⟩:=(zje h).2 e q hq
   have ho:l[r]? =some l[r]:=y6 hc.1.1
   obtain ⟨f,hf⟩:=p2 _ ho
   rw [zgh] at hf
   unfold sameAt
   rw [hp,hq,ho]
   simp only
   rw [p1,q1]
   cases hs:stepV T O p.1 H l[r] with
   | none=>simp [hs] at hf
   | some z=>
    simp only [hs,y37,y1,y7] at hf
    refine ⟨z.1,?_,?_⟩<;>rw [<- hf.2]
  exact ⟨key e (by omega),key (e+1) (by omega),zjg h hc.2⟩
theorem zjh {l:List MO} {chk:List (Nat×Nat)} (hc:chk.all (fun p=>decide (p.1<l.length) && decide (p.2<l.length))=true) (h:Stays T O H fr l fr'):exec T O m h0 (.dreg l chk) fr H=some (.norm,fr',H):=by
 simp only [exec,stepsD,if_pos (zjg h hc),(zje h).1,y4]
noncomputable def runC (T:Nat->Option MFun) (O:Orc) (l:List MO) (fr:Fr) (H:Hp):Option (Ex×Fr×Hp):=open Classical in
 if h: ∃fr',Stays T O H fr l fr' then some (.norm,Classical.choose h,H) else none
@[irreducible] noncomputable def slowD (T:Nat->Option MFun) (O:Orc) (l:List MO) (chk:List (Nat×Nat)) (fr:Fr) (H:Hp):Option (Ex×Fr×Hp):=(stepsD T O fr H l chk).bind fun p=>some (.norm,p.1,p.2)
def alt {α:Type}:Option α->Option α->Option α
 | some a,_=>some a
 | none,b=>b
theorem zji {α:Type} (a:α) (b:Option α):alt (some a) b=some a:=rfl
theorem zjj {α:Type} (b:Option α):alt none b=b:=rfl
theorem Stays.det: ∀{l:List MO} {fr a b:Fr},Stays T O H fr l a->Stays T O H fr l b->a=b
 | [],fr,a,b,h,h'=>by simp only [Stays] at h h';exact h.symm.trans h'
 | o::l,fr,a,b,⟨f1,h1,h2⟩,⟨g1,k1,k2⟩=>by
  rw [h1] at k1
  simp only [y1,y7,and_true] at k1
  subst k1
  exact Stays.det h2 k2
theorem zjk {l:List MO} {chk:List (Nat×Nat)} (hc:chk.all (fun p=>decide (p.1<l.length) && decide (p.2<l.length))=true):exec T O m h0 (.dreg l chk) fr H=alt (runC T O l fr H) (slowD T O l chk fr H):=by
 unfold runC
 split
 ·rename_i h
  rw [zji]
  exact zjh hc (Classical.choose_spec h)
 ·rw [zjj]
  unfold slowD
  rfl
theorem zjl:runC T O [] fr H=some (.norm,fr,H):=by
 have h: ∃fr',Stays T O H fr [] fr':=⟨fr,rfl⟩
 unfold runC
 rw [dif_pos h]
 have:=Stays.det (Classical.choose_spec h) (rfl:Stays T O H fr [] fr)
 rw [this]
theorem zjm {l:List MO} {o:MO} {fr1:Fr} (hs:step T O fr H o=some (fr1,H)):runC T O (o::l) fr H=runC T O l fr1 H:=by
 unfold runC
 by_cases h: ∃fr',Stays T O H fr1 l fr'
 ·have h': ∃fr',Stays T O H fr (o::l) fr':=⟨_,fr1,hs,Classical.choose_spec h⟩
  rw [dif_pos h,dif_pos h']
  have:=Stays.det (Classical.choose_spec h') ⟨fr1,hs,Classical.choose_spec h⟩
  rw [this]
 ·have h': ¬ ∃fr',Stays T O H fr (o::l) fr':=fun ⟨fr',f1,k1,k2⟩=>by
   rw [hs] at k1
   simp only [y1,y7,and_true] at k1
   subst k1
   exact h ⟨fr',k2⟩
  rw [dif_neg h,dif_neg h']
noncomputable def goC (T:Nat->Option MFun) (O:Orc) (l:List MO) (fr:Fr) (H:Hp) (d:Option Nat) (r:Option (V×Hp)):Option (Ex×Fr×Hp):=open Classical in
 match r with
 | some (v,H1)=>if H1=H then runC T O l (upd d v fr) H else none
 | none=>none
theorem zjn {l:List MO} {o:MO} (hs: ∀fr1,step T O fr H o≠some (fr1,H)):runC T O (o::l) fr H=none:=by
 unfold runC
 rw [dif_neg]
 rintro ⟨fr',f1,k1,_⟩
 exact hs f1 k1
theorem zjo (l:List MO) (d:Option Nat) (op:MOp):runC T O (⟨d,op,none⟩::l) fr H=goC T O l fr H d (ev T O fr H op):=by
 have hs:=zgh (T:=T) (O:=O) (fr:=fr) (H:=H) (m:=⟨d,op,none⟩)
 simp only [stepV] at hs
 unfold goC
 cases he:ev T O fr H op with
 | none=>rw [he] at hs;exact zjn fun f h=>by rw [hs] at h;simp at h
 | some p=>
  obtain ⟨v,H1⟩:=p
  rw [he] at hs
  simp only [y37] at hs
  by_cases hh:H1=H
  ·subst hh;simp only [if_true];exact zjm hs
  ·simp only [if_neg hh]
   exact zjn fun f h=>by
    rw [hs] at h
    simp only [y1,y7] at h
    exact hh h.2
theorem zjp {l:List MO} {d:Option Nat} {op:MOp} {g:Nat} {want:Bool} (h:get g fr= .bool want):runC T O (⟨d,op,some (g,want)⟩::l) fr H=goC T O l fr H d (ev T O fr H op):=by
 rw [<- zjo]
 have: ∀fr1,step T O fr H ⟨d,op,some (g,want)⟩=some (fr1,H)<->step T O fr H ⟨d,op,none⟩=some (fr1,H):=fun fr1=>by
  rw [zgh,zgh]
  simp [stepV,h]
 by_cases hx: ∃fr1,step T O fr H ⟨d,op,none⟩=some (fr1,H)
 ·obtain ⟨fr1,h1⟩:=hx
  rw [zjm h1,zjm ((this fr1).2 h1)]
 ·rw [zjn fun f hf=>hx ⟨f,hf⟩,zjn fun f hf=>hx ⟨f,(this f).1 hf⟩]
theorem zjq {l:List MO} {d:Option Nat} {op:MOp} {g:Nat} {want:Bool} (h:get g fr= .bool (!want)):runC T O (⟨d,op,some (g,want)⟩::l) fr H=runC T O l (upd d (V.tup []) fr) H:=
 zjm (by rw [zgh];cases want<;>simp [stepV,h])
theorem zjr {l:List MO} {d:Option Nat} {op:MOp} {g:Nat} {want:Bool} (h:get g fr= .tup []):runC T O (⟨d,op,some (g,want)⟩::l) fr H=runC T O l (upd d (V.tup []) fr) H:=
 zjm (by rw [zgh];simp [stepV,h])
theorem zjs (l:List MO) (d:Option Nat) (v:V):goC T O l fr H d (some (v,H))=runC T O l (upd d v fr) H:=by simp [goC]
end
def lenV (H:Hp) (str:Bool) (v:V):Option (V×Hp):=match str,v with
  | false, .sl _ xs=>some (.int .i64 xs.length,H)
  | false, .psl xs=>some (.int .i64 xs.length,H)
  | false, .vw id ver _ len _=>(row? H id ver).bind fun _=>some (.int .i64 len,H)
  | true, .str l=>some (.int .i64 l.length,H)
  | _,_=>none
def capV (H:Hp) (v:V):Option (V×Hp):=match v with
  | .sl true []=>some (.int .i64 0,H)
  | .vw id ver _ _ _=>(row? H id ver).bind fun r=>if r.1=true then some (.int .i64 0,H) else none
  | _=>none
def mmV (H:Hp) (mx:Bool) (l:List V):Option (V×Hp):=match l with
  | [.int k a, .int k' b]=>if k=k' then some (.int k (if mx=true then (if a<b then b else a) else (if b<a then b else a)),H) else none
  | _=>none
def appzV (H:Hp) (x n:V) (sz:Nat) (zero:V):Option (V×Hp):=match n with
  | .int _ n=>(match x with
   | .sl true []=>if 0<=n then (if n.toNat<=most then some (.vw H.length 0 0 n.toNat 1,H++[.row 0 (decide (n=0)) sz (List.replicate n.toNat zero) true]) else none) else none
   | _=>none)
  | _=>none
def clrV (H:Hp) (x:V) (zero:V):Option (V×Hp):=match x with
  | .vw id ver off len _=>(row? H id ver).bind fun r=>if r.2.2.2=true/\(leaves zero).length=r.2.1 then some (.tup [],H.set id (.row ver r.1 r.2.1 (r.2.2.1.take off++List.replicate len zero++r.2.2.1.drop (off+len)) true)) else none
  | _=>none
def mlookV (H:Hp) (x k:V):Option (V×Hp):=(mapOf H x).bind fun m=>(intOf k).bind fun n=>some (.int .i64 (mget m n),H)
def mputV (H:Hp) (x k v:V):Option (V×Hp):=(mapOf H x).bind fun m=>(intOf k).bind fun n=>(intOf v).bind fun y=>(mpId x).bind fun id=>some (.tup [],H.set id (.map (mset m n y)))
def plookV (H:Hp) (x k:V):Option (V×Hp):=(pmapOf H x).bind fun m=>(intOf k).bind fun n=>some (pget m n,H)
def pputV (H:Hp) (x k v:V):Option (V×Hp):=(pmapOf H x).bind fun m=>(intOf k).bind fun n=>(mpId x).bind fun id=>if good v=true then some (.tup [],H.set id (.pmap (pset m n v))) else none
def pappV (H:Hp) (x y:V):Option (V×Hp):=match x,y with
 | .sl true [], .psl ys=>if ys.length<=most then some (.any,H) else none
 | _,_=>none
noncomputable def onC (T:Nat->Option MFun) (O:Orc) (d:Option Nat) (op:MOp) (want:Bool) (l:List MO) (fr:Fr) (H:Hp):V->Option (Ex×Fr×Hp)
 | .bool b=>if b=want then goC T O l fr H d (ev T O fr H op) else runC T O l (upd d (V.tup []) fr) H
 | .tup []=>runC T O l (upd d (V.tup []) fr) H
 | _=>none
def canonO (h0:Nat) (H:Hp) (vs:Fr) (ord:List Nat):Fr×Hp:=(vs.map fun p=>(p.1,ren h0 ord H p.2),(H.take h0).map (renB h0 ord H false)++ord.map fun i=>renB h0 ord H true (H.getD i .dead))
def canonK (h0:Nat) (H:Hp) (vs:Fr):Fr×Hp:=canonO h0 H vs (reach h0 H H.length (addNew [] (vs.flatMap (fun p=>idsV h0 p.2)++(H.take h0).flatMap (idsB h0))))
def reachK (h0:Nat) (H:Hp) (n:Nat) (seen more:List Nat):List Nat:=if more.length=seen.length then seen else reach h0 H n more
section
variable {T:Nat->Option MFun} {O:Orc} {m h0:Nat} {fr:Fr} {H:Hp}
theorem runC_g (l:List MO) (d:Option Nat) (op:MOp) (g:Nat) (want:Bool):runC T O (⟨d,op,some (g,want)⟩::l) fr H=onC T O d op want l fr H (get g fr):=by
 unfold onC
 split
 ·rename_i b hb
  by_cases h:b=want
  ·subst h;rw [if_pos rfl];exact zjp hb
  ·rw [if_neg h];refine zjq (want:=want) ?_;rw [hb];cases b<;>cases want<;>first | rfl | exact absurd rfl h
 ·rename_i hb;exact zjr hb
 ·rename_i h1 h2
  refine zjn fun f hf=>?_
  unfold step at hf
  split at hf
  ·rename_i h;cases h
  ·rename_i g' w' hg
   simp only [y1,y7] at hg
   obtain ⟨rfl,rfl⟩:=hg
   split at hf
   ·rename_i b hb;exact absurd hb (h1 b)
   ·rename_i hb;exact absurd hb h2
   ·cases hf
theorem e0 (n:Nat):MArg.val fr (.t n)=get n fr:=rfl
theorem e1 (v:V):MArg.val fr (.c v)=v:=rfl
theorem e2 (t d:Nat) (v:V):get t ((d,v)::fr)=if t=d then v else get t fr:=rfl
theorem e3 (t:Nat):get t []= .junk:=rfl
theorem e4:MArgs.vals fr []=[]:=rfl
theorem e5 (x:MArg) (xs:List MArg):MArgs.vals fr (x::xs)=x.val fr::MArgs.vals fr xs:=rfl
theorem e6 (n:Nat):params n []=[]:=rfl
theorem e7 (n:Nat) (v:V) (l:List V):params n (v::l)=(n,v)::params (n+1) l:=rfl
theorem e8:optInt fr none=some none:=rfl
theorem e9 (x:MArg):optInt fr (some x)=match x.val fr with | .int _ n=>some (some n) | _=>none:=rfl
theorem e10 (x:MArg):ev T O fr H (.mv x)=some (x.val fr,H):=rfl
theorem e11 (sz:Nat):ev T O fr H (.nil sz)=some (.vw H.length 0 0 0 1,H++[.row 0 true sz [] true]):=rfl
theorem e12 (c a b:MArg):ev T O fr H (.pick c a b)=match c.val fr with | .bool c=>some (if c=true then a.val fr else b.val fr,H) | _=>none:=rfl
theorem e13 (op:BinOp) (x y:MArg):ev T O fr H (.bin op x y)=(vbin op (x.val fr) (y.val fr)).bind fun v=>some (v,H):=rfl
theorem e14 (neg:Bool) (ks:List Nat) (x y:MArg):ev T O fr H (.eqn neg ks x y)=(veq ks (x.val fr) (y.val fr)).bind fun b=>some (.bool (if neg=true then !b else b),H):=rfl
theorem e15 (neg:Bool) (k:Nat) (x:MArg):ev T O fr H (.isnil neg k x)=(visnil H k (x.val fr)).bind fun b=>some (.bool (if neg=true then !b else b),H):=rfl
theorem e16 (op:UnOp) (x:MArg):ev T O fr H (.un op x)=(vun op (x.val fr)).bind fun v=>some (v,H):=rfl
theorem e17 (k:IntKind) (x:MArg):ev T O fr H (.conv k x)=match x.val fr with | .int _ n=>some (.int k (wrp k n),H) | _=>none:=rfl
theorem e18 (x:MArg):ev T O fr H (.b2s x)=(elems H (x.val fr)).bind fun p=>if u8s p=true then some (.str (p.map num),H) else none:=rfl
theorem e19 (x:MArg) (i:Nat):ev T O fr H (.ext x i)=match x.val fr with | .tup vs=>(vs[i]?).bind fun v=>some (v,H) | _=>none:=rfl
theorem e20 (x:MArg) (off n:Nat) (agg:Bool):ev T O fr H (.fld x off n agg)=match x.val fr with | .agg cs=>(part cs off n agg).bind fun v=>some (v,H) | _=>none:=rfl
theorem e21 (zero:List V) (parts:List (Nat×Nat×MArg)):ev T O fr H (.bld zero parts)=(fillB fr zero parts).bind fun cs=>some (.agg cs,H):=rfl
theorem e22 (zero:List V):ev T O fr H (.alloc zero)=some (.ptr H.length 0,H++[.box zero]):=rfl
theorem e23 (x:MArg):ev T O fr H (.box x)=if goods (leaves (x.val fr))=true then some (.ptr H.length 0,H++[.box (leaves (x.val fr))]) else none:=rfl
def kk0:=ai @e0<| ai @e1<| ai @e2<| ai @e3<| ai @e4<| ai @e5<| ai @e6<| ai @e7<| ai @e8<| ai @e9<| ai @e10<| ai @e11<| ai @e12<| ai @e13<| ai @e14<| ai @e15<| ai @e16<| ai @e17<| ai @e18<| ai @e19<| ai @e20<| ai @e21<| ai @e22<| @e23
theorem e24 (x:MArg) (n:Nat) (agg:Bool):ev T O fr H (.load x n agg)=(vload H n agg (x.val fr)).bind fun v=>some (v,H):=rfl
theorem e25 (x y:MArg) (n:Nat):ev T O fr H (.store x y n)=(vstore H n (x.val fr) (y.val fr)).bind fun H'=>some (.tup [],H'):=rfl
theorem e26 (x:MArg) (off:Nat):ev T O fr H (.faddr x off)=(vfaddr off (x.val fr)).bind fun v=>some (v,H):=rfl
theorem e27 (x i:MArg) (sz:Nat):ev T O fr H (.iaddr x i sz)=match i.val fr with | .int _ n=>(viaddr H sz (x.val fr) n).bind fun v=>some (v,H) | _=>none:=rfl
theorem e28 (x i:MArg) (len sz:Nat):ev T O fr H (.aaddr x i len sz)=match i.val fr,x.val fr with | .int _ n, .ptr id off=>if 0<=n then (if n.toNat<len then some (.ptr id (off+n.toNat*sz),H) else none) else none | _,_=>none:=rfl
theorem e29 (x i:MArg) (len sz:Nat) (agg:Bool):ev T O fr H (.idx x i len sz agg)=match i.val fr,x.val fr with | .int _ n, .agg cs=>if 0<=n then (if n.toNat<len then (part cs (n.toNat*sz) sz agg).bind fun v=>some (v,H) else none) else none | _,_=>none:=rfl
theorem e30 (x:MArg):ev T O fr H (.nilck x)=match x.val fr with | .ptr id off=>some (.ptr id off,H) | .ep id ver i j=>some (.ep id ver i j,H) | .rp cs=>some (.rp cs,H) | .fn f cs=>some (.fn f cs,H) | _=>none:=rfl
theorem e31 (f:Nat) (caps:List MArg):ev T O fr H (.mkfn f caps)=if goods (MArgs.vals fr caps)=true then some (.fn f (MArgs.vals fr caps),H) else none:=rfl
theorem e32 (t:Nat) (x:MArg):ev T O fr H (.mkif t x)=if good (x.val fr)=true then some (.ifc t (x.val fr),H) else none:=rfl
theorem e33 (x:MArg) (lo hi mx:Option MArg) (sz:Nat):ev T O fr H (.slc x lo hi mx sz)=(optInt fr lo).bind fun l=>(optInt fr hi).bind fun h=>(optInt fr mx).bind fun u=>vslc H sz (x.val fr) l h u:=rfl
theorem e34 (sz:Nat) (parts:List MArg):ev T O fr H (.bsl sz parts 0)=(shareE H (MArgs.vals fr parts)).bind fun p=>if sizes sz p.1=true then some (.sl false p.1,p.2) else none:=rfl
theorem e35 (sz:Nat) (parts:List MArg):ev T O fr H (.bsl sz parts 1)=(shareE H (MArgs.vals fr parts)).bind fun p=>if sizes sz p.1=true then some (.vw p.2.length 0 0 p.1.length 1,p.2++[.row 0 false sz p.1 true]) else none:=rfl
theorem e36 (sz:Nat) (parts:List MArg):ev T O fr H (.bsl sz parts 2)=if goods (MArgs.vals fr parts)=true then some (.psl (MArgs.vals fr parts),H) else none:=rfl
theorem e37 (sz:Nat) (zero:V) (len:MArg):ev T O fr H (.msl sz zero len)=match len.val fr with | .int _ n=>if 0<=n then (if n.toNat<=most then some (.vw H.length 0 0 n.toNat 1,H++[.row 0 false sz (List.replicate n.toNat zero) true]) else none) else none | _=>none:=rfl
theorem e38 (str:Bool) (x:MArg):ev T O fr H (.len str x)=lenV H str (x.val fr):=rfl
theorem e39 (z:Bool) (xs:List V):lenV H false (.sl z xs)=some (.int .i64 xs.length,H):=rfl
theorem e40 (xs:List V):lenV H false (.psl xs)=some (.int .i64 xs.length,H):=rfl
theorem e41 (id ver off len md:Nat):lenV H false (.vw id ver off len md)=(row? H id ver).bind fun _=>some (.int .i64 len,H):=rfl
theorem e42 (l:List Int):lenV H true (.str l)=some (.int .i64 l.length,H):=rfl
theorem e43 (x:MArg):ev T O fr H (.cap x)=capV H (x.val fr):=rfl
theorem e44:capV H (.sl true [])=some (.int .i64 0,H):=rfl
theorem e45 (id ver off len md:Nat):capV H (.vw id ver off len md)=(row? H id ver).bind fun r=>if r.1=true then some (.int .i64 0,H) else none:=rfl
theorem e46 (mx:Bool) (xs:List MArg):ev T O fr H (.mm mx xs)=mmV H mx (MArgs.vals fr xs):=rfl
theorem e47 (k:IntKind) (a b:Int):mmV H true [.int k a, .int k b]=some (.int k (if a<b then b else a),H):=by simp [mmV]
def kk1:=ai @e24<| ai @e25<| ai @e26<| ai @e27<| ai @e28<| ai @e29<| ai @e30<| ai @e31<| ai @e32<| ai @e33<| ai @e34<| ai @e35<| ai @e36<| ai @e37<| ai @e38<| ai @e39<| ai @e40<| ai @e41<| ai @e42<| ai @e43<| ai @e44<| ai @e45<| ai @e46<| @e47
theorem e48 (k:IntKind) (a b:Int):mmV H false [.int k a, .int k b]=some (.int k (if b<a then b else a),H):=by simp [mmV]
theorem e49 (x y:MArg) (sz:Nat):ev T O fr H (.app x y sz)=(elems H (y.val fr)).bind fun ys=>if sizes sz ys=true then appv H sz (x.val fr) ys else none:=rfl
theorem e50 (x n:MArg) (sz:Nat) (zero:V):ev T O fr H (.appz x n sz zero)=appzV H (x.val fr) (n.val fr) sz zero:=rfl
theorem e51 (k:IntKind) (n:Int) (sz:Nat) (zero:V):appzV H (.sl true []) (.int k n) sz zero=if 0<=n then (if n.toNat<=most then some (.vw H.length 0 0 n.toNat 1,H++[.row 0 (decide (n=0)) sz (List.replicate n.toNat zero) true]) else none) else none:=rfl
theorem e52 (f:Nat) (as:List MArg):ev T O fr H (.call f as)=vcall T O f (MArgs.vals fr as) H:=rfl
theorem e53 (x:MArg) (as:List MArg):ev T O fr H (.callv x as)=match x.val fr with | .fn f cs=>vcall T O f (MArgs.vals fr as++cs) H | _=>none:=rfl
theorem e54:most=4294967296:=rfl
theorem e55 (k:IntKind) (a b:Int):vbin .add (.int k a) (.int k b)=some (.int k (wrp k (a+b))):=by simp [vbin]
theorem e56 (k:IntKind) (a b:Int):vbin .sub (.int k a) (.int k b)=some (.int k (wrp k (a - b))):=by simp [vbin]
theorem e57 (k:IntKind) (a b:Int):vbin .mul (.int k a) (.int k b)=some (.int k (wrp k (a*b))):=by simp [vbin]
theorem e58 (k:IntKind) (a b:Int):vbin .quo (.int k a) (.int k b)=if b=0 then none else some (.int k (wrp k (a.tdiv b))):=by simp [vbin]
theorem e59 (k:IntKind) (a b:Int):vbin .rem (.int k a) (.int k b)=if b=0 then none else some (.int k (a.tmod b)):=by simp [vbin]
theorem e60 (k:IntKind) (a b:Int):vbin .and (.int k a) (.int k b)=some (.int k (ibits .and k a b)):=by simp [vbin]
theorem e61 (k:IntKind) (a b:Int):vbin .or (.int k a) (.int k b)=some (.int k (ibits .or k a b)):=by simp [vbin]
theorem e62 (k:IntKind) (a b:Int):vbin .xor (.int k a) (.int k b)=some (.int k (ibits .xor k a b)):=by simp [vbin]
theorem e63 (k:IntKind) (a b:Int):vbin .andNot (.int k a) (.int k b)=some (.int k (ibits .andNot k a b)):=by simp [vbin]
theorem e64 (k k':IntKind) (a b:Int):vbin .shl (.int k a) (.int k' b)=if b<0 then none else some (.int k (ishl k a b)):=rfl
theorem e65 (k k':IntKind) (a b:Int):vbin .shr (.int k a) (.int k' b)=if b<0 then none else some (.int k (ishr k a b)):=rfl
theorem e66 (k:IntKind) (a b:Int):vbin .eql (.int k a) (.int k b)=some (.bool (decide (a=b))):=by simp [vbin]
theorem e67 (k:IntKind) (a b:Int):vbin .neq (.int k a) (.int k b)=some (.bool (!decide (a=b))):=by simp [vbin]
theorem e68 (k:IntKind) (a b:Int):vbin .lss (.int k a) (.int k b)=some (.bool (decide (a<b))):=by simp [vbin]
theorem e69 (k:IntKind) (a b:Int):vbin .leq (.int k a) (.int k b)=some (.bool (decide (a<=b))):=by simp [vbin]
theorem e70 (k:IntKind) (a b:Int):vbin .gtr (.int k a) (.int k b)=some (.bool (decide (b<a))):=by simp [vbin]
theorem e71 (k:IntKind) (a b:Int):vbin .geq (.int k a) (.int k b)=some (.bool (decide (b<=a))):=by simp [vbin]
def kk2:=ai @e48<| ai @e49<| ai @e50<| ai @e51<| ai @e52<| ai @e53<| ai @e54<| ai @e55<| ai @e56<| ai @e57<| ai @e58<| ai @e59<| ai @e60<| ai @e61<| ai @e62<| ai @e63<| ai @e64<| ai @e65<| ai @e66<| ai @e67<| ai @e68<| ai @e69<| ai @e70<| @e71
theorem e72 (a b:List Int):vbin .eql (.str a) (.str b)=some (.bool (decide (a=b))):=rfl
theorem e73 (a b:List Int):vbin .neq (.str a) (.str b)=some (.bool (!decide (a=b))):=rfl
theorem e74 (a b:List Int):vbin .add (.str a) (.str b)=if a.length+b.length<=1099511627776 then some (.str (a++b)) else none:=rfl
theorem e75 (k:IntKind) (n:Int):vun .neg (.int k n)=some (.int k (wrp k (0 - n))):=rfl
theorem e76 (b:Bool):vun .not (.bool b)=some (.bool !b):=rfl
theorem e77 (n:Int):vun .xor (.int .u8 n)=some (.int .u8 (ibits .xor .u8 255 n)):=rfl
theorem e78 (n:Int):vun .xor (.int .u16 n)=some (.int .u16 (ibits .xor .u16 65535 n)):=rfl
theorem e79 (n:Int):vun .xor (.int .u32 n)=some (.int .u32 (ibits .xor .u32 4294967295 n)):=rfl
theorem e80 (n:Int):vun .xor (.int .u64 n)=some (.int .u64 (ibits .xor .u64 18446744073709551615 n)):=rfl
theorem e81 (n:Int):vun .xor (.int .i8 n)=some (.int .i8 (ibits .xor .i8 (-1) n)):=rfl
theorem e82 (n:Int):vun .xor (.int .i16 n)=some (.int .i16 (ibits .xor .i16 (-1) n)):=rfl
theorem e83 (n:Int):vun .xor (.int .i32 n)=some (.int .i32 (ibits .xor .i32 (-1) n)):=rfl
theorem e84 (n:Int):vun .xor (.int .i64 n)=some (.int .i64 (ibits .xor .i64 (-1) n)):=rfl
theorem e85 (a b:Bool):veq [] (.bool a) (.bool b)=some (a==b):=rfl
theorem e86 (k:Nat) (ks:List Nat) (a b:List V):veq (k::ks) (.agg a) (.agg b)=veqL (k::ks) a b:=rfl
theorem e87:veqL [] [] []=some true:=rfl
theorem e88 (k:Nat) (ks:List Nat) (a b:V) (l m:List V):veqL (k::ks) (a::l) (b::m)=(veq1 k a b).bind fun x=>(veqL ks l m).bind fun y=>some (x && y):=rfl
theorem e89 (k:IntKind) (a b:Int):veq1 1 (.int k a) (.int k b)=some (decide (a=b)):=by simp [veq1]
theorem e90 (a b:Bool):veq1 0 (.bool a) (.bool b)=some (a==b):=rfl
theorem e91 (a b:List Int):veq1 2 (.str a) (.str b)=some (decide (a=b)):=rfl
theorem e92 (z:Bool) (xs:List V):visnil H 0 (.sl z xs)=some z:=rfl
theorem e93 (id ver off len md:Nat):visnil H 0 (.vw id ver off len md)=(row? H id ver).map (·.1):=rfl
theorem e94 (xs:List V):visnil H 0 (.psl xs)=some false:=rfl
theorem e95:visnil H 1 .nilp=some true:=rfl
def kk3:=ai @e72<| ai @e73<| ai @e74<| ai @e75<| ai @e76<| ai @e77<| ai @e78<| ai @e79<| ai @e80<| ai @e81<| ai @e82<| ai @e83<| ai @e84<| ai @e85<| ai @e86<| ai @e87<| ai @e88<| ai @e89<| ai @e90<| ai @e91<| ai @e92<| ai @e93<| ai @e94<| @e95
theorem e96 (i j:Nat):visnil H 1 (.ptr i j)=some false:=rfl
theorem e97 (i v j l:Nat):visnil H 1 (.ep i v j l)=some false:=rfl
theorem e98 (cs:List V):visnil H 1 (.rp cs)=some false:=rfl
theorem e99:visnil H 2 .nilf=some true:=rfl
theorem e100 (f:Nat) (cs:List V):visnil H 2 (.fn f cs)=some false:=rfl
theorem e101 (k:IntKind) (n:Int):leaves (.int k n)=[.int k n]:=rfl
theorem e102 (k:IntKind) (n:Int):good (.int k n)=true:=rfl
theorem e103 (b:Bool):leaves (.bool b)=[.bool b]:=rfl
theorem e104 (b:Bool):good (.bool b)=true:=rfl
theorem e105 (s:List Int):leaves (.str s)=[.str s]:=rfl
theorem e106 (s:List Int):good (.str s)=true:=rfl
theorem e107 (z:Bool) (xs:List V):leaves (.sl z xs)=[.sl z xs]:=rfl
theorem e108 (z:Bool) (xs:List V):good (.sl z xs)=true:=rfl
theorem e109 (i v o l m:Nat):leaves (.vw i v o l m)=[.vw i v o l m]:=rfl
theorem e110 (i v o l m:Nat):good (.vw i v o l m)=true:=rfl
theorem e111 (i j:Nat):leaves (.ptr i j)=[.ptr i j]:=rfl
theorem e112 (i j:Nat):good (.ptr i j)=true:=rfl
theorem e113 (i v j l:Nat):leaves (.ep i v j l)=[.ep i v j l]:=rfl
theorem e114 (i v j l:Nat):good (.ep i v j l)=true:=rfl
theorem e115 (f:Nat) (cs:List V):leaves (.fn f cs)=[.fn f cs]:=rfl
theorem e116 (f:Nat) (cs:List V):good (.fn f cs)=true:=rfl
theorem e117 (cs:List V):leaves (.psl cs)=[.psl cs]:=rfl
theorem e118 (cs:List V):good (.psl cs)=true:=rfl
theorem e119 (cs:List V):leaves (.rp cs)=[.rp cs]:=rfl
def kk4:=ai @e96<| ai @e97<| ai @e98<| ai @e99<| ai @e100<| ai @e101<| ai @e102<| ai @e103<| ai @e104<| ai @e105<| ai @e106<| ai @e107<| ai @e108<| ai @e109<| ai @e110<| ai @e111<| ai @e112<| ai @e113<| ai @e114<| ai @e115<| ai @e116<| ai @e117<| ai @e118<| @e119
theorem e120 (cs:List V):good (.rp cs)=true:=rfl
theorem e121 (t:Nat) (x:V):leaves (.ifc t x)=[.ifc t x]:=rfl
theorem e122 (t:Nat) (x:V):good (.ifc t x)=true:=rfl
theorem e123:leaves (.nilp)=[.nilp]:=rfl
theorem e124:good (.nilp)=true:=rfl
theorem e125:leaves (.nilf)=[.nilf]:=rfl
theorem e126:good (.nilf)=true:=rfl
theorem e127:leaves (.nili)=[.nili]:=rfl
theorem e128:good (.nili)=true:=rfl
theorem e129 (cs:List V):leaves (.agg cs)=cs:=rfl
theorem e130:goods []=true:=rfl
theorem e131 (v:V) (l:List V):goods (v::l)=(good v && goods l):=rfl
theorem e132 (cs:List V):fillB fr cs []=some cs:=rfl
theorem e133 (cs:List V) (off n:Nat) (x:MArg) (ps:List (Nat×Nat×MArg)):fillB fr cs ((off,n,x)::ps)=if (leaves (x.val fr)).length=n then (if off+n<=cs.length then (if goods (leaves (x.val fr))=true then fillB fr (setAt cs off (leaves (x.val fr))) ps else none) else none) else none:=rfl
theorem e134 (cs:List V) (off:Nat):setAt cs off []=cs:=rfl
theorem e135 (cs:List V) (off:Nat) (v:V) (l:List V):setAt cs off (v::l)=setAt (cs.set off v) (off+1) l:=rfl
theorem e136 (cs:List V) (off n:Nat):part cs off n true=if off+n<=cs.length then some (.agg ((cs.drop off).take n)) else none:=rfl
theorem e137 (cs:List V) (off n:Nat):part cs off n false=cs[off]? :=rfl
theorem e138 (n id off:Nat) (agg:Bool):vload H n agg (.ptr id off)=match H[id]? with | some (.box cs)=>part cs off n agg | _=>none:=rfl
theorem e139 (n:Nat) (agg:Bool) (cs:List V):vload H n agg (.rp cs)=part cs 0 n agg:=rfl
theorem e140 (n:Nat) (agg:Bool) (id ver i j:Nat):vload H n agg (.ep id ver i j)=(row? H id ver).bind fun r=>match r.2.2.1[i]? with | some e=>part (leaves e) j n agg | none=>none:=rfl
theorem e141 (cs ls:List V):mkEl (.agg cs) ls= .agg ls:=rfl
theorem e142 (k:IntKind) (n:Int) (x:V):mkEl (.int k n) [x]=x:=rfl
theorem e143 (b:Bool) (x:V):mkEl (.bool b) [x]=x:=rfl
def kk5:=ai @e120<| ai @e121<| ai @e122<| ai @e123<| ai @e124<| ai @e125<| ai @e126<| ai @e127<| ai @e128<| ai @e129<| ai @e130<| ai @e131<| ai @e132<| ai @e133<| ai @e134<| ai @e135<| ai @e136<| ai @e137<| ai @e138<| ai @e139<| ai @e140<| ai @e141<| ai @e142<| @e143
theorem e144 (z:Bool) (xs:List V) (x:V):mkEl (.sl z xs) [x]=x:=rfl
theorem e145 (s:List Int) (x:V):mkEl (.str s) [x]=x:=rfl
theorem e146 (n id off:Nat) (y:V):vstore H n (.ptr id off) y=match H[id]? with | some (.box cs)=>if (leaves y).length=n then (if off+n<=cs.length then (if goods (leaves y)=true then some (H.set id (.box (setAt cs off (leaves y)))) else none) else none) else none | _=>none:=rfl
theorem e147 (n id ver i j:Nat) (y:V):vstore H n (.ep id ver i j) y=(share H y).bind fun p=>(row? p.2 id ver).bind fun r=>match r.2.2.1[i]? with | some e=>if r.2.2.2=true then (if (leaves p.1).length=n then (if j+n<=(leaves e).length then some (p.2.set id (.row ver r.1 r.2.1 (r.2.2.1.set i (mkEl e (setAt (leaves e) j (leaves p.1)))) true)) else none) else none) else none | none=>none:=rfl
theorem e148 (off id o:Nat):vfaddr off (.ptr id o)=some (.ptr id (o+off)):=rfl
theorem e149 (off:Nat) (cs:List V):vfaddr off (.rp cs)=some (.rp (cs.drop off)):=rfl
theorem e150 (off id ver i j:Nat):vfaddr off (.ep id ver i j)=some (.ep id ver i (j+off)):=rfl
theorem e151 (sz:Nat) (z:Bool) (xs:List V) (i:Int):viaddr H sz (.sl z xs) i=if 0<=i then (match xs[i.toNat]? with | some e=>if (leaves e).length=sz then some (.rp (leaves e)) else none | none=>none) else none:=rfl
theorem e152 (sz:Nat) (xs:List V) (i:Int):viaddr H sz (.psl xs) i=if 0<=i then (match xs[i.toNat]? with | some e=>if sz=1 then some (.rp [e]) else none | none=>none) else none:=rfl
theorem e153 (sz id ver off len md:Nat) (i:Int):viaddr H sz (.vw id ver off len md) i=if 0<=i then ((row? H id ver).bind fun r=>if i.toNat<len then (if sz=r.2.1 then some (.ep id ver (off+i.toNat) 0) else none) else none) else none:=rfl
theorem e154 (n:Nat) (hi:Option Int):mxOk n hi none=true:=rfl
theorem e155 (n:Nat) (h m:Int):mxOk n (some h) (some m)=(decide (0<=m) && decide (h<=m) && decide (m.toNat<=n)):=by simp [mxOk]
theorem e156 (sz:Nat) (z:Bool) (xs:List V) (lo hi mx:Option Int):vslc H sz (.sl z xs) lo hi mx=if mxOk xs.length hi mx=true then (if 0<=lo.getD 0 then (if lo.getD 0<=hi.getD xs.length then (if (hi.getD xs.length).toNat<=xs.length then (if (lo.isNone || sizes sz xs)=true then some (.sl z (between xs lo hi),H) else none) else none) else none) else none) else none:=rfl
theorem e157 (sz id ver off len md:Nat) (l:Int):vslc H sz (.vw id ver off len md) (some l) none none=(row? H id ver).bind fun r=>if sz=r.2.1 then (if 0<=l then (if l.toNat<=len then some (.vw id ver (off+l.toNat) (len - l.toNat) md,H) else none) else none) else none:=rfl
theorem e158 (sz id ver off len md:Nat):vslc H sz (.vw id ver off len md) none none none=(row? H id ver).bind fun r=>if sz=r.2.1 then some (.vw id ver off len md,H) else none:=by cases hr:row? H id ver<;>simp [vslc,hr]
theorem e159 (sz id ver off len md:Nat) (lo:Option Int) (h:Int):vslc H sz (.vw id ver off len md) lo (some h) none=(row? H id ver).bind fun r=>if sz=r.2.1 then (if 0<=lo.getD 0 then (if lo.getD 0<=h then (if off+h.toNat<=(if md=2 then off+len else r.2.2.1.length) then some (.vw id ver (off+(lo.getD 0).toNat) (h.toNat - (lo.getD 0).toNat) (if md=2 then 2 else if r.1=true then md else 0),H) else none) else none) else none) else none:=by cases lo<;>rfl
theorem e160 (sz id ver off len md:Nat) (lo:Option Int) (h m:Int):vslc H sz (.vw id ver off len md) lo (some h) (some m)=(row? H id ver).bind fun r=>if sz=r.2.1 then (if 0<=lo.getD 0 then (if lo.getD 0<=h then (if h<=m then (if off+m.toNat<=(if md=2 then off+len else r.2.2.1.length) then some (.vw id ver (off+(lo.getD 0).toNat) (h.toNat - (lo.getD 0).toNat) 2,H) else none) else none) else none) else none) else none:=by cases lo<;>rfl
theorem e161 (z:Bool) (xs:List V):elems H (.sl z xs)=some xs:=rfl
theorem e162 (id ver off len md:Nat):elems H (.vw id ver off len md)=(row? H id ver).bind fun r=>some (cut r.2.2.1 off len md):=rfl
theorem e163:shareE H []=some ([],H):=rfl
theorem e164 (v:V) (l:List V):shareE H (v::l)=(share H v).bind fun p=>(shareE p.2 l).bind fun q=>some (p.1::q.1,q.2):=rfl
theorem e165 (sz:Nat):sizes sz []=true:=rfl
theorem e166 (sz:Nat) (v:V) (l:List V):sizes sz (v::l)=(decide ((leaves v).length=sz) && sizes sz l):=rfl
theorem e167 (sz:Nat) (ys:List V):appv H sz (.sl true []) ys=if ys.length<=most then some (.vw H.length 0 0 ys.length 1,H++[.row 0 ys.isEmpty sz ys true]) else none:=rfl
def kk6:=ai @e144<| ai @e145<| ai @e146<| ai @e147<| ai @e148<| ai @e149<| ai @e150<| ai @e151<| ai @e152<| ai @e153<| ai @e154<| ai @e155<| ai @e156<| ai @e157<| ai @e158<| ai @e159<| ai @e160<| ai @e161<| ai @e162<| ai @e163<| ai @e164<| ai @e165<| ai @e166<| @e167
theorem e168 (sz id ver off len:Nat) (ys:List V):appv H sz (.vw id ver off len 1) ys=(row? H id ver).bind fun r=>if sz=r.2.1 then (if off=0 then (if r.2.2.1.length+ys.length<=most then some (.vw id (ver+1) 0 (r.2.2.1.length+ys.length) 1,H.set id (.row (ver+1) (r.1 && ys.isEmpty) sz (r.2.2.1++ys) r.2.2.2)) else none) else none) else none:=rfl
theorem e169 (sz id ver off len:Nat) (ys:List V):appv H sz (.vw id ver off len 0) ys=(row? H id ver).bind fun r=>if sz=r.2.1 then (if off+len+ys.length<=r.2.2.1.length then (if r.2.2.2=true then some (.vw id ver off (len+ys.length) 0,H.set id (.row ver r.1 sz (r.2.2.1.take (off+len)++ys++r.2.2.1.drop (off+len+ys.length)) true)) else none) else none) else none:=rfl
theorem e170 (v sz ver:Nat) (z x:Bool) (xs:List V):row? (.row v z sz xs x::H) 0 ver=if ver=v then some (z,sz,xs,x) else none:=rfl
theorem e171 (b:Blk) (n ver:Nat):row? (b::H) (n+1) ver=row? H n ver:=by simp [row?]
theorem e172 (k:IntKind) (n:Int):share1 H (.int k n)=some (.int k n,H):=rfl
theorem e173 (k:IntKind) (n:Int):share H (.int k n)=some (.int k n,H):=rfl
theorem e174 (b:Bool):share1 H (.bool b)=some (.bool b,H):=rfl
theorem e175 (b:Bool):share H (.bool b)=some (.bool b,H):=rfl
theorem e176 (l:List Int):share1 H (.str l)=some (.str l,H):=rfl
theorem e177 (l:List Int):share H (.str l)=some (.str l,H):=rfl
theorem e178 (z:Bool) (xs:List V):share1 H (.sl z xs)=some (.sl z xs,H):=rfl
theorem e179 (z:Bool) (xs:List V):share H (.sl z xs)=some (.sl z xs,H):=rfl
theorem e180:share1 H (.nili)=some (.nili,H):=rfl
theorem e181:share H (.nili)=some (.nili,H):=rfl
theorem e182 (id ver off len md:Nat):share1 H (.vw id ver off len md)=(row? H id ver).bind fun r=>some (.sl r.1 (cut r.2.2.1 off len md),H.set id (.row ver r.1 r.2.1 r.2.2.1 false)):=rfl
theorem e183 (id ver off len md:Nat):share H (.vw id ver off len md)=(row? H id ver).bind fun r=>some (.sl r.1 (cut r.2.2.1 off len md),H.set id (.row ver r.1 r.2.1 r.2.2.1 false)):=rfl
theorem e184 (cs:List V):share H (.agg cs)=(shareL H cs).bind fun p=>some (.agg p.1,p.2):=rfl
theorem e185:shareL H []=some ([],H):=rfl
theorem e186 (v:V) (l:List V):shareL H (v::l)=(share1 H v).bind fun p=>(shareL p.2 l).bind fun q=>some (p.1::q.1,q.2):=rfl
theorem e187 (sz:Nat):take H sz (.sl true [])=some (.own true sz true [],H):=rfl
theorem e188 (sz id ver len:Nat):take H sz (.vw id ver 0 len 1)=(row? H id ver).bind fun r=>if sz=r.2.1 then some (.own r.1 sz r.2.2.2 r.2.2.1,H.set id .dead) else none:=by simp [take,cut]
theorem e189 (sz id ver len:Nat):take H sz (.vw id ver 0 len 0)=(row? H id ver).bind fun r=>if r.2.2.2=true then (if sz=r.2.1 then some (.own r.1 sz r.2.2.2 (r.2.2.1.take len),H.set id .dead) else none) else none:=by simp [take,cut]
theorem e190 (z x:Bool) (sz:Nat) (xs:List V):put1 H (.own z sz x xs)=(.vw H.length 0 0 xs.length 1,H++[.row 0 z sz xs x]):=rfl
theorem e191 (k:IntKind) (n:Int):put1 H (.int k n)=(.int k n,H):=rfl
def kk7:=ai @e168<| ai @e169<| ai @e170<| ai @e171<| ai @e172<| ai @e173<| ai @e174<| ai @e175<| ai @e176<| ai @e177<| ai @e178<| ai @e179<| ai @e180<| ai @e181<| ai @e182<| ai @e183<| ai @e184<| ai @e185<| ai @e186<| ai @e187<| ai @e188<| ai @e189<| ai @e190<| @e191
theorem e192 (b:Bool):put1 H (.bool b)=(.bool b,H):=rfl
theorem e193 (l:List Int):put1 H (.str l)=(.str l,H):=rfl
theorem e194 (z:Bool) (xs:List V):put1 H (.sl z xs)=(.sl z xs,H):=rfl
theorem e195:put1 H (.nili)=(.nili,H):=rfl
theorem e196 (z x:Bool) (sz:Nat) (xs:List V):put H (.own z sz x xs)=(.vw H.length 0 0 xs.length 1,H++[.row 0 z sz xs x]):=rfl
theorem e197 (k:IntKind) (n:Int):put H (.int k n)=(.int k n,H):=rfl
theorem e198 (b:Bool):put H (.bool b)=(.bool b,H):=rfl
theorem e199 (l:List Int):put H (.str l)=(.str l,H):=rfl
theorem e200 (z:Bool) (xs:List V):put H (.sl z xs)=(.sl z xs,H):=rfl
theorem e201:put H (.nili)=(.nili,H):=rfl
theorem e202 (cs:List V):put H (.agg cs)=(.agg (putL H cs).1,(putL H cs).2):=rfl
theorem e203:putL H []=([],H):=rfl
theorem e204 (v:V) (l:List V):putL H (v::l)=((put1 H v).1::(putL (put1 H v).2 l).1,(putL (put1 H v).2 l).2):=rfl
theorem e205:putT H []=([],H):=rfl
theorem e206 (v:V) (l:List V):putT H (v::l)=((put H v).1::(putT (put H v).2 l).1,(putT (put H v).2 l).2):=rfl
theorem e207 (v:V):out1 0 H v=share1 H v:=rfl
theorem e208 (n:Nat) (v:V):out1 (n+1) H v=take H n v:=rfl
theorem e209 (ms:List Nat):outL ms H []=some ([],H):=by cases ms<;>rfl
theorem e210 (m:Nat) (ms:List Nat) (v:V) (l:List V):outL (m::ms) H (v::l)=(out1 m H v).bind fun p=>(outL ms p.2 l).bind fun q=>some (p.1::q.1,q.2):=rfl
theorem e211 (v:V) (l:List V):outL [] H (v::l)=(share1 H v).bind fun p=>(outL [] p.2 l).bind fun q=>some (p.1::q.1,q.2):=rfl
theorem e212 (ms:List Nat) (cs:List V):out ms H (.agg cs)=(outL ms H cs).bind fun p=>some (.agg p.1,p.2):=rfl
theorem e213 (k:IntKind) (n:Int):out [] H (.int k n)=share1 H (.int k n):=rfl
theorem e214 (nn:Nat) (k:IntKind) (n:Int):out [nn] H (.int k n)=out1 nn H (.int k n):=rfl
theorem e215 (b:Bool):out [] H (.bool b)=share1 H (.bool b):=rfl
def kk8:=ai @e192<| ai @e193<| ai @e194<| ai @e195<| ai @e196<| ai @e197<| ai @e198<| ai @e199<| ai @e200<| ai @e201<| ai @e202<| ai @e203<| ai @e204<| ai @e205<| ai @e206<| ai @e207<| ai @e208<| ai @e209<| ai @e210<| ai @e211<| ai @e212<| ai @e213<| ai @e214<| @e215
theorem e216 (nn:Nat) (b:Bool):out [nn] H (.bool b)=out1 nn H (.bool b):=rfl
theorem e217 (l:List Int):out [] H (.str l)=share1 H (.str l):=rfl
theorem e218 (nn:Nat) (l:List Int):out [nn] H (.str l)=out1 nn H (.str l):=rfl
theorem e219 (z:Bool) (xs:List V):out [] H (.sl z xs)=share1 H (.sl z xs):=rfl
theorem e220 (nn:Nat) (z:Bool) (xs:List V):out [nn] H (.sl z xs)=out1 nn H (.sl z xs):=rfl
theorem e221:out [] H (.nili)=share1 H (.nili):=rfl
theorem e222 (nn:Nat)  :out [nn] H (.nili)=out1 nn H (.nili):=rfl
theorem e223 (i v o l m:Nat):out [] H (.vw i v o l m)=share1 H (.vw i v o l m):=rfl
theorem e224 (nn:Nat) (i v o l m:Nat):out [nn] H (.vw i v o l m)=out1 nn H (.vw i v o l m):=rfl
theorem e225 (ms:List (List Nat)):outT ms H []=some ([],H):=by cases ms<;>rfl
theorem e226 (m:List Nat) (ms:List (List Nat)) (v:V) (l:List V):outT (m::ms) H (v::l)=(out m H v).bind fun p=>(outT ms p.2 l).bind fun q=>some (p.1::q.1,q.2):=rfl
theorem e227 (v:V) (l:List V):outT [] H (v::l)=(out [] H v).bind fun p=>(outT [] p.2 l).bind fun q=>some (p.1::q.1,q.2):=rfl
theorem e228 (ms:List Nat):args H ms []=some ([],H):=by cases ms<;>rfl
theorem e229 (ms:List Nat) (v:V) (l:List V):args H (0::ms) (v::l)=(share H v).bind fun p=>(args p.2 ms l).bind fun q=>some (p.1::q.1,q.2):=rfl
theorem e230 (sz:Nat) (ms:List Nat) (v:V) (l:List V):args H ((sz+1)::ms) (v::l)=(take H sz v).bind fun p=>(args p.2 ms l).bind fun q=>some (p.1::q.1,q.2):=rfl
theorem e231 (ms:List Nat):takes H ms []=H:=by cases ms<;>rfl
theorem e232 (vs:List V):takes H [] vs=H:=by cases vs<;>rfl
theorem e233 (ms:List Nat) (v:V) (l:List V):takes H (0::ms) (v::l)=takes H ms l:=rfl
theorem e234 (sz:Nat) (ms:List Nat) (v:V) (l:List V):takes H ((sz+1)::ms) (v::l)=match take H sz v with | some p=>takes p.2 ms l | none=>H:=rfl
theorem e235 (k:IntKind) (n:Int):scalar (.int k n)=true:=rfl
theorem e236 (b:Bool):scalar (.bool b)=true:=rfl
theorem e237 (l:List Int):scalar (.str l)=true:=rfl
theorem e238 (z:Bool) (xs:List V):scalar (.sl z xs)=false:=rfl
theorem e239 (z x:Bool) (sz:Nat) (xs:List V):scalar (.own z sz x xs)=false:=rfl
def kk9:=ai @e216<| ai @e217<| ai @e218<| ai @e219<| ai @e220<| ai @e221<| ai @e222<| ai @e223<| ai @e224<| ai @e225<| ai @e226<| ai @e227<| ai @e228<| ai @e229<| ai @e230<| ai @e231<| ai @e232<| ai @e233<| ai @e234<| ai @e235<| ai @e236<| ai @e237<| ai @e238<| @e239
theorem e240:scalar (.nili)=false:=rfl
theorem e241 (z x:Bool) (sz:Nat) (xs:List V):leaves (.own z sz x xs)=[.own z sz x xs]:=rfl
theorem e242:scalars []=true:=rfl
theorem e243 (v:V) (l:List V):scalars (v::l)=((leaves v).all scalar && scalars l):=rfl
theorem e244 (v:V):pack [v]=v:=rfl
theorem e245:pack []= .tup []:=rfl
theorem e246 (v v':V) (l:List V):pack (v::v'::l)= .tup (v::v'::l):=rfl
theorem e247:resL fr H []=some []:=rfl
theorem e248 (r:MRes) (l:List MRes):resL fr H (r::l)=(resV fr H r).bind fun v=>(resL fr H l).bind fun vs=>some (v::vs):=rfl
theorem e249 (t:Nat):resV fr H (.tmp t)=some (get t fr):=rfl
theorem e250 (t n:Nat) (agg:Bool):resV fr H (.cell t n agg)=vload H n agg (get t fr):=rfl
theorem e251 (d:Nat) (v:V):upd (some d) v fr=(d,v)::fr:=rfl
theorem e252 (v:V):upd none v fr=fr:=rfl
theorem e253 {α:Type} (a:α) (b:Option α):alt (some a) b=some a:=rfl
theorem e254 (tr:List (Fr×Hp)) (l:List MO):allSame T O tr l []=True:=rfl
theorem e255 (H1:Hp) (ms:List Nat) (vs r:List V):vk H H1 ms vs (some r)=if scalars r=true then some (pack r,takes H ms vs) else some (pack (putT H1 r).1,(putT H1 r).2):=rfl
theorem e256 (r:List V):ik (some (r,H))=some (pack r,H):=rfl
theorem e257 (x:MArg) (a b:MC):exec T O m h0 (.cond x a b) fr H=condE T O m h0 a b fr H (x.val fr):=zib x a b
theorem e258 (a b:MC) (c:Bool):condE T O m h0 a b fr H (.bool c)=if c=true then exec T O m h0 a fr H else exec T O m h0 b fr H:=rfl
theorem e259 (K:List KI) (a b:MC):unw T O m h0 K (exec T O m h0 (.seq a b) fr H)=unw T O m h0 (.code b::K) (exec T O m h0 a fr H):=zht a b
theorem e260 (K:List KI) (id:Nat) (a:MC):unw T O m h0 K (exec T O m h0 (.blk id a) fr H)=unw T O m h0 (.blk id::K) (exec T O m h0 a fr H):=zhu id a
theorem e261 (K:List KI) (c:MC):unw T O m h0 (.code c::K) (some (.norm,fr,H))=unw T O m h0 K (exec T O m h0 c fr H):=rfl
theorem e262 (K:List KI) (c:MC) (id:Nat):unw T O m h0 (.code c::K) (some (.exit id,fr,H))=unw T O m h0 K (some (.exit id,fr,H)):=rfl
theorem e263 (K:List KI) (c:MC):unw T O m h0 (.code c::K) (some (.ret,fr,H))=unw T O m h0 K (some (.ret,fr,H)):=rfl
def kk10:=ai @e240<| ai @e241<| ai @e242<| ai @e243<| ai @e244<| ai @e245<| ai @e246<| ai @e247<| ai @e248<| ai @e249<| ai @e250<| ai @e251<| ai @e252<| ai @e253<| ai @e254<| ai @e255<| ai @e256<| ai @e257<| ai @e258<| ai @e259<| ai @e260<| ai @e261<| ai @e262<| @e263
theorem e264 (K:List KI) (id:Nat):unw T O m h0 (.blk id::K) (some (.norm,fr,H))=unw T O m h0 K (some (.norm,fr,H)):=rfl
theorem e265 (K:List KI) (id:Nat):unw T O m h0 (.blk id::K) (some (.ret,fr,H))=unw T O m h0 K (some (.ret,fr,H)):=rfl
theorem e266 (K:List KI) (id j:Nat):unw T O m h0 (.blk id::K) (some (.exit j,fr,H))=if j=id then unw T O m h0 K (some (.norm,fr,H)) else unw T O m h0 K (some (.exit j,fr,H)):=zhv id j
theorem e267 (K:List KI) (live:List Nat) (a:MC) (n:Nat):unw T O m h0 (.rounds live a n::K) (some (.norm,fr,H))=unw T O m h0 K (iter h0 live (exec T O m h0 a) n fr H):=rfl
theorem e268 (K:List KI) (live:List Nat) (a:MC) (n:Nat):unw T O m h0 (.rounds live a n::K) (some (.ret,fr,H))=unw T O m h0 K (some (.ret,fr,H)):=rfl
theorem e269 (K:List KI) (live:List Nat) (a:MC) (n j:Nat):unw T O m h0 (.rounds live a n::K) (some (.exit j,fr,H))=unw T O m h0 K (some (.exit j,fr,H)):=rfl
theorem e270 (p:Ex×Fr×Hp):unw T O m h0 [] (some p)=some p:=rfl
theorem e271 (live:List Nat) (a:MC):exec T O m h0 (.loop live a) fr H=iter h0 live (exec T O m h0 a) m fr H:=rfl
theorem e272:exec T O m h0 .ret fr H=some (.ret,fr,H):=rfl
theorem e273:exec T O m h0 .skip fr H=some (.norm,fr,H):=rfl
theorem e274 (id:Nat):exec T O m h0 (.exit id) fr H=some (.exit id,fr,H):=rfl
theorem e275 (l:List MO):exec T O m h0 (.reg l) fr H=runO T O l fr H:=rfl
theorem e276 (l:List MO):exec T O m h0 (.dreg l []) fr H=runO T O l fr H:=zhx l
theorem e277:runO T O [] fr H=some (.norm,fr,H):=rfl
theorem e278 (l:List MO) (d:Option Nat) (op:MOp):runO T O (⟨d,op,none⟩::l) fr H=goP T O l fr d (ev T O fr H op):=zhz l d op
theorem e279 (l:List MO) (d:Option Nat) (op:MOp) (g:Nat) (want:Bool):runO T O (⟨d,op,some (g,want)⟩::l) fr H=onG T O d op want l fr H (get g fr):=runO_g l d op g want
theorem e280 (d:Nat) (op:MOp) (b want:Bool) (l:List MO):onG T O (some d) op want l fr H (.bool b)=if b=want then goP T O l fr (some d) (ev T O fr H op) else runO T O l ((d,V.tup [])::fr) H:=rfl
theorem e281 (op:MOp) (b want:Bool) (l:List MO):onG T O none op want l fr H (.bool b)=if b=want then goP T O l fr none (ev T O fr H op) else runO T O l fr H:=rfl
theorem e282 (d:Nat) (op:MOp) (want:Bool) (l:List MO):onG T O (some d) op want l fr H (.tup [])=runO T O l ((d,V.tup [])::fr) H:=rfl
theorem e283 (op:MOp) (want:Bool) (l:List MO):onG T O none op want l fr H (.tup [])=runO T O l fr H:=rfl
theorem e284 (l:List MO) (d:Nat) (v:V):goP T O l fr (some d) (some (v,H))=runO T O l ((d,v)::fr) H:=rfl
theorem e285 (l:List MO) (v:V):goP T O l fr none (some (v,H))=runO T O l fr H:=rfl
theorem e286 (res:List MRes) (rets:List (List Nat)):fin res rets (some (.ret,fr,H))=(resL fr H res).bind fun l=>(outT rets H l).bind fun q=>some q.1:=rfl
theorem e287 (res:List MRes) (rets:List (List Nat)):fin res rets (some (.norm,fr,H))=(resL fr H res).bind fun l=>(outT rets H l).bind fun q=>some q.1:=rfl
def kk11:=ai @e264<| ai @e265<| ai @e266<| ai @e267<| ai @e268<| ai @e269<| ai @e270<| ai @e271<| ai @e272<| ai @e273<| ai @e274<| ai @e275<| ai @e276<| ai @e277<| ai @e278<| ai @e279<| ai @e280<| ai @e281<| ai @e282<| ai @e283<| ai @e284<| ai @e285<| ai @e286<| @e287
theorem e288 (wk:Bool) (res:List MRes):finI h0 wk res (some (.ret,fr,H))=(resL fr H res).bind fun l=>some (trimK h0 H (wkL wk l)):=rfl
theorem e289 (wk:Bool) (res:List MRes):finI h0 wk res (some (.norm,fr,H))=(resL fr H res).bind fun l=>some (trimK h0 H (wkL wk l)):=rfl
theorem e290 (xs:List V):between xs none none=xs:=rfl
theorem e291 (xs:List V) (l:Int):between xs (some l) none=xs.drop l.toNat:=rfl
theorem e292 (xs:List V) (h:Int):between xs none (some h)=xs.take h.toNat:=rfl
theorem e293 (xs:List V) (l h:Int):between xs (some l) (some h)=(xs.take h.toNat).drop l.toNat:=rfl
theorem e294 (xs:List V) (off len:Nat):cut xs off len 1=xs.drop off:=cut1 xs off len
theorem e295 (xs:List V) (off len:Nat):cut xs off len 0=(xs.drop off).take len:=cut0 xs off len
theorem e296 (xs:List V) (off len:Nat):cut xs off len 2=(xs.drop off).take len:=cut2 xs off len
theorem e297:trace T O fr H []=[(fr,H)]:=rfl
theorem e298 (o:MO) (l:List MO):trace T O fr H (o::l)=(fr,H)::traceK T O l (step T O fr H o):=zic o l
theorem e299 (l:List MO):traceK T O l (some (fr,H))=trace T O fr H l:=rfl
theorem e300 (d:Option Nat) (op:MOp):step T O fr H ⟨d,op,none⟩=stepK fr d (ev T O fr H op):=step_n d op
theorem e301 (d:Option Nat) (op:MOp) (g:Nat) (want:Bool):step T O fr H ⟨d,op,some (g,want)⟩=stepG T O d op want fr H (get g fr):=step_g d op g want
theorem e302 (d:Nat) (v:V):stepK fr (some d) (some (v,H))=some ((d,v)::fr,H):=rfl
theorem e303 (v:V):stepK fr none (some (v,H))=some (fr,H):=rfl
theorem e304 (d:Nat) (op:MOp) (b want:Bool):stepG T O (some d) op want fr H (.bool b)=if b=want then stepK fr (some d) (ev T O fr H op) else some ((d,V.tup [])::fr,H):=rfl
theorem e305 (op:MOp) (b want:Bool):stepG T O none op want fr H (.bool b)=if b=want then stepK fr none (ev T O fr H op) else some (fr,H):=rfl
theorem e306 (d:Nat) (op:MOp) (want:Bool):stepG T O (some d) op want fr H (.tup [])=some ((d,V.tup [])::fr,H):=rfl
theorem e307 (op:MOp) (want:Bool):stepG T O none op want fr H (.tup [])=some (fr,H):=rfl
theorem e308 (d:Option Nat) (op:MOp):stepV T O fr H ⟨d,op,none⟩=ev T O fr H op:=rfl
theorem e309 (d:Option Nat) (op:MOp) (g:Nat) (want:Bool):stepV T O fr H ⟨d,op,some (g,want)⟩=vG T O op want fr H (get g fr):=zid d op g want
theorem e310 (op:MOp) (b want:Bool):vG T O op want fr H (.bool b)=if b=want then ev T O fr H op else some (.tup [],H):=rfl
theorem e311 (op:MOp) (want:Bool):vG T O op want fr H (.tup [])=some (.tup [],H):=rfl
def kk12:=ai @e288<| ai @e289<| ai @e290<| ai @e291<| ai @e292<| ai @e293<| ai @e294<| ai @e295<| ai @e296<| ai @e297<| ai @e298<| ai @e299<| ai @e300<| ai @e301<| ai @e302<| ai @e303<| ai @e304<| ai @e305<| ai @e306<| ai @e307<| ai @e308<| ai @e309<| ai @e310<| @e311
theorem e312 (tr:List (Fr×Hp)) (l:List MO) (r e:Nat) (c:List (Nat×Nat)):allSame T O tr l ((r,e)::c)=(sameAt T O tr l r e/\sameAt T O tr l r (e+1)/\allSame T O tr l c):=rfl
theorem e313 (tr:List (Fr×Hp)) (l:List MO) (r e:Nat):sameAt T O tr l r e=sameK T O tr[r]? tr[e]? l[r]? :=zif tr l r e
theorem e314 (f f2:Fr) (h h2:Hp) (o:MO):sameK T O (some (f,h)) (some (f2,h2)) (some o)=sameV h (stepV T O f h o) h2 (stepV T O f h2 o):=rfl
theorem e315 (v v2:V) (h h1 h2 h3:Hp):sameV h (some (v,h1)) h2 (some (v2,h3))=(h1=h/\h3=h2/\v2=v):=rfl
theorem e316:runC T O [] fr H=some (.norm,fr,H):=zjl
theorem e317 (l:List MO) (d:Option Nat) (op:MOp):runC T O (⟨d,op,none⟩::l) fr H=goC T O l fr H d (ev T O fr H op):=zjo l d op
theorem e318 (l:List MO) (d:Option Nat) (op:MOp) (g:Nat) (want:Bool):runC T O (⟨d,op,some (g,want)⟩::l) fr H=onC T O d op want l fr H (get g fr):=runC_g l d op g want
theorem e319 (d:Nat) (op:MOp) (b want:Bool) (l:List MO):onC T O (some d) op want l fr H (.bool b)=if b=want then goC T O l fr H (some d) (ev T O fr H op) else runC T O l ((d,V.tup [])::fr) H:=rfl
theorem e320 (op:MOp) (b want:Bool) (l:List MO):onC T O none op want l fr H (.bool b)=if b=want then goC T O l fr H none (ev T O fr H op) else runC T O l fr H:=rfl
theorem e321 (d:Nat) (op:MOp) (want:Bool) (l:List MO):onC T O (some d) op want l fr H (.tup [])=runC T O l ((d,V.tup [])::fr) H:=rfl
theorem e322 (op:MOp) (want:Bool) (l:List MO):onC T O none op want l fr H (.tup [])=runC T O l fr H:=rfl
theorem e323 (l:List MO) (d:Nat) (v:V):goC T O l fr H (some d) (some (v,H))=runC T O l ((d,v)::fr) H:=zjs l (some d) v
theorem e324 (l:List MO) (v:V):goC T O l fr H none (some (v,H))=runC T O l fr H:=zjs l none v
theorem e325 (live:List Nat):canon h0 live fr H=canonK h0 H (live.map fun t=>(t,get t fr)):=rfl
theorem e326 (vs:Fr):canonK h0 H vs=canonO h0 H vs (reach h0 H H.length (addNew [] (vs.flatMap (fun p=>idsV h0 p.2)++(H.take h0).flatMap (idsB h0)))):=rfl
theorem e327 (vs:Fr) (ord:List Nat):canonO h0 H vs ord=(vs.map fun p=>(p.1,ren h0 ord H p.2),(H.take h0).map (renB h0 ord H false)++ord.map fun i=>renB h0 ord H true (H.getD i .dead)):=rfl
theorem e328 (v:V):idsV h0 v=(leaves v).flatMap (ids1 h0):=rfl
theorem e329 (k:IntKind) (n:Int):ids1 h0 (.int k n)=[]:=rfl
theorem e330 (b:Bool):ids1 h0 (.bool b)=[]:=rfl
theorem e331 (l:List Int):ids1 h0 (.str l)=[]:=rfl
theorem e332 (z:Bool) (xs:List V):ids1 h0 (.sl z xs)=[]:=rfl
theorem e333:ids1 h0 (.nilp)=[]:=rfl
theorem e334:ids1 h0 (.nilf)=[]:=rfl
theorem e335:ids1 h0 (.nili)=[]:=rfl
def kk13:=ai @e312<| ai @e313<| ai @e314<| ai @e315<| ai @e316<| ai @e317<| ai @e318<| ai @e319<| ai @e320<| ai @e321<| ai @e322<| ai @e323<| ai @e324<| ai @e325<| ai @e326<| ai @e327<| ai @e328<| ai @e329<| ai @e330<| ai @e331<| ai @e332<| ai @e333<| ai @e334<| @e335
theorem e336:ids1 h0 (.junk)=[]:=rfl
theorem e337 (vs:List V):ids1 h0 (.tup vs)=[]:=rfl
theorem e338 (vs:List V):ids1 h0 (.rp vs)=[]:=rfl
theorem e339 (t:Nat) (v:V):ids1 h0 (.ifc t v)=[]:=rfl
theorem e340 (id v o l mm:Nat):ids1 h0 (.vw id v o l mm)=if h0<=id then [id] else []:=rfl
theorem e341 (id o:Nat):ids1 h0 (.ptr id o)=if h0<=id then [id] else []:=rfl
theorem e342 (id v o l:Nat):ids1 h0 (.ep id v o l)=if h0<=id then [id] else []:=rfl
theorem e343 (f:Nat) (cs:List V):ids1 h0 (.fn f cs)=cs.flatMap (idC h0):=rfl
theorem e344 (cs:List V):ids1 h0 (.psl cs)=cs.flatMap (idF h0):=rfl
theorem e345 (id:Nat):ids1 h0 (.dp id)=if h0<=id then [id] else []:=rfl
theorem e346 (f:Nat) (cs:List V):idF h0 (.fn f cs)=cs.flatMap (idC h0):=rfl
theorem e347 (k:IntKind) (n:Int):idC h0 (.int k n)=[]:=rfl
theorem e348 (k:IntKind) (n:Int):idF h0 (.int k n)=[]:=rfl
theorem e349 (b:Bool):idC h0 (.bool b)=[]:=rfl
theorem e350 (b:Bool):idF h0 (.bool b)=[]:=rfl
theorem e351 (l:List Int):idC h0 (.str l)=[]:=rfl
theorem e352 (l:List Int):idF h0 (.str l)=[]:=rfl
theorem e353 (z:Bool) (xs:List V):idC h0 (.sl z xs)=[]:=rfl
theorem e354 (z:Bool) (xs:List V):idF h0 (.sl z xs)=[]:=rfl
theorem e355:idC h0 (.nilp)=[]:=rfl
theorem e356:idF h0 (.nilp)=[]:=rfl
theorem e357:idC h0 (.nilf)=[]:=rfl
theorem e358:idF h0 (.nilf)=[]:=rfl
theorem e359:idC h0 (.nili)=[]:=rfl
def kk14:=ai @e336<| ai @e337<| ai @e338<| ai @e339<| ai @e340<| ai @e341<| ai @e342<| ai @e343<| ai @e344<| ai @e345<| ai @e346<| ai @e347<| ai @e348<| ai @e349<| ai @e350<| ai @e351<| ai @e352<| ai @e353<| ai @e354<| ai @e355<| ai @e356<| ai @e357<| ai @e358<| @e359
theorem e360:idF h0 (.nili)=[]:=rfl
theorem e361 (id:Nat):idC h0 (.mp id)=[]:=rfl
theorem e362 (id:Nat):idF h0 (.mp id)=[]:=rfl
theorem e363:idC h0 (.any)=[]:=rfl
theorem e364:idF h0 (.any)=[]:=rfl
theorem e365 (id o:Nat):idC h0 (.ptr id o)=if h0<=id then [id] else []:=rfl
theorem e366 (id:Nat):idC h0 (.dp id)=if h0<=id then [id] else []:=rfl
theorem e367 (id o:Nat):idF h0 (.ptr id o)=if h0<=id then [id] else []:=rfl
theorem e368 (id:Nat):idF h0 (.dp id)=if h0<=id then [id] else []:=rfl
theorem e369 (id:Nat):leaves (.dp id)=[.dp id]:=rfl
theorem e370 (id:Nat):good (.dp id)=true:=rfl
theorem e371 (id:Nat):visnil H 1 (.dp id)=some false:=rfl
theorem e372 (ord:List Nat) (id:Nat):renC h0 ord (.dp id)=match place h0 ord id with | some j=> .dp j | none=> .junk:=rfl
theorem e373 (ord:List Nat) (id:Nat):ren1 h0 ord H (.dp id)=renC h0 ord (.dp id):=rfl
theorem e374 (ord:List Nat) (id:Nat):ren h0 ord H (.dp id)=renC h0 ord (.dp id):=rfl
theorem e375 (ord:List Nat) (f:Nat) (cs:List V):renF h0 ord (.fn f cs)=if goods (cs.map (renC h0 ord))=true then .fn f (cs.map (renC h0 ord)) else .junk:=rfl
theorem e376 (ord:List Nat) (id off:Nat):renF h0 ord (.ptr id off)=renC h0 ord (.ptr id off):=rfl
theorem e377 (ord:List Nat) (id:Nat):renF h0 ord (.dp id)=renC h0 ord (.dp id):=rfl
theorem e378 (ord:List Nat):renF h0 ord .nilp= .nilp:=rfl
theorem e379 (d:Dk):idsB h0 (.dsk d)=[]:=rfl
theorem e380 (ord:List Nat) (rs:Bool) (d:Dk):renB h0 ord H rs (.dsk d)= .dsk d:=rfl
theorem e381:leaves .junk=[.junk]:=rfl
theorem e382 (vs:List V):leaves (.tup vs)=[.tup vs]:=rfl
theorem e383 (cs:List V):idsB h0 (.box cs)=cs.flatMap (ids1 h0):=rfl
def kk15:=ai @e360<| ai @e361<| ai @e362<| ai @e363<| ai @e364<| ai @e365<| ai @e366<| ai @e367<| ai @e368<| ai @e369<| ai @e370<| ai @e371<| ai @e372<| ai @e373<| ai @e374<| ai @e375<| ai @e376<| ai @e377<| ai @e378<| ai @e379<| ai @e380<| ai @e381<| ai @e382<| @e383
theorem e384 (v sz:Nat) (z x:Bool) (xs:List V):idsB h0 (.row v z sz xs x)=[]:=rfl
theorem e385:idsB h0 .dead=[]:=rfl
theorem e386 (seen:List Nat):addNew seen []=seen:=rfl
theorem e387 (seen l:List Nat) (i:Nat):addNew seen (i::l)=if i∈seen then addNew seen l else addNew (seen++[i]) l:=rfl
theorem e388 (seen:List Nat):reach h0 H 0 seen=seen:=rfl
theorem e389 (n:Nat) (seen:List Nat):reach h0 H (n+1) seen=reachK h0 H n seen (addNew seen (seen.flatMap fun i=>match H[i]? with | some b=>idsB h0 b | none=>[])):=rfl
theorem e390 (n:Nat) (seen more:List Nat):reachK h0 H n seen more=if more.length=seen.length then seen else reach h0 H n more:=rfl
theorem e391 (i:Nat):pos i []=none:=rfl
theorem e392 (i j:Nat) (l:List Nat):pos i (j::l)=if i=j then some 0 else (pos i l).map (· +1):=rfl
theorem e393 (ord:List Nat) (i:Nat):place h0 ord i=if i<h0 then some i else (pos i ord).map (h0+ ·):=rfl
theorem e394 (ord:List Nat) (id off:Nat):renC h0 ord (.ptr id off)=match place h0 ord id with | some j=> .ptr j off | none=> .junk:=rfl
theorem e395 (ord:List Nat) (k:IntKind) (n:Int):renC h0 ord (.int k n)= .int k n:=rfl
theorem e396 (ord:List Nat) (k:IntKind) (n:Int):ren1 h0 ord H (.int k n)= .int k n:=rfl
theorem e397 (ord:List Nat) (k:IntKind) (n:Int):ren h0 ord H (.int k n)= .int k n:=rfl
theorem e398 (ord:List Nat) (b:Bool):renC h0 ord (.bool b)= .bool b:=rfl
theorem e399 (ord:List Nat) (b:Bool):ren1 h0 ord H (.bool b)= .bool b:=rfl
theorem e400 (ord:List Nat) (b:Bool):ren h0 ord H (.bool b)= .bool b:=rfl
theorem e401 (ord:List Nat) (l:List Int):renC h0 ord (.str l)= .str l:=rfl
theorem e402 (ord:List Nat) (l:List Int):ren1 h0 ord H (.str l)= .str l:=rfl
theorem e403 (ord:List Nat) (l:List Int):ren h0 ord H (.str l)= .str l:=rfl
theorem e404 (ord:List Nat) (z:Bool) (xs:List V):renC h0 ord (.sl z xs)= .sl z xs:=rfl
theorem e405 (ord:List Nat) (z:Bool) (xs:List V):ren1 h0 ord H (.sl z xs)= .sl z xs:=rfl
theorem e406 (ord:List Nat) (z:Bool) (xs:List V):ren h0 ord H (.sl z xs)= .sl z xs:=rfl
theorem e407 (ord:List Nat)  :renC h0 ord (.nilp)= .nilp:=rfl
def kk16:=ai @e384<| ai @e385<| ai @e386<| ai @e387<| ai @e388<| ai @e389<| ai @e390<| ai @e391<| ai @e392<| ai @e393<| ai @e394<| ai @e395<| ai @e396<| ai @e397<| ai @e398<| ai @e399<| ai @e400<| ai @e401<| ai @e402<| ai @e403<| ai @e404<| ai @e405<| ai @e406<| @e407
theorem e408 (ord:List Nat)  :ren1 h0 ord H (.nilp)= .nilp:=rfl
theorem e409 (ord:List Nat)  :ren h0 ord H (.nilp)= .nilp:=rfl
theorem e410 (ord:List Nat)  :renC h0 ord (.nilf)= .nilf:=rfl
theorem e411 (ord:List Nat)  :ren1 h0 ord H (.nilf)= .nilf:=rfl
theorem e412 (ord:List Nat)  :ren h0 ord H (.nilf)= .nilf:=rfl
theorem e413 (ord:List Nat)  :renC h0 ord (.nili)= .nili:=rfl
theorem e414 (ord:List Nat)  :ren1 h0 ord H (.nili)= .nili:=rfl
theorem e415 (ord:List Nat)  :ren h0 ord H (.nili)= .nili:=rfl
theorem e416 (ord:List Nat) (id off:Nat):ren1 h0 ord H (.ptr id off)=renC h0 ord (.ptr id off):=rfl
theorem e417 (ord:List Nat)  :ren1 h0 ord H (.junk)= .junk:=rfl
theorem e418 (ord:List Nat) (vs:List V):ren1 h0 ord H (.tup vs)= .junk:=rfl
theorem e419 (ord:List Nat) (vs:List V):ren1 h0 ord H (.rp vs)= .junk:=rfl
theorem e420 (ord:List Nat) (t:Nat) (v:V):ren1 h0 ord H (.ifc t v)= .junk:=rfl
theorem e421 (ord:List Nat) (id ver off len md:Nat):ren1 h0 ord H (.vw id ver off len md)=if id<h0 then .vw id ver off len md else match row? H id ver,place h0 ord id with | some _,some j=> .vw j 0 off len md | _,_=> .junk:=rfl
theorem e422 (ord:List Nat) (id ver i k:Nat):ren1 h0 ord H (.ep id ver i k)=if id<h0 then .ep id ver i k else match row? H id ver,place h0 ord id with | some _,some j=> .ep j 0 i k | _,_=> .junk:=rfl
theorem e423 (ord:List Nat) (f:Nat) (cs:List V):ren1 h0 ord H (.fn f cs)=if goods (cs.map (renC h0 ord))=true then .fn f (cs.map (renC h0 ord)) else .junk:=rfl
theorem e424 (ord:List Nat) (cs:List V):ren1 h0 ord H (.psl cs)=if goods (cs.map (renF h0 ord))=true then .psl (cs.map (renF h0 ord)) else .junk:=rfl
theorem e425 (ord:List Nat) (id off:Nat):ren h0 ord H (.ptr id off)=renC h0 ord (.ptr id off):=rfl
theorem e426 (ord:List Nat)  :ren h0 ord H (.junk)= .junk:=rfl
theorem e427 (ord:List Nat) (vs:List V):ren h0 ord H (.tup vs)= .junk:=rfl
theorem e428 (ord:List Nat) (vs:List V):ren h0 ord H (.rp vs)= .junk:=rfl
theorem e429 (ord:List Nat) (t:Nat) (v:V):ren h0 ord H (.ifc t v)= .junk:=rfl
theorem e430 (ord:List Nat) (id ver off len md:Nat):ren h0 ord H (.vw id ver off len md)=if id<h0 then .vw id ver off len md else match row? H id ver,place h0 ord id with | some _,some j=> .vw j 0 off len md | _,_=> .junk:=rfl
theorem e431 (ord:List Nat) (id ver i k:Nat):ren h0 ord H (.ep id ver i k)=if id<h0 then .ep id ver i k else match row? H id ver,place h0 ord id with | some _,some j=> .ep j 0 i k | _,_=> .junk:=rfl
def kk17:=ai @e408<| ai @e409<| ai @e410<| ai @e411<| ai @e412<| ai @e413<| ai @e414<| ai @e415<| ai @e416<| ai @e417<| ai @e418<| ai @e419<| ai @e420<| ai @e421<| ai @e422<| ai @e423<| ai @e424<| ai @e425<| ai @e426<| ai @e427<| ai @e428<| ai @e429<| ai @e430<| @e431
theorem e432 (ord:List Nat) (f:Nat) (cs:List V):ren h0 ord H (.fn f cs)=if goods (cs.map (renC h0 ord))=true then .fn f (cs.map (renC h0 ord)) else .junk:=rfl
theorem e433 (ord:List Nat) (cs:List V):ren h0 ord H (.psl cs)=if goods (cs.map (renF h0 ord))=true then .psl (cs.map (renF h0 ord)) else .junk:=rfl
theorem e434 (ord:List Nat) (cs:List V):ren h0 ord H (.agg cs)=if goods (cs.map (ren1 h0 ord H))=true then .agg (cs.map (ren1 h0 ord H)) else .junk:=rfl
theorem e435 (ord:List Nat) (rs:Bool) (cs:List V):renB h0 ord H rs (.box cs)=if goods (cs.map (ren1 h0 ord H))=true then .box (cs.map (ren1 h0 ord H)) else .dead:=rfl
theorem e436 (ord:List Nat) (rs z x:Bool) (ver sz:Nat) (xs:List V):renB h0 ord H rs (.row ver z sz xs x)= .row (if rs=true then 0 else ver) z sz xs x:=rfl
theorem e437 (ord:List Nat) (rs:Bool):renB h0 ord H rs .dead= .dead:=rfl
theorem e438 {α:Type} (a:List α):a.isEmpty=decide (a.length=0):=by cases a<;>simp
theorem e439:u8s []=true:=rfl
theorem e440 (n:Int) (l:List V):u8s (.int .u8 n::l)=u8s l:=rfl
theorem e441 (x:MArg) (zero:V):ev T O fr H (.clr x zero)=clrV H (x.val fr) zero:=rfl
theorem e442 (zero:V) (id ver off len md:Nat):clrV H (.vw id ver off len md) zero=(row? H id ver).bind fun r=>if r.2.2.2=true then (if (leaves zero).length=r.2.1 then some (.tup [],H.set id (.row ver r.1 r.2.1 (r.2.2.1.take off++List.replicate len zero++r.2.2.1.drop (off+len)) true)) else none) else none:=by cases hr:row? H id ver with | none=>simp [clrV,hr] | some r=>simp only [clrV,hr,y4];by_cases h1:r.2.2.2=true<;>by_cases h2:(leaves zero).length=r.2.1<;>simp [h1,h2]
theorem e443:ev T O fr H (.mkmap)=some (.mp H.length,H++[.map []]):=rfl
theorem e444 (x k:MArg):ev T O fr H (.mlook x k)=mlookV H (x.val fr) (k.val fr):=rfl
theorem e445 (x k v:MArg):ev T O fr H (.mput x k v)=mputV H (x.val fr) (k.val fr) (v.val fr):=rfl
theorem e446 (id:Nat) (n:Int):mlookV H (.mp id) (.int .i64 n)=match H[id]? with | some (.map e)=>some (.int .i64 (mget e n),H) | _=>none:=by unfold mlookV mapOf;simp only [mpId,intOf,y4];cases H[id]? with | none=>rfl | some b=>cases b<;>rfl
theorem e447 (id:Nat) (n y:Int):mputV H (.mp id) (.int .i64 n) (.int .i64 y)=match H[id]? with | some (.map e)=>some (.tup [],H.set id (.map (mset e n y))) | _=>none:=by unfold mputV mapOf;simp only [mpId,intOf,y4];cases H[id]? with | none=>rfl | some b=>cases b<;>rfl
theorem e448 (id:Nat):leaves (.mp id)=[.mp id]:=rfl
theorem e449 (id:Nat):good (.mp id)=true:=rfl
theorem e450 (id:Nat):ids1 h0 (.mp id)=if h0<=id then [id] else []:=rfl
theorem e451 (m:List (Int×Int)):idsB h0 (.map m)=[]:=rfl
theorem e452 (ord:List Nat) (id:Nat):renC h0 ord (.mp id)=match place h0 ord id with | some j=> .mp j | none=> .junk:=rfl
theorem e453 (ord:List Nat) (id:Nat):ren1 h0 ord H (.mp id)=renC h0 ord (.mp id):=rfl
theorem e454 (ord:List Nat) (id:Nat):ren h0 ord H (.mp id)=renC h0 ord (.mp id):=rfl
theorem e455 (ord:List Nat) (rs:Bool) (m:List (Int×Int)):renB h0 ord H rs (.map m)= .map m:=rfl
def kk18:=ai @e432<| ai @e433<| ai @e434<| ai @e435<| ai @e436<| ai @e437<| ai @e438<| ai @e439<| ai @e440<| ai @e441<| ai @e442<| ai @e443<| ai @e444<| ai @e445<| ai @e446<| ai @e447<| ai @e448<| ai @e449<| ai @e450<| ai @e451<| ai @e452<| ai @e453<| ai @e454<| @e455
theorem e456 (l:List V):trimK h0 H l=trimO h0 H l (reach h0 H H.length (addNew [] (l.flatMap (idsV h0)++(H.take h0).flatMap (idsB h0)))):=rfl
theorem e457 (l:List V) (ord:List Nat):trimO h0 H l ord=(l.map (ren h0 ord H),(H.take h0).map (renB h0 ord H false)++ord.map fun i=>renB h0 ord H true (H.getD i .dead)):=rfl
theorem e458 (l:List V):wkL false l=l:=rfl
theorem e459:wkL true []=[]:=rfl
theorem e460 (v:V) (l:List V):wkL true (v::l)=weaken v::wkL true l:=rfl
theorem e461 (k:IntKind) (n:Int):weaken (.int k n)= .int k n:=rfl
theorem e462 (b:Bool):weaken (.bool b)= .bool b:=rfl
theorem e463 (l:List Int):weaken (.str l)= .str l:=rfl
theorem e464 (l:List V):weaken (.agg l)= .agg l:=rfl
theorem e465 (z:Bool) (xs:List V):weaken (.sl z xs)= .sl z xs:=rfl
theorem e466 (i o:Nat):weaken (.ptr i o)= .ptr i o:=rfl
theorem e467 (i v o n:Nat):weaken (.vw i v o n 0)= .vw i v o n 0:=rfl
theorem e468 (i v o n:Nat):weaken (.vw i v o n 2)= .vw i v o n 2:=rfl
theorem e469 (i v o n:Nat):weaken (.vw i v o n 1)= .vw i v o n 0:=rfl
theorem e470:ev T O fr H (.mkpm)=some (.mp H.length,H++[.pmap []]):=rfl
theorem e471 (x k:MArg):ev T O fr H (.plook x k)=plookV H (x.val fr) (k.val fr):=rfl
theorem e472 (x k v:MArg):ev T O fr H (.pput x k v)=pputV H (x.val fr) (k.val fr) (v.val fr):=rfl
theorem e473 (x y:MArg):ev T O fr H (.papp x y)=pappV H (x.val fr) (y.val fr):=rfl
theorem e474 (id:Nat) (n:Int):plookV H (.mp id) (.int .i64 n)=match H[id]? with | some (.pmap e)=>some (pget e n,H) | _=>none:=by unfold plookV pmapOf;simp only [mpId,intOf,y4];cases H[id]? with | none=>rfl | some b=>cases b<;>rfl
theorem e475 (id:Nat) (n:Int) (v:V):pputV H (.mp id) (.int .i64 n) v=match H[id]? with | some (.pmap e)=>(if good v=true then some (.tup [],H.set id (.pmap (pset e n v))) else none) | _=>none:=by unfold pputV pmapOf;simp only [mpId,intOf,y4];cases H[id]? with | none=>rfl | some b=>cases b<;>rfl
theorem e476 (ys:List V):pappV H (.sl true []) (.psl ys)=if ys.length<=most then some (.any,H) else none:=rfl
theorem e477:leaves .any=[.any]:=rfl
theorem e478:good .any=true:=rfl
theorem e479:ids1 h0 .any=[]:=rfl
def kk19:=ai @e456<| ai @e457<| ai @e458<| ai @e459<| ai @e460<| ai @e461<| ai @e462<| ai @e463<| ai @e464<| ai @e465<| ai @e466<| ai @e467<| ai @e468<| ai @e469<| ai @e470<| ai @e471<| ai @e472<| ai @e473<| ai @e474<| ai @e475<| ai @e476<| ai @e477<| ai @e478<| @e479
theorem e480 (ord:List Nat):renC h0 ord .any= .any:=rfl
theorem e481 (ord:List Nat):ren1 h0 ord H .any= .any:=rfl
theorem e482 (ord:List Nat):ren h0 ord H .any= .any:=rfl
theorem e483 (m:List (Int×V)):idsB h0 (.pmap m)=m.flatMap fun p=>ids1 h0 p.2:=rfl
theorem e484 (ord:List Nat) (rs:Bool) (m:List (Int×V)):renB h0 ord H rs (.pmap m)=if goods (m.map fun p=>ren1 h0 ord H p.2)=true then .pmap (m.map fun p=>(p.1,ren1 h0 ord H p.2)) else .dead:=rfl
theorem e485 (n:Int):pget [] n= .nilp:=rfl
theorem e486 (k n:Int) (v:V) (e:List (Int×V)):pget ((k,v)::e) n=if n=k then v else pget e n:=rfl
theorem e487 (n:Int) (y:V):pset [] n y=[(n,y)]:=rfl
theorem e488 (k n:Int) (v y:V) (e:List (Int×V)):pset ((k,v)::e) n y=if n=k then (k,y)::e else (k,v)::pset e n y:=rfl
theorem e489 (i:Nat):weaken (.mp i)= .mp i:=rfl
theorem e490:weaken (.nilp)= .nilp:=rfl
theorem e491:weaken (.any)= .any:=rfl
theorem e492 (wk:Bool) (p:List V×Hp):finG h0 wk (some p)=some (trimK h0 p.2 (wkL wk p.1)):=rfl
theorem e493 (wk:Bool):finG h0 wk none=none:=rfl
theorem e494 (sz:Nat) (x:MArg):ev T O fr H (.mska sz x)=(mskaV (x.val fr)).bind fun v=>some (v,H):=rfl
theorem e495 (k:IntKind) (n:Int):mskaV (.int k n)=if 0<=n then (if n.toNat<=most then some .any else none) else none:=by unfold mskaV;by_cases h1:0<=n<;>by_cases h2:n.toNat<=most<;>simp [h1,h2]
def kk20:=ai @e480<| ai @e481<| ai @e482<| ai @e483<| ai @e484<| ai @e485<| ai @e486<| ai @e487<| ai @e488<| ai @e489<| ai @e490<| ai @e491<| ai @e492<| ai @e493<| ai @e494<| @e495
end
theorem kn0:(∀{α β:Type} {f:α->β} {l:List α} {i:Nat},List.map f (List.drop i l)=List.drop i (List.map f l))/\
 (∀{α β:Type} {f:α->β} {l:List α} {i:Nat},List.map f (List.take i l)=List.take i (List.map f l))/\
 (∀{α β:Type} {f:α->β} {l₁ l₂:List α},List.map f (l₁++l₂)=List.map f l₁++List.map f l₂)/\
 (∀{α β:Type} {f:α->β} {a:α} {l:List α},List.map f (a::l)=f a::List.map f l)/\
 (∀{α β:Type} {f:α->β},List.map f []=[])/\
 (∀{α β:Type} {f:α->β} {l:List α} {i:Nat} {a:α},List.map f (List.set l i a)=List.set (List.map f l) i (f a))/\
 (∀{n:Nat} {α:Type} {a:α} {α_1:Type} {f:α->α_1},List.map f (List.replicate n a)=List.replicate n (f a))/\
 (∀{α β:Type} {as:List α} (f:α->β),List.length (List.map f as)=List.length as)/\
 (∀{α:Type} {i:Nat} {l:List α},List.length (List.drop i l)=List.length l - i)/\
 (∀{α:Type} {i:Nat} {l:List α},List.length (List.take i l)=min i (List.length l))/\
 (∀{α:Type} {as bs:List α},List.length (as++bs)=List.length as+List.length bs)/\
 (∀{α:Type} {a:α} {as:List α},List.length (a::as)=List.length as+(1:Nat))/\
 (∀{α:Type},List.length ([]:List α)=(0:Nat))/\
 (∀{α:Type} {as:List α} {i:Nat} {a:α},List.length (List.set as i a)=List.length as)/\
 (∀{α:Type} {n:Nat} {a:α},List.length (List.replicate n a)=n)/\
 (∀{α:Type} {l:List α},List.drop (0:Nat) l=l)/\
 (∀{α:Type} {a:α} {l:List α} {i:Nat},List.drop (i+(1:Nat)) (a::l)=List.drop i l)/\
 (∀{α:Type} {i:Nat},List.drop i ([]:List α)=[])/\
 (∀{α:Type} {i:Nat},List.take i ([]:List α)=[])/\
 (∀{α:Type} {a:α} {as:List α} {i:Nat},List.take (i+(1:Nat)) (a::as)=a::List.take i as):=
 ⟨@List.map_drop.{0,0},@List.map_take.{0,0},@List.map_append.{0,0},@List.map_cons.{0,0},@List.map_nil.{0,0},@List.map_set.{0,0},@List.map_replicate.{0,0},@List.length_map.{0,0},@List.length_drop.{0},@List.length_take.{0},@List.length_append.{0},@List.length_cons.{0},@List.length_nil.{0},@List.length_set.{0},@List.length_replicate.{0},@List.drop_zero.{0},@List.drop_succ_cons.{0},@List.drop_nil.{0},@List.take_nil.{0},@List.take_succ_cons.{0}⟩
theorem kn1:(∀{α:Type} {l:List α},List.take (0:Nat) l=[])/\
 (∀{α:Type} (as:List α),as++[]=as)/\
 (∀{α:Type} (as:List α),[]++as=as)/\
 (∀{α:Type} {a:α} {as bs:List α},a::as++bs=a::(as++bs))/\
 (∀{α β:Type} {f:α->β} {l:List α} {i:Nat},(List.map f l)[i]? =Option.map f l[i]?)/\
 (∀{α:Type} {xs:List α} {i j:Nat},(List.drop i xs)[j]? =xs[i+j]?)/\
 (∀{α:Type} {a:α} {l:List α},(a::l)[(0:Nat)]? =some a)/\
 (∀{α:Type} {a:α} {i:Nat} {l:List α},(a::l)[i+(1:Nat)]? =l[i]?)/\
 (∀{α:Type} {i:Nat},([]:List α)[i]? =none)/\
 (∀{α:Type} {x:α} {xs:List α} {a:α},List.set (x::xs) (0:Nat) a=a::xs)/\
 (∀{α:Type} {x:α} {xs:List α} {i:Nat} {a:α},List.set (x::xs) (i+(1:Nat)) a=x::List.set xs i a)/\
 (∀{α:Type} {a:α} {l:List α} {f:α->Bool},List.all (a::l) f=(f a && List.all l f))/\
 (∀{α:Type} {f:α->Bool},List.all [] f=true)/\
 (∀{α β:Type} {x:α} {xs:List α} {f:α->List β},List.flatMap f (x::xs)=f x++List.flatMap f xs)/\
 (∀{α β:Type} {f:α->List β},List.flatMap f []=[])/\
 (∀{α:Type} {b:α} {l:List α} {a:α},a∈b::l<->a=b\/a∈l)/\
 (∀{α:Type} {a:α},¬a∈[])/\
 (∀{α:Type} {x:α} {xs:List α} {d:α},List.getD (x::xs) (0:Nat) d=x)/\
 (∀{α:Type} {x:α} {xs:List α} {n:Nat} {d:α},List.getD (x::xs) (n+(1:Nat)) d=List.getD xs n d)/\
 (∀{α:Type} {a:α} {l:List α} {d:α},List.headD (a::l) d=a):=
 ⟨@List.take_zero.{0},@List.append_nil.{0},@List.nil_append.{0},@List.cons_append.{0},@List.getElem?_map.{0,0},@List.getElem?_drop.{0},@List.getElem?_cons_zero.{0},@List.getElem?_cons_succ.{0},@List.getElem?_nil.{0},@List.set_cons_zero.{0},@List.set_cons_succ.{0},@List.all_cons.{0},@List.all_nil.{0},@List.flatMap_cons.{0,0},@List.flatMap_nil.{0,0},@List.mem_cons.{0},@List.not_mem_nil.{0},@List.getD_cons_zero.{0},@List.getD_cons_succ.{0},@List.headD_cons.{0}⟩
theorem kn2:(∀{α:Type} {d:α},List.headD [] d=d)/\
 (∀{α:Type} {a:α} {as:List α},List.tail (a::as)=as)/\
 (∀{α:Type},List.tail ([]:List α)=[])/\
 (∀(k:IntKind) (l:List Int),List.map num (List.map (V.int k) l)=l)/\
 (∀(l:List Int),u8s (List.map (V.int IntKind.u8) l)=true)/\
 (∀{n:Nat} {xs:List V},u8s xs=true->u8s (List.drop n xs)=true)/\
 (∀{n:Nat} {xs:List V},u8s xs=true->u8s (List.take n xs)=true)/\
 (∀{xs ys:List V},u8s xs=true->u8s ys=true->u8s (xs++ys)=true)/\
 (∀{n:Nat} {m:Int} {xs:List V},u8s xs=true->u8s (List.set xs n (V.int IntKind.u8 m))=true)/\
 (∀{n:Nat} {m:Int},u8s (List.replicate n (V.int IntKind.u8 m))=true)/\
 (∀{k:IntKind} {l:List Int},ints (List.map (V.int k) l))/\
 (∀{n:Nat} {k:IntKind} {m:Int} {xs:List V},ints xs->ints (List.set xs n (V.int k m)))/\
 (∀{n:Nat} {k:IntKind} {m:Int},ints (List.replicate n (V.int k m)))/\
 (∀{n:Nat} {xs:List V},ints xs->ints (List.take n xs))/\
 (∀{n:Nat} {xs:List V},ints xs->ints (List.drop n xs))/\
 (∀{xs ys:List V},ints xs->ints ys->ints (xs++ys))/\
 (∀{l:List V},ints l->goods l=true)/\
 (∀{l:List V},ints l->List.all l scalar=true)/\
 (∀{cs ls:List V},List.length ls=List.length cs->setAt cs (0:Nat) ls=ls)/\
 (∀{cs ls:List V},List.length ls<=List.length cs->setAt cs (0:Nat) ls=ls++List.drop (List.length ls) cs):=
 ⟨@List.headD_nil.{0},@List.tail_cons.{0},@List.tail_nil.{0},@zjc,@zii,@ziq,@zir,@zis,@zit,@ziu,@ziv,@ziy,@ziz,@zix,@ziw,@zi0,@zi2,@zi3,@zja,@zjb⟩
theorem kn3:(∀{H:Hp} {l:List V},ints l->shareL H l=some (l,H))/\
 (∀{H:Hp} {l:List V},ints l->outL [] H l=some (l,H))/\
 (∀{H:Hp} {l:List V},ints l->putL H l=(l,H))/\
 (∀{h0:Nat} {l:List V},ints l->List.flatMap (ids1 h0) l=[])/\
 (∀{h0:Nat} {ord:List Nat} {H:Hp} {l:List V},ints l->List.map (ren1 h0 ord H) l=l)/\
 (∀{α:Type} (e:α->V) (sz:Nat),(∀(a:α),List.length (leaves (e a))=sz)-> ∀(l:List α),sizes sz (List.map e l)=true)/\
 (∀{sz n:Nat} {xs:List V},sizes sz xs=true->sizes sz (List.drop n xs)=true)/\
 (∀{sz n:Nat} {xs:List V},sizes sz xs=true->sizes sz (List.take n xs)=true)/\
 (∀{sz:Nat} {xs ys:List V},sizes sz (xs++ys)=(sizes sz xs && sizes sz ys))/\
 (∀{sz n:Nat} {xs:List V} {v:V},sizes sz xs=true->List.length (leaves v)=sz->sizes sz (List.set xs n v)=true)/\
 (∀{sz n:Nat} {v:V},List.length (leaves v)=sz->sizes sz (List.replicate n v)=true)/\
 (∀{α β:Type} (a:α) (f:α->Option β),Option.bind (some a) f=f a)/\
 (∀{α β:Type} (f:α->Option β),Option.bind none f=none)/\
 (∀{α β:Type} (a:α) (f:α->β),Option.map f (some a)=some (f a))/\
 (∀{α β:Type} (f:α->β),Option.map f none=none)/\
 (∀{α:Type} (val val_1:α),(some val=some val_1)=(val=val_1))/\
 (∀{α β:Type} (fst:α) (snd:β) (fst_1:α) (snd_1:β),((fst,snd)=(fst_1,snd_1))=(fst=fst_1/\snd=snd_1))/\
 (∀(b:Bool),(b && true)=b)/\
 (∀(b:Bool),(true && b)=b)/\
 (∀(b:Bool),(b && false)=false):=
 ⟨@zi4,@zi5,@zi6,@zi7,@zi8,@zih,@zik,@zil,@zim,@zin,@zio,@Option.bind_some.{0,0},@Option.bind_none.{0,0},@Option.map_some.{0,0},@Option.map_none.{0,0},@Option.some.injEq.{0},@Prod.mk.injEq.{0,0},@Bool.and_true,@Bool.true_and,@Bool.and_false⟩
theorem kn4:(∀(b:Bool),(false && b)=false)/\
 ((!true)=false)/\
 ((!false)=true)/\
 (∀(b:Bool),(!!b)=b)/\
 (∀(b:Bool),((!b)=true)=(b=false))/\
 (∀(b:Bool),((!b)=false)=(b=true))/\
 (∀(a b:Bool),((a && b)=true)=(a=true/\b=true))/\
 (∀(a b:Bool),((a || b)=true)=(a=true\/b=true))/\
 (∀{p:Prop} [inst:Decidable p],(decide p=true)=p)/\
 (∀{p:Prop} {x:Decidable p},decide p=false<-> ¬p)/\
 (∀(b:Bool),(b || true)=true)/\
 (∀(b:Bool),(true || b)=true)/\
 (∀(b:Bool),(false || b)=b)/\
 (∀(b:Bool),(b || false)=b)/\
 (∀(h:Decidable True),decide True=true)/\
 (∀(h:Decidable False),decide False=false)/\
 (∀(p:Prop),(True/\p)=p)/\
 (∀(p:Prop),(p/\True)=p)/\
 ((¬True)=False)/\
 ((¬False)=True):=
 ⟨@Bool.false_and,@Bool.not_true,@Bool.not_false,@Bool.not_not,@Bool.not_eq_true',@Bool.not_eq_false',@Bool.and_eq_true,@Bool.or_eq_true,@decide_eq_true_eq,@decide_eq_false_iff_not,@Bool.or_true,@Bool.true_or,@Bool.false_or,@Bool.or_false,@decide_true,@decide_false,@true_and,@and_true,@not_true_eq_false,@not_false_eq_true⟩
theorem kn5:((false=true)=False)/\
 (∀(n:Nat),(0:Nat)+n=n)/\
 (∀(n:Nat),n+(0:Nat)=n)/\
 (∀(n:Nat),n - (0:Nat)=n)/\
 (∀(n:Nat),n*(1:Nat)=n)/\
 (∀(n:Nat),(0:Nat)*n=(0:Nat))/\
 (∀(n:Nat),Int.toNat ↑n=n)/\
 (∀(n:Nat),(0:Int)<= ↑n)/\
 (∀{α:Type} {a b:α},Option.getD (some a) b=a)/\
 (∀{α:Type} {a:α},Option.getD none a=a)/\
 (∀{α:Type} {a:α},Option.isNone (some a)=false)/\
 (∀{α:Type},Option.isNone (none:Option α)=true)/\
 (∀{α:Type} {a:α},Option.isSome (some a)=true)/\
 (∀(n:Nat),n<=n)/\
 (∀(n:Nat),(0:Nat)<=n)/\
 (∀(p:Prop),(p\/False)=p)/\
 (∀(p:Prop),(False\/p)=p)/\
 (∀(p:Prop),(p/\p)=p)/\
 (∀(p:Prop),(p\/p)=p)/\
 (Int.toNat (1:Int)=(1:Nat)):=
 ⟨@Bool.false_eq_true,@Nat.zero_add,@Nat.add_zero,@Nat.sub_zero,@Nat.mul_one,@Nat.zero_mul,@Int.toNat_natCast,@Int.natCast_nonneg,@Option.getD_some.{0},@Option.getD_none.{0},@Option.isNone_some.{0},@Option.isNone_none.{0},@Option.isSome_some.{0},@Nat.le_refl,@Nat.zero_le,@or_false,@false_or,@and_self,@or_self,@Int.toNat_one⟩
theorem kn6:(Int.toNat (0:Int)=(0:Nat))/\
 (∀(n:Nat),Nat.succ n≠n)/\
 (∀(a:Int),a<=a):=
 ⟨@Int.toNat_zero,@Nat.succ_ne_self,@Int.le_refl⟩
theorem kk:type_of% (ai kk0 (ai kk1 (ai kk2 (ai kk3 (ai kk4 (ai kk5 (ai kk6 (ai kk7 (ai kk8 (ai kk9 (ai kk10 (ai kk11 (ai kk12 (ai kk13 (ai kk14 (ai kk15 (ai kk16 (ai kk17 (ai kk18 (ai kk19 kk20)))))))))))))))))))):=(ai kk0 (ai kk1 (ai kk2 (ai kk3 (ai kk4 (ai kk5 (ai kk6 (ai kk7 (ai kk8 (ai kk9 (ai kk10 (ai kk11 (ai kk12 (ai kk13 (ai kk14 (ai kk15 (ai kk16 (ai kk17 (ai kk18 (ai kk19 kk20))))))))))))))))))))
theorem qa.{u} {α:Sort u} (a:α):(a=a)<->True:=eq_self_iff_true a
theorem qb.{u} (α:Sort u):(α->True)=True:=implies_true α
theorem qc.{u} {b:Prop} (α:Sort u) [Nonempty α]:(α->b)<->b:=forall_const α
theorem qd (n:Nat):((OfNat.ofNat n:Nat):Int)=OfNat.ofNat n:=Int.cast_ofNat_Int
theorem br {α:Type} {c:Prop} [Decidable c] {a b r:α} (h:(if c then a else b)=r):(c=True/\a=r)\/(c=False/\b=r):=by
 by_cases hc:c
 ·rw [if_pos hc] at h;exact .inl ⟨eq_true hc,h⟩
 ·rw [if_neg hc] at h;exact .inr ⟨eq_false hc,h⟩
theorem bn {α:Type} {c:Prop} [Decidable c] {a:Option α} {r:α} (h:(if c then a else none)=some r):c=True/\a=some r:=by
 by_cases hc:c
 ·rw [if_pos hc] at h;exact ⟨eq_true hc,h⟩
 ·rw [if_neg hc] at h;cases h
theorem bm {α:Type} {c:Prop} [Decidable c] {a:Option α} {r:α} (h:(if c then none else a)=some r):c=False/\a=some r:=by
 by_cases hc:c
 ·rw [if_pos hc] at h;cases h
 ·rw [if_neg hc] at h;exact ⟨eq_false hc,h⟩
theorem bc {α:Type} {c:Prop} [Decidable c] {a b r:α} (h:(if c then a else b)=r):(c/\a=r)\/(c=False/\b=r):=by
 by_cases hc:c
 ·rw [if_pos hc] at h;exact .inl ⟨hc,h⟩
 ·rw [if_neg hc] at h;exact .inr ⟨eq_false hc,h⟩
theorem bb {α:Type} {b:Bool} {x y r:α} (h:(if b=true then x else y)=r):((b=false)=False/\(b=true)=True/\x=r)\/((b=false)=True/\(b=true)=False/\y=r):=by
 cases b
 ·exact .inr ⟨eq_true rfl,eq_false (by decide),h⟩
 ·exact .inl ⟨eq_false (by decide),eq_true rfl,h⟩
theorem ob {α β:Type} {o:Option α} {f:α->Option β} {r:β} (h:o.bind f=some r): ∃x,o=some x/\f x=some r:=by
 cases o with
 | none=>cases h
 | some x=>exact ⟨x,rfl,h⟩
theorem kn:type_of% (ai (@qa.{1}) (ai (@qb.{0}) (ai (@qb.{1}) (ai (@qc.{0}) (ai (@qc.{1}) (ai qd (ai kn0 (ai kn1 (ai kn2 (ai kn3 (ai kn4 (ai kn5 kn6)))))))))))):=(ai (@qa.{1}) (ai (@qb.{0}) (ai (@qb.{1}) (ai (@qc.{0}) (ai (@qc.{1}) (ai qd (ai kn0 (ai kn1 (ai kn2 (ai kn3 (ai kn4 (ai kn5 kn6))))))))))))
abbrev mt (d n:Nat):MO:=⟨some d, .mv (.t n),none⟩
abbrev mo (d:Nat) (o:MOp):MO:=⟨some d,o,none⟩
abbrev mc (d:Nat) (v:V):MO:=⟨some d, .mv (.c v),none⟩
abbrev me (d n i:Nat):MO:=⟨some d, .ext (.t n) i,none⟩
abbrev ml (d n:Nat):MO:=⟨some d, .load (.t n) 1 false,none⟩
abbrev mn (o:MOp):MO:=⟨none,o,none⟩
abbrev mb (d:Nat) (o:BinOp) (a b:Nat):MO:=⟨some d, .bin o (.t a) (.t b),none⟩
abbrev ci (k:Int):MArg:= .c (.int .i64 k)
abbrev mk (d:Nat) (o:BinOp) (a:Nat) (k:Int):MO:=⟨some d, .bin o (.t a) (ci k),none⟩
abbrev mh (d a:Nat):MO:=⟨some d, .len false (.t a),none⟩
abbrev mi (d a b s:Nat):MO:=⟨some d, .iaddr (.t a) (.t b) s,none⟩
abbrev mf (d a o:Nat):MO:=⟨some d, .faddr (.t a) o,none⟩
abbrev mq (d a:Nat):MO:=⟨some d, .nilck (.t a),none⟩
abbrev ma (d f:Nat) (l:List MArg):MO:=⟨some d, .call f l,none⟩
abbrev ms (a b n:Nat):MO:=⟨none, .store (.t a) (.t b) n,none⟩
abbrev mg (d:Nat) (o:MOp) (g:Nat) (b:Bool):MO:=⟨some d,o,some (g,b)⟩
abbrev mz (d:Nat) (k:Int):MO:=⟨some d, .mv (ci k),none⟩
theorem vd {T:Nat->Option MFun} {f:Nat} {mf:MFun} {md:List Nat} (h:T f=some mf) (hi:mf.inline=false) (hm:mf.modes=md) {O:Orc} {H:Hp} {vs:List V}:vcall T O f vs H=(args H md vs).bind fun p=>vk H p.2 md vs (O.deep f p.1):=by subst hm;exact zh9 h hi
theorem vi {T:Nat->Option MFun} {f:Nat} {mf:MFun} (h:T f=some mf) (hi:mf.inline=true) {O:Orc} {H:Hp} {vs:List V}:vcall T O f vs H=ik (O.inl f vs H):=zia h hi
theorem wl:wrp .i64 0=0/\wrp .i64 1=1/\wrp .i64 2=2/\wrp .i64 3=3/\wrp .i64 4=4/\wrp .i64 5=5/\wrp .i64 6=6/\wrp .i64 7=7/\wrp .i64 8=8:=by
 refine ⟨?_,?_,?_,?_,?_,?_,?_,?_,?_⟩<;>(unfold wrp;decide)
theorem dr_of {T:Nat->Option MFun} {l l':List MO} {chk:List (Nat×Nat)} (h:l=l') (hc:chk.all (fun p=>decide (p.1<l'.length) && decide (p.2<l'.length))=true) {O:Orc} {m h0:Nat} {fr:Fr} {H:Hp}:exec T O m h0 (.dreg l chk) fr H=alt (runC T O l' fr H) (slowD T O l' chk fr H):=by subst h;exact zjk hc
theorem df_of {T:Nat->Option MFun} {l l':List MO} {chk:List (Nat×Nat)} (h:l=l') {O:Orc} {m h0:Nat} {fr:Fr} {H:Hp} (hs:allSame T O (trace T O fr H l') l' chk):exec T O m h0 (.dreg l chk) fr H=runO T O l fr H:=by subst h;exact zhy _ _ hs
theorem byR {α:Sort _} {a b:α} (h: ∀R,b=R->a=R):a=b:=h _ rfl
def LS {β:Type} (T:Nat->Option MFun) (m h0:Nat) (live:List Nat) (K:List KI) (c:MC) (j:Nat) (fin:Option (Ex×Fr×Hp)->β) (res:β) (F:Fr) (Hh:Hp):Prop:=
 ∀R,res=R-> ∀(fr:Fr) (H:Hp),canon h0 live fr H=(F,Hh)->fin (unw T (orc T m) m h0 K (iter h0 live (exec T (orc T m) m h0 c) j fr H))=R
namespace C
end C
abbrev gt (d n g:Nat) (b:Bool):MO:=⟨some d, .mv (.t n),some (g,b)⟩
abbrev gl (d n g:Nat) (b:Bool):MO:=⟨some d, .load (.t n) 1 false,some (g,b)⟩
abbrev gf (d n o g:Nat) (b:Bool):MO:=⟨some d, .faddr (.t n) o,some (g,b)⟩
abbrev gb (d:Nat) (o:BinOp) (x y g:Nat) (b:Bool):MO:=⟨some d, .bin o (.t x) (.t y),some (g,b)⟩
abbrev gk (d:Nat) (o:BinOp) (x:Nat) (k:Int) (g:Nat) (b:Bool):MO:=⟨some d, .bin o (.t x) (ci k),some (g,b)⟩
abbrev fI (np:Nat) (b:MC) (r:List MRes) (md:List Nat):MFun:=⟨np,b,r,true,md,[],false,none,none⟩
abbrev fD (np:Nat) (b:MC) (r:List MRes) (md:List Nat) (rt:List (List Nat)):MFun:=⟨np,b,r,false,md,rt,false,none,none⟩
abbrev mw (d x n:Nat):MO:=⟨some d, .load (.t x) n true,none⟩
abbrev sr (l:List MO) (c:MC):MC:= .seq (.reg l) c
abbrev cs (n:Nat) (a b:MC):MC:= .cond (.t n) a b
abbrev ce (n k:Nat):MC:= .cond (.t n) .skip (.exit k)
abbrev bl (k:Nat) (l:List Nat) (c:MC):MC:= .blk k (.loop l c)
abbrev pf (d x y:Nat):MO:=⟨some d, .pick (.t x) (.t y) (.c (.bool false)),none⟩
abbrev pt (d x y:Nat):MO:=⟨some d, .pick (.t x) (.c (.bool true)) (.t y),none⟩
class Aq {R:Type} (q:Nat) (v:Option R) (P:outParam (Nat->R->Prop)):Prop where
 ok: ∀M,12*q<=M-> ∀r,v=some r->P M r
theorem us {R:Type} {q M:Nat} (hM:12*q<=M) {v:Option R} {P:Nat->R->Prop} [s:Aq q v P] {r:R} (h:v=some r):P M r:=s.ok M hM r h
abbrev Dp {R:Type} (T:Nat->Option MFun) (n:Nat) (vs:List V) (g:R->List V):Nat->R->Prop:=fun M r=> ∀k,(orc T (M+k)).deep n vs=some (g r)
theorem us1 {R:Type} {q M:Nat} (hM:12*q<=M) {v:Option R} {T:Nat->Option MFun} {n:Nat} {vs:List V} {g:R->List V} [s:Aq q v (Dp T n vs g)] {r:R} (h:v=some r) (k:Nat):(orc T (M+k)).deep n vs=some (g r):=s.ok M hM r h k
theorem us0 {R:Type} {q M:Nat} (hM:12*q<=M) {v:Option R} {T:Nat->Option MFun} {n:Nat} {vs:List V} {g:R->List V} [s:Aq q v (Dp T n vs g)] {r:R} (h:v=some r):(orc T M).deep n vs=some (g r):=s.ok M hM r h 0
abbrev Lz {β:Type} (T:Nat->Option MFun) (m h0:Nat) (live:List Nat) (K:List KI) (c:MC) (j:Nat) (fin:Option (Ex×Fr×Hp)->β) (F:Fr) (Hh:Hp) (R:β):Prop:=
 ∀(fr:Fr) (H:Hp),canon h0 live fr H=(F,Hh)->fin (unw T (orc T m) m h0 K (iter h0 live (exec T (orc T m) m h0 c) j fr H))=R
theorem Aq.zero {R:Type} {P:Nat->R->Prop} {v:Option R} (h:v=none:=by rfl):Aq 0 v P:=⟨fun M _ r e=>by rw [h] at e;cases e⟩
theorem Aq.succ {R:Type} {P:Nat->R->Prop} {q:Nat} {u v:Option R} (e:u=v) (h: ∀M,12*q+12<=M-> ∀r,v=some r->P M r):Aq (q+1) u P:=⟨fun M hM r k=>h M (by omega) r (e▸k)⟩
theorem ix {T:Nat->Option MFun} {f np:Nat} {b:MC} {res:List MRes} {md:List Nat} {rets:List (List Nat)} {w:Bool} {p:Option (List V->Option (List V))} (h:T f=some ⟨np,b,res,true,md,rets,w,p,none⟩) {n:Nat} {H:Hp} {vs:List V}:(orc T (n+1)).inl f vs H=finI H.length w res (unw T (orc T n) n H.length [] (exec T (orc T n) n H.length b (params 0 vs) H)):=by
 rw [zh8,h,y4,zh5 _ rfl]
theorem bk {α γ:Type} {x y:γ} [Decidable (x=y)] {a b r:α} (h:(if x=y then a else b)=r):(x=y/\a=r)\/((x=y)=False/\b=r):=bc h
theorem sndo {T:Nat->Option MFun} {R:Type} {f G:Nat->Option R} {n np:Nat} {b:MC} {rs:List MRes} {il w:Bool} {md:List Nat} {rets:List (List Nat)} {ip:Option (List V->Hp->Option (List V×Hp))} {vs:List V} {g:R->List V} (e: ∀q,f (q+1)=G q)
 (h0:f 0=none:=by rfl) (ht:T n=some ⟨np,b,rs,il,md,rets,w,none,ip⟩:=by rfl)
 (hs: ∀q M,12*q<=M-> ∀r,G q=some r-> ∀A,some (g r)=A->fin rs rets (unw T (orc T (M+11)) (M+11) (putT [] vs).2.length [] (exec T (orc T (M+11)) (M+11) (putT [] vs).2.length b (params 0 (putT [] vs).1) (putT [] vs).2))=A): ∀q,Aq q (f q) (Dp T n vs g):=fun q=>⟨by
  intro N hM r h k
  rcases q with _ | q
  ·rw [h0] at h;cases h
  obtain ⟨M,rfl⟩: ∃M,N=M+12:=⟨N - 12,by omega⟩
  rw [e] at h
  rw [show M+12+k=M+k+11+1 from by omega,zh7,ht,y4,zh4 _ rfl]
  exact hs q (M+k) (by omega) r h _ rfl⟩
theorem snd {T:Nat->Option MFun} {R:Type} {f G:Nat->Option R} {n np:Nat} {b:MC} {rs:List MRes} {il w:Bool} {md:List Nat} {rets:List (List Nat)} {ip:Option (List V->Hp->Option (List V×Hp))} {vs:List V} {g:R->List V} {X:Prop} (e: ∀q,f (q+1)=G q) (x:X)
 (h0:f 0=none:=by rfl) (ht:T n=some ⟨np,b,rs,il,md,rets,w,none,ip⟩:=by rfl)
 (hs:X-> ∀q M,12*q<=M->(∀k,q<=M+k)-> ∀r,G q=some r-> ∀A,some (g r)=A->fin rs rets (unw T (orc T (M+11)) (M+11) (putT [] vs).2.length [] (exec T (orc T (M+11)) (M+11) (putT [] vs).2.length b (params 0 (putT [] vs).1) (putT [] vs).2))=A:=by
  intro x q M hM hk r h A hA
  repeat' (first | (cases h;done) | (replace h:=bb h;rcases h with ⟨_,_,h⟩ | ⟨_,_,h⟩) | (replace h:=bn h;obtain ⟨_,h⟩:=h) | (replace h:=bm h;obtain ⟨_,h⟩:=h) | (replace h:=br h;rcases h with ⟨_,h⟩ | ⟨_,h⟩) | (replace h:=ob h;obtain ⟨_,g,h⟩:=h;first | (replace g:=us hM g;dsimp only [Dp] at g;try simp only [kf,simprocAttr] at g) | skip))
  all_goals (first | (cases h;subst hA;simp only [kk,ke,kn,simprocAttr,beq_self_eq_true, *]) | (replace h:=us hM h;replace h:=h A hA;dsimp only [Lz] at h;simp only [kk,ke,kn,simprocAttr,beq_self_eq_true, *]))): ∀q,Aq q (f q) (Dp T n vs g):=fun q=>⟨by
  intro N hM r h k
  rcases q with _ | q
  ·rw [h0] at h;cases h
  obtain ⟨M,rfl⟩: ∃M,N=M+12:=⟨N - 12,by omega⟩
  rw [e] at h
  rw [show M+12+k=M+k+11+1 from by omega,zh7,ht,y4,zh4 _ rfl]
  exact hs x q (M+k) (by omega) (by omega) r h _ rfl⟩
theorem lp {T:Nat->Option MFun} {R β:Type} {q d h0:Nat} {live:List Nat} {K:List KI} {c:MC} {fn:Option (Ex×Fr×Hp)->β} {res:R->β} {F:Fr} {Hh:Hp} {u v:Option R} {X:Prop} (x:X) (e:u=v)
 (hs:X-> ∀M,12*q<=M->(∀k,q<=M+k)-> ∀r,v=some r-> ∀A,res r=A-> ∀j,q<=j->fn (unw T (orc T (M+d)) (M+d) h0 (.rounds live c j::K) (exec T (orc T (M+d)) (M+d) h0 c F Hh))=A:=by
  intro x M hM hk r h A hA j hj
  repeat' (first | (cases h;done) | (replace h:=bb h;rcases h with ⟨_,_,h⟩ | ⟨_,_,h⟩) | (replace h:=bn h;obtain ⟨_,h⟩:=h) | (replace h:=bm h;obtain ⟨_,h⟩:=h) | (replace h:=br h;rcases h with ⟨_,h⟩ | ⟨_,h⟩) | (replace h:=ob h;obtain ⟨_,g,h⟩:=h;first | (replace g:=us hM g;dsimp only [Dp] at g;try simp only [kf,simprocAttr] at g) | skip))
  all_goals (first | (cases h;subst hA;simp only [kk,ke,kn,simprocAttr,beq_self_eq_true, *]) | (replace h:=us hM h;replace h:=h A hA;dsimp only [Lz] at h;simp only [kk,ke,kn,simprocAttr,beq_self_eq_true, *]))):
 Aq (q+1) u fun M r=> ∀A,res r=A-> ∀j,q+1<=j->Lz T (M+d) h0 live K c j fn F Hh A:= .succ e fun M hM r h A hA j hj fr H hc=>by
  obtain ⟨j,rfl⟩: ∃i,j=i+1:=⟨j - 1,by omega⟩
  rw [zhw,hc]
  exact hs x M (by omega) (by omega) r h A hA j (by omega)
theorem lp1 {S:Nat->Prop} {X E:Prop} (x:X) (e:E) (h0:S 0:=by (repeat intro _);exact .zero) (hs:X->E-> ∀q,S q->S (q+1):=by intro x e q i;(repeat intro _);exact lp @x (e ..)): ∀q,S q
 | 0=>h0
 | q+1=>hs x e q (lp1 x e h0 hs q)
theorem lpn {S:Nat->Prop} {X E:Prop} (x:X) (e:E) (h0:S 0:=by (repeat' apply ai)<;>((repeat intro _);exact .zero)) (hs:X->E-> ∀q,S q->S (q+1):=
   by
   intro x e q i
   first | (rcases i with ⟨i1,i2,i3,i4,i5,i6⟩) | (rcases i with ⟨i1,i2,i3,i4,i5⟩) | (rcases i with ⟨i1,i2,i3,i4⟩) | (rcases i with ⟨i1,i2,i3⟩) | (rcases i with ⟨i1,i2⟩)
   (repeat' apply ai)<;>((repeat intro _);first | exact lp @x (e.left ..) | exact lp @x (e.right ..) | exact lp @x (e.right.left ..) | exact lp @x (e.right.right ..) | exact lp @x (e.right.right.left ..) | exact lp @x (e.right.right.right ..) | exact lp @x (e.right.right.right.left ..) | exact lp @x (e.right.right.right.right ..))): ∀q,S q
 | 0=>h0
 | q+1=>hs x e q (lpn x e h0 hs q)
theorem sndc {T:Nat->Option MFun} {R:Type} {f G:Nat->Option R} {n np:Nat} {b:MC} {rs:List MRes} {il w:Bool} {md:List Nat} {rets:List (List Nat)} {ip:Option (List V->Hp->Option (List V×Hp))} {vs:List V} {g:R->List V} {X:Prop} (e: ∀q,f (q+1)=G q) (x:X)
 (h0:f 0=none:=by rfl) (ht:T n=some ⟨np,b,rs,il,md,rets,w,none,ip⟩:=by rfl)
 (hs:X-> ∀q M,12*q<=M->(∀k,q<=M+k)-> ∀r,G q=some r-> ∀A,some (g r)=A->fin rs rets (unw T (orc T (M+11)) (M+11) (putT [] vs).2.length [] (exec T (orc T (M+11)) (M+11) (putT [] vs).2.length b (params 0 (putT [] vs).1) (putT [] vs).2))=A:=by
  intro x q M hM hk r h A hA
  repeat' (first | (cases h;done) | (replace h:=bk h;rcases h with ⟨_,h⟩ | ⟨_,h⟩) | (replace h:=bb h;rcases h with ⟨_,_,h⟩ | ⟨_,_,h⟩) | (replace h:=bn h;obtain ⟨_,h⟩:=h) | (replace h:=bm h;obtain ⟨_,h⟩:=h) | (replace h:=br h;rcases h with ⟨_,h⟩ | ⟨_,h⟩) | (replace h:=ob h;obtain ⟨_,g,h⟩:=h;first | (replace g:=us hM g;dsimp only [Dp] at g;try simp only [kf,simprocAttr] at g) | skip))
  all_goals (first | (cases h;subst hA;simp only [kk,ke,kn,simprocAttr,beq_self_eq_true, *]) | (replace h:=us hM h;replace h:=h A hA;dsimp only [Lz] at h;simp only [kk,ke,kn,simprocAttr,beq_self_eq_true, *]))): ∀q,Aq q (f q) (Dp T n vs g):=fun q=>⟨by
  intro N hM r h k
  rcases q with _ | q
  ·rw [h0] at h;cases h
  obtain ⟨M,rfl⟩: ∃M,N=M+12:=⟨N - 12,by omega⟩
  rw [e] at h
  rw [show M+12+k=M+k+11+1 from by omega,zh7,ht,y4,zh4 _ rfl]
  exact hs x q (M+k) (by omega) (by omega) r h _ rfl⟩
section
variable {P:Program}
def Trodden (w:World) (ps:List MemPlace) (a:Addr):Prop:=MemPlace.cell a.block a.off∈ps/\(w.cell? a).isSome=true
def RdL (P:Program) (t:TypeId) {α:Type} (lv:α->List V) (ok:α->Prop):Prop:=
 ∀ {H:Type} {enc:TypeId×Value->H} {w:World} {fuel:Nat} {cs:List Value} {x:DataW H×List MemPlace},DataW.trod enc P w 0 (fun _=>true) true fuel t cs=some x->
  ∃a:α,(lv a).length=cs.length/\ok a/\(∀(j:Nat) (lf:V),(lv a)[j]? =some lf->deep1 lf=true)/\
   ∀(I:Addr->Prop),(∀b,Trodden w x.2 b->I b)-> ∀(ρ:Infs) (j:Nat) (lf:V),(lv a)[j]? =some lf->VR I ρ w.cell? lf (cs.getD j undef)
theorem inR_wf {k:IntKind} {n:Int} (h:(Lit.int k n).wf=true):inR k n:=by
 simp only [Lit.wf,y5,decide_eq_true_eq] at h;exact h
theorem op_int {t:TypeId} {k:IntKind} (ht:P.underlying t=some (.int k)):RdL P t (fun n:Int=>[.int k n]) (inR k):=by
 intro H enc w fuel cs x h
 obtain ⟨n,rfl,rfl,hw⟩:=DataW.trod_int ht h
 refine ⟨n,rfl,inR_wf hw,fun j lf hj=>?_,fun I hI ρ j lf hj=>?_⟩
 ·cases j<;>simp at hj;subst hj;rfl
 ·cases j<;>simp at hj;subst hj;exact .int k n (inR_wf hw)
theorem cells?_get {w:World} {a:Addr} {n:Nat} {cs:List Value} (h:w.cells? 0 a n=some cs):cs.length=n/\ ∀i,i<n->w.cell? (a.add i)=cs[i]? :=by
 unfold World.cells? at h
 rw [if_pos (Nat.zero_le _)] at h
 obtain ⟨h1,h2⟩:cs.length=(List.range n).length/\ ∀(i m:Nat),(List.range n)[i]? =some m->w.cell? (a.add m)=cs[i]? :=⟨mapM_some_length h,fun i m hm=>mapM_some_get h i m hm⟩
 rw [y54] at h1
 exact ⟨h1,fun i hi=>h2 i i (by rw [List.getElem?_range hi])⟩
theorem op_sl {t e:TypeId} {α:Type} {lv:α->List V} {ok:α->Prop} {ec:α->V} (ht:P.underlying t=some (.slice e)) (he:RdL P e lv ok) (hl: ∀a,leaves (ec a)=lv a):
  RdL P t (fun s:Sl α=>[.sl s.z (s.l.map ec)]) (fun s=>(s.z=true->s.l=[])/\s.l.length<=maxLen/\ ∀a∈s.l,ok a):=by
 intro H enc w fuel cs x h
 rcases DataW.trod_slice ht h with ⟨rfl,rfl⟩ | ⟨a,len,cap,elems,rest,n,rfl,rfl,rfl,hb,hlc,hm,hlen,hel,hsp,hns⟩
 ·refine ⟨⟨true,[]⟩,rfl,⟨fun _=>rfl,Nat.zero_le _,fun a h=>by simp at h⟩,fun j lf hj=>?_,fun I hI ρ j lf hj=>?_⟩
  ·cases j<;>simp at hj;subst hj;rfl
  ·cases j<;>simp at hj;subst hj
   exact .sl true [] none 0 0 (fun _ _=>undef) (by simp) rfl (fun _=>rfl) (fun i x h=>by simp at h) (fun i j x lf h=>by simp at h) (fun ad i j x lf h=>by simp at h) (fun i j x lf h=>by simp at h)
 ·-- element by element
  have each: ∀i,i<len-> ∃(u:α) (vs:List Value) (y:DataW H×List MemPlace),elems[i]? =some y/\vs.length=P.cellsOf e/\(∀j,j<P.cellsOf e->w.cell? (a.add (i*P.cellsOf e+j))=vs[j]?)/\(lv u).length=P.cellsOf e/\ok u/\(∀(j:Nat) (lf:V),(lv u)[j]? =some lf->deep1 lf=true)/\
    ∀(I:Addr->Prop),(∀b,Trodden w y.2 b->I b)-> ∀(ρ:Infs) (j:Nat) (lf:V),(lv u)[j]? =some lf->VR I ρ w.cell? lf (vs.getD j undef):=by
   intro i hi
   have h1:=hel i hi
   have h2:elems[i]? =some elems[i]:=y6 (by omega)
   rw [h2] at h1
   cases hc:w.cells? 0 (a.add (i*P.cellsOf e)) (P.cellsOf e) with
   | none=>rw [hc] at h1;cases h1
   | some vs=>
    rw [hc,y4] at h1
    obtain ⟨q1,q2⟩:=cells?_get hc
    obtain ⟨u,r1,r2,r3,r4⟩:=he h1
    exact ⟨u,vs,elems[i],h2,q1,fun j hj=>by rw [<- q2 j hj,Addr.add_add],by rw [r1,q1],r2,r3,r4⟩
  have pick: ∃us:List α,us.length=len/\ ∀(i:Nat) (u:α),us[i]? =some u-> ∃(vs:List Value) (y:DataW H×List MemPlace),elems[i]? =some y/\vs.length=P.cellsOf e/\(∀j,j<P.cellsOf e->w.cell? (a.add (i*P.cellsOf e+j))=vs[j]?)/\(lv u).length=P.cellsOf e/\ok u/\(∀(j:Nat) (lf:V),(lv u)[j]? =some lf->deep1 lf=true)/\
    ∀(I:Addr->Prop),(∀b,Trodden w y.2 b->I b)-> ∀(ρ:Infs) (j:Nat) (lf:V),(lv u)[j]? =some lf->VR I ρ w.cell? lf (vs.getD j undef):=by
   have: ∀m,m<=len-> ∃us:List α,us.length=m/\ ∀(i:Nat) (u:α),us[i]? =some u-> ∃(vs:List Value) (y:DataW H×List MemPlace),elems[i]? =some y/\vs.length=P.cellsOf e/\(∀j,j<P.cellsOf e->w.cell? (a.add (i*P.cellsOf e+j))=vs[j]?)/\(lv u).length=P.cellsOf e/\ok u/\(∀(j:Nat) (lf:V),(lv u)[j]? =some lf->deep1 lf=true)/\
     ∀(I:Addr->Prop),(∀b,Trodden w y.2 b->I b)-> ∀(ρ:Infs) (j:Nat) (lf:V),(lv u)[j]? =some lf->VR I ρ w.cell? lf (vs.getD j undef):=by
    intro m
    induction m with
    | zero=>exact fun _=>⟨[],rfl,fun i u h=>by simp at h⟩
    | succ m ih=>
     intro hm
     obtain ⟨us,e1,e2⟩:=ih (by omega)
     obtain ⟨u,vs,y,f⟩:=each m (by omega)
     refine ⟨us++[u],by simp [e1],fun i u' hi=>?_⟩
     rcases y28 i us.length with hlt | hge
     ·rw [y10 hlt] at hi;exact e2 i u' hi
     ·rw [y18 hge] at hi
      have:i=m:=by
       have:=z7 hi
       simp at this;omega
      subst this
      rw [e1] at hi;simp at hi;subst hi
      exact ⟨vs,y,f⟩
   exact this len (y13 _)
  obtain ⟨us,hul,hus⟩:=pick
  let vals:Nat->Nat->Value:=fun i j=>(w.cell? (a.add (i*P.cellsOf e+j))).getD undef
  have lvs: ∀(i:Nat) (x:V),(us.map ec)[i]? =some x-> ∃u,us[i]? =some u/\x=ec u:=by
   intro i x hx
   rw [y40] at hx
   cases hu:us[i]? with
   | none=>simp [hu] at hx
   | some u=>simp [hu] at hx;exact ⟨u,rfl,hx.symm⟩
  have hin: ∀(i j:Nat) (y:DataW H×List MemPlace),i<len->j<P.cellsOf e->MemPlace.cell (a.add (i*P.cellsOf e+j)).block (a.add (i*P.cellsOf e+j)).off∈MemPlace.row a ((elems.length+rest.length)*P.cellsOf e)++(elems++rest).flatMap (·.2):=by
   intro i j y hi hj
   refine List.mem_append.2 (.inl ?_)
   unfold MemPlace.row
   refine List.mem_map.2 ⟨i*P.cellsOf e+j,?_,by unfold Addr.add;split<;>simp_all⟩
   rw [List.mem_range]
   have:(i+1)*P.cellsOf e<=(elems.length+rest.length)*P.cellsOf e:=y16 _ (by omega)
   have e2:(i+1)*P.cellsOf e=i*P.cellsOf e+P.cellsOf e:=Nat.succ_mul _ _
   omega
  refine ⟨⟨false,us⟩,rfl,⟨(fun h=>by cases h),(by simp only;rw [hul];exact Nat.le_trans hlc hm),fun u hu=>?_⟩,fun j lf hj=>?_,fun I hI ρ j lf hj=>?_⟩
  ·obtain ⟨i,hi⟩:=List.mem_iff_getElem?.1 hu
   obtain ⟨_,_,_,_,_,_,h5,_⟩:=hus i u hi
   exact h5
  ·cases j<;>simp at hj;subst hj;rfl
  ·cases j<;>simp at hj;subst hj
   have hlenm:(us.map ec).length=len:=by simp [hul]
   show VR I ρ w.cell? (.sl false (us.map ec)) (.slice (some a) len cap)
   rw [<- hlenm]
   refine .sl false (us.map ec) (some a) cap (P.cellsOf e) vals ⟨by rw [hlenm];exact hlc,by rw [hlenm];exact Nat.le_trans hlc (by simpa [maxLen] using hm)⟩ rfl (fun h=>by cases h) (fun i x hx=>?_) (fun i j x lf hx hj=>?_) (fun ad i j x lf had hx hj=>?_) (fun i j x lf hx hj=>?_)
   ·obtain ⟨u,hu,rfl⟩:=lvs i x hx
    obtain ⟨_,_,_,_,_,h4,_⟩:=hus i u hu
    rw [hl,h4]
   ·obtain ⟨u,hu,rfl⟩:=lvs i x hx
    obtain ⟨_,_,_,_,_,_,_,h6,_⟩:=hus i u hu
    rw [hl] at hj;exact h6 j lf hj
   ·obtain ⟨u,hu,rfl⟩:=lvs i x hx
    obtain ⟨vs,y,hy,h2,h3,h4,h5,h6,h7⟩:=hus i u hu
    cases had
    rw [hl] at hj
    have hjl:j<P.cellsOf e:=by rw [<- h4];exact z7 hj
    have hil:i<len:=by rw [<- hul];exact z7 hu
    have hsome:w.cell? (a.add (i*P.cellsOf e+j))=some (vals i j):=by
     show _=some ((w.cell? (a.add (i*P.cellsOf e+j))).getD undef)
     rw [h3 j hjl,y6 (by omega)];rfl
    exact ⟨hI _ ⟨hin i j y hil hjl,by rw [hsome];rfl⟩,hsome⟩
   ·obtain ⟨u,hu,rfl⟩:=lvs i x hx
    obtain ⟨vs,y,hy,h2,h3,h4,h5,h6,h7⟩:=hus i u hu
    rw [hl] at hj
    have hjl:j<P.cellsOf e:=by rw [<- h4];exact z7 hj
    have:=h7 I (fun b hb=>hI b ⟨List.mem_append.2 (.inr (List.mem_flatMap.2 ⟨y,List.mem_append.2 (.inl (y52 hy)),hb.1⟩)),hb.2⟩) ρ j lf hj
    have hv:vals i j=vs.getD j undef:=by
     show (w.cell? (a.add (i*P.cellsOf e+j))).getD undef=_
     rw [h3 j hjl,y14]
    rw [hv];exact this
def RdF (P:Program) (off:Nat) (fs:List Field) {α:Type} (lv:α->List V) (ok:α->Prop):Prop:=
 ∀ {H:Type} {enc:TypeId×Value->H} {w:World} {n:Nat} {cs:List Value} {xs:List (DataW H×List MemPlace)},xs.length=fs.length->
  (∀(i:Nat) (f:Field),fs[i]? =some f->DataW.trod enc P w 0 (fun _=>true) true n f.type ((cs.drop f.offset).take (P.cellsOf f.type))=xs[i]?)->
  ∃a:α,(lv a).length+off=(if fs=[] then off else cs.length)/\ok a/\(∀(j:Nat) (lf:V),(lv a)[j]? =some lf->deep1 lf=true)/\
   ∀(I:Addr->Prop),(∀b,Trodden w (xs.flatMap (·.2)) b->I b)-> ∀(ρ:Infs) (j:Nat) (lf:V),(lv a)[j]? =some lf->VR I ρ w.cell? lf (cs.getD (off+j) undef)
def fieldsAt (P:Program):Nat->List Field->Nat->Bool
 | off,[],n=>decide (off=n)
 | off,f::fs,n=>decide (f.offset=off) && decide (off+P.cellsOf f.type<=n) && fieldsAt P (off+P.cellsOf f.type) fs n
def RdG (P:Program) (fs:List Field) {α:Type} (lv:α->List V) (ok:α->Prop):Prop:=
 ∀ {H:Type} {enc:TypeId×Value->H} {w:World} {n off:Nat} {cs:List Value} {xs:List (DataW H×List MemPlace)},fieldsAt P off fs cs.length=true->xs.length=fs.length->
  (∀(i:Nat) (f:Field),fs[i]? =some f->DataW.trod enc P w 0 (fun _=>true) true n f.type ((cs.drop f.offset).take (P.cellsOf f.type))=xs[i]?)->
  ∃a:α,off+(lv a).length=cs.length/\ok a/\(∀(j:Nat) (lf:V),(lv a)[j]? =some lf->deep1 lf=true)/\
   ∀(I:Addr->Prop),(∀b,Trodden w (xs.flatMap (·.2)) b->I b)-> ∀(ρ:Infs) (j:Nat) (lf:V),(lv a)[j]? =some lf->VR I ρ w.cell? lf (cs.getD (off+j) undef)
theorem zjt:RdG P [] (fun _:Unit=>[]) (fun _=>True):=by
 intro H enc w n off cs xs hf hx h
 simp only [fieldsAt,decide_eq_true_eq] at hf
 exact ⟨(),by simp [hf],trivial,fun j lf hj=>by simp at hj,fun I hI ρ j lf hj=>by simp at hj⟩
theorem zju {f:Field} {fs:List Field} {α β:Type} {lv:α->List V} {ok:α->Prop} {lv':β->List V} {ok':β->Prop} (h1:RdL P f.type lv ok) (h2:RdG P fs lv' ok'):
  RdG P (f::fs) (fun p:α×β=>lv p.1++lv' p.2) (fun p=>ok p.1/\ok' p.2):=by
 intro H enc w n off cs xs hf hx h
 simp only [fieldsAt,y5,decide_eq_true_eq] at hf
 obtain ⟨⟨ho,hle⟩,hf⟩:=hf
 cases xs with
 | nil=>simp at hx
 | cons x xs=>
  have k1:=h 0 f rfl
  simp only [y35] at k1
  obtain ⟨a,a1,a2,a3,a4⟩:=h1 k1
  obtain ⟨b,b1,b2,b3,b4⟩:=h2 hf (by simpa using hx) fun i g hg=>by
   have:=h (i+1) g (by simpa using hg)
   simpa using this
  have hal:(lv a).length=P.cellsOf f.type:=by
   rw [a1,y19,y12,ho]
   omega
  refine ⟨(a,b),by simp only [y9,hal];omega,⟨a2,b2⟩,fun j lf hj=>?_,fun I hI ρ j lf hj=>?_⟩
  ·simp only at hj
   rcases y28 j (lv a).length with hlt | hge
   ·rw [y10 hlt] at hj;exact a3 j lf hj
   ·rw [y18 hge] at hj;exact b3 _ lf hj
  ·simp only at hj
   rcases y28 j (lv a).length with hlt | hge
   ·rw [y10 hlt] at hj
    have:=a4 I (fun q hq=>hI q ⟨List.mem_flatMap.2 ⟨x,y30,hq.1⟩,hq.2⟩) ρ j lf hj
    rw [y14,List.getElem?_take_of_lt (by omega),y38,ho] at this
    rwa [y14]
   ·rw [y18 hge] at hj
    have:=b4 I (fun q hq=>hI q ⟨by
     obtain ⟨z,hz,hz2⟩:=List.mem_flatMap.1 hq.1
     exact List.mem_flatMap.2 ⟨z,y34 _ hz,hz2⟩,hq.2⟩) ρ _ lf hj
    rwa [show off+P.cellsOf f.type+(j - (lv a).length)=off+j by omega] at this
theorem op_st {t:TypeId} {fs:Array Field} {α:Type} {lv:α->List V} {ok:α->Prop} (ht:P.underlying t=some (.struct fs)) (hf:fieldsAt P 0 fs.toList (P.cellsOf t)=true) (h:RdG P fs.toList lv ok):RdL P t lv ok:=by
 intro H enc w fuel cs x hx
 obtain ⟨xs,n,rfl,rfl,hl,hxl,hg⟩:=DataW.trod_struct ht hx
 rw [<- hl] at hf
 obtain ⟨a,a1,a2,a3,a4⟩:=h hf (by simpa using hxl) fun i f hfi=>hg i f (by simpa using hfi)
 refine ⟨a,by simpa using a1,a2,a3,fun I hI ρ j lf hj=>?_⟩
 have:=a4 I hI ρ j lf hj
 simpa using this
theorem RdL.map {t:TypeId} {α β:Type} {lv:α->List V} {ok:α->Prop} {lv':β->List V} {ok':β->Prop} (h:RdL P t lv ok) (f:α->β) (h1: ∀a,lv' (f a)=lv a) (h2: ∀a,ok a->ok' (f a)):RdL P t lv' ok':=by
 intro H enc w fuel cs x hx
 obtain ⟨a,a1,a2,a3,a4⟩:=h hx
 exact ⟨f a,by rw [h1];exact a1,h2 a a2,by rw [h1];exact a3,by rw [h1];exact a4⟩
def RdV (P:Program) (t:TypeId) {α:Type} (e:α->V) (ok:α->Prop):Prop:=
 ∀{H:Type} {enc:TypeId×Value->H} {w:World} {r:Reach} {b0:Nat} {v:Value} {d:DataW H} {ps:List MemPlace},Value.okWide P w r b0 t v->DataW.Trod enc P w 0 (fun _=>true) true t v d ps->
  ∃a:α,ok a/\deepV (e a)/\ ∀(I:Addr->Prop),(∀b,Trodden w ps b->I b)-> ∀(ρ:Infs),VR I ρ w.cell? (e a) v
theorem zjv {t:TypeId} {α:Type} {e:α->V} {lv:α->List V} {ok:α->Prop} (h:RdL P t lv ok) (hl: ∀a,lv a=[e a]) (hn: ∀a cs,e a≠ .agg cs) (hv: ∀{w:World} {r:Reach} {b0:Nat} {v:Value},Value.okWide P w r b0 t v->v.cells= #[v]):RdV P t e ok:=by
 intro H enc w r b0 v d ps hw hd
 obtain ⟨fuel,hf⟩:=hd
 rw [hv hw] at hf
 obtain ⟨a,a1,a2,a3,a4⟩:=h hf
 refine ⟨a,a2,fun j lf hj=>?_,fun I hI ρ=>?_⟩
 ·have hle:leaves (e a)=[e a]:=by cases he:e a<;>first | rfl | exact absurd he (hn a _)
  rw [hle,<- hl] at hj;exact a3 j lf hj
 ·have:=a4 I hI ρ 0 (e a) (by rw [hl];rfl)
  simpa using this
theorem zjw {t:TypeId} {k:IntKind} (ht:P.underlying t=some (.int k)):RdV P t (V.int k) (inR k):=
 zjv (op_int ht) (fun _=>rfl) (fun _ _ h=>by cases h) fun {w r b0 v} h=>by obtain ⟨n,rfl⟩:=WideShapes.okWide_int ht h;rfl
theorem opV_sl {t e:TypeId} {α:Type} {lv:α->List V} {ok:α->Prop} {ec:α->V} (ht:P.underlying t=some (.slice e)) (he:RdL P e lv ok) (hl: ∀a,leaves (ec a)=lv a):
  RdV P t (Sl.enc ec) (fun s=>(s.z=true->s.l=[])/\s.l.length<=maxLen/\ ∀a∈s.l,ok a):=
 zjv (op_sl ht he hl) (fun _=>rfl) (fun _ _ h=>by cases h) fun {w r b0 v} h=>by obtain ⟨a,n,c,rfl⟩:=WideShapes.okWide_slice ht h;rfl
theorem zjx {f:FuncId} {ds:List V} (hd:DeepOk P f ds [.bool true]) {W:World} {xs:List Value} {ps:List MemPlace} (hl:xs.length=ds.length) (h: ∀(I:Addr->Prop),(∀b,Trodden W ps b->I b)->Ds I W ds (fun i=>xs.getD i undef) [] []):
  Calls P f xs.toArray W fun e w'=>e= .returned (.bool true)/\RowKit.Below W.heap.size W w':=by
 refine (hd (Trodden W ps) W xs [] [] hl (fun a ha=>ha.2) (fun i j a b B h=>by simp at h) (h _ fun _ h=>h)).mono ?_
 rintro e w' ⟨I',ys,bs',is',rfl,h1,h2,h3,h4,n⟩
 obtain ⟨k1,k2,k3⟩:=h2.2 [] [] rfl
 match ys,h1 with
 | [y],_=>
  have:=k3 0 (.bool true) rfl
  simp only [List.getD_cons_zero] at this
  cases this
  refine ⟨rfl,n.grow.os,n.grow.tape,n.grow.output,n.grow.size,fun k hk=>n.grow.keep k hk fun ⟨id,inf,h,_⟩=>by simp at h⟩
end
def dm2 (H:Hp):Option Blk->Option (List (Int×V))
 | some (.box [_,_, .mp n,_,_,_,_])=>(match H[n]? with | some (.pmap m)=>some m | _=>none)
 | _=>none
def kN (H:Hp):Option (List (Int×V))->Option (List V×Hp)
 | some []=>some ([.sl true []],H)
 | _=>none
def kU (H:Hp):Option (List (Int×V))->Option (List V×Hp)
 | some []=>some ([.int .i64 0],H)
 | _=>none
def dskN:List V->Hp->Option (List V×Hp)
 | [.ptr id 0],H=>kN H (dm2 H H[id]?)
 | _,_=>none
def dskU:List V->Hp->Option (List V×Hp)
 | [.ptr id 0],H=>kU H (dm2 H H[id]?)
 | _,_=>none
def dm3:Option Blk->Option (List (Int×V))
 | some (.pmap m)=>some m
 | _=>none
def DskWalk (P:Program) (f:FuncId) (u:Value):Prop:=
 ∀(w:World) (B nw ck:Nat) (arr:Array Value) (ty:TypeId),w.heap[B]? =some (.cells arr ty (0,0))->arr.size=7->arr[2]? =some (.map (some nw))->w.heap[nw]? =some (.map #[] ck)->
  Calls P f #[.pointer (some ⟨B,0,none⟩)] w fun e w'=>e= .returned u/\w'.os=w.os/\w'.tape=w.tape/\w'.output=w.output/\w.heap.size<=w'.heap.size/\ ∀k,k<w.heap.size->w'.heap[k]? =w.heap[k]?
def kC (H:Hp):Option (List (Int×V))->Option (List V×Hp)
 | some m=>some ([.mp H.length],H++[.pmap m])
 | _=>none
def dm4:Option Blk->Option (List (Int×V))
 | some (.pmap m)=>some m
 | _=>none
def dskC:List V->Hp->Option (List V×Hp)
 | [.mp id],H=>kC H (dm4 H[id]?)
 | _,_=>none
def CloneWalk (P:Program) (f:FuncId):Prop:=
 ∀(b:Nat) (es:Array MapEntry) (ck:Nat) (w:World),w.heap[b]? =some (.map es ck)->Calls P f #[.map (some b)] w fun e w'=>e= .returned (.map (some w.heap.size))/\w'=w.alloc (.map es ck)
mutual
def eqV:V->V->Bool
 | .int k n, .int k' n'=>decide (k=k') && decide (n=n')
 | .bool a, .bool b=>decide (a=b)
 | .str a, .str b=>decide (a=b)
 | .agg a, .agg b=>eqVs a b
 | .tup a, .tup b=>eqVs a b
 | .sl z a, .sl z' b=>decide (z=z') && eqVs a b
 | .psl a, .psl b=>eqVs a b
 | .vw a b c d e, .vw a' b' c' d' e'=>decide (a=a') && (decide (b=b') && (decide (c=c') && (decide (d=d') && decide (e=e'))))
 | .ptr a b, .ptr a' b'=>decide (a=a') && decide (b=b')
 | .ep a b c d, .ep a' b' c' d'=>decide (a=a') && (decide (b=b') && (decide (c=c') && decide (d=d')))
 | .rp a, .rp b=>eqVs a b
 | .nilp, .nilp=>true
 | .fn f a, .fn f' b=>decide (f=f') && eqVs a b
 | .nilf, .nilf=>true
 | .ifc t v, .ifc t' v'=>decide (t=t') && eqV v v'
 | .nili, .nili=>true
 | .own z s x a, .own z' s' x' b=>decide (z=z') && (decide (s=s') && (decide (x=x') && eqVs a b))
 | .mp a, .mp b=>decide (a=b)
 | .dp a, .dp b=>decide (a=b)
 | .any, .any=>true
 | .junk, .junk=>true
 | _,_=>false
def eqVs:List V->List V->Bool
 | [],[]=>true
 | a::l,b::m=>eqV a b && eqVs l m
 | _,_=>false
end
mutual
theorem eqV_ok: ∀(a b:V),eqV a b=true->a=b
 | .int _ _,b,h=>by cases b<;>simp_all [eqV]
 | .bool _,b,h=>by cases b<;>simp_all [eqV]
 | .str _,b,h=>by cases b<;>simp_all [eqV]
 | .agg l,b,h=>by cases b<;>simp only [eqV,y17] at h;rw [zjy _ _ h]
 | .tup l,b,h=>by cases b<;>simp only [eqV,y17] at h;rw [zjy _ _ h]
 | .sl z l,b,h=>by cases b<;>simp only [eqV,y17,y5,decide_eq_true_eq] at h;rw [h.1,zjy _ _ h.2]
 | .psl l,b,h=>by cases b<;>simp only [eqV,y17] at h;rw [zjy _ _ h]
 | .vw _ _ _ _ _,b,h=>by cases b<;>simp_all [eqV]
 | .ptr _ _,b,h=>by cases b<;>simp_all [eqV]
 | .ep _ _ _ _,b,h=>by cases b<;>simp_all [eqV]
 | .rp l,b,h=>by cases b<;>simp only [eqV,y17] at h;rw [zjy _ _ h]
 | .nilp,b,h=>by cases b<;>simp_all [eqV]
 | .fn f l,b,h=>by cases b<;>simp only [eqV,y17,y5,decide_eq_true_eq] at h;rw [h.1,zjy _ _ h.2]
 | .nilf,b,h=>by cases b<;>simp_all [eqV]
 | .ifc t v,b,h=>by cases b<;>simp only [eqV,y17,y5,decide_eq_true_eq] at h;rw [h.1,eqV_ok _ _ h.2]
 | .nili,b,h=>by cases b<;>simp_all [eqV]
 | .own z s x l,b,h=>by cases b<;>simp only [eqV,y17,y5,decide_eq_true_eq] at h;rw [h.1,h.2.1,h.2.2.1,zjy _ _ h.2.2.2]
 | .mp _,b,h=>by cases b<;>simp_all [eqV]
 | .dp _,b,h=>by cases b<;>simp_all [eqV]
 | .any,b,h=>by cases b<;>simp_all [eqV]
 | .junk,b,h=>by cases b<;>simp_all [eqV]
theorem zjy: ∀(a b:List V),eqVs a b=true->a=b
 | [],b,h=>by cases b<;>simp_all [eqVs]
 | a::l,b,h=>by
  cases b with
  | nil=>simp [eqVs] at h
  | cons b m=>simp only [eqVs,y5] at h;rw [eqV_ok _ _ h.1,zjy _ _ h.2]
end
def eqM:List (Int×V)->List (Int×V)->Bool
 | [],[]=>true
 | a::l,b::m=>decide (a.1=b.1) && (eqV a.2 b.2 && eqM l m)
 | _,_=>false
theorem eqM_ok: ∀(a b:List (Int×V)),eqM a b=true->a=b
 | [],b,h=>by cases b<;>simp_all [eqM]
 | (a,v)::l,b,h=>by
  cases b with
  | nil=>simp [eqM] at h
  | cons b m=>obtain ⟨b,v'⟩:=b;simp only [eqM,y5,decide_eq_true_eq] at h;rw [h.1,eqV_ok _ _ h.2.1,eqM_ok _ _ h.2.2]
def eqB:Blk->Blk->Bool
 | .box a, .box b=>eqVs a b
 | .map a, .map b=>decide (a=b)
 | .pmap a, .pmap b=>eqM a b
 | .dsk a, .dsk b=>decide (a=b)
 | .row v z s a x, .row v' z' s' b x'=>decide (v=v') && (decide (z=z') && (decide (s=s') && (decide (x=x') && eqVs a b)))
 | .dead, .dead=>true
 | _,_=>false
theorem eqB_ok (a b:Blk) (h:eqB a b=true):a=b:=by
 cases a<;>cases b<;>simp only [eqB,y17,y5,decide_eq_true_eq] at h
 ·rw [zjy _ _ h]
 ·rw [h]
 ·rw [eqM_ok _ _ h]
 ·rw [h]
 ·rw [h.1,h.2.1,h.2.2.1,h.2.2.2.1,zjy _ _ h.2.2.2.2]
 ·rfl
def eqH:Hp->Hp->Bool
 | [],[]=>true
 | a::l,b::m=>eqB a b && eqH l m
 | _,_=>false
theorem eqH_ok: ∀(a b:Hp),eqH a b=true->a=b
 | [],b,h=>by cases b<;>simp_all [eqH]
 | a::l,b,h=>by
  cases b with
  | nil=>simp [eqH] at h
  | cons b m=>simp only [eqH,y5] at h;rw [eqB_ok _ _ h.1,eqH_ok _ _ h.2]
section
variable (T:Nat->Option MFun)
def sameEv (O:Orc) (tr:List (Fr×Hp)) (l:List MO) (r e:Nat):Bool:=
 match tr[r]?,tr[e]?,l[r]? with
 | some p,some q,some o=>match stepV T O p.1 p.2 o,stepV T O p.1 q.2 o with
  | some a,some b=>eqV a.1 b.1 && (eqH a.2 p.2 && eqH b.2 q.2)
  | _,_=>false
 | _,_,_=>false
def allEv (O:Orc) (tr:List (Fr×Hp)) (l:List MO):List (Nat×Nat)->Bool
 | []=>true
 | (r,e)::c=>sameEv T O tr l r e && (sameEv T O tr l r (e+1) && allEv O tr l c)
def stepsEv (O:Orc) (fr:Fr) (H:Hp) (l:List MO) (chk:List (Nat×Nat)):Option (Fr×Hp):=
 if allEv T O (trace T O fr H l) l chk=true then steps T O fr H l else none
def execEv (O:Orc) (m h0:Nat):MC->Fr->Hp->Option (Ex×Fr×Hp)
 | .skip,fr,H=>some (.norm,fr,H)
 | .fail,_,_=>none
 | .reg ops,fr,H=>(steps T O fr H ops).bind fun p=>some (.norm,p.1,p.2)
 | .dreg ops chk,fr,H=>(stepsEv T O fr H ops chk).bind fun p=>some (.norm,p.1,p.2)
 | .seq a b,fr,H=>(execEv O m h0 a fr H).bind fun p=>match p.1 with
  | .norm=>execEv O m h0 b p.2.1 p.2.2
  | e=>some (e,p.2.1,p.2.2)
 | .cond x a b,fr,H=>match x.val fr with
  | .bool c=>if c=true then execEv O m h0 a fr H else execEv O m h0 b fr H
  | _=>none
 | .blk id a,fr,H=>(execEv O m h0 a fr H).bind fun p=>match p.1 with
  | .exit j=>if j=id then some (.norm,p.2.1,p.2.2) else some (.exit j,p.2.1,p.2.2)
  | e=>some (e,p.2.1,p.2.2)
 | .exit id,fr,H=>some (.exit id,fr,H)
 | .loop live a,fr,H=>iter h0 live (execEv O m h0 a) m fr H
 | .ret,fr,H=>some (.ret,fr,H)
def inlEv (O:Orc) (m:Nat) (mf:MFun) (vs:List V) (H:Hp):Option (List V×Hp):=
 (execEv T O m H.length mf.body (params 0 vs) H).bind fun p=>match p.1 with
  | .exit _=>none
  | _=>(resL p.2.1 p.2.2 mf.res).bind fun l=>some (l,p.2.2)
def runEv (O:Orc) (m:Nat) (mf:MFun) (vs:List V) (H:Hp):Option (List V×Hp):=match mf.iprim with
 | some g=>g vs H
 | none=>inlEv T O m mf vs H
def deepEv (O:Orc) (m:Nat) (mf:MFun) (ds:List V):Option (List V):=match mf.prim with
 | some p=>p ds
 | none=>(inlEv T O m mf (putT [] ds).1 (putT [] ds).2).bind fun p=>(outT mf.rets p.2 p.1).bind fun q=>some q.1
def orcE (FS:Nat->List V->Option (List V)):Nat->Orc
 | 0=>⟨fun _ _=>none,fun _ _ _=>none⟩
 | n+1=>⟨fun f ds=>match FS f ds with
  | some r=>some r
  | none=>(T f).bind fun mf=>deepEv T (orcE FS n) n mf ds,fun f vs H=>(T f).bind fun mf=>(runEv T (orcE FS n) n mf vs H).map fun p=>trim H.length (wkL mf.weak p.1,p.2)⟩
def OLe (O O':Orc):Prop:=(∀f ds r,O.deep f ds=some r->O'.deep f ds=some r)/\ ∀f vs H r,O.inl f vs H=some r->O'.inl f vs H=some r
variable {T} {O O':Orc} (hle:OLe O O')
include hle
theorem zjz {α β:Type} {a b:Option α} {f g:α->Option β} {r:β} (h:a.bind f=some r) (h1: ∀x,a=some x->b=some x) (h2: ∀x,f x=some r->g x=some r):b.bind g=some r:=by
 cases ha:a with
 | none=>rw [ha] at h;cases h
 | some x=>rw [ha] at h;rw [h1 x ha];exact h2 x h
theorem zj0 {f:Nat} {vs:List V} {H:Hp} {r:V×Hp} (h:vcall T O f vs H=some r):vcall T O' f vs H=some r:=by
 unfold vcall at h ⊢
 split at h
 ·cases h
 ·split at h
  ·rename_i c;rw [if_pos c];exact zjz hle h (fun x=>hle.2 _ _ _ _) fun _ h=>h
  ·rename_i c;rw [if_neg c];exact zjz hle h (fun _ h=>h) fun x h=>zjz hle h (fun y=>hle.1 _ _ _) fun _ h=>h
theorem ev_le {fr:Fr} {H:Hp} {o:MOp} {r:V×Hp} (h:ev T O fr H o=some r):ev T O' fr H o=some r:=by
 cases o<;>first | exact h | skip
 case call f as=>exact zj0 hle h
 case bsl sz parts how=>rcases how with _ | _ | how<;>exact h
 case callv x as=>
  simp only [ev] at h ⊢
  split at h
  ·exact zj0 hle h
  ·cases h
theorem zj1 {fr:Fr} {H:Hp} {o:MO} {r:Fr×Hp} (h:doOp T O fr H o=some r):doOp T O' fr H o=some r:=zjz hle h (fun _ h=>ev_le hle h) fun _ h=>h
theorem zj2 {fr:Fr} {H:Hp} {o:MO} {r:Fr×Hp} (h:step T O fr H o=some r):step T O' fr H o=some r:=by
 unfold step at h ⊢
 split at h
 ·exact zj1 hle h
 ·split at h
  ·split at h
   ·rename_i c;simp only [c,if_true];exact zj1 hle h
   ·rename_i c;simp only [c,if_false];exact h
  ·exact h
  ·cases h
theorem zj3: ∀{l:List MO} {fr:Fr} {H:Hp} {r:Fr×Hp},steps T O fr H l=some r->steps T O' fr H l=some r
 | [],_,_,_,h=>h
 | o::l,_,_,_,h=>zjz hle h (fun _ h=>zj2 hle h) fun _ h=>zj3 h
theorem zj4 {fr:Fr} {H:Hp} {o:MO} {r:V×Hp} (h:stepV T O fr H o=some r):stepV T O' fr H o=some r:=by
 unfold stepV at h ⊢
 split at h
 ·exact ev_le hle h
 ·split at h
  ·split at h
   ·rename_i c;simp only [c,if_true];exact ev_le hle h
   ·rename_i c;simp only [c,if_false];exact h
  ·exact h
  ·cases h
theorem zj5: ∀{l:List MO} {fr:Fr} {H:Hp} (i:Nat) (p:Fr×Hp),(trace T O fr H l)[i]? =some p->(trace T O' fr H l)[i]? =some p
 | [],_,_,_,_,h=>h
 | o::l,fr,H,i,p,h=>by
  unfold trace at h ⊢
  cases i with
  | zero=>exact h
  | succ i=>
   simp only [List.getElem?_cons_succ] at h ⊢
   split at h
   ·rename_i q hq;rw [zj2 hle hq];exact zj5 i p h
   ·simp at h
theorem zj6 {tr tr':List (Fr×Hp)} (ht: ∀(i:Nat) (p:Fr×Hp),tr[i]? =some p->tr'[i]? =some p) {l:List MO} {r e:Nat} (h:sameEv T O tr l r e=true):sameAt T O' tr' l r e:=by
 unfold sameEv at h
 split at h
 ·rename_i p q o h1 h2 h3
  split at h
  ·rename_i a b ha hb
   simp only [y5] at h
   unfold sameAt;rw [ht _ _ h1,ht _ _ h2,h3]
   refine ⟨a.1,?_,?_⟩
   ·rw [zj4 hle ha,<- eqH_ok _ _ h.2.1]
   ·rw [zj4 hle hb,<- eqH_ok _ _ h.2.2,eqV_ok _ _ h.1]
  ·cases h
 ·cases h
theorem zj7 {tr tr':List (Fr×Hp)} (ht: ∀(i:Nat) (p:Fr×Hp),tr[i]? =some p->tr'[i]? =some p) {l:List MO}: ∀{c:List (Nat×Nat)},allEv T O tr l c=true->allSame T O' tr' l c
 | [],_=>trivial
 | (r,e)::c,h=>by
  simp only [allEv,y5] at h
  exact ⟨zj6 hle ht h.1,zj6 hle ht h.2.1,zj7 ht h.2.2⟩
theorem zj8 {l:List MO} {chk:List (Nat×Nat)} {fr:Fr} {H:Hp} {r:Fr×Hp} (h:stepsEv T O fr H l chk=some r):stepsD T O' fr H l chk=some r:=by
 unfold stepsEv at h
 split at h
 ·rename_i c
  unfold stepsD;rw [if_pos (zj7 hle (zj5 hle) c)];exact zj3 hle h
 ·cases h
omit hle in
theorem zj9 {h0:Nat} {live:List Nat} {b b':Fr->Hp->Option (Ex×Fr×Hp)} (hb: ∀fr H r,b fr H=some r->b' fr H=some r): ∀{n m:Nat},n<=m-> ∀{fr:Fr} {H:Hp} {r:Ex×Fr×Hp},iter h0 live b n fr H=some r->iter h0 live b' m fr H=some r
 | 0,_,_,_,_,_,h=>by cases h
 | n+1,m,hm,fr,H,r,h=>by
  obtain ⟨m,rfl⟩: ∃k,m=k+1:=⟨m - 1,by omega⟩
  unfold iter at h ⊢
  cases hx:b (canon h0 live fr H).1 (canon h0 live fr H).2 with
  | none=>rw [hx] at h;cases h
  | some x=>
   rw [hx] at h;rw [hb _ _ _ hx]
   simp only [y4] at h ⊢
   split at h
   ·exact zj9 hb (by omega) h
   ·exact h
theorem zka {n m:Nat} (hm:n<=m) {h0:Nat}: ∀{c:MC} {fr:Fr} {H:Hp} {r:Ex×Fr×Hp},execEv T O n h0 c fr H=some r->exec T O' m h0 c fr H=some r
 | .skip,_,_,_,h=>h
 | .fail,_,_,_,h=>by cases h
 | .reg ops,_,_,_,h=>zjz hle h (fun _ h=>zj3 hle h) fun _ h=>h
 | .dreg ops chk,_,_,_,h=>zjz hle h (fun _ h=>zj8 hle h) fun _ h=>h
 | .seq a b,fr,H,r,h=>by
  unfold execEv at h;unfold exec
  refine zjz hle h (fun _ h=>zka hm h) fun x h=>?_
  obtain ⟨e,fr',H'⟩:=x
  cases e
  ·exact zka hm h
  ·exact h
  ·exact h
 | .cond x a b,fr,H,r,h=>by
  unfold execEv at h;unfold exec
  generalize x.val fr=v at h ⊢
  cases v<;>first | (cases h;done) | skip
  rename_i c;cases c
  ·exact zka hm h
  ·exact zka hm h
 | .blk id a,fr,H,r,h=>by
  unfold execEv at h;unfold exec
  exact zjz hle h (fun _ h=>zka hm h) fun x h=>h
 | .exit id,_,_,_,h=>h
 | .loop live a,fr,H,r,h=>by
  unfold execEv at h;unfold exec
  exact zj9 (fun _ _ _ h=>zka hm h) hm h
 | .ret,_,_,_,h=>h
theorem zkb {n m:Nat} (hm:n<=m) {mf:MFun} {vs:List V} {H:Hp} {r:List V×Hp} (h:inlEv T O n mf vs H=some r):runInl T O' m mf vs H=some r:=by
 unfold inlEv at h;unfold runInl
 exact zjz hle h (fun _ h=>zka hle hm h) fun x h=>h
theorem zkc {n m:Nat} (hm:n<=m) {mf:MFun} {vs:List V} {H:Hp} {r:List V×Hp} (h:runEv T O n mf vs H=some r):runI T O' m mf vs H=some r:=by
 unfold runEv at h;unfold runI
 cases hp:mf.iprim with
 | some g=>simp only [hp] at h ⊢;exact h
 | none=>simp only [hp] at h ⊢;exact zkb hle hm h
theorem zkd {n m:Nat} (hm:n<=m) {mf:MFun} {ds r:List V} (h:deepEv T O n mf ds=some r):runDeep T O' m mf ds=some r:=by
 unfold deepEv at h;unfold runDeep
 cases hp:mf.prim with
 | some g=>simp only [hp] at h ⊢;exact h
 | none=>simp only [hp] at h ⊢;exact zjz hle h (fun _ h=>zkb hle hm h) fun x h=>h
end
theorem zke (T:Nat->Option MFun) {FS:Nat->List V->Option (List V)} {n0:Nat} (hf: ∀f ds r,FS f ds=some r-> ∀M,n0<=M->(orc T M).deep f ds=some r): ∀{n m:Nat},n+n0<=m->OLe (orcE T FS n) (orc T m)
 | 0,_,_=>⟨fun _ _ _ h=>(nomatch h),fun _ _ _ _ h=>(nomatch h)⟩
 | n+1,m,hm=>by
  obtain ⟨m,rfl⟩: ∃k,m=k+1:=⟨m - 1,by omega⟩
  have ih:=zke T hf (show n+n0<=m by omega)
  refine ⟨fun f ds r h=>?_,fun f vs H r h=>?_⟩
  ·unfold orcE at h
   simp only at h
   split at h
   ·rename_i r' hr;cases h;exact hf _ _ _ hr _ (by omega)
   ·exact zjz ih h (fun _ h=>h) fun mf h=>zkd ih (by omega) h
  ·refine zjz ih h (fun _ h=>h) fun mf h=>?_
   cases hx:runEv T (orcE T FS n) n mf vs H with
   | none=>rw [hx] at h;cases h
   | some x=>rw [hx] at h;rw [zkc ih (by omega) hx];exact h
theorem closed {T:Nat->Option MFun} {FS:Nat->List V->Option (List V)} {n0 n:Nat} (hf: ∀f ds r,FS f ds=some r-> ∀M,n0<=M->(orc T M).deep f ds=some r) {f:Nat} {r:List V} (h:(orcE T FS n).deep f []=some r) {M:Nat} (hM:n+n0<=M):(orc T M).deep f []=some r:=(zke T hf hM).1 _ _ _ h
theorem zkf {P:Program} {c:Code} {Q:Exit->Act->World->Prop} (I:Nat->Act->World->Prop) (h0: ∀a w,¬I 0 a w) (hs: ∀n a w,I (n+1) a w->c.wp P (Exit.then (I n) Q) a w): ∀n a w,I n a w->Code.rounds P c Q n a w
 | 0,a,w,h=>absurd h (h0 a w)
 | n+1,a,w,h=>by
  rw [rounds_succ]
  refine Code.wp_mono ?_ (hs n a w h)
  intro e a' w' he
  cases e with
  | normal=>exact zkf I h0 hs n a' w' he
  | _=>exact he
structure Kp (own:Nat->Prop) (w w':World):Prop where
 os:w'.os=w.os
 tape:w'.tape=w.tape
 output:w'.output=w.output
 size:w.heap.size<=w'.heap.size
 keep: ∀k,k<w.heap.size-> ¬own k->w'.heap[k]? =w.heap[k]?
theorem Kp.refl (own:Nat->Prop) (w:World):Kp own w w:=⟨rfl,rfl,rfl,y13 _,fun _ _ _=>rfl⟩
theorem Kp.trans {own:Nat->Prop} {w1 w2 w3:World} (a:Kp own w1 w2) (b:Kp own w2 w3):Kp own w1 w3:=
 ⟨by rw [b.os,a.os],by rw [b.tape,a.tape],by rw [b.output,a.output],Nat.le_trans a.size b.size,fun k hk ho=>by rw [b.keep k (y56 hk a.size) ho,a.keep k hk ho]⟩
theorem Kp.mono {own own':Nat->Prop} {w w':World} (a:Kp own w w') (h: ∀k,own k->own' k):Kp own' w w':=⟨a.os,a.tape,a.output,a.size,fun k hk ho=>a.keep k hk fun h'=>ho (h k h')⟩
theorem Kp.then {own own2:Nat->Prop} {w1 w2 w3:World} (a:Kp own w1 w2) (b:Kp own2 w2 w3) (h: ∀k,k<w1.heap.size->own2 k->own k):Kp own w1 w3:=
 ⟨by rw [b.os,a.os],by rw [b.tape,a.tape],by rw [b.output,a.output],Nat.le_trans a.size b.size,fun k hk ho=>by rw [b.keep k (y56 hk a.size) fun h2=>ho (h k hk h2),a.keep k hk ho]⟩
theorem Kp.alloc (own:Nat->Prop) (w:World) (o:Obj):Kp own w (w.alloc o):=⟨rfl,rfl,rfl,by simp,fun k hk _=>by show (w.heap.push _)[k]? =_;rw [Array.getElem?_push,if_neg (by omega)]⟩
theorem Kp.set {own:Nat->Prop} (w:World) (a:Addr) (v:Value) (h:own a.block):Kp own w (w.setCell a v):=⟨rfl,rfl,rfl,by simp,fun k hk ho=>heap_setCell_other _ _ _ _ (fun e=>ho (e▸h))⟩
theorem zkg {own:Nat->Prop} {w w':World} (a:Kp own w w') {x:Addr} (h:x.block<w.heap.size) (ho: ¬own x.block):w'.cell? x=w.cell? x:=by
 unfold World.cell?;rw [a.keep _ h ho]
def lensL (L:MapEntry->Nat) (l:List MapEntry):Nat:=(l.map L).sum
theorem zkh (L:MapEntry->Nat) (p q:MapEntry->Bool) (e:MapEntry): ∀l:List MapEntry,(l.map (·.born)).Nodup->e∈l->p e=true->(∀x,q x=(p x && !(x.born==e.born)))->
  lensL L (l.filter q)+L e=lensL L (l.filter p)
 | [],_,h,_,_=>by simp at h
 | x ::l,hn,h,hp,hq=>by
  simp only [y32,List.nodup_cons] at hn
  by_cases hx:x.born=e.born
  ·have hxe:x=e:=by
    rcases List.mem_cons.1 h with h | h
    ·exact h.symm
    ·exact absurd (List.mem_map.2 ⟨e,h,hx.symm⟩) hn.1
   subst hxe
   have:l.filter q=l.filter p:=List.filter_congr fun y hy=>by
    rw [hq]
    have:(y.born==x.born)=false:=by
     rw [beq_eq_false_iff_ne];exact fun e=>hn.1 (List.mem_map.2 ⟨y,hy,e⟩)
    simp [this]
   rw [List.filter_cons_of_neg (by rw [hq];simp),List.filter_cons_of_pos hp,this]
   simp only [lensL,y32,List.sum_cons];omega
  ·have hm:e∈l:=by
    rcases List.mem_cons.1 h with h | h
    ·exact absurd (by rw [h]) hx
    ·exact h
   have ih:=zkh L p q e l hn.2 hm hp hq
   have hqx:q x=p x:=by rw [hq];simp [hx]
   cases hpx:p x
   ·rw [List.filter_cons_of_neg (by rw [hqx,hpx];simp),List.filter_cons_of_neg (by rw [hpx];simp)];exact ih
   ·rw [List.filter_cons_of_pos (by rw [hqx,hpx]),List.filter_cons_of_pos hpx]
    simp only [lensL,y32,List.sum_cons] at ih ⊢;omega
theorem zki (L:MapEntry->Nat) {es:Array MapEntry} {seen:Array Nat} {e:MapEntry} (hn:(es.toList.map (·.born)).Nodup) (he:e∈(leftOf es seen).toList):
  lensL L (leftOf es (seen.push e.born)).toList+L e=lensL L (leftOf es seen).toList:=by
 unfold leftOf at he ⊢
 simp only [Array.toList_filter] at he ⊢
 obtain ⟨h1,h2⟩:=List.mem_filter.1 he
 exact zkh L (fun x=>!seen.contains x.born) _ e es.toList hn h1 h2 fun x=>by rw [contains_push];cases seen.contains x.born<;>simp
def nlook:List (Int×Nat)->Int->Option Nat
 | [],_=>none
 | (k,f)::l,n=>if n=k then some f else nlook l n
theorem zkj: ∀{l:List (Int×Nat)} {n:Int} {j f:Nat},l[j]? =some (n,f)->(l.map (·.1)).Nodup->nlook l n=some f
 | [],_,_,_,h,_=>by simp at h
 | (k,g)::l,n,j,f,h,hn=>by
  simp only [y32,List.nodup_cons] at hn
  cases j with
  | zero=>simp at h;obtain ⟨rfl,rfl⟩:=h;simp [nlook]
  | succ j=>
   simp at h
   have:n≠k:=fun e=>hn.1 (by rw [<- e];exact List.mem_map.2 ⟨_,y52 h,rfl⟩)
   simp only [nlook,if_neg this];exact zkj h hn.2
theorem zkk: ∀{l:List (Int×Nat)} {n:Int} {f:Nat},nlook l n=some f-> ∃j:Nat,l[j]? =some (n,f)
 | [],_,_,h=>by simp [nlook] at h
 | (k,g)::l,n,f,h=>by
  simp only [nlook] at h
  split at h
  ·rename_i e;cases h;exact ⟨0,by simp [e]⟩
  ·obtain ⟨j,hj⟩:=zkk h;exact ⟨j+1,by simpa using hj⟩
theorem zkl: ∀(l:List (Int×Nat)) (n:Int),pget (l.map fun p=>(p.1,V.any)) n= .nilp->nlook l n=none
 | [],_,_=>rfl
 | (k,f)::l,n,h=>by
  simp only [y32,pget] at h
  simp only [nlook]
  split at h
  ·cases h
  ·rename_i e;rw [if_neg e];exact zkl l n h
section
variable {P:Program} {w:World} {nb cn:Nat} {es:Array MapEntry} {ks:List (Int×Nat)} (h:NMap w nb es cn ks) {t K E:TypeId} (hu:P.underlying t=some (.map K E)) (hk:P.underlying K=some (.int .i64))
include h hk
theorem NMap.find (n:Int):(∃(j f b:Nat),ks[j]? =some (n,f)/\es[j]? =some {key:= .int .i64 n,val:= .pointer (some ⟨f,0,none⟩),born:=b}/\(Instr.findKey K (.int .i64 n) es.toList).run P w= .ok (some (j, .pointer (some ⟨f,0,none⟩))) w/\nlook ks n=some f)\/
  ((Instr.findKey K (.int .i64 n) es.toList).run P w= .ok none w/\nlook ks n=none):=by
 rcases find_p (I:=fun _=>False) (ρ:=[]) (w:=w) hk (n:=n) (m:=ks.map fun p=>(p.1,V.any)) (es:=es) (by simpa using h.size) (fun i k v hi=>by
  rw [y40] at hi
  cases hc:ks[i]? with
  | none=>simp [hc] at hi
  | some p=>
   simp only [hc,y37,y1,y7] at hi
   obtain ⟨rfl,rfl⟩:=hi
   obtain ⟨h1,b,h2⟩:=h.ent i p.1 p.2 hc
   exact ⟨h1,rfl,b,_,h2, .any _ rfl⟩) with ⟨j,v,x,b,h1,h2,h3,_,_⟩ | ⟨h1,h2,_⟩
 ·rw [y40] at h1
  cases hc:ks[j]? with
  | none=>simp [hc] at h1
  | some p=>
   simp only [hc,y37,y1,y7] at h1
   obtain ⟨rfl,rfl⟩:=h1
   obtain ⟨_,b',h4⟩:=h.ent j p.1 p.2 hc
   rw [h4] at h2
   simp only [y1,MapEntry.mk.injEq,true_and] at h2
   obtain ⟨rfl,rfl⟩:=h2
   exact .inl ⟨j,p.2,b',hc,h4,h3,zkj hc h.keys⟩
 ·exact .inr ⟨h1,zkl _ _ h2⟩
include hu
theorem NMap.look (hz:(zeroValue E).run P w= .ok (.pointer none) w) (n:Int):(Instr.lookup t (.map (some nb)) (.int .i64 n) false).run P w= .ok (.pointer (adr (nlook ks n))) w:=by
 rcases h.find hk n with ⟨j,f,b,h1,h2,h3,h4⟩ | ⟨h3,h4⟩
 ·rw [h4];simp [Instr.lookup,run_underlying hu,MapKept.run_getObj_map h.at_,zeq hk,h3,adr]
 ·rw [h4];simp [Instr.lookup,run_underlying hu,MapKept.run_getObj_map h.at_,zeq hk,h3,hz,adr]
theorem NMap.add {n:Int} {f:Nat} (hn:nlook ks n=none) (hr:inR .i64 n):(Instr.mapUpdate t (.map (some nb)) (.int .i64 n) (.pointer (some ⟨f,0,none⟩))).run P w= .ok () (_root_.Go.ChangeMaps.setBlock w nb (.map (es.push {key:= .int .i64 n,val:= .pointer (some ⟨f,0,none⟩),born:=cn}) (cn+1))):=by
 rcases h.find hk n with ⟨j,f,b,h1,h2,h3,h4⟩ | ⟨h3,h4⟩
 ·rw [h4] at hn;cases hn
 ·simp [Instr.mapUpdate,run_underlying hu,MapKept.run_getObj_map h.at_,zeq hk,h3,MapKept.run_setObj_map _ h.at_,_root_.Go.ChangeMaps.setBlock]
end
theorem NMap.added {w:World} {nb cn:Nat} {es:Array MapEntry} {ks:List (Int×Nat)} (h:NMap w nb es cn ks) {n:Int} {f:Nat} (hn:nlook ks n=none) (hr:inR .i64 n):
  NMap (_root_.Go.ChangeMaps.setBlock w nb (.map (es.push {key:= .int .i64 n,val:= .pointer (some ⟨f,0,none⟩),born:=cn}) (cn+1))) nb (es.push {key:= .int .i64 n,val:= .pointer (some ⟨f,0,none⟩),born:=cn}) (cn+1) (ks++[(n,f)]) where
 at_:=by
  show (w.heap.setIfInBounds _ _)[_]? =_
  rw [Array.getElem?_setIfInBounds_self_of_lt (Array.getElem?_eq_some_iff.1 h.at_).1]
 size:=by simp [h.size]
 ent:=fun i k g hi=>by
  rcases y28 i ks.length with hl | hl
  ·rw [y10 hl] at hi
   obtain ⟨h1,b,h2⟩:=h.ent i k g hi
   exact ⟨h1,b,by rw [Array.getElem?_push,if_neg (by have:=h.size;omega)];exact h2⟩
  ·rw [y18 hl] at hi
   have:i - ks.length=0:=by
    rcases Nat.eq_zero_or_pos (i - ks.length) with h | h
    ·exact h
    ·rw [y48 (by simp;omega)] at hi;cases hi
   rw [this] at hi
   simp at hi
   obtain ⟨rfl,rfl⟩:=hi
   exact ⟨hr,cn,by rw [Array.getElem?_push,if_pos (by have:=h.size;omega)]⟩
 keys:=by
  rw [List.map_append,List.nodup_append]
  refine ⟨h.keys,by simp,fun x hx y hy e=>?_⟩
  simp at hy;subst hy;subst e
  obtain ⟨p,hp,he⟩:=List.mem_map.1 hx
  obtain ⟨j,hj⟩:=List.mem_iff_getElem?.1 hp
  have:=zkj (n:=p.1) (f:=p.2) hj h.keys
  rw [he,hn] at this;cases this
 born:=fun e he=>by
  rw [Array.toList_push] at he
  rcases List.mem_append.1 he with he | he
  ·have:=h.born e he;omega
  ·simp at he;subst he;simp
 once:=by
  rw [Array.toList_push,List.map_append,List.nodup_append]
  refine ⟨h.once,by simp,fun x hx y hy e=>?_⟩
  simp at hy;subst hy;subst e
  obtain ⟨p,hp,he⟩:=List.mem_map.1 hx
  have:=h.born p hp;omega
theorem zkm {P:Program} {w:World} {t t2 ty:TypeId} (ht:okSl P t 1=true) (h2: ∃e2,P.underlying t2=some (.slice e2)) {o:Option Nat} {n cp m c2:Nat} {a2:Option Addr} (hr:RoomAt w o n cp) (hm:n+m<=most)
  (hn:a2=none->m=0) (hf: ∀ad',a2=some ad'-> ∀k,k<m-> ∃v,w.cell? (ad'.add k)=some v/\v.oneCell'=true):
  ∃(o':Option Nat) (cp':Nat) (w':World),(Builtin.append_ #[t,t2] ty #[.slice (adr o) n cp, .slice a2 m c2]).run P w= .ok (.slice (adr o') (n+m) cp') w'/\RoomAt w' o' (n+m) cp'/\(o'=o\/o'=some w.heap.size)/\Kp (fun k=>o=some k) w w':=by
 obtain ⟨f,hf1,hf2⟩: ∃f:Nat->Value,(∀ad',a2=some ad'-> ∀k,k<m*1->w.cell? (ad'.add k)=some (f k))/\ ∀k,k<m->(f k).oneCell'=true:=by
  cases a2 with
  | none=>exact ⟨fun _=> .bool true,(fun _ h=>by cases h),(fun _ _=>rfl)⟩
  | some ad=>
   have h:=hf ad rfl
   refine ⟨fun k=>if hk:k<m then (h k hk).choose else undef,(fun ad' e k hk=>?_),(fun k hk=>?_)⟩
   ·cases e
    rw [Nat.mul_one] at hk
    simp only [dif_pos hk];exact (h k hk).choose_spec.1
   ·simp only [dif_pos hk];exact (h k hk).choose_spec.2
 by_cases hcap:n+m<=cp
 ·cases o with
  | none=>
   obtain ⟨rfl,rfl⟩:=hr
   obtain rfl:m=0:=by omega
   exact ⟨none,0,w,zb6 (base:=none) (sLen:=0) (sCap:=0) (n:=0) ht h2 (by omega) f hn hf1 (w':=w) rfl,⟨rfl,rfl⟩, .inl rfl,Kp.refl _ _⟩
  | some r=>
   obtain ⟨h1,arr,⟨rty,hB⟩,h4⟩:=hr
   have hst:=zb5 (P:=P) (w:=w) (B:=r) (o:=n) (arr:=arr) (vs:=(List.range (m*1)).map f) ⟨rty,hB⟩ (by simp;omega) (fun v hv=>by
    obtain ⟨k,hk,rfl⟩:=List.mem_map.1 hv
    exact hf2 k (by simpa using hk))
   have hlt:r<w.heap.size:=(Array.getElem?_eq_some_iff.1 hB).1
   refine ⟨some r,cp,w.setRow r (arrPut arr n ((List.range (m*1)).map f)),zb6 (base:=some ⟨r,0,none⟩) ht h2 hcap f hn hf1 (w':=w.setRow r (arrPut arr n ((List.range (m*1)).map f))) ?_,⟨hcap,arrPut arr n ((List.range (m*1)).map f),⟨rty,?_⟩,?_⟩, .inl rfl,?_⟩
   ·have e:Addr.add ⟨r,0,none⟩ (n*1)=⟨r,n,none⟩:=by rw [Nat.mul_one,add_mk,y41]
    simp only [e];exact hst
   ·exact setRow_heap w r arr _ rty (0,0) hB
   ·rw [zbu (by simp;omega)];exact h4
   ·exact ⟨rfl,rfl,rfl,by simp,fun k hk ho=>setRow_other _ _ _ _ (fun e=>ho (by rw [e]))⟩
 ·have hold: ∃g:Nat->Value,(adr o=none->n=0)/\ ∀ad',adr o=some ad'-> ∀k,k<n*1->w.cell? (ad'.add k)=some (g k):=by
   cases o with
   | none=>exact ⟨fun _=>undef,(fun _=>hr.1),(fun _ h=>by cases h)⟩
   | some r=>
    obtain ⟨h1,arr,⟨rty,hB⟩,h4⟩:=hr
    refine ⟨fun k=>arr.getD k undef,(fun h=>by cases h),(fun ad' h k hk=>?_)⟩
    simp only [adr,y37,y1] at h;subst h
    rw [Nat.mul_one] at hk
    have:k<arr.size:=by omega
    rw [add_mk,y41];simp [World.cell?,hB,this]
  obtain ⟨g,hg0,hg1⟩:=hold
  obtain ⟨K,e,rest,hK,hrest,hrun⟩:=zb7 (P:=P) (w:=w) (ty:=ty) (base:=adr o) (sLen:=n) (sCap:=cp) (c2:=c2) ht h2 hcap hm f g hg0 hg1 hn hf1
  refine ⟨some w.heap.size,K,_,hrun,⟨hK.1,_,zbs _ _ _,?_⟩, .inr rfl,?_⟩
  ·simp [hrest];omega
  ·exact ⟨rfl,rfl,rfl,by simp,fun k hk _=>zbr w.drew _ k hk⟩
theorem zkn {P:Program} {w w':World} {ops:Array Oper} {rest:List Oper} {o:Oper} {a:Act} {Q:Exit->Act->World->Prop} (hgd:o.guard=none) (s x:Operand) (t t2:TypeId)
  (ho:o.op= .call {callee:= .builtin .append,args:= #[s,x],argTypes:= #[t,t2]}) {u1 u2 v':Value} (hs:a.eval s=u1) (hx:a.eval x=u2)
  (hr:(Builtin.append_ #[t,t2] o.type #[u1,u2]).run P w= .ok v' w') (h:wpList P ops Q rest (a.put o.dst v') w'):wpList P ops Q (o::rest) a w:=by
 refine wpList_plain hgd fun K hK=>?_
 unfold Oper.wp execOp
 simp only [ho,resolve,invoke,builtin,Sem.run_bind,Sem.run_pure,Result.andThen_ok,List.map_toArray,y32,y57,hs,hx,hr]
 exact hK _ _ h
def dUsed (now:List (Int×Nat)):Nat:=(now.map (·.2)).sum
def dlook:List (Int×Nat)->Int->Option Nat
 | [],_=>none
 | (k,x)::l,n=>if n=k then some x else dlook l n
def dset:List (Int×Nat)->Int->Nat->List (Int×Nat)
 | [],n,v=>[(n,v)]
 | (k,x)::l,n,v=>if n=k then (k,v)::l else (k,x)::dset l n v
theorem zko: ∀{l:List (Int×Nat)} {n:Int} {i x:Nat} (v:Nat),l[i]? =some (n,x)->(l.map (·.1)).Nodup->dset l n v=l.set i (n,v)
 | [],_,_,_,_,h,_=>by simp at h
 | (k,y)::l,n,i,x,v,h,hn=>by
  simp only [y32,List.nodup_cons] at hn
  cases i with
  | zero=>simp at h;obtain ⟨rfl,rfl⟩:=h;simp [dset]
  | succ i=>
   simp at h
   have:n≠k:=fun e=>hn.1 (by rw [<- e];exact List.mem_map.2 ⟨_,y52 h,rfl⟩)
   simp only [dset,if_neg this,List.set_cons_succ];rw [zko v h hn.2]
theorem zkp: ∀{l:List (Int×Nat)} {n:Int} (v:Nat),n∉l.map (·.1)->dset l n v=l++[(n,v)]
 | [],_,_,_=>rfl
 | (k,y)::l,n,v,h=>by
  simp only [y32,List.mem_cons,not_or] at h
  simp only [dset,if_neg h.1,List.cons_append];rw [zkp v h.2]
theorem ks_get {now:List (Int×Nat)} {fr:List (Nat×Option Nat)} {i:Nat} {k:Int} {f:Nat} (h:(ksOf now fr)[i]? =some (k,f)): ∃x g,now[i]? =some (k,x)/\fr[i]? =some g/\g.1=f:=by
 unfold ksOf at h
 rw [List.getElem?_zipWith] at h
 cases h1:now[i]? with
 | none=>simp [h1] at h
 | some p=>
  cases h2:fr[i]? with
  | none=>simp [h1,h2] at h
  | some g=>
   simp only [h1,h2,y1,y7] at h
   obtain ⟨rfl,rfl⟩:=h
   exact ⟨p.2,g,rfl,rfl,rfl⟩
theorem ks_len {now:List (Int×Nat)} {fr:List (Nat×Option Nat)} (h:fr.length=now.length):(ksOf now fr).length=now.length:=by simp [ksOf,h]
theorem zkq {now:List (Int×Nat)} {fr:List (Nat×Option Nat)} (h:fr.length=now.length):(ksOf now fr).map (·.1)=now.map (·.1):=by
 unfold ksOf
 induction now generalizing fr with
 | nil=>simp
 | cons p l ih=>
  cases fr with
  | nil=>simp at h
  | cons f fr=>simp at h;simp [ih h]
theorem zkr {l:List (Int×Nat)} {n:Int} (h:nlook l n=none):n∉l.map (·.1):=by
 induction l with
 | nil=>simp
 | cons p l ih=>
  obtain ⟨k,f⟩:=p
  simp only [nlook] at h
  split at h
  ·cases h
  ·rename_i e;simp only [y32,List.mem_cons,not_or];exact ⟨e,ih h⟩
theorem zks {l:List (Int×Nat)} {n:Int} (h:n∉l.map (·.1)):dlook l n=none:=by
 induction l with
 | nil=>rfl
 | cons p l ih=>
  obtain ⟨k,f⟩:=p
  simp only [y32,List.mem_cons,not_or] at h
  simp only [dlook,if_neg h.1];exact ih h.2
theorem zkt: ∀{l:List (Int×Nat)} {n:Int} {i x:Nat},l[i]? =some (n,x)->(l.map (·.1)).Nodup->dlook l n=some x
 | [],_,_,_,h,_=>by simp at h
 | (k,y)::l,n,i,x,h,hn=>by
  simp only [y32,List.nodup_cons] at hn
  cases i with
  | zero=>simp at h;obtain ⟨rfl,rfl⟩:=h;simp [dlook]
  | succ i=>
   simp at h
   have:n≠k:=fun e=>hn.1 (by rw [<- e];exact List.mem_map.2 ⟨_,y52 h,rfl⟩)
   simp only [dlook,if_neg this];exact zkt h hn.2
section
variable {w w':World} {B:Nat} {D:List Nat} {own:Nat->Option (Nat×Nat)} {d:Dk} {kb nb:Nat} {wb:Option Nat} {wc:Nat} {fr:List (Nat×Option Nat)} {ek es:Array MapEntry} {ck cn:Nat} (h:DskIn w B D own d kb nb wb wc fr ek es ck cn)
def lenW (w:World) (e:MapEntry):Nat:=match e.val with
 | .pointer (some ad)=>(match w.cell? ad with | some (.slice _ n _)=>n | _=>0)
 | _=>0
include h
theorem DskIn.keysN:(d.now.map (·.1)).Nodup:=by rw [<- zkq h.len];exact h.map.keys
theorem DskIn.found {n:Int} {f:Nat} (hf:nlook (ksOf d.now fr) n=some f): ∃(i x:Nat) (g:Nat×Option Nat),d.now[i]? =some (n,x)/\fr[i]? =some g/\g.1=f/\dlook d.now n=some x:=by
 obtain ⟨j,hj⟩:=zkk hf
 obtain ⟨x,g,h1,h2,h3⟩:=ks_get hj
 exact ⟨j,x,g,h1,h2,h3,zkt h1 h.keysN⟩
theorem DskIn.lost {n:Int} (hf:nlook (ksOf d.now fr) n=none):n∉d.now.map (·.1):=by rw [<- zkq h.len];exact zkr hf
theorem DskIn.entry (x:MapEntry) (hx:x∈es.toList): ∃(i:Nat) (p:Int×Nat) (g:Nat×Option Nat),es[i]? =some x/\d.now[i]? =some p/\fr[i]? =some g/\x.val= .pointer (some ⟨g.1,0,none⟩):=by
 obtain ⟨i,hi⟩:=List.mem_iff_getElem?.1 hx
 rw [y49] at hi
 have hl:i<es.size:=(Array.getElem?_eq_some_iff.1 hi).1
 have hs:=h.map.size
 obtain ⟨y,hy⟩: ∃y,(ksOf d.now fr)[i]? =some y:=⟨_,y6 (by omega)⟩
 obtain ⟨x',g,h1,h2,h3⟩:=ks_get (k:=y.1) (f:=y.2) hy
 obtain ⟨_,b,h4⟩:=h.map.ent i y.1 y.2 hy
 rw [hi] at h4
 simp only [y1] at h4
 exact ⟨i,_,g,hi,h1,h2,by rw [h4,h3]⟩
theorem DskIn.used:lensL (lenW w) es.toList=dUsed d.now/\ ∀x∈es.toList,∃f a cp,x.val= .pointer (some ⟨f,0,none⟩)/\w.cell? ⟨f,0,none⟩=some (.slice a (lenW w x) cp):=by
 have one: ∀(i:Nat) (x:MapEntry) (p:Int×Nat) (g:Nat×Option Nat),d.now[i]? =some p->fr[i]? =some g->x.val= .pointer (some ⟨g.1,0,none⟩)->lenW w x=p.2/\ ∃a cp,w.cell? ⟨g.1,0,none⟩=some (.slice a p.2 cp):=fun i x p g h1 h2 h3=>by
  obtain ⟨cp,kp,⟨ty,hc⟩,_⟩:=h.file i p g h1 h2
  have:w.cell? ⟨g.1,0,none⟩=some (.slice (adr g.2) p.2 cp):=by simp [World.cell?,hc]
  exact ⟨by unfold lenW;rw [h3];simp only [this],_,_,this⟩
 refine ⟨?_,fun x hx=>?_⟩
 ·unfold lensL dUsed
  congr 1
  apply List.ext_getElem?
  intro i
  rw [y40,y40]
  rcases y28 i es.size with hl | hl
  ·have hx:es.toList[i]? =some es[i]:=by simp [hl]
   obtain ⟨j,p,g,h1,h2,h3,h4⟩:=h.entry es[i] (y52 hx)
   have hs:=h.map.size
   have hkl:=ks_len h.len
   obtain ⟨y,hy⟩: ∃y,(ksOf d.now fr)[i]? =some y:=⟨_,y6 (by omega)⟩
   obtain ⟨x',g',q1,q2,q3⟩:=ks_get (k:=y.1) (f:=y.2) hy
   obtain ⟨_,b,q4⟩:=h.map.ent i y.1 y.2 hy
   have q5:es[i]? =some es[i]:=Array.getElem?_eq_getElem hl
   rw [q4] at q5
   simp only [y1] at q5
   rw [hx,q1]
   simp only [y37,y1]
   exact (one i es[i] _ g' q1 q2 (by rw [<- q5,q3])).1
  ·have hs:=h.map.size
   have hkl:=ks_len h.len
   rw [y48 (by simpa using hl),y48 (by omega)];rfl
 ·obtain ⟨i,p,g,h1,h2,h3,h4⟩:=h.entry x hx
  obtain ⟨e1,a,cp,e2⟩:=one i x p g h2 h3 h4
  exact ⟨g.1,a,cp,h4,by rw [e1];exact e2⟩
theorem DskIn.setd {d':Dk} (hnow:d'.now=d.now) (hw:d'.wts=d.wts) (hr:inR .i64 d'.room) (hl:inR .i64 d'.left) (k:Kp (· =B) w w') (hc:CellsAt w' B (dcells d' kb nb (.slice (adr wb) d.wts wc))):DskIn w' B D own d' kb nb wb wc fr ek es ck cn:=by
 have kk: ∀x t,own x=some t->t≠(0,0)->w'.heap[x]? =w.heap[x]? :=fun x t hx ht=>k.keep x (h.lt x (h.oD x t hx)) fun e=>by subst e;rw [h.oB] at hx;cases hx;exact ht rfl
 exact {
  oB:=h.oB,oK:=h.oK,oN:=h.oN,oW:=h.oW,oF:=h.oF,oD:=h.oD,lt:=fun x hx=>y56 (h.lt x hx) k.size,cells:=by rw [hw];exact hc,room:=hr,left:=hl
  kept:=by rw [kk kb _ h.oK (by decide)];exact h.kept,map:=by rw [hnow];exact h.map.move (kk nb _ h.oN (by decide)),wts:=by rw [hw];exact h.wts.move fun r e=>kk r _ (h.oW r e) (by decide),len:=by rw [hnow];exact h.len
  file:=fun i p f hp hf=>(h.file i p f (by rw [<- hnow];exact hp) hf).move (kk f.1 _ (h.oF i f hf).1 (by simp)) fun r e=>kk r _ ((h.oF i f hf).2 r e) (by simp)}
theorem DskIn.grow {i x x':Nat} {n:Int} {f:Nat×Option Nat} (hp:d.now[i]? =some (n,x)) (hf:fr[i]? =some f) {o':Option Nat} {cp':Nat} (k:Kp (fun b=>b=f.1\/f.2=some b) w w') {kp:Int}
  (hc:CellsAt w' f.1 #[.slice (adr o') x' cp', .int .i64 kp]) (hr:RoomAt w' o' x' cp') (ho:o'=f.2\/ ∃r,o'=some r/\w.heap.size<=r):
  DskIn w' B (o'.toList++D) (fun b=>if o'=some b then some (5,i) else own b) {d with now:=d.now.set i (n,x')} kb nb wb wc (fr.set i (f.1,o')) ek es ck cn:=by
 have hi:i<fr.length:=z7 hf
 have hin:i<d.now.length:=z7 hp
 have old: ∀{b:Nat} {t:Nat×Nat},own b=some t->o'=some b->t=(5,i):=fun {b t} hb e=>by
  rcases ho with h1 | ⟨r,h1,h2⟩
  ·have:=(h.oF i f hf).2 b (by rw [<- h1];exact e);rw [this] at hb;cases hb;rfl
  ·rw [h1] at e;cases e;have:=h.lt _ (h.oD _ _ hb);omega
 have ne: ∀{b:Nat} {t:Nat×Nat},own b=some t->t≠(5,i)->(if o'=some b then some (5,i) else own b)=some t:=fun {b t} hb ht=>by
  rw [if_neg fun e=>ht (old hb e)];exact hb
 have kk: ∀(b:Nat) (t:Nat×Nat),own b=some t->t≠(4,i)->t≠(5,i)->w'.heap[b]? =w.heap[b]? :=fun b t hb h4 h5=>k.keep b (h.lt b (h.oD b t hb)) fun e=>by
  rcases e with e | e
  ·subst e;rw [(h.oF i f hf).1] at hb;cases hb;exact h4 rfl
  ·rw [(h.oF i f hf).2 b e] at hb;cases hb;exact h5 rfl
 have hks:ksOf (d.now.set i (n,x')) (fr.set i (f.1,o'))=ksOf d.now fr:=by
  apply List.ext_getElem?
  intro j
  unfold ksOf
  rw [List.getElem?_zipWith,List.getElem?_zipWith,List.getElem?_set,List.getElem?_set]
  by_cases e:i=j
  ·subst e;rw [if_pos rfl,if_pos rfl,if_pos hin,if_pos hi,hp,hf]
  ·rw [if_neg e,if_neg e]
 exact {
  oB:=ne h.oB (by simp),oK:=ne h.oK (by simp),oN:=ne h.oN (by simp),oW:=fun r e=>ne (h.oW r e) (by simp)
  oF:=fun j g hg=>by
   rw [List.getElem?_set] at hg
   by_cases e:i=j
   ·subst e
    rw [if_pos rfl,if_pos hi] at hg
    cases hg
    exact ⟨ne (h.oF i f hf).1 (by simp),fun r e=>if_pos e⟩
   ·rw [if_neg e] at hg
    exact ⟨ne (h.oF j g hg).1 (by simp),fun r er=>ne ((h.oF j g hg).2 r er) (by simp;omega)⟩
  oD:=fun b t hb=>by
   by_cases e:o'=some b
   ·exact .inr (List.mem_append_left _ (by rw [e];simp))
   ·rw [if_neg e] at hb
    rcases h.oD b t hb with h1 | h1
    ·exact .inl h1
    ·exact .inr (List.mem_append_right _ h1)
  lt :=fun b hb=>by
   have hs:=k.size
   rcases hb with rfl | hb
   ·exact y56 (h.lt _ (.inl rfl)) hs
   ·rcases List.mem_append.1 hb with hb | hb
    ·cases o' with
     | none=>simp at hb
     | some r=>simp at hb;subst hb;obtain ⟨_,arr,⟨ty,h1⟩,_⟩:=hr;exact (Array.getElem?_eq_some_iff.1 h1).1
    ·exact y56 (h.lt _ (.inr hb)) hs
  cells:=h.cells.move (kk B _ h.oB (by simp) (by simp))
  room:=h.room,left:=h.left
  kept:=by rw [kk kb _ h.oK (by simp) (by simp)];exact h.kept
  map:=by rw [hks];exact h.map.move (kk nb _ h.oN (by simp) (by simp))
  wts:=h.wts.move fun r e=>kk r _ (h.oW r e) (by simp) (by simp)
  len:=by simp [h.len]
  file:=fun j p g hp' hg=>by
   rw [List.getElem?_set] at hp' hg
   by_cases e:i=j
   ·subst e
    rw [if_pos rfl,if_pos hin] at hp'
    rw [if_pos rfl,if_pos hi] at hg
    cases hp';cases hg
    exact ⟨cp',kp,hc,hr⟩
   ·rw [if_neg e] at hp' hg
    exact (h.file j p g hp' hg).move (kk _ _ (h.oF j g hg).1 (by simp;omega) (by simp)) fun r er=>kk r _ ((h.oF j g hg).2 r er) (by simp) (by simp;omega)}
theorem DskIn.newf {n:Int} {F0:Nat} {wb':Option Nat} {wc' cn':Nat} {es':Array MapEntry} (k:Kp (fun b=>b=B\/b=nb\/wb=some b) w w') (hF:w.heap.size<=F0) (hc:CellsAt w' F0 #[.slice none 0 0, .int .i64 0])
  (hm:NMap w' nb es' cn' (ksOf d.now fr++[(n,F0)])) (hB:CellsAt w' B (dcells {d with now:=d.now++[(n,0)],wts:=d.wts+1} kb nb (.slice (adr wb') (d.wts+1) wc'))) (hr:RoomAt w' wb' (d.wts+1) wc')
  (ho:wb'=wb\/ ∃r,wb'=some r/\w.heap.size<=r/\r≠F0):
  DskIn w' B (F0::(wb'.toList++D)) (fun b=>if b=F0 then some (4,fr.length) else if wb'=some b then some (3,0) else own b) {d with now:=d.now++[(n,0)],wts:=d.wts+1} kb nb wb' wc' (fr++[(F0,none)]) ek es' ck cn':=by
 have hlt: ∀{b:Nat} {t:Nat×Nat},own b=some t->b<w.heap.size:=fun hb=>h.lt _ (h.oD _ _ hb)
 have ne: ∀{b:Nat} {t:Nat×Nat},own b=some t->t≠(3,0)->(if b=F0 then some (4,fr.length) else if wb'=some b then some (3,0) else own b)=some t:=fun {b t} hb ht=>by
  have:=hlt hb
  rw [if_neg (by omega),if_neg fun e=>?_];exact hb
  rcases ho with h1 | ⟨r,h1,h2,_⟩
  ·have:=h.oW b (by rw [<- h1];exact e);rw [this] at hb;cases hb;exact ht rfl
  ·rw [h1] at e;cases e;omega
 have kk: ∀(b:Nat) (t:Nat×Nat),own b=some t->t≠(0,0)->t≠(2,0)->t≠(3,0)->w'.heap[b]? =w.heap[b]? :=fun b t hb h0 h2 h3=>k.keep b (hlt hb) fun e=>by
  rcases e with e | e | e
  ·subst e;rw [h.oB] at hb;cases hb;exact h0 rfl
  ·subst e;rw [h.oN] at hb;cases hb;exact h2 rfl
  ·rw [h.oW b e] at hb;cases hb;exact h3 rfl
 exact {
  oB:=ne h.oB (by simp),oK:=ne h.oK (by simp),oN:=ne h.oN (by simp)
  oW:=fun r e=>by
   have:r≠F0:=fun e2=>by
    rcases ho with h1 | ⟨r',h1,h2,h3⟩
    ·have:=hlt (h.oW r (by rw [<- h1];exact e));omega
    ·rw [h1] at e;cases e;exact h3 e2
   rw [if_neg this,if_pos e]
  oF :=fun j g hg=>by
   rcases y28 j fr.length with hl | hl
   ·rw [y10 hl] at hg
    exact ⟨ne (h.oF j g hg).1 (by simp),fun r er=>ne ((h.oF j g hg).2 r er) (by simp)⟩
   ·rw [y18 hl] at hg
    have:j - fr.length=0:=by
     rcases Nat.eq_zero_or_pos (j - fr.length) with h | h
     ·exact h
     ·rw [y48 (by simp;omega)] at hg;cases hg
    rw [this] at hg
    simp at hg
    subst hg
    exact ⟨by rw [if_pos rfl,show j=fr.length by omega],fun r e=>by cases e⟩
  oD :=fun b t hb=>by
   by_cases e:b=F0
   ·exact .inr (by rw [e];simp)
   ·rw [if_neg e] at hb
    by_cases e2:wb'=some b
    ·exact .inr (y34 _ (List.mem_append_left _ (by rw [e2];simp)))
    ·rw [if_neg e2] at hb
     rcases h.oD b t hb with h1 | h1
     ·exact .inl h1
     ·exact .inr (y34 _ (List.mem_append_right _ h1))
  lt :=fun b hb=>by
   have hs:=k.size
   rcases hb with rfl | hb
   ·exact y56 (h.lt _ (.inl rfl)) hs
   ·rcases List.mem_cons.1 hb with rfl | hb
    ·obtain ⟨ty,h1⟩:=hc;exact (Array.getElem?_eq_some_iff.1 h1).1
    ·rcases List.mem_append.1 hb with hb | hb
     ·cases wb' with
      | none=>simp at hb
      | some r=>simp at hb;subst hb;obtain ⟨_,arr,⟨ty,h1⟩,_⟩:=hr;exact (Array.getElem?_eq_some_iff.1 h1).1
     ·exact y56 (h.lt _ (.inr hb)) hs
  cells:=hB,room:=h.room,left:=h.left
  kept:=by rw [kk kb _ h.oK (by simp) (by simp) (by simp)];exact h.kept
  map:=by
   have:ksOf (d.now++[(n,0)]) (fr++[(F0,none)])=ksOf d.now fr++[(n,F0)]:=by
    unfold ksOf;rw [List.zipWith_append (by rw [h.len])];rfl
   rw [this];exact hm
  wts:=hr
  len:=by simp [h.len]
  file:=fun j p g hp hg=>by
   rcases y28 j fr.length with hl | hl
   ·rw [y10 hl] at hg
    rw [y10 (by rw [<- h.len];exact hl)] at hp
    exact (h.file j p g hp hg).move (kk _ _ (h.oF j g hg).1 (by simp) (by simp) (by simp)) fun r er=>kk r _ ((h.oF j g hg).2 r er) (by simp) (by simp) (by simp)
   ·rw [y18 hl] at hg
    rw [y18 (by rw [<- h.len];exact hl)] at hp
    have:j - fr.length=0:=by
     rcases Nat.eq_zero_or_pos (j - fr.length) with h | h
     ·exact h
     ·rw [y48 (by simp;omega)] at hg;cases hg
    rw [show j - d.now.length=0 by rw [<- h.len];exact this] at hp
    rw [this] at hg
    simp at hg hp
    subst hg;subst hp
    exact ⟨0,0,hc,rfl,rfl⟩}
end
def did (d:Dk):Dk:=if d.armed=true then {d with left:=wrp .i64 (d.left - 1),out:=decide (wrp .i64 (d.left - 1)<=0),armed:=!decide (wrp .i64 (d.left - 1)<=0)} else d
def dApp (d:Dk) (n:Int) (m:Nat):Dk×Int:=
 if d.out=true then (d,11) else if¬(0<=n/\n<1048576) then (d,1) else if d.room<((dUsed d.now+m:Nat):Int) then (d,10)
 else (did {d with now:=dset d.now n ((dlook d.now n).getD 0+m),wts:=if (dlook d.now n).isSome=true then d.wts else d.wts+1},0)
def SrcOk (w:World) (has:Nat->Prop) (a2:Option Addr) (m:Nat):Prop:=(a2=none->m=0)/\ ∀ad',a2=some ad'-> ∀k,k<m-> ∃v,w.cell? (ad'.add k)=some v/\v.oneCell'=true/\ ¬has (ad'.add k).block
theorem SrcOk.move {w w':World} {has own:Nat->Prop} {a2:Option Addr} {m:Nat} (h:SrcOk w has a2 m) (k:Kp own w w') (ho: ∀x,own x->has x):SrcOk w' has a2 m:=
 ⟨h.1,fun ad' e j hj=>by
  obtain ⟨v,h1,h2,h3⟩:=h.2 ad' e j hj
  have hl:(ad'.add j).block<w.heap.size:=zbq (by rw [h1];rfl)
  exact ⟨v,by rw [zkg k hl fun hx=>h3 (ho _ hx)];exact h1,h2,h3⟩⟩
theorem Kp.drewN (own:Nat->Prop) (w:World) (q:Nat):Kp own w (w.drewN q):=⟨rfl,rfl,rfl,y13 _,fun _ _ _=>rfl⟩
theorem zku: ∀{l:List (Int×Nat)} {i x:Nat} {n:Int},l[i]? =some (n,x)->x<=dUsed l
 | [],_,_,_,h=>by simp at h
 | p::l,i,x,n,h=>by
  simp only [dUsed,y32,List.sum_cons]
  cases i with
  | zero=>simp at h;subst h;simp only;omega
  | succ i=>simp at h;have:=zku h;unfold dUsed at this;omega
def AppAt (w W:World) (B:Nat) (D:List Nat) (d:Dk) (n:Int) (m N f:Nat) (a2:Option Addr):Prop:=
 ∃ (D1:List Nat) (own:Nat->Option (Nat×Nat)) (d1:Dk) (wb:Option Nat) (wc:Nat) (fr:List (Nat×Option Nat)) (es:Array MapEntry) (cn kb nb:Nat) (ek:Array MapEntry) (ck i x:Nat) (g:Nat×Option Nat),
  DskIn W B D1 own d1 kb nb wb wc fr ek es ck cn/\d1.now[i]? =some (n,x)/\fr[i]? =some g/\g.1=f/\W.cell? ⟨N,0,none⟩=some (.int .i64 n)/\SrcOk W (Inf.dsk B D1).has a2 m/\Kp (Inf.dsk B D).has w W/\(∀x∈D1,x∈D\/w.heap.size<=x)/\N<W.heap.size/\ ¬(Inf.dsk B D1).has N/\
   dApp d n m=(did {d1 with now:=dset d1.now n (x+m)},0)/\x+m<=most
theorem Kp.setBlock (w:World) (b:Nat) (o:Obj):Kp (· =b) w (_root_.Go.ChangeMaps.setBlock w b o):=
 ⟨rfl,rfl,rfl,by show _<=(w.heap.setIfInBounds b o).size;simp,fun k hk ho=>by show (w.heap.setIfInBounds b o)[k]? =_;rw [Array.getElem?_setIfInBounds_ne (fun e=>ho e.symm)]⟩
theorem SrcOk.more {w:World} {has has':Nat->Prop} {a2:Option Addr} {m:Nat} (h:SrcOk w has a2 m) (ho: ∀x,has' x->has x\/w.heap.size<=x):SrcOk w has' a2 m:=
 ⟨h.1,fun ad' e j hj=>by
  obtain ⟨v,h1,h2,h3⟩:=h.2 ad' e j hj
  have hl:(ad'.add j).block<w.heap.size:=zbq (by rw [h1];rfl)
  exact ⟨v,h1,h2,fun hx=>(ho _ hx).elim h3 (by omega)⟩⟩
theorem zkv {l:List (Int×Nat)} {n:Int} (x v:Nat) (h:n∉l.map (·.1)):dset (l++[(n,x)]) n v=l++[(n,v)]:=by
 induction l with
 | nil=>simp [dset]
 | cons p l ih=>
  obtain ⟨k,y⟩:=p
  simp only [y32,List.mem_cons,not_or] at h
  simp only [List.cons_append,dset,if_neg h.1];rw [ih h.2]
def dSync (d:Dk) (n:Int):Dk×Int:=if d.out=true then (d,11) else if (dlook d.now n).isSome=true then (did d,0) else (d,8)
def dSyncD (d:Dk):Dk×Int:=if d.out=true then (d,11) else (did {d with wts:=0},0)
theorem DskIn.synced {w w':World} {B:Nat} {D:List Nat} {own:Nat->Option (Nat×Nat)} {d:Dk} {kb nb:Nat} {wb:Option Nat} {wc:Nat} {fr:List (Nat×Option Nat)} {ek es:Array MapEntry} {ck cn:Nat} (h:DskIn w B D own d kb nb wb wc fr ek es ck cn)
  (k:Kp (· =B) w w') {K0:Nat} (hK:w.heap.size<=K0) (hm:w'.heap[K0]? =some (.map es cn)) (hB:CellsAt w' B (dcells {d with wts:=0} K0 nb (.slice none 0 0))):
  DskIn w' B (K0::D) (fun b=>if b=K0 then some (1,0) else own b) {d with wts:=0} K0 nb none 0 fr es es cn cn:=by
 have hlt: ∀{b:Nat} {t:Nat×Nat},own b=some t->b<w.heap.size:=fun hb=>h.lt _ (h.oD _ _ hb)
 have ne: ∀{b:Nat} {t:Nat×Nat},own b=some t->(if b=K0 then some (1,0) else own b)=some t:=fun {b t} hb=>by have:=hlt hb;rw [if_neg (by omega)];exact hb
 have kk: ∀x t,own x=some t->t≠(0,0)->w'.heap[x]? =w.heap[x]? :=fun x t hx ht=>k.keep x (hlt hx) fun e=>by subst e;rw [h.oB] at hx;cases hx;exact ht rfl
 exact {
  oB:=ne h.oB,oK:=if_pos rfl,oN:=ne h.oN,oW:=fun r e=>(nomatch e),oF:=fun i f hf=>⟨ne (h.oF i f hf).1,fun r e=>ne ((h.oF i f hf).2 r e)⟩
  oD:=fun x t hx=>by
   by_cases e:x=K0
   ·exact .inr (by rw [e];simp)
   ·rw [if_neg e] at hx;exact (h.oD x t hx).imp id (y34 _)
  lt:=fun x hx=>by
   have hs:=k.size
   rcases hx with rfl | hx
   ·exact y56 (h.lt _ (.inl rfl)) hs
   ·rcases List.mem_cons.1 hx with rfl | hx
    ·exact (Array.getElem?_eq_some_iff.1 hm).1
    ·exact y56 (h.lt _ (.inr hx)) hs
  cells:=hB,room:=h.room,left:=h.left,kept:=hm,map:=h.map.move (kk nb _ h.oN (by decide)),wts:=⟨rfl,rfl⟩,len:=h.len
  file:=fun i p f hp hf=>(h.file i p f hp hf).move (kk f.1 _ (h.oF i f hf).1 (by simp)) fun r e=>kk r _ ((h.oF i f hf).2 r e) (by simp)}
def insI (x:Int):List Int->List Int
 | []=>[x]
 | y::l=>if x<=y then x::y::l else y::insI x l
def dNames (now:List (Int×Nat)):List Int:=now.foldr (fun p l=>insI p.1 l) []
theorem zkw (x:Int): ∀l,(insI x l).Perm (x::l)
 | []=> .refl _
 | y::l=>by
  unfold insI
  split
  ·exact .refl _
  ·exact ((zkw x l).cons y).trans (.swap x y l)
theorem zkx (x:Int): ∀{l:List Int},l.Pairwise (· <= ·)->(insI x l).Pairwise (· <= ·)
 | [],_=>by simp [insI]
 | y::l,h=>by
  unfold insI
  rw [List.pairwise_cons] at h
  split
  ·rename_i c
   rw [List.pairwise_cons,List.pairwise_cons]
   exact ⟨fun z hz=>(List.mem_cons.1 hz).elim (fun e=>e▸c) (fun hz=>Int.le_trans c (h.1 z hz)),h⟩
  ·rename_i c
   rw [List.pairwise_cons]
   refine ⟨fun z hz=>?_,zkx x h.2⟩
   rcases List.mem_cons.1 ((zkw x l).mem_iff.1 hz) with e | hz
   ·omega
   ·exact h.1 z hz
theorem zky: ∀now:List (Int×Nat),(dNames now).Perm (now.map (·.1))
 | []=> .refl _
 | p::l=>(zkw p.1 _).trans ((zky l).cons p.1)
theorem zkz: ∀now:List (Int×Nat),(dNames now).Pairwise (· <= ·)
 | []=> .nil
 | p::l=>zkx p.1 (zkz l)
theorem zk0 {now:List (Int×Nat)} {ss:List Int} (h:ss.Perm (now.map (·.1))):ss.mergeSort (fun x y=>decide (x<=y))=dNames now:=by
 refine List.Perm.eq_of_pairwise (le:=fun a b:Int=>a<=b) (fun a b _ _ h1 h2=>by omega) ?_ (zkz now) (((List.mergeSort_perm _ _).trans h).trans (zky now).symm)
 have:=List.pairwise_mergeSort (le:=fun x y:Int=>decide (x<=y)) (fun a b c h1 h2=>by simp at*;omega) (fun a b=>by simp;omega) ss
 exact this.imp fun h=>by simpa using h
theorem NMap.turned {w:World} {nb cn:Nat} {es:Array MapEntry} {ks:List (Int×Nat)} (h:NMap w nb es cn ks) {j:Nat} {n:Int} {f g:Nat} (hj:ks[j]? =some (n,g)):
  NMap (_root_.Go.ChangeMaps.setBlock w nb (.map (es.modify j fun e=>{e with key:= .int .i64 n,val:= .pointer (some ⟨f,0,none⟩)}) cn)) nb (es.modify j fun e=>{e with key:= .int .i64 n,val:= .pointer (some ⟨f,0,none⟩)}) cn (ks.set j (n,f)):=by
 have hb:((es.modify j fun e=>{e with key:= .int .i64 n,val:= .pointer (some ⟨f,0,none⟩)}).toList.map (·.born))=es.toList.map (·.born):=by
  apply List.ext_getElem?
  intro i
  simp only [y40,y49,Array.getElem?_modify]
  split
  ·cases es[i]? <;>rfl
  ·rfl
 exact {
  at_:=by
   show (w.heap.setIfInBounds _ _)[_]? =_
   rw [Array.getElem?_setIfInBounds_self_of_lt (Array.getElem?_eq_some_iff.1 h.at_).1]
  size:=by simp [h.size]
  ent:=fun i k f' hi=>by
   rw [List.getElem?_set] at hi
   rw [Array.getElem?_modify]
   by_cases e:j=i
   ·subst e
    rw [if_pos rfl,if_pos (z7 hj)] at hi
    cases hi
    obtain ⟨q1,b,q2⟩:=h.ent j n g hj
    exact ⟨q1,b,by rw [if_pos rfl,q2];rfl⟩
   ·rw [if_neg e] at hi ⊢
    exact h.ent _ _ _ hi
  keys:=by
   have:(ks.set j (n,f)).map (·.1)=ks.map (·.1):=by
    rw [List.map_set]
    apply List.ext_getElem?
    intro i
    rw [List.getElem?_set]
    by_cases e:j=i
    ·subst e
     rw [if_pos rfl,if_pos (by simp;exact z7 hj),y40,hj];rfl
    ·rw [if_neg e]
   rw [this];exact h.keys
  born:=fun e he=>by
   have:e.born∈es.toList.map (·.born):=by rw [<- hb];exact List.mem_map.2 ⟨e,he,rfl⟩
   obtain ⟨e',h1,h2⟩:=List.mem_map.1 this
   rw [<- h2];exact h.born e' h1
  once:=by rw [hb];exact h.once}
def mvO (σ:Nat->Option Nat) (t:Nat×Nat):Nat×Nat:=if t.1=4\/t.1=5 then (match σ t.2 with | some j=>(t.1,j) | none=>(6,0)) else t
def ndel:List (Int×Nat)->Int->List (Int×Nat)
 | [],_=>[]
 | p::l,n=>if p.1=n then l else p::ndel l n
def dRem (d:Dk) (n:Int):Dk×Int:=if d.out=true then (d,11) else if (dlook d.now n).isSome=true then (did {d with now:=ndel d.now n,wts:=d.wts+1},0) else (d,8)
def dMove (d:Dk) (n to:Int):Dk×Int:=if d.out=true then (d,11) else match dlook d.now n with
 | none=>(d,8)
 | some x=>if¬(0<=to/\to<1048576) then (d,1) else if n=to then (did d,0) else (did {d with now:=dset (ndel d.now n) to x,wts:=d.wts+1},0)
def dCut (d:Dk) (n:Int):Dk:= {d with armed:=decide (1<=n),left:=n,out:=d.out || decide (n<1)}
theorem zk1 {P:Program} {f:FuncId} {rest:List V} {H:Hp} {id:Nat} {d d':Dk} {rs:List V} {us:List Value} (hb:H[id]? =some (.dsk d))
  (hw: ∀(I:Addr->Prop) (ρ:Infs) (w:World) (xs:List Value) (B:Nat) (D:List Nat),HR I ρ w H->xs.length=rest.length->(∀(i:Nat) (v:V),rest[i]? =some v->VR I ρ w.cell? v (xs.getD i undef))->ρ[id]? =some (some (.dsk B D))->DskAt w B D d->(∀a,I a-> ¬(Inf.dsk B D).has a.block)->
   Calls P f (.pointer (some ⟨B,0,none⟩)::xs).toArray w fun e w'=>e= .returned (packX us)/\Kp (Inf.dsk B D).has w w'/\ ∃D',DskAt w' B D' d'/\ ∀x∈D',x∈D\/w.heap.size<=x)
  (hl2:us.length=rs.length) (hu: ∀(I:Addr->Prop) (ρ:Infs) (c:Addr->Option Value) (i:Nat) (v:V),rs[i]? =some v->VR I ρ c v (us.getD i undef)):InlOk P f (.dp id::rest) H rs (H.set id (.dsk d')):=by
 intro I ρ w xs hl hr hx
 obtain ⟨x,xs',rfl⟩: ∃x xs',xs=x::xs':=by
  match xs,hl with
  | x::xs',_=>exact ⟨x,xs',rfl⟩
 have h0:VR I ρ w.cell? (.dp id) x:=by simpa using hx 0 _ rfl
 have hid:=z7 hb
 have hρ:ρ[id]? =some (ρ.getD id none):=by simp [show id<ρ.length by rw [hr.len];exact hid]
 obtain ⟨B,D,hB,hd,hI⟩:=hr.blk id _ _ hb hρ
 rw [hB] at hρ
 have hxe:x= .pointer (some ⟨B,0,none⟩):=by
  cases h0 with
  | dp _ _ hi ho hp=>obtain ⟨B',D',e1,e2⟩:=hp _ hρ;cases e1;exact e2
 subst hxe
 refine (hw I ρ w xs' B D hr (by simpa using hl) (fun i v hi=>by simpa using hx (i+1) v (by simpa using hi)) hρ hd hI).mono ?_
 rintro e w' ⟨rfl,k,D',hd',hsub⟩
 have hc: ∀a,I a->w'.cell? a=w.cell? a:=fun a ha=>zkg k (zbq (hr.cells a ha)) (hI a ha)
 have hlive: ∀(j:Nat) (inf:Inf) (B':Nat),ρ[j]? =some (some inf)->inf.has B'->B'<w.heap.size:=fun j inf B' h1 h2=>hr.live_lt ⟨j,inf,h1,h2⟩
 have hsub': ∀x,(Inf.dsk B D').has x->(Inf.dsk B D).has x\/w.heap.size<=x:=fun x hx=>hx.elim (fun h=> .inl (.inl h)) fun h=>(hsub x h).imp .inr _root_.id
 refine ⟨I,ρ.set id (some (.dsk B D')),us,rfl,hl2,fun i y hi=>hu _ _ _ i y hi,HR.upd hr hb hρ (fun _ h=>h) hc (fun a ha=>by rw [hc a ha];exact hr.cells a ha) (fun j inf B' hj hi hB'=>?_) (fun a ha=> .inl ha) (.inr ⟨D',rfl⟩) ⟨B,D',rfl,hd',fun a ha h=>?_⟩ (fun B' hB' j inf hj hi h=>?_),
  Nxt.upd hρ (fun _ h=>h) (fun a h=> .inl h) (.inr ⟨D',rfl⟩) (fun B' hB'=>(hsub' B' hB').imp (fun h=>⟨id,_,hρ,h⟩) _root_.id) ⟨k.os,k.tape,k.output,k.size,fun B' hB' hL=>k.keep B' hB' fun h=>hL ⟨id,_,hρ,h⟩,hc⟩ (by rw [hr.len];exact y13 _)⟩
 ·exact k.keep B' (hlive j inf B' hi hB') fun h=>hj (hr.apart _ _ _ _ _ hi hρ hB' h)
 ·rcases hsub' _ h with h | h
  ·exact hI a ha h
  ·have:=zbq (hr.cells a ha);omega
 ·rcases hsub' B' hB' with h1 | h1
  ·exact hj (hr.apart _ _ _ _ _ hi hρ h h1)
  ·have:=hlive j inf B' hi h;omega
theorem zk2 {P:Program} {f:FuncId} {rest:List V} {H:Hp} {id:Nat} {d d':Dk} {v:V} {u:Value} (hb:H[id]? =some (.dsk d))
  (hw: ∀(I:Addr->Prop) (ρ:Infs) (w:World) (xs:List Value) (B:Nat) (D:List Nat),HR I ρ w H->xs.length=rest.length->(∀(i:Nat) (v:V),rest[i]? =some v->VR I ρ w.cell? v (xs.getD i undef))->ρ[id]? =some (some (.dsk B D))->DskAt w B D d->(∀a,I a-> ¬(Inf.dsk B D).has a.block)->
   Calls P f (.pointer (some ⟨B,0,none⟩)::xs).toArray w fun e w'=>e= .returned u/\Kp (Inf.dsk B D).has w w'/\ ∃D',DskAt w' B D' d'/\ ∀x∈D',x∈D\/w.heap.size<=x)
  (hu: ∀(I:Addr->Prop) (ρ:Infs) (c:Addr->Option Value),VR I ρ c v u):InlOk P f (.dp id::rest) H [v] (H.set id (.dsk d')):=
 zk1 (us:=[u]) hb hw rfl fun I ρ c i y hi=>by
  match i,hi with
  | 0,hi=>simp only [y35,y1] at hi;subst hi;exact hu _ _ _
def NewW (P:Program) (f:FuncId):Prop:= ∃ty:TypeId,∀(w:World) (n:Int),Calls P f #[.int .i64 n] w fun e w'=>e= .returned (.pointer (some ⟨w.heap.size+2,0,none⟩))/\w'=((w.alloc (.map #[] 0)).alloc (.map #[] 0)).alloc (.cells (dcells ⟨n,[],0,false,false,0⟩ w.heap.size (w.heap.size+1) (.slice none 0 0)) ty (0,0))
def OnW (P:Program) (f:FuncId):Prop:= ∀(w:World) (B:Nat) (D:List Nat) (d:Dk),DskAt w B D d->Calls P f #[.pointer (some ⟨B,0,none⟩)] w fun e w'=>e= .returned (.bool !d.out)/\w'=w
def SyncW (P:Program) (f:FuncId):Prop:= ∀(w:World) (B:Nat) (D:List Nat) (d:Dk) (n:Int),DskAt w B D d->Calls P f #[.pointer (some ⟨B,0,none⟩), .int .i64 n] w fun e w'=>e= .returned (.int .i64 (dSync d n).2)/\Kp (Inf.dsk B D).has w w'/\ ∃D',DskAt w' B D' (dSync d n).1/\ ∀x∈D',x∈D\/w.heap.size<=x
def SyncDW (P:Program) (f:FuncId):Prop:= ∀(w:World) (B:Nat) (D:List Nat) (d:Dk),DskAt w B D d->Calls P f #[.pointer (some ⟨B,0,none⟩)] w fun e w'=>e= .returned (.int .i64 (dSyncD d).2)/\Kp (Inf.dsk B D).has w w'/\ ∃D',DskAt w' B D' (dSyncD d).1/\ ∀x∈D',x∈D\/w.heap.size<=x
def AppW (P:Program) (f:FuncId):Prop:= ∀(w:World) (B:Nat) (D:List Nat) (d:Dk) (n:Int) (m c:Nat) (aS:Option Addr),DskAt w B D d->inR .i64 n->SrcOk w (Inf.dsk B D).has aS m->dUsed d.now+m<=most->d.wts+1<=most->
 Calls P f #[.pointer (some ⟨B,0,none⟩), .int .i64 n, .slice aS m c] w fun e w'=>e= .returned (.int .i64 (dApp d n m).2)/\Kp (Inf.dsk B D).has w w'/\ ∃D',DskAt w' B D' (dApp d n m).1/\ ∀x∈D',x∈D\/w.heap.size<=x
def fOther (least x:Int):Bool:=decide (x<least) || (Int.tmod x 2 !=Int.tmod least 2)
def dFiles (d:Dk) (least:Int):List Int:=(dNames d.now).filter fun x=>!fOther least x
def NamesW (P:Program) (f:FuncId):Prop:= ∃ty:TypeId,∀(w:World) (B:Nat) (D:List Nat) (d:Dk),DskAt w B D d->d.now.length<=4294967296->
 Calls P f #[.pointer (some ⟨B,0,none⟩)] w fun e w'=> ∃v,e= .returned v/\w'.ownsRow w.heap.size ty 1 v (dNames d.now).length ((dNames d.now).map (Value.int .i64))/\(v= .slice none 0 0<->dNames d.now=[])/\Kp (fun _=>False) w w'
def RemW (P:Program) (f:FuncId):Prop:= ∀(w:World) (B:Nat) (D:List Nat) (d:Dk) (n:Int),DskAt w B D d->d.wts+1<=most->Calls P f #[.pointer (some ⟨B,0,none⟩), .int .i64 n] w fun e w'=>e= .returned (.int .i64 (dRem d n).2)/\Kp (Inf.dsk B D).has w w'/\ ∃D',DskAt w' B D' (dRem d n).1/\ ∀x∈D',x∈D\/w.heap.size<=x
def RenW (P:Program) (f:FuncId):Prop:= ∀(w:World) (B:Nat) (D:List Nat) (d:Dk) (n to:Int),DskAt w B D d->inR .i64 to->d.wts+1<=most->Calls P f #[.pointer (some ⟨B,0,none⟩), .int .i64 n, .int .i64 to] w fun e w'=>e= .returned (.int .i64 (dMove d n to).2)/\Kp (Inf.dsk B D).has w w'/\ ∃D',DskAt w' B D' (dMove d n to).1/\ ∀x∈D',x∈D\/w.heap.size<=x
def CutW (P:Program) (f:FuncId):Prop:= ∀(w:World) (B:Nat) (D:List Nat) (d:Dk) (n:Int),DskAt w B D d->inR .i64 n->Calls P f #[.pointer (some ⟨B,0,none⟩), .int .i64 n] w fun e w'=>e= .returned (.tuple #[])/\Kp (Inf.dsk B D).has w w'/\ ∃D',DskAt w' B D' (dCut d n)/\ ∀x∈D',x∈D\/w.heap.size<=x
def FilesW (P:Program) (f:FuncId):Prop:= ∀(w:World) (B:Nat) (D:List Nat) (d:Dk) (n:Int),DskAt w B D d->d.now.length<=4294967296->Calls P f #[.pointer (some ⟨B,0,none⟩), .int .i64 n] w fun e w'=>
 ∃(a:Option Addr) (cp:Nat),e= .returned (.slice a (dFiles d n).length cp)/\(a=none<->dNames d.now=[])/\(a=none->cp=0)/\(dFiles d n).length<=cp/\
  (∀ad,a=some ad->w.heap.size<=ad.block/\ ∀(i:Nat) (x:Int),(dFiles d n)[i]? =some x->w'.cell? (ad.add i)=some (.int .i64 x))/\Kp (fun _=>False) w w'
def dR (d:Dk) (n:Int):Option (Dk×Int):=if d.wts+1<=most then some (dRem d n) else none
def dM (d:Dk) (n to:Int):Option (Dk×Int):=if d.wts+1<=most then some (dMove d n to) else none
def dA (d:Dk) (n:Int) (m:Nat):Option (Dk×Int):=if dUsed d.now+m<=most/\d.wts+1<=most then some (dApp d n m) else none
def dS (d:Dk) (n:Int):Option (Dk×Int):=some (dSync d n)
def dD (d:Dk):Option (Dk×Int):=some (dSyncD d)
def dN (d:Dk):Option (List Int):=if d.now.length<=4294967296 then some (dNames d.now) else none
def dNew (n:Int):Dk:=⟨n,[],0,false,false,0⟩
def setD (H:Hp) (id:Nat) (r:Dk×Int):List V×Hp:=([.int .i64 r.2],H.set id (.dsk r.1))
def rowD (H:Hp) (l:List Int):List V×Hp:=([.vw H.length 0 0 l.length 1],H++[.row 0 (decide (l.length=0)) 1 (l.map (V.int .i64)) true])
def onD {α:Type} (f:Dk->Option α):Option Blk->Option α
 | some (.dsk d)=>f d
 | _=>none
def pNew:List V->Hp->Option (List V×Hp)
 | [.int .i64 n],H=>some ([.dp H.length],H++[.dsk (dNew n)])
 | _,_=>none
def pOn:List V->Hp->Option (List V×Hp)
 | [.dp id],H=>onD (fun d=>some ([.bool !d.out],H)) H[id]?
 | _,_=>none
def pSync:List V->Hp->Option (List V×Hp)
 | [.dp id, .int .i64 n],H=>onD (fun d=>(dS d n).bind fun r=>some (setD H id r)) H[id]?
 | _,_=>none
def pSyncD:List V->Hp->Option (List V×Hp)
 | [.dp id],H=>onD (fun d=>(dD d).bind fun r=>some (setD H id r)) H[id]?
 | _,_=>none
def pApp:List V->Hp->Option (List V×Hp)
 | [.dp id, .int .i64 n,x],H=>(elems H x).bind fun ys=>if sizes 1 ys=true then onD (fun d=>(dA d n ys.length).bind fun r=>some (setD H id r)) H[id]? else none
 | _,_=>none
def pRem:List V->Hp->Option (List V×Hp)
 | [.dp id, .int .i64 n],H=>onD (fun d=>(dR d n).bind fun r=>some (setD H id r)) H[id]?
 | _,_=>none
def pRen:List V->Hp->Option (List V×Hp)
 | [.dp id, .int .i64 n, .int .i64 to],H=>onD (fun d=>(dM d n to).bind fun r=>some (setD H id r)) H[id]?
 | _,_=>none
def pCut:List V->Hp->Option (List V×Hp)
 | [.dp id, .int .i64 n],H=>onD (fun d=>some ([],H.set id (.dsk (dCut d n)))) H[id]?
 | _,_=>none
def dF (d:Dk) (n:Int):Option (Bool×List Int):=if d.now.length<=4294967296 then some (decide ((dNames d.now).length=0),dFiles d n) else none
def pFiles:List V->Hp->Option (List V×Hp)
 | [.dp id, .int .i64 n],H=>onD (fun d=>(dF d n).bind fun r=>some ([.sl r.1 (r.2.map (V.int .i64))],H)) H[id]?
 | _,_=>none
def pNames:List V->Hp->Option (List V×Hp)
 | [.dp id],H=>onD (fun d=>(dN d).bind fun l=>some (rowD H l)) H[id]?
 | _,_=>none
theorem zk3 {α:Type} {f:Dk->Option α} {b:Option Blk} {r:α} (h:onD f b=some r): ∃d,b=some (.dsk d)/\f d=some r:=by
 unfold onD at h
 split at h
 ·exact ⟨_,rfl,h⟩
 ·cases h
theorem r_of {x:Int} (h:0<=x/\x<=11):inR .i64 x:=⟨Int.le_trans (by decide) h.1,Int.le_trans h.2 (by decide)⟩
theorem zk4 (d:Dk) (n:Int):inR .i64 (dSync d n).2:=by
 unfold dSync;split<;>(try split)<;>exact r_of ⟨by simp,by simp⟩
theorem zk5 (d:Dk):inR .i64 (dSyncD d).2:=by
 unfold dSyncD;split<;>exact r_of ⟨by simp,by simp⟩
theorem dApp_r (d:Dk) (n:Int) (m:Nat):inR .i64 (dApp d n m).2:=by
 unfold dApp;split<;>(try split)<;>(try split)<;>exact r_of ⟨by simp,by simp⟩
theorem zk6 {P:Program} {f:FuncId} (hw:SyncW P f): ∀vs H rs H',pSync vs H=some (rs,H')->InlOk P f vs H rs H':=by
 intro vs H rs H' h
 unfold pSync at h
 split at h
 case h_2=>cases h
 rename_i id n
 obtain ⟨d,hb,h⟩:=zk3 h
 simp only [dS,y4,setD,y1,y7] at h
 obtain ⟨rfl,rfl⟩:=h
 refine zk2 hb (fun I ρ w xs B D hr hl hx _ hd _=>?_) fun _ _ _=> .int _ _ (zk4 _ _)
 obtain ⟨x,rfl⟩: ∃x,xs=[x]:=by
  match xs,hl with
  | [x],_=>exact ⟨x,rfl⟩
 have h0:VR I ρ w.cell? (.int .i64 n) x:=by simpa using hx 0 _ rfl
 cases h0
 exact hw w B D d _ hd
theorem zk7 {P:Program} {f:FuncId} (hw:SyncDW P f): ∀vs H rs H',pSyncD vs H=some (rs,H')->InlOk P f vs H rs H':=by
 intro vs H rs H' h
 unfold pSyncD at h
 split at h
 case h_2=>cases h
 obtain ⟨d,hb,h⟩:=zk3 h
 simp only [dD,y4,setD,y1,y7] at h
 obtain ⟨rfl,rfl⟩:=h
 refine zk2 hb (fun I ρ w xs B D hr hl hx _ hd _=>?_) fun _ _ _=> .int _ _ (zk5 _)
 obtain rfl:xs=[]:=y33 hl
 exact hw w B D d hd
theorem pOn_ok {P:Program} {f:FuncId} (hw:OnW P f): ∀vs H rs H',pOn vs H=some (rs,H')->InlOk P f vs H rs H':=by
 intro vs H rs H' h
 unfold pOn at h
 split at h
 case h_2=>cases h
 rename_i id
 obtain ⟨d,hb,h⟩:=zk3 h
 simp only [y1,y7] at h
 obtain ⟨rfl,rfl⟩:=h
 have e:H=H.set id (.dsk d):=by
  rw [<- (List.getElem?_eq_some_iff.1 hb).2];exact (List.set_getElem_self _).symm
 rw [e];rw [<- e]
 have:=zk2 (P:=P) (f:=f) (rest:=[]) (d':=d) (v:= .bool !d.out) (u:= .bool !d.out) hb (fun I ρ w xs B D hr hl hx _ hd _=>by
  obtain rfl:xs=[]:=y33 hl
  exact (hw w B D d hd).mono fun e w' ⟨h1,h2⟩=>⟨h1,h2▸Kp.refl _ _,D,h2▸hd,fun x h=> .inl h⟩) fun _ _ _=> .bool _
 rw [<- e] at this;exact this
theorem src_of {I:Addr->Prop} {ρ:Infs} {w:World} {H:Hp} (hr:HR I ρ w H) {x:V} {ys:List V} {a:Value} (hx:VR I ρ w.cell? x a) (h:elems H x=some ys) (hsz: ∀(i:Nat) (e:V),ys[i]? =some e->(leaves e).length=1) {id B:Nat} {D:List Nat} (hi:ρ[id]? =some (some (.dsk B D))) (hI: ∀a,I a-> ¬(Inf.dsk B D).has a.block):
  ∃aS c,a= .slice aS ys.length c/\SrcOk w (Inf.dsk B D).has aS ys.length:=by
 obtain ⟨ad,cp,e1,e2,e3,e4,vals,e5⟩:=(zbh hr hx h 1 hsz).out
 refine ⟨ad,cp,e1,fun hn=>by rw [e3 hn];rfl,fun ad' ha k hk=>?_⟩
 have hy:=y6 hk
 have hl:=e4 k _ hy
 obtain ⟨lf,hlf⟩: ∃lf,(leaves ys[k])[0]? =some lf:=⟨(leaves ys[k])[0]'(by omega),y6 (by omega)⟩
 obtain ⟨q1,q2,q3⟩:=e5 k 0 _ lf hy hlf
 have q3:=q3 ad' ha
 rw [Nat.mul_one,Nat.add_zero] at q3
 refine ⟨_,q3,?_,?_⟩
 ·have:=q2 []
  generalize vals k 0=u at this ⊢
  cases lf<;>simp [deep1] at q1<;>(cases this;rfl)
 ·have kk:I (ad'.add k)\/ ∃(j:Nat) (inf:Inf),ρ[j]? =some (some inf)/\inf.has (ad'.add k).block/\j≠id:=by
   cases hx<;>try (simp [elems] at h;done)
   case sl z xs a cp s vals' hc hz hn hs' hd hcell hv=>
    simp only [elems,y1] at h;subst h
    simp only [Value.slice.injEq] at e1
    obtain ⟨rfl,_,_⟩:=e1
    have:=(hcell ad' k 0 _ lf ha hy hlf).1
    have hs1:s=1:=by rw [<- hs' _ _ hy];exact hl
    rw [hs1,Nat.mul_one,Nat.add_zero] at this
    exact .inl this
   case vw id' ver off len md hi' ho hp=>
    simp only [elems] at h
    cases hrow:row? H id' ver with
    | none=>simp [hrow] at h
    | some r=>
     rcases hr.row hrow with ⟨h1,h2,h3⟩ | ⟨h1,B',K,h2,h3⟩
     ·obtain ⟨rfl,_,_⟩:=(hp _ h3).2 rfl
      simp only [Value.slice.injEq] at e1
      rw [<- e1.1] at ha;cases ha
     ·obtain ⟨_,_,ad2,cp2,rfl,g1,_,g2⟩:=(hp _ h2).2 rfl
      simp only [Value.slice.injEq] at e1
      obtain ⟨rfl,_,rfl⟩:=e1
      cases ha
      have:=g2 (by omega)
      subst this
      exact .inr ⟨id',_,h2,by rw [add_mk];rfl,fun e=>by rw [e,hi] at h2;cases h2⟩
  rcases kk with kk | ⟨j,inf,g1,g2,g3⟩
  ·exact hI _ kk
  ·exact fun hh=>g3 (hr.apart _ _ _ _ _ g1 hi g2 hh)
theorem zk8 {P:Program} {f:FuncId} (hw:AppW P f): ∀vs H rs H',pApp vs H=some (rs,H')->InlOk P f vs H rs H':=by
 intro vs H rs H' h
 unfold pApp at h
 split at h
 case h_2=>cases h
 rename_i id n x
 obtain ⟨ys,hys,h⟩:=Option.bind_eq_some_iff.1 h
 split at h
 case isFalse=>cases h
 rename_i hsz
 obtain ⟨d,hb,h⟩:=zk3 h
 unfold dA at h
 split at h
 case isFalse=>cases h
 rename_i hm
 simp only [y4,setD,y1,y7] at h
 obtain ⟨rfl,rfl⟩:=h
 refine zk2 hb (fun I ρ w xs B D hr hl hx hi hd hI=>?_) fun _ _ _=> .int _ _ (dApp_r _ _ _)
 obtain ⟨y,z,rfl⟩: ∃y z,xs=[y,z]:=by
  match xs,hl with
  | [y,z],_=>exact ⟨y,z,rfl⟩
 have h0:VR I ρ w.cell? (.int .i64 n) y:=by simpa using hx 0 _ rfl
 have h1:VR I ρ w.cell? x z:=by simpa using hx 1 _ rfl
 obtain ⟨aS,c,rfl,hs⟩:=src_of hr h1 hys (zbl hsz) hi hI
 cases h0
 rename_i hn
 exact hw w B D d n _ c aS hd hn hs hm.1 hm.2
theorem zk9 {w:World} {n:Int} (hn:inR .i64 n) (ty:TypeId):
  DskAt (((w.alloc (.map #[] 0)).alloc (.map #[] 0)).alloc (.cells (dcells (dNew n) w.heap.size (w.heap.size+1) (.slice none 0 0)) ty (0,0))) (w.heap.size+2) [w.heap.size,w.heap.size+1] (dNew n):=by
 have e0:(((w.alloc (.map #[] 0)).alloc (.map #[] 0)).alloc (.cells (dcells (dNew n) w.heap.size (w.heap.size+1) (.slice none 0 0)) ty (0,0))).heap[w.heap.size]? =some (.map #[] 0):=by
  show (((w.heap.push _).push _).push _)[w.heap.size]? =_
  rw [Array.getElem?_push,if_neg (by rw [Array.size_push,Array.size_push];omega),Array.getElem?_push,if_neg (by rw [Array.size_push];omega),Array.getElem?_push,if_pos rfl]
 have e1:(((w.alloc (.map #[] 0)).alloc (.map #[] 0)).alloc (.cells (dcells (dNew n) w.heap.size (w.heap.size+1) (.slice none 0 0)) ty (0,0))).heap[w.heap.size+1]? =some (.map #[] 0):=by
  show (((w.heap.push _).push _).push _)[w.heap.size+1]? =_
  rw [Array.getElem?_push,if_neg (by rw [Array.size_push,Array.size_push];omega),Array.getElem?_push,if_pos (by rw [Array.size_push])]
 have e2:(((w.alloc (.map #[] 0)).alloc (.map #[] 0)).alloc (.cells (dcells (dNew n) w.heap.size (w.heap.size+1) (.slice none 0 0)) ty (0,0))).heap[w.heap.size+2]? =some (.cells (dcells (dNew n) w.heap.size (w.heap.size+1) (.slice none 0 0)) ty (0,0)):=by
  show (((w.heap.push _).push _).push _)[w.heap.size+2]? =_
  rw [Array.getElem?_push,if_pos (by rw [Array.size_push,Array.size_push])]
 have hsz:(((w.alloc (.map #[] 0)).alloc (.map #[] 0)).alloc (.cells (dcells (dNew n) w.heap.size (w.heap.size+1) (.slice none 0 0)) ty (0,0))).heap.size=w.heap.size+3:=by simp
 generalize ((w.alloc (.map #[] 0)).alloc (.map #[] 0)).alloc (.cells (dcells (dNew n) w.heap.size (w.heap.size+1) (.slice none 0 0)) ty (0,0))=W at*
 refine ⟨fun b=>if b=w.heap.size+2 then some (0,0) else if b=w.heap.size then some (1,0) else if b=w.heap.size+1 then some (2,0) else none,w.heap.size,w.heap.size+1,none,0,[],#[],#[],0,0,?_⟩
 exact {
  oB:=by simp
  oK:=by simp
  oN:=by simp
  oW:=fun r h=>nomatch h
  oF:=fun i f h=>by simp at h
  oD :=fun x t h=>by
   split at h
   ·rename_i h1;exact .inl h1.symm
   ·split at h
    ·rename_i h1;exact .inr (by rw [h1];simp)
    ·split at h
     ·rename_i h1;exact .inr (by rw [h1];simp)
     ·cases h
  lt:=fun x h=>by
   rcases h with h | h
   ·omega
   ·simp at h;omega
  cells:=⟨ty,e2⟩
  room:=hn
  left:=r_of ⟨by simp [dNew],by simp [dNew]⟩
  kept:=e0
  map:=⟨e1,rfl,fun i k f h=>by simp [ksOf,dNew] at h,by simp [ksOf,dNew],fun e h=>by simp at h,by simp⟩
  wts:=⟨rfl,rfl⟩
  len:=rfl
  file:=fun i p f h=>by simp [dNew] at h}
theorem zla {P:Program} {f:FuncId} (hw:NewW P f): ∀vs H rs H',pNew vs H=some (rs,H')->InlOk P f vs H rs H':=by
 intro vs H rs H' h
 unfold pNew at h
 split at h
 case h_2=>cases h
 rename_i n
 simp only [y1,y7] at h
 obtain ⟨rfl,rfl⟩:=h
 obtain ⟨ty,hw⟩:=hw
 intro I ρ w xs hl hr hx
 obtain ⟨x,rfl⟩: ∃x,xs=[x]:=by
  match xs,hl with
  | [x],_=>exact ⟨x,rfl⟩
 have h0:VR I ρ w.cell? (.int .i64 n) x:=by simpa using hx 0 _ rfl
 cases h0
 rename_i hn
 refine (hw w n).mono ?_
 rintro e w' ⟨rfl,e⟩
 have hd:=zk9 (w:=w) hn ty
 rw [show (⟨n,[],0,false,false,0⟩:Dk)=dNew n from rfl] at e
 have k:Kp (fun _=>False) w w':=by rw [e];exact ((Kp.alloc _ _ _).trans (Kp.alloc _ _ _)).trans (Kp.alloc _ _ _)
 rw [<- e] at hd
 clear e
 have hc: ∀a,I a->w'.cell? a=w.cell? a:=fun a ha=>zkg k (zbq (hr.cells a ha)) (by simp)
 have hmv:=hr.move (w':=w') (fun B hB=>k.keep B (hr.live_lt hB) (by simp)) hc
 have hlo: ∀B,(Inf.dsk (w.heap.size+2) [w.heap.size,w.heap.size+1]).has B->w.heap.size<=B:=fun B h=>by
  rcases h with h | h
  ·omega
  ·simp at h;omega
 have hlo2: ∀B,Has (some (.dsk (w.heap.size+2) [w.heap.size,w.heap.size+1])) B->w.heap.size<=B:=fun B h=>hlo B h
 refine ⟨I,ρ++[some (.dsk (w.heap.size+2) [w.heap.size,w.heap.size+1])],[.pointer (some ⟨w.heap.size+2,0,none⟩)],rfl,rfl,fun i v hi=>?_,hmv.push ⟨_,_,rfl,hd,fun a ha h=>?_⟩ (fun B hB hl=>?_),
  Nxt.push _ hlo2 ⟨k.os,k.tape,k.output,k.size,fun B hB _=>k.keep B hB (by simp),hc⟩ (by rw [hr.len];exact y13 _)⟩
 ·match i,hi with
  | 0,hi=>
   simp only [y35,y1] at hi;subst hi
   refine .dp _ _ (by simp [hr.len]) ⟨_,rfl⟩ fun inf hinf=>?_
   rw [<- hr.len] at hinf
   simp only [y25,y1] at hinf
   exact ⟨_,_,hinf.symm,rfl⟩
 ·have h1:=hlo _ h
  have:=zbq (hr.cells a ha);omega
 ·have h1:w.heap.size<=B:=hlo2 B hB
  obtain ⟨j,inf,g1,g2⟩:=hl
  have:=hr.live_lt ⟨j,inf,g1,g2⟩;omega
theorem DskAt.names_in {w:World} {B:Nat} {D:List Nat} {d:Dk} (h:DskAt w B D d): ∀x∈dNames d.now,inR .i64 x:=by
 obtain ⟨own,kb,nb,wb,wc,fr,ek,es,ck,cn,h⟩:=h
 intro x hx
 have:=(zky d.now).mem_iff.1 hx
 rw [<- zkq h.len] at this
 obtain ⟨p,hp,rfl⟩:=List.mem_map.1 this
 obtain ⟨i,hi⟩:=List.mem_iff_getElem?.1 hp
 exact (h.map.ent i p.1 p.2 hi).1
theorem zlb {P:Program} {f:FuncId} (hw:NamesW P f): ∀vs H rs H',pNames vs H=some (rs,H')->InlOk P f vs H rs H':=by
 intro vs H rs H' h
 unfold pNames at h
 split at h
 case h_2=>cases h
 rename_i id
 obtain ⟨d,hb,h⟩:=zk3 h
 unfold dN at h
 split at h
 case isFalse=>cases h
 rename_i hm
 simp only [y4,rowD,y1,y7] at h
 obtain ⟨rfl,rfl⟩:=h
 obtain ⟨ty,hw⟩:=hw
 intro I ρ w xs hl hr hx
 obtain ⟨x,rfl⟩: ∃x,xs=[x]:=by
  match xs,hl with
  | [x],_=>exact ⟨x,rfl⟩
 have h0:VR I ρ w.cell? (.dp id) x:=by simpa using hx 0 _ rfl
 have hid:=z7 hb
 have hρ:ρ[id]? =some (ρ.getD id none):=by simp [show id<ρ.length by rw [hr.len];exact hid]
 obtain ⟨B,D,hB,hd,hI⟩:=hr.blk id _ _ hb hρ
 rw [hB] at hρ
 have hxe:x= .pointer (some ⟨B,0,none⟩):=by
  cases h0 with
  | dp _ _ hi ho hp=>obtain ⟨B',D',e1,e2⟩:=hp _ hρ;cases e1;exact e2
 subst hxe
 refine (hw w B D d hd hm).mono ?_
 rintro e w' ⟨v,rfl,hrow,hnil,k⟩
 have hin:=hd.names_in
 generalize dNames d.now=l at*
 have hc: ∀a,I a->w'.cell? a=w.cell? a:=fun a ha=>zkg k (zbq (hr.cells a ha)) (by simp)
 have hmv:=hr.move (w':=w') (fun B hB=>k.keep B (hr.live_lt hB) (by simp)) hc
 have key: ∀(i:Inf),BlkOk I (ρ++[some i]) w' (.row 0 (decide (l.length=0)) 1 (l.map (V.int .i64)) true) (some i)->(∀B,i.has B->w.heap.size<=B)->(∃a cp,v= .slice a l.length cp)->vwOk i 0 0 l.length 1 v->
   ∃(I':Addr->Prop) (ρ':Infs) (ys:List Value),Ending.returned v= .returned (packX ys)/\ys.length=[V.vw H.length 0 0 l.length 1].length/\(∀(i:Nat) (v:V),[V.vw H.length 0 0 l.length 1][i]? =some v->VR I' ρ' w'.cell? v (ys.getD i undef))/\HR I' ρ' w' (H++[.row 0 (decide (l.length=0)) 1 (l.map (V.int .i64)) true])/\Nxt H.length I ρ w I' ρ' w':=fun i hb2 hlo ho hv=>by
  refine ⟨I,ρ++[some i],[v],rfl,rfl,fun j y hj=>?_,hmv.push hb2 (fun B hB hl=>?_),Nxt.push _ (fun B hB=>hlo B hB) ⟨k.os,k.tape,k.output,k.size,fun B hB _=>k.keep B hB (by simp),hc⟩ (by rw [hr.len];exact y13 _)⟩
  ·match j,hj with
   | 0,hj=>
    simp only [y35,y1] at hj;subst hj
    refine .vw _ _ _ _ _ _ (by simp [hr.len]) ho fun inf hinf=>?_
    rw [<- hr.len] at hinf
    simp only [y25,y1] at hinf
    subst hinf;exact hv
  ·have h1:=hlo B hB
   obtain ⟨j,inf,g1,g2⟩:=hl
   have:=hr.live_lt ⟨j,inf,g1,g2⟩;omega
 by_cases hz:l=[]
 ·have hv:=hnil.2 hz
  subst hz;subst hv
  exact key (.nrow 1 0) (.inl ⟨by simp,rfl,rfl⟩) (fun B h=>h.elim) ⟨_,_,rfl⟩ ⟨y13 _,fun _=>⟨rfl,rfl,rfl⟩⟩
 ·have hlen:l.length≠0:=fun h=>hz (y33 h)
  obtain ⟨hr1,hr2⟩:=hrow
  rcases hr2 with ⟨_,h2⟩ | ⟨g,cap,cur,rfl,g1,g2,g3,g4,g5,g6⟩
  ·exact absurd h2 hlen
  have hM:maxLen=9223372036854775807:=by decide
  refine key (.row g cap 1 0 l.length) (.inr ⟨by simp [hlen],g,cap,by simp,cur,⟨ty,g2⟩,by omega,⟨by simp;omega,by omega⟩,fun i e hi=>?_,fun i j e lf hi hj=>?_,fun a ha e=>?_⟩) (fun B h=>by cases h;exact g1) ⟨_,_,rfl⟩ ⟨y13 _,fun _=>⟨by omega,fun _=>by omega,_,_,rfl,g3,fun _=>by omega,fun _=>by simp⟩⟩
  ·rw [y40] at hi
   obtain ⟨y,_,rfl⟩:=Option.map_eq_some_iff.1 hi
   rfl
  ·rw [y40] at hi
   obtain ⟨y,hy,rfl⟩:=Option.map_eq_some_iff.1 hi
   have hj0:j=0/\lf= .int .i64 y:=by
    match j,hj with
    | 0,hj=>simp [leaves] at hj;exact ⟨rfl,hj.symm⟩
   obtain ⟨rfl,rfl⟩:=hj0
   refine ⟨rfl,?_⟩
   have hil:=z7 hy
   have:cur.getD (i*1+0) undef= .int .i64 y:=by
    have h6:(List.take (l.length*1) cur.toList)[i]? =some (.int .i64 y):=by rw [g6,y40,hy];rfl
    rw [y46,if_pos (by omega),y49] at h6
    rw [y15,Nat.mul_one,Nat.add_zero,h6];rfl
   rw [this]
   exact .int _ _ (hin y (y52 hy))
  ·have:=zbq (hr.cells a ha);omega
theorem zlc {P:Program} {f:FuncId} (hw:FilesW P f): ∀vs H rs H',pFiles vs H=some (rs,H')->InlOk P f vs H rs H':=by
 intro vs H rs H' h
 unfold pFiles at h
 split at h
 case h_2=>cases h
 rename_i id n
 obtain ⟨d,hb,h⟩:=zk3 h
 unfold dF at h
 split at h
 case isFalse=>cases h
 rename_i hm
 simp only [y4,y1,y7] at h
 obtain ⟨rfl,rfl⟩:=h
 intro I ρ w xs hl hr hx
 obtain ⟨x,y,rfl⟩: ∃x y,xs=[x,y]:=by
  match xs,hl with
  | [x,y],_=>exact ⟨x,y,rfl⟩
 have h0:VR I ρ w.cell? (.dp id) x:=by simpa using hx 0 _ rfl
 have h1:VR I ρ w.cell? (.int .i64 n) y:=by simpa using hx 1 _ rfl
 cases h1
 have hid:=z7 hb
 have hρ:ρ[id]? =some (ρ.getD id none):=by simp [show id<ρ.length by rw [hr.len];exact hid]
 obtain ⟨B,D,hB,hd,hI⟩:=hr.blk id _ _ hb hρ
 rw [hB] at hρ
 have hxe:x= .pointer (some ⟨B,0,none⟩):=by
  cases h0 with
  | dp _ _ hi ho hp=>obtain ⟨B',D',e1,e2⟩:=hp _ hρ;cases e1;exact e2
 subst hxe
 refine (hw w B D d n hd hm).mono ?_
 rintro e w' ⟨a,cp,rfl,hnil,hcp,hle,hcell,k⟩
 have hlen:(dFiles d n).length<=4294967296:=by
  have h1:(dFiles d n).length<=(dNames d.now).length:=List.length_filter_le _ _
  have h2:=(zky d.now).length_eq
  rw [y23] at h2;omega
 have hin: ∀x∈dFiles d n,inR .i64 x:=fun x hx=>hd.names_in x (List.mem_filter.1 hx).1
 have hz:decide ((dNames d.now).length=0)=a.isNone:=by
  cases a with
  | none=>simp [hnil.1 rfl]
  | some ad=>
   have:dNames d.now≠[]:=fun e=>by have:=hnil.2 e;cases this
   simp [List.length_eq_zero_iff,this]
 rw [hz]
 generalize dFiles d n=l at*
 have hc: ∀a,I a->w'.cell? a=w.cell? a:=fun a ha=>zkg k (zbq (hr.cells a ha)) (by simp)
 have hllen:l.length<=9223372036854775807:=by
  cases a with
  | none=>have:=hcp rfl;omega
  | some ad=>
   have:=hlen;omega
 let I':Addr->Prop:=fun x=>I x\/ ∃(ad:Addr) (i:Nat),a=some ad/\i<l.length/\x=ad.add i
 have hnew: ∀x,I' x->I x\/w.heap.size<=x.block:=fun x hx=>hx.imp _root_.id fun ⟨ad,i,e1,_,e2⟩=>by
  have:=(hcell ad e1).1
  rw [e2];unfold Addr.add;split<;>exact this
 have hcells: ∀x,I' x->(w'.cell? x).isSome=true:=fun x hx=>by
  rcases hx with hx | ⟨ad,i,e1,e2,e3⟩
  ·rw [hc x hx];exact hr.cells x hx
  ·rw [e3,(hcell ad e1).2 i _ (y6 e2)];rfl
 have hhr:HR I' ρ w' H:= {
  len:=hr.len
  blk:=fun id b i hb hi=>(hr.blk id b i hb hi).move (fun a h=> .inl h) hc (fun B hB=>by
   cases i with
   | none=>cases hB
   | some inf=>exact k.keep B (hr.live_lt ⟨id,inf,hi,hB⟩) (by simp)) (fun B x hB hx=>(hnew x hx).imp _root_.id fun h e=>by
   cases i with
   | none=>cases hB
   | some inf=>have:=hr.live_lt ⟨id,inf,hi,hB⟩;omega) (y13 _) (fun _ _=>Pers.refl _)
  apart:=hr.apart
  cells:=hcells}
 refine ⟨I',ρ,[.slice a l.length cp],rfl,rfl,fun i v hi=>?_,hhr,⟨fun _ h=> .inl h,fun x hx=>(hnew x hx).imp _root_.id .inr,⟨k.os,k.tape,k.output,k.size,fun B hB _=>k.keep B hB (by simp),hc⟩,fun _ h=> .inl h,fun _ _=>Pers.refl _, .inl (by rw [hr.len];exact y13 _)⟩⟩
 match i,hi with
 | 0,hi=>
  simp only [y35,y1] at hi;subst hi
  have:=VR.sl (I:=I') (ρ:=ρ) (c:=w'.cell?) a.isNone (l.map (V.int .i64)) a cp 1 (fun i _=> .int .i64 (l.getD i 0)) ⟨by simpa using hle,by simpa using hllen⟩ rfl hcp (fun i x hi=>by
   rw [y40] at hi
   obtain ⟨y,_,rfl⟩:=Option.map_eq_some_iff.1 hi;rfl) (fun i j x lf hi hj=>by
   rw [y40] at hi
   obtain ⟨y,_,rfl⟩:=Option.map_eq_some_iff.1 hi
   match j,hj with
   | 0,hj=>simp [leaves] at hj;subst hj;rfl) (fun ad i j x lf ha hi hj=>by
   rw [y40] at hi
   obtain ⟨y,hy,rfl⟩:=Option.map_eq_some_iff.1 hi
   match j,hj with
   | 0,hj=>
    rw [Nat.mul_one,Nat.add_zero]
    refine ⟨.inr ⟨ad,i,ha,z7 hy,rfl⟩,?_⟩
    rw [(hcell ad ha).2 i y hy,y14,hy];rfl) (fun i j x lf hi hj=>by
   rw [y40] at hi
   obtain ⟨y,hy,rfl⟩:=Option.map_eq_some_iff.1 hi
   match j,hj with
   | 0,hj=>
    simp [leaves] at hj;subst hj
    rw [y14,hy]
    exact .int _ _ (hin y (y52 hy)))
  rw [y23] at this
  exact this
theorem dk_l:(∀{H:Hp} (n:Int),pNew [.int .i64 n] H=some ([.dp H.length],H++[.dsk (dNew n)]))/\(∀{H:Hp} (id:Nat),pOn [.dp id] H=onD (fun d=>some ([.bool !d.out],H)) H[id]?)/\
  (∀{H:Hp} (id:Nat) (n:Int),pSync [.dp id, .int .i64 n] H=onD (fun d=>(dS d n).bind fun r=>some (setD H id r)) H[id]?)/\
  (∀{H:Hp} (id:Nat),pSyncD [.dp id] H=onD (fun d=>(dD d).bind fun r=>some (setD H id r)) H[id]?)/\
  (∀{H:Hp} (id:Nat) (n:Int) (x:V),pApp [.dp id, .int .i64 n,x] H=(elems H x).bind fun ys=>if sizes 1 ys=true then onD (fun d=>(dA d n ys.length).bind fun r=>some (setD H id r)) H[id]? else none)/\
  (∀{H:Hp} (id:Nat) (n:Int),pRem [.dp id, .int .i64 n] H=onD (fun d=>(dR d n).bind fun r=>some (setD H id r)) H[id]?)/\
  (∀{H:Hp} (id:Nat) (n to:Int),pRen [.dp id, .int .i64 n, .int .i64 to] H=onD (fun d=>(dM d n to).bind fun r=>some (setD H id r)) H[id]?)/\
  (∀{H:Hp} (id:Nat) (n:Int),pCut [.dp id, .int .i64 n] H=onD (fun d=>some ([],H.set id (.dsk (dCut d n)))) H[id]?)/\
  (∀{H:Hp} (id:Nat) (n:Int),pFiles [.dp id, .int .i64 n] H=onD (fun d=>(dF d n).bind fun r=>some ([.sl r.1 (r.2.map (V.int .i64))],H)) H[id]?)/\
  (∀{H:Hp} (id:Nat),pNames [.dp id] H=onD (fun d=>(dN d).bind fun l=>some (rowD H l)) H[id]?)/\
  (∀{α:Type} (f:Dk->Option α) (d:Dk),onD f (some (.dsk d))=f d)/\
  (∀{H:Hp} (id:Nat) (r:Dk×Int),setD H id r=([.int .i64 r.2],H.set id (.dsk r.1)))/\
  (∀{H:Hp} (l:List Int),rowD H l=([.vw H.length 0 0 l.length 1],H++[.row 0 (decide (l.length=0)) 1 (l.map (V.int .i64)) true])):=
 ⟨fun _=>rfl,fun _=>rfl,fun _ _=>rfl,fun _=>rfl,fun _ _ _=>rfl,fun _ _=>rfl,fun _ _ _=>rfl,fun _ _=>rfl,fun _ _=>rfl,fun _=>rfl,fun _ _=>rfl,fun _ _=>rfl,fun _=>rfl⟩
theorem wq1 {n:Nat} (h:n+1<=4294967296):wrp .i64 (((n+1:Nat):Int) - 1)=(n:Int):=by
 have:((n+1:Nat):Int) - 1=(n:Int):=by omega
 rw [this];unfold wrp;simp [IntKind.wrap,IntKind.min,IntKind.max,IntKind.signed,IntKind.bits]<;>omega
theorem wq:(∀{n:Nat},n+1<=4294967296->wrp .i64 (((n+1:Nat):Int) - 1)=(n:Int))/\(∀{α:Type} (f:α->V) (l:List α) (a:V),(List.map f l++[a])[l.length]? =some a)/\(∀n:Nat,n<n+1):=
 ⟨wq1,fun f l a=>by simp,fun n=>by omega⟩
end Go.Dvm
