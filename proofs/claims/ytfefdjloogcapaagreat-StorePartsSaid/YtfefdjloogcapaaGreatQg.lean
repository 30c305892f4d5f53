/- Functions taken by hand: walks through them, and what these say. -/
import Derived.Test.YtfefdjloogcapaaGreatProg
import Derived.Shelf.Spec.SlicesInsert
import Derived.WalkKit
import Derived.WalkSpells
import Derived.KernelRfl
import Derived.Laws.Append
import Derived.Laws.AppendOwn
import Derived.Lib.AppendZerosOnto
import Derived.Lib.Overlaps
import Derived.Test.YtfefdjloogcapaaGreatQv2
set_option linter.all false
set_option maxRecDepth 100000
/- slices.Insert, taken by hand: what the walk through it says, as an answer. -/
namespace Go.Dvm
section
variable {I:Addr->Prop} {P:Program} {w:World}
theorem zw5 {t t2 ty:TypeId} {sz:Nat} (ht:okSl P t sz=true) {B o dLen dCap sLen sCap k:Nat} {a:Addr} {arr:Array Value} (hc:CellsAt w B arr) (hk:Nat.min sLen dLen=k) (f:Nat->Value)
  (hf: ∀j,j<k*sz->w.cell? (a.add j)=some (f j)) (hfit:o+k*sz<=arr.size) (h1: ∀j,j<k*sz->(f j).oneCell'=true):
  (Builtin.copy_ #[t,t2] ty #[.slice (some ⟨B,o,none⟩) dLen dCap, .slice (some a) sLen sCap]).run P w= .ok (goInt k) (w.setRow B (arrPut arr o ((List.range (k*sz)).map f))):=by
 obtain ⟨e,i,hu,hi,hs,hb⟩:=zbc ht
 have hfc:=zb4 (P:=P) (w:=w) (sz:=sz) (n:=k) (ad:=some a) (len:=sLen) (cp:=sCap) f (fun h=>by cases h) (fun ad' h=>by cases h;exact hf)
 have hst:=zb5 (P:=P) (w:=w) (B:=B) (o:=o) (vs:=(List.range (k*sz)).map f) hc (by simpa using hfit) (fun v hv=>by
  obtain ⟨j,hj,rfl⟩:=List.mem_map.1 hv;exact h1 j (by simpa using hj))
 simp [Builtin.copy_,run_underlying hu,Builtin.lenOf,sizeOf,typeInfo,hi,hs,hk,hfc,hst]
theorem zw6 {arr:Array Value} {o o2:Nat} {a b:List Value} (h2:o2=o+a.length) (h:o2+b.length<=arr.size):arrPut (arrPut arr o2 b) o a=arrPut arr o (a++b):=by
 subst h2
 have hs:(arrPut arr (o+a.length) b).size=arr.size:=zbu h
 apply Array.ext_getElem?
 intro k
 rw [zbv (by rw [hs];omega),zbv h,zbv (by rw [y9];omega)]
 by_cases c1:o<=k/\k<o+a.length
 ·rw [if_pos c1,if_pos (by rw [y9];omega),y10 (by omega)]
 ·rw [if_neg c1]
  by_cases c2:o+a.length<=k/\k<o+a.length+b.length
  ·rw [if_pos c2,if_pos (by rw [y9];omega),y18 (by omega)]
   congr 1;omega
  ·rw [if_neg c2,if_neg (by rw [y9];omega)]
theorem zw7 (w:World) (R R':Array Value) (e:TypeId):(w.alloc (.cells R e)).setRow w.heap.size R'=w.alloc (.cells R' e):=by
 unfold World.setRow World.alloc
 cases w with
 | mk heap tape drawn os output=>
  simp only [World.mk.injEq,and_true,true_and]
  apply Array.ext
  ·simp
  ·intro k h1 h2
   have h3:k<heap.size+1:=by simpa using h1
   simp only [Array.getElem_modify,Array.getElem_push]
   split<;>split<;>first | rfl | (exfalso;omega) | simp_all
/-- Elements and their cells, behind an insertion. -/
theorem zw8 {c:Addr->Option Value} {sz i:Nat} {xs vs:List V} {f g A:Nat->Value} (hi:i<=xs.length)
  (h1: ∀k,k<i*sz->A k=f k) (h2: ∀k,k<vs.length*sz->A (i*sz+k)=g k) (h3: ∀k,k<(xs.length - i)*sz->A ((i+vs.length)*sz+k)=f (i*sz+k))
  (hx: ∀(q:Nat) (e:V),xs[q]? =some e->(leaves e).length=sz/\ ∀(j:Nat) (lf:V),(leaves e)[j]? =some lf->deep1 lf=true/\VR I [] c lf (f (q*sz+j)))
  (hv: ∀(q:Nat) (e:V),vs[q]? =some e->(leaves e).length=sz/\ ∀(j:Nat) (lf:V),(leaves e)[j]? =some lf->deep1 lf=true/\VR I [] c lf (g (q*sz+j))):
  ∀(q:Nat) (e:V),(xs.take i++vs++xs.drop i)[q]? =some e->(leaves e).length=sz/\ ∀(j:Nat) (lf:V),(leaves e)[j]? =some lf->deep1 lf=true/\VR I [] c lf (A (q*sz+j)):=by
 intro q e hq
 have hto:(xs.take i).length=i:=by simp;omega
 have less: ∀{a b j:Nat},a<b->j<sz->a*sz+j<b*sz:=fun {a b j} hab hj=>by
  have:=y16 sz (show a+1<=b by omega)
  rw [y29] at this;omega
 rw [y31] at hq
 rcases y28 q i with h | h
 ·rw [y10 (by omega),y46,if_pos h] at hq
  obtain ⟨g1,g2⟩:=hx q e hq
  refine ⟨g1,fun j lf hj=>?_⟩
  have hjl:j<sz:=by rw [<- g1];exact z7 hj
  rw [h1 _ (less h hjl)]
  exact g2 j lf hj
 ·rw [y18 (by omega),hto] at hq
  rcases y28 (q - i) vs.length with h' | h'
  ·rw [y10 h'] at hq
   obtain ⟨g1,g2⟩:=hv _ e hq
   refine ⟨g1,fun j lf hj=>?_⟩
   have hjl:j<sz:=by rw [<- g1];exact z7 hj
   have:q*sz+j=i*sz+((q - i)*sz+j):=by
    rw [<- y53,<- y29];congr 2;omega
   rw [this,h2 _ (less h' hjl)]
   exact g2 j lf hj
  ·rw [y18 h',y38] at hq
   obtain ⟨g1,g2⟩:=hx _ e hq
   refine ⟨g1,fun j lf hj=>?_⟩
   have hjl:j<sz:=by rw [<- g1];exact z7 hj
   have hql:=z7 hq
   have e1:q*sz+j=(i+vs.length)*sz+((q - i - vs.length)*sz+j):=by
    rw [<- y53,<- y29];congr 2;omega
   have e2:(i+(q - i - vs.length))*sz+j=i*sz+((q - i - vs.length)*sz+j):=by
    rw [y29,y53]
   rw [e1,h3 _ (less (by omega) hjl),<- e2]
   exact g2 j lf hj
/-- What a call answers, out of where the machine would stand. -/
theorem zw9 {is ρ1:Infs} {h sz:Nat} {u:Value} {v d:V} {H1 H2:Hp} {I1:Addr->Prop} {w':World} (h1:VR I1 ρ1 w'.cell? v u) (h2:HR I1 ρ1 w' H1) (n:Nxt h I is w I1 ρ1 w') (ho:outT [[sz+1]] H1 [v]=some ([d],H2)):
  ∃(I':Addr->Prop) (ys:List Value) (bs':List Blk) (is':Infs),Ending.returned u= .returned (packX ys)/\ys.length=[d].length/\Ds I' w' [d] (fun i=>ys.getD i undef) bs' is'/\Apart is'/\(∀a,I' a->(w'.cell? a).isSome=true)/\Nxt 0 I is w I' is' w':=by
 obtain ⟨I2,ρ2,bs',is',g,g2,g3⟩:=zcs (vs:=[v]) (fun i=>[u].getD i undef) h2 (fun i v' hi=>by
  cases i with
  | zero=>simp only [y35,y1] at hi;subst hi;exact h1
  | succ i=>simp at hi) ho
 refine ⟨I2,[u],bs',is',rfl,rfl,g2,g.apart,g.hr.cells,⟨fun a ha=>g.sub a (n.sub a ha),fun a ha=>?_,n.grow,fun B hB=>?_,fun id hid=>by omega, .inl (Nat.zero_le _)⟩⟩
 ·rcases g.new a ha with h | h
  ·exact n.new a h
  ·rcases n.live _ h with h | h
   ·exact .inr (.inl h)
   ·exact .inr (.inr h)
 ·exact n.live B (g.gone B hB).1
/-! What the walks say. -/
def WEnd (P:Program) (K S:Nat):Prop:= ∀(s:Option Addr) (va:Addr) (n c m vc:Nat) (u:Value) (w w':World),0<m->n<=4294967296->m<=4294967296->n<=c->
 (∀ty,(Builtin.append_ #[S,S] ty #[.slice s n c, .slice (some va) m vc]).run P w= .ok u w')->Calls P K #[.slice s n c, .int .i64 n, .slice (some va) m vc] w fun e w''=>e= .returned u/\w''=w'
def WGrow (P:Program) (K S T sz:Nat):Prop:= ∀(b n c i vb m vc N G:Nat) (w w1 w2 w3:World) (r1 r2:Value),i<n->0<m->n<=c->c<=9223372036854775807->c<n+m->n<=4294967296->m<=4294967296->n+m<=G->G<=9223372036854775807->
 (∀ty,(Builtin.append_ #[S,T] ty #[.slice (some ⟨b,0,none⟩) i c, .int .i64 ((n:Int)+(m:Int) - (i:Int))]).run P w= .ok (.slice (some ⟨N,0,none⟩) (n+m) G) w1)->
 (∀ty dc,(Builtin.copy_ #[S,S] ty #[.slice (some ⟨N,i*sz,none⟩) (n+m - i) dc, .slice (some ⟨vb,0,none⟩) m vc]).run P w1= .ok r1 w2)->
 (∀ty dc sc,(Builtin.copy_ #[S,S] ty #[.slice (some ⟨N,(i+m)*sz,none⟩) (n+m - (i+m)) dc, .slice (some ⟨b,i*sz,none⟩) (n - i) sc]).run P w2.drew= .ok r2 w3)->
 Calls P K #[.slice (some ⟨b,0,none⟩) n c, .int .i64 i, .slice (some ⟨vb,0,none⟩) m vc] w fun e w''=>e= .returned (.slice (some ⟨N,0,none⟩) (n+m) G)/\w''=w3
def WShift (P:Program) (K S V sz:Nat):Prop:= ∀(b n c i vb m vc:Nat) (w w2 w3:World) (r1 r2:Value),i<n->0<m->c<=9223372036854775807->n+m<=c->n<=4294967296->m<=4294967296->
 (∀lb cb,(callFunc V #[.slice (some ⟨vb,0,none⟩) m vc, .slice (some ⟨b,(i+m)*sz,none⟩) lb cb]).run P w= .ok (.value (.bool false)) w)->
 (∀ty dc sc,(Builtin.copy_ #[S,S] ty #[.slice (some ⟨b,(i+m)*sz,none⟩) (n+m - (i+m)) dc, .slice (some ⟨b,i*sz,none⟩) (n+m - i) sc]).run P w.drew= .ok r1 w2)->
 (∀ty dc,(Builtin.copy_ #[S,S] ty #[.slice (some ⟨b,i*sz,none⟩) (n+m - i) dc, .slice (some ⟨vb,0,none⟩) m vc]).run P w2= .ok r2 w3)->
 Calls P K #[.slice (some ⟨b,0,none⟩) n c, .int .i64 i, .slice (some ⟨vb,0,none⟩) m vc] w fun e w''=>e= .returned (.slice (some ⟨b,0,none⟩) (n+m) c)/\w''=w3
/-- slices.overlaps, of two blocks' rows. -/
def WOver (P:Program) (V S:Nat):Prop:= ∀(w:World) (a b:Addr) (la ca lb cb kA kB:Nat) (tA tB:TypeId),a.block≠b.block->w.shape? a.block=some (tA,kA)->w.shape? b.block=some (tB,kB)->kB≠0->w.frozen? a=false->w.frozen? {block:=a.block,off:=kA}=false->
 (callFunc V #[.slice (some a) la ca, .slice (some b) lb cb]).run P w= .ok (.value (.bool false)) w
theorem zxa {K S T Vo sz:Nat} {kT:IntKind} (ht:okSl P S sz=true) (hT:P.underlying T=some (.int kT)) (hEnd:WEnd P K S) (hGrow:WGrow P K S T sz) (hShift:WShift P K S Vo sz) (hOver:WOver P Vo S) (ds rs:List V) (h:insP sz ds=some rs):DeepOk P K ds rs:=by
 unfold insP at h
 split at h
 ·rename_i z s x xs i z2 s2 x2 vs
  split at h
  ·rename_i hc
   obtain ⟨hs1,hs2,rfl,hi0,hi1,rfl,hm0,hmost⟩:=hc
   replace hs1:=hs1.symm;replace hs2:=hs2.symm
   subst hs1;subst hs2
   simp only [y1] at h;subst h
   obtain ⟨i,rfl⟩: ∃j:Nat,i=(j:Int):=⟨i.toNat,by omega⟩
   rw [y26]
   have hi:i<=xs.length:=by omega
   have hm:0<vs.length:=by omega
   intro I w args bs is hl hI hap hds
   obtain ⟨k1,k2,k3⟩:=hds.2 [] [] rfl
   simp only [putT,put,put1,y45,y24,y9,y20,y31,List.cons_append] at k1 k3
   obtain ⟨hsz,_⟩:=zbd ht
   have hr:HR I is w bs:=⟨hds.1.1,fun id b i hb hi=>by
     obtain ⟨⟨ver,z,sz,ys,x,rfl⟩,hok⟩:=hds.1.2 id b i hb hi
     exact hok,hap,hI⟩
   obtain ⟨a0,a1,a2,rfl⟩: ∃a0 a1 a2,args=[a0,a1,a2]:=by
    match args,hl with
    | [a0,a1,a2],_=>exact ⟨a0,a1,a2,rfl⟩
   subst k1
   have v0:=k3 0 _ rfl
   have v1:=k3 1 _ rfl
   have v2:=k3 2 _ rfl
   simp only [List.getD_cons_zero,List.getD_cons_succ] at v0 v1 v2
   obtain ⟨H,hH⟩: ∃H:Hp,H=[.row 0 z sz xs true, .row 0 false sz vs x2]:=⟨_,rfl⟩
   rw [<- hH] at hr
   have hrow0:row? H 0 0=some (z,sz,xs,true):=by rw [hH];rfl
   have hrow1:row? H 1 0=some (false,sz,vs,x2):=by rw [hH];rfl
   have hve:vs.isEmpty=false:=by cases vs;simp at hm;rfl
   obtain ⟨e,i0,zz,hu,hi0',hs0,hb0,hz0,hzs0⟩:=(zbd ht).2
   -- what is put in
   rcases hr.row hrow1 with ⟨h1,_,_⟩ | ⟨_,Bv,Kv,hv3,hv4⟩
   ·cases h1
   simp only at hv3 hv4
   have v2':=v2
   cases v2' with
   | vw id ver off len md x hil ho hp=>
   obtain ⟨_,_,adv,vc,rfl,hvc1,hvc2,hvc3⟩:=(hp _ hv3).2 rfl
   obtain rfl:=hvc3 (by omega)
   rw [Nat.zero_mul] at v2 ⊢
   obtain ⟨arv,hcv,hsv,hKv,hlv,hvv,hIv⟩:=hv4
   have hRv:=zbh hr v2 (ys:=vs) (by simp only [elems,hrow1,y4,cut,if_true]) sz hlv
   obtain ⟨av,cv,g,e1,_,hgc,hge,hg1⟩:=hRv.flat hsz
   simp only [Value.slice.injEq] at e1
   obtain ⟨rfl,_,rfl⟩:=e1
   have hgc:=hgc _ rfl
   simp only [add_mk,y41] at hgc
   cases v1 with
   | int k n hk=>
   by_cases hend:i=xs.length
   ·-- at the end
    subst hend
    have happ:appv H sz (.vw 0 0 0 xs.length 1) vs=some (.vw 0 1 0 (xs.length+vs.length) 1,H.set 0 (.row 1 (z && vs.isEmpty) sz (xs++vs) true)):=by
     simp only [appv,hrow0,y4,if_true]
     rw [if_pos (by unfold most;exact hmost)]
    obtain ⟨u,w',hrun,⟨I',ρ',q1,q2,q3⟩⟩:=zca (ty:=0) hr ht ⟨e,hu⟩ v0 hRv happ
    obtain ⟨sa,c,rfl,hnc⟩: ∃sa c,a0= .slice sa xs.length c/\xs.length<=c:=by
     cases v0 with
     | vw id ver off len md x hil ho hp0=>
      rcases hr.row hrow0 with ⟨_,h2,h3⟩ | ⟨_,B,K0,h3,_⟩
      ·simp only at h2 h3
       obtain ⟨h4,_,_⟩:=(hp0 _ h3).2 rfl
       subst h2
       exact ⟨none,0,h4,y13 _⟩
      ·obtain ⟨_,_,ad,cp,h4,h5,_⟩:=(hp0 _ h3).2 rfl
       exact ⟨_,_,h4,h5⟩
    refine (hEnd sa _ xs.length c vs.length vc u w w' hm (by omega) (by omega) hnc (fun ty=>hrun)).mono ?_
    rintro e w'' ⟨rfl,rfl⟩
    refine zw9 (sz:=sz) (H2:=(H.set 0 (.row 1 (z && vs.isEmpty) sz (xs++vs) true)).set 0 .dead) q1 q2 q3 ?_
    have hr2:row? (H.set 0 (.row 1 (z && vs.isEmpty) sz (xs++vs) true)) 0 1=some (false,sz,xs++vs,true):=by rw [hH,hve,Bool.and_false];rfl
    simp only [outT,out,out1,take,List.headD_cons,hr2,y4,if_true,true_or,cut]
    simp
   ·have hlt:i<xs.length:=by omega
    rcases hr.row hrow0 with ⟨_,h2,_⟩ | ⟨hz,B,K0,h3,h4⟩
    ·simp only at h2;rw [h2] at hlt;simp at hlt
    simp only at hz h3 h4
    subst hz
    have v0':=v0
    cases v0' with
    | vw id ver off len md x hil0 ho0 hp0=>
    obtain ⟨_,_,ad,c,rfl,hnc,hcK,hc3⟩:=(hp0 _ h3).2 rfl
    obtain rfl:=hc3 (by omega)
    have hcK:=hcK (by decide)
    rw [y41] at hcK;subst hcK
    obtain ⟨arr,hca,hsa,hKa,hla,hva,hIa⟩:=h4
    have hRs:=zbh hr v0 (ys:=xs) (by simp only [elems,hrow0,y4,cut,if_true]) sz hla
    obtain ⟨ads,cps,f,e2,_,hfc,hfe,hf1⟩:=hRs.flat hsz
    simp only [Value.slice.injEq] at e2
    obtain ⟨rfl,_,rfl⟩:=e2
    have hfc:=hfc _ rfl
    simp only [add_mk,Nat.zero_mul,y41] at hfc
    rw [Nat.zero_mul] at v0 ⊢
    have hne:Bv≠B:=fun e=>by have:=hr.apart 0 1 _ _ B h3 hv3 rfl (by rw [<- e];rfl);omega
    have hBw:B<w.heap.size:=hr.live_lt ⟨0,_,h3,rfl⟩
    have hBvw:Bv<w.heap.size:=hr.live_lt ⟨1,_,hv3,rfl⟩
    have hH0:H[0]? =some (.row 0 false sz xs true):=by rw [hH];rfl
    have mul_le: ∀{a b:Nat},a<=b->a*sz<=b*sz:=fun h=>y16 sz h
    have m1:xs.length*sz=i*sz+(xs.length - i)*sz:=by rw [<- y29];congr 1;omega
    have m2:(i+vs.length)*sz=i*sz+vs.length*sz:=y29 _ _ _
    have m3:(xs.length+vs.length)*sz=xs.length*sz+vs.length*sz:=y29 _ _ _
    obtain ⟨tail,htail⟩: ∃tail,tail=(List.range ((xs.length - i)*sz)).map fun k=>f (i*sz+k):=⟨_,rfl⟩
    obtain ⟨vals,hvals⟩: ∃vals,vals=(List.range (vs.length*sz)).map g:=⟨_,rfl⟩
    have ltail:tail.length=(xs.length - i)*sz:=by rw [htail];simp
    have lvals:vals.length=vs.length*sz:=by rw [hvals];simp
    have gtail: ∀k,k<(xs.length - i)*sz->tail.getD k undef=f (i*sz+k):=fun k hk=>by rw [htail];exact zb9 hk
    have gvals: ∀k,k<vs.length*sz->vals.getD k undef=g k:=fun k hk=>by rw [hvals];exact zb9 hk
    have garr: ∀k,k<xs.length*sz->arr.getD k undef=f k:=fun k hk=>by
     have h1:=hfc k hk
     rw [hca.cell k (by rw [hsa];exact y56 hk (mul_le hnc))] at h1
     exact Option.some.inj h1
    have hxl:(xs.take i++vs++xs.drop i).length=xs.length+vs.length:=by simp;omega
    have hc63:c<=9223372036854775807:=hKa.2
    by_cases hroom:xs.length+vs.length<=c
    ·-- in place
     obtain ⟨w2,hw2⟩: ∃w2,w2=w.drew.setRow B (arrPut arr ((i+vs.length)*sz) tail):=⟨_,rfl⟩
     obtain ⟨w3,hw3⟩: ∃w3,w3=w2.setRow B (arrPut (arrPut arr ((i+vs.length)*sz) tail) (i*sz) vals):=⟨_,rfl⟩
     have hfit0:(i+vs.length)*sz+tail.length<=arr.size:=by rw [ltail,hsa];have:=mul_le hroom;omega
     have hcad:CellsAt w.drew B arr:=hca
     have hca2:CellsAt w2 B (arrPut arr ((i+vs.length)*sz) tail):=by
      obtain ⟨ty,hB⟩:=hcad;rw [hw2];exact ⟨ty,setRow_heap _ B arr _ ty (0,0) hB⟩
     have hov: ∀lb cb,(callFunc Vo #[.slice (some ⟨Bv,0,none⟩) vs.length vc, .slice (some ⟨B,(i+vs.length)*sz,none⟩) lb cb]).run P w= .ok (.value (.bool false)) w:=fun lb cb=>by
      obtain ⟨tA,hA⟩:=hcv
      obtain ⟨tB,hB⟩:=hca
      refine hOver w ⟨Bv,0,none⟩ ⟨B,(i+vs.length)*sz,none⟩ _ _ _ _ arv.size arr.size tA tB hne (by simp [World.shape?,hA]) (by simp [World.shape?,hB]) ?_ (by simp [World.frozen?,hA]) (by simp [World.frozen?,hA])
      rw [hsa]
      have:=Nat.mul_pos (show 0<c by omega) hsz
      omega
     refine (hShift B xs.length c i Bv vs.length vc w w2 w3 _ _ hlt hm hc63 hroom (by omega) (by omega) hov
      (fun ty dc sc=>by
       rw [hw2,htail]
       exact zw5 (k:=xs.length - i) ht hcad (by simp only [Nat.min_def];split<;>omega) (fun k=>f (i*sz+k)) (fun j hj=>by rw [add_mk];exact hfc _ (by omega)) (by rw [htail] at hfit0;simpa using hfit0) (fun j hj=>hf1 _ (by omega)))
      (fun ty dc=>by
       rw [hw3,hvals]
       refine zw5 (k:=vs.length) ht hca2 (by simp only [Nat.min_def];split<;>omega) g (fun j hj=>?_) ?_ (fun j hj=>hg1 j hj)
       ·rw [add_mk,y41,hw2,cell_setRow_other _ B _ _ hne];exact hgc j hj
       ·rw [zbu hfit0];omega)).mono ?_
     rintro e w'' ⟨rfl,e3⟩
     rw [e3];clear e3
     have hw:w3=w.drew.setRow B (arrPut arr (i*sz) (vals++tail)):=by
      rw [hw3,hw2,setRow_setRow,zw6 (by rw [lvals,m2]) hfit0]
     have hel:=zw8 (I:=I) (c:=w.cell?) (sz:=sz) (i:=i) (xs:=xs) (vs:=vs) (f:=f) (g:=g)
      (A:=fun k=>if i*sz<=k/\k<i*sz+(vals++tail).length then (vals++tail).getD (k - i*sz) undef else arr.getD k undef) hi
      (fun k hk=>by
       try simp only
       rw [if_neg (by omega)];exact garr k (by omega))
      (fun k hk=>by
       try simp only
       rw [if_pos (by rw [y9];omega),Nat.add_sub_cancel_left,y14,y10 (by omega),<- y14];exact gvals k hk)
      (fun k hk=>by
       try simp only
       rw [if_pos (by rw [y9];omega),show (i+vs.length)*sz+k - i*sz=vals.length+k by omega,y14,y18 (by omega),Nat.add_sub_cancel_left,<- y14];exact gtail k hk)
      hfe hge
     have hwr:=zbz (w:=w.drew) hr.drew hH0 h3 hcad hsa hIa (o:=i*sz) (vs:=vals++tail) (by rw [y9,ltail,lvals];have:=mul_le hroom;omega) (.inl rfl) (xs':=xs.take i++vs++xs.drop i) (ver':=1) (.inr (by omega)) (by omega) (by omega) hel
     rw [<- hw,hxl] at hwr
     obtain ⟨q2,q3,_⟩:=hwr
     have q1:VR I (is.set 0 (some (.row B c sz 1 (xs.length+vs.length)))) w3.cell? (.vw 0 1 0 (xs.length+vs.length) 1) (.slice (some ⟨B,0,none⟩) (xs.length+vs.length) c):=by
      refine vw_row (cp:=0) (B:=B) (K:=c) (sz:=sz) (L:=xs.length+vs.length) (y22 (z7 h3)) ⟨y13 _,fun _=>⟨by omega,fun _=>by omega,_,_,rfl,hroom,fun _=>by omega,fun _=>by simp⟩⟩ ⟨_,_,rfl⟩
     refine zw9 (sz:=sz) (h:=H.length) (H2:=(H.set 0 (.row 1 false sz (xs.take i++vs++xs.drop i) true)).set 0 .dead) q1 q2 ⟨q3.sub,q3.new,q3.grow.of_drew,q3.live,q3.ids,q3.long⟩ ?_
     have hr2:row? (H.set 0 (.row 1 false sz (xs.take i++vs++xs.drop i) true)) 0 1=some (false,sz,xs.take i++vs++xs.drop i,true):=by rw [hH];rfl
     simp only [outT,out,out1,take,List.headD_cons,hr2,y4,if_true,true_or,cut]
    ·-- elsewhere
     obtain ⟨G,hG⟩: ∃G,G=grownCap w (xs.length+vs.length) c e:=⟨_,rfl⟩
     have hG1:xs.length+vs.length<=G:=by rw [hG];exact grownCap_ge w _ _ _
     have hG2:G<=9223372036854775807:=by
      have:=grownCap_le_maxLen w (xs.length+vs.length) c e (by unfold maxLen;omega)
      rw [<- hG] at this;unfold maxLen at this;omega
     obtain ⟨R,hR⟩: ∃R:Array Value,R=((List.range (i*sz)).map f).toArray++Builtin.zeroCells zz.cells (xs.length+vs.length - i)++Builtin.zeroCells zz.cells (G - (xs.length+vs.length)):=⟨_,rfl⟩
     have hRs:R.size=G*sz:=by
      rw [hR]
      simp only [Array.size_append,List.size_toArray,y23,y54,Builtin.zeroCells]
      simp [hzs0]
      rw [<- y29,<- y29];congr 1;omega
     have hrz: ∀ty,(Builtin.append_ #[S,T] ty #[.slice (some ⟨B,0,none⟩) i c, .int .i64 ((xs.length:Int)+(vs.length:Int) - (i:Int))]).run P w= .ok (.slice (some ⟨w.heap.size,0,none⟩) (xs.length+vs.length) G) (w.drew.alloc (.cells R e)):=fun ty=>by
      have hold:=zb4 (P:=P) (w:=w.drew) (sz:=sz) (n:=i) (ad:=some ⟨B,0,none⟩) (len:=i) (cp:=c) f (fun h=>by cases h) (fun ad' h=>by
       cases h;intro k hk;rw [add_mk,y41];exact hfc k (by omega))
      have hb2:(xs.length+vs.length)*i0.bytes<=140737488355328:=by
       have:(xs.length+vs.length)*i0.bytes<=4294967296*4096:=Nat.mul_le_mul hmost hb0
       omega
      have hb3:(xs.length+vs.length - i)*i0.bytes<=(xs.length+vs.length)*i0.bytes:=y16 _ (by omega)
      have h:=Lib.run_append_grow_zeros w S T ty e i0 zz .i64 kT hu hT hi0' hz0 (some ⟨B,0,none⟩) i c ((List.range (i*sz)).map f) (by rw [hs0];exact hold) (xs.length+vs.length - i) (by omega) (by rw [hs0];exact hsz) (by omega) (by omega) (by omega) (by
       rw [show i+(xs.length+vs.length - i)=xs.length+vs.length by omega];exact growslice_fits (by omega) hb2)
      rw [show i+(xs.length+vs.length - i)=xs.length+vs.length by omega,<- hG,<- hR] at h
      rw [show (xs.length:Int)+(vs.length:Int) - (i:Int)=((xs.length+vs.length - i:Nat):Int) by omega]
      exact h
     have mG:=mul_le hG1
     have hfitA:i*sz+vals.length<=R.size:=by rw [lvals,hRs];omega
     obtain ⟨R2,hR2⟩: ∃R2,R2=arrPut R (i*sz) vals:=⟨_,rfl⟩
     have hR2s:R2.size=G*sz:=by rw [hR2,zbu hfitA,hRs]
     have hfitB:(i+vs.length)*sz+tail.length<=R2.size:=by rw [ltail,hR2s];omega
     obtain ⟨R3,hR3⟩: ∃R3,R3=arrPut R2 ((i+vs.length)*sz) tail:=⟨_,rfl⟩
     have hR3s:R3.size=G*sz:=by rw [hR3,zbu hfitB,hR2s]
     have hw2:(w.drew.alloc (.cells R e)).setRow w.heap.size R2=w.drew.alloc (.cells R2 e):=zw7 w.drew R R2 e
     have hw3:(w.drew.alloc (.cells R2 e)).drew.setRow w.heap.size R3=w.drew.drew.alloc (.cells R3 e):=zw7 w.drew.drew R2 R3 e
     have past: ∀(w0:World) (o:Obj) (b k:Nat),b<w0.heap.size->(w0.alloc o).cell? ⟨b,k,none⟩=w0.cell? ⟨b,k,none⟩:=fun w0 o b k hb=>World.cell?_alloc_lt w0 o ⟨b,k,none⟩ hb
     refine (hGrow B xs.length c i Bv vs.length vc w.heap.size G w (w.drew.alloc (.cells R e)) (w.drew.alloc (.cells R2 e)) (w.drew.drew.alloc (.cells R3 e)) _ _ hlt hm hnc hc63 (by omega) (by omega) (by omega) hG1 hG2 hrz
      (fun ty dc=>by
       rw [<- hw2,hR2,hvals]
       refine zw5 (k:=vs.length) ht (zbs w.drew R e) (by simp only [Nat.min_def];split<;>omega) g (fun j hj=>?_) (by omega) (fun j hj=>hg1 j hj)
       rw [add_mk,y41,past w.drew _ Bv j hBvw];exact hgc j hj)
      (fun ty dc sc=>by
       rw [<- hw3,hR3,htail]
       refine zw5 (k:=xs.length - i) ht (show CellsAt (w.drew.alloc (.cells R2 e)).drew w.heap.size R2 from zbs w.drew R2 e) (by simp only [Nat.min_def];split<;>omega) (fun k=>f (i*sz+k)) (fun j hj=>?_) (by rw [hR2s];omega) (fun j hj=>hf1 _ (by omega))
       rw [add_mk]
       exact (past w.drew.drew (.cells R2 e) B _ hBw).trans (hfc _ (by omega)))).mono ?_
     rintro e' w'' ⟨rfl,rfl⟩
     have gR: ∀k,R3.getD k undef=if (i+vs.length)*sz<=k/\k<(i+vs.length)*sz+tail.length then tail.getD (k - (i+vs.length)*sz) undef else if i*sz<=k/\k<i*sz+vals.length then vals.getD (k - i*sz) undef else R.getD k undef:=fun k=>by
      rw [hR3,zbw hfitB,hR2,zbw hfitA]
     have hel:=zw8 (I:=I) (c:=w.cell?) (sz:=sz) (i:=i) (xs:=xs) (vs:=vs) (f:=f) (g:=g) (A:=fun k=>R3.getD k undef) hi
      (fun k hk=>by
       try simp only
       rw [gR,if_neg (by omega),if_neg (by omega),hR,y15,Array.append_assoc,Array.getElem?_append_left (by simpa using hk)]
       simp [hk])
      (fun k hk=>by
       try simp only
       rw [gR,if_neg (by omega),if_pos (by omega),Nat.add_sub_cancel_left];exact gvals k hk)
      (fun k hk=>by
       try simp only
       rw [gR,if_pos (by omega),Nat.add_sub_cancel_left];exact gtail k hk) hfe hge
     have hcell: ∀a,I a->(w.drew.drew.alloc (.cells R3 e)).cell? a=w.cell? a:=fun a ha=>World.cell?_alloc_lt w.drew.drew _ a (zbq (hr.cells a ha))
     have hrow':RowAt I (w.drew.drew.alloc (.cells R3 e)) w.heap.size G sz (xs.take i++vs++xs.drop i) true:=
      ⟨R3,zbs w.drew.drew R3 e,hR3s,by omega,fun q el hq=>(hel q el hq).1,fun q j el lf hq hj=>⟨((hel q el hq).2 j lf hj).1,((hel q el hq).2 j lf hj).2.mono (fun _ h=>h) hcell (y13 _) (fun _ h=>by simp at h)⟩,fun a ha hb=>absurd hb (Nat.ne_of_lt (zbq (hr.cells a ha)))⟩
     have hpers:Pers (some (some (.row B c sz 0 xs.length))) (some (some (.row w.heap.size G sz 1 (xs.take i++vs++xs.drop i).length))):= .inr (.inr ⟨_,_,_,_,by omega,rfl⟩)
     have q2:=(hr.drew.drew.alloc (.cells R3 e)).upd (b':= .row 1 false sz (xs.take i++vs++xs.drop i) true) (i':=some (.row w.heap.size G sz 1 (xs.take i++vs++xs.drop i).length)) hH0 h3 (fun _ h=>h) (fun _ _=>rfl) (hr.drew.drew.alloc _).cells (fun _ _ _ _ _ _=>rfl) (fun _ h=> .inl h) hpers (.inr ⟨rfl,_,G,rfl,hrow'⟩) (fun B' hB k inf hk hq hb=>by
      simp only [Has,Inf.has] at hB;have:=hr.live_lt ⟨k,inf,hq,hb⟩;omega)
     have q3:Nxt H.length I is w I (is.set 0 (some (.row w.heap.size G sz 1 (xs.take i++vs++xs.drop i).length))) (w.drew.drew.alloc (.cells R3 e)):=Nxt.upd h3 (fun _ h=>h) (fun _ h=> .inl h) hpers (fun B' hB=>by
      simp only [Has,Inf.has] at hB;omega) ((Grow.alloc hr.drew.drew _ _).of_drew.of_drew) (by rw [hr.len];exact y13 _)
     rw [hxl] at q2 q3
     have q1:VR I (is.set 0 (some (.row w.heap.size G sz 1 (xs.length+vs.length)))) (w.drew.drew.alloc (.cells R3 e)).cell? (.vw 0 1 0 (xs.length+vs.length) 1) (.slice (some ⟨w.heap.size,0,none⟩) (xs.length+vs.length) G):=by
      refine vw_row (cp:=0) (B:=w.heap.size) (K:=G) (sz:=sz) (L:=xs.length+vs.length) (y22 (z7 h3)) ⟨y13 _,fun _=>⟨by omega,fun _=>by omega,_,_,rfl,hG1,fun _=>by omega,fun _=>by simp⟩⟩ ⟨_,_,rfl⟩
     refine zw9 (sz:=sz) (h:=H.length) (H2:=(H.set 0 (.row 1 false sz (xs.take i++vs++xs.drop i) true)).set 0 .dead) q1 q2 q3 ?_
     have hr2:row? (H.set 0 (.row 1 false sz (xs.take i++vs++xs.drop i) true)) 0 1=some (false,sz,xs.take i++vs++xs.drop i,true):=by rw [hH];rfl
     simp only [outT,out,out1,take,List.headD_cons,hr2,y4,if_true,true_or,cut]
  ·cases h
 ·cases h
end
end Go.Dvm
namespace Go.Dvm.C
open Go Go.Dvm Go.Proofs Go.RowKit Go.Lib
set_option maxHeartbeats 4000000 in
set_option maxRecDepth 100000 in
theorem zxb (s:Option Addr) (va:Addr) (n c m vc:Nat) (u:Value) (w w':World) (hm:0<m) (hn:n<=4294967296) (hm2:m<=4294967296) (hnc:n<=c)
  (hrun: ∀ty,(Builtin.append_ #[48,48] ty #[.slice s n c, .slice (some va) m vc]).run Tryz.prog w= .ok u w'):
  Calls Tryz.prog 132 #[.slice s n c, .int .i64 n, .slice (some va) m vc] w fun e w''=>e= .returned u/\w''=w':=by
 have hz1: ¬((m:Int)=0):=by omega
 go_enter Tryz.func132,Tryz.ntmps132
 cases s with
 | none=>
  go_wp2_with (at_builtin;refine Lib.wpList_append_run _ rfl _ _ _ _ rfl _ _ rfl rfl _ _ (hrun _) ?_)
  go_ret
  exact ⟨rfl,rfl⟩
 | some a=>
  obtain ⟨ab,ao,asp⟩:=a
  go_wp2_with (at_builtin;refine Lib.wpList_append_run _ rfl _ _ _ _ rfl _ _ rfl rfl _ _ (hrun _) ?_)
  all_goals (go_ret;exact ⟨rfl,rfl⟩)
set_option maxHeartbeats 4000000 in
set_option maxRecDepth 100000 in
theorem zxc (b off n c i vb voff m vc N G:Nat) (w w1 w2 w3:World) (r1 r2:Value) (hi:i<n) (hm:0<m) (hnc:n<=c) (hc:c<=9223372036854775807) (hroom:c<n+m) (hn:n<=4294967296) (hm2:m<=4294967296) (hG:n+m<=G) (hG2:G<=9223372036854775807)
  (hrz: ∀ty,(Builtin.append_ #[48,3] ty #[.slice (some ⟨b,off,none⟩) i c, .int .i64 ((n:Int)+(m:Int) - (i:Int))]).run Tryz.prog w= .ok (.slice (some ⟨N,0,none⟩) (n+m) G) w1)
  (hcpA: ∀ty dc,(Builtin.copy_ #[48,48] ty #[.slice (some ⟨N,i*3,none⟩) (n+m - i) dc, .slice (some ⟨vb,voff,none⟩) m vc]).run Tryz.prog w1= .ok r1 w2)
  (hcpB: ∀ty dc sc,(Builtin.copy_ #[48,48] ty #[.slice (some ⟨N,(i+m)*3,none⟩) (n+m - (i+m)) dc, .slice (some ⟨b,off+i*3,none⟩) (n - i) sc]).run Tryz.prog w2.drew= .ok r2 w3):
  Calls Tryz.prog 132 #[.slice (some ⟨b,off,none⟩) n c, .int .i64 i, .slice (some ⟨vb,voff,none⟩) m vc] w fun e w''=>e= .returned (.slice (some ⟨N,0,none⟩) (n+m) G)/\w''=w3:=by
 have mixed:Tryz.prog.follows .mixedOrders=true:=by kernel_rfl
 have hz1: ¬((m:Int)=0):=by omega
 have hz2: ¬((i:Int)=(n:Int)):=by omega
 have hz3:(c:Int)<(n:Int)+(m:Int):=by omega
 have hGi: ¬(G=i):=by omega
 have hGim: ¬(G=i+m):=by omega
 have hci: ¬(c=i):=by omega
 have hw1:IntKind.i64.wrap ((i:Int)+(m:Int))=(i:Int)+(m:Int):=by rw [IntKind.wrap_i64];omega
 have hb1:(0:Int)<=(i:Int)+(m:Int):=by omega
 have hin:i<=n:=by omega
 have htn:((i:Int)+(m:Int)).toNat=i+m:=by omega
 have hb3:(i:Int)<=(n:Int):=by omega
 go_enter Tryz.func132,Tryz.ntmps132
 go_wp2_with (first
  | (at_builtin;refine Lib.wpList_append_run _ rfl _ _ _ _ rfl _ _ rfl rfl _ _ (hrz _) ?_)
  | (at_builtin;refine wpList_copy_runI _ rfl _ _ _ _ rfl _ _ rfl rfl (hcpA _ _) ?_))
 go_region_law_o (refine step_copy_runI rfl _ _ _ _ rfl (.slice (some ⟨N,(i+m)*3,none⟩) (n+m - (i+m)) (G - (i+m))) (.slice (some ⟨b,off+i*3,none⟩) (n - i) (c - i)) (by simp [Act.eval,Act.put]) (by simp [Act.eval,Act.put]) (hcpB _ (G - (i+m)) (c - i)) ?_)
 go_wp2
 go_ret
 exact ⟨rfl,rfl⟩
set_option maxHeartbeats 4000000 in
set_option maxRecDepth 100000 in
theorem zxd (b off n c i vb voff m vc:Nat) (w w2 w3:World) (r1 r2:Value) (hi:i<n) (hm:0<m) (hc:c<=9223372036854775807) (hroom:n+m<=c) (hn:n<=4294967296) (hm2:m<=4294967296)
  (hov: ∀lb cb,(callFunc 184 #[.slice (some ⟨vb,voff,none⟩) m vc, .slice (some ⟨b,off+(i+m)*3,none⟩) lb cb]).run Tryz.prog w= .ok (.value (.bool false)) w)
  (hcp1: ∀ty dc sc,(Builtin.copy_ #[48,48] ty #[.slice (some ⟨b,off+(i+m)*3,none⟩) (n+m - (i+m)) dc, .slice (some ⟨b,off+i*3,none⟩) (n+m - i) sc]).run Tryz.prog w.drew= .ok r1 w2)
  (hcp2: ∀ty dc,(Builtin.copy_ #[48,48] ty #[.slice (some ⟨b,off+i*3,none⟩) (n+m - i) dc, .slice (some ⟨vb,voff,none⟩) m vc]).run Tryz.prog w2= .ok r2 w3):
  Calls Tryz.prog 132 #[.slice (some ⟨b,off,none⟩) n c, .int .i64 i, .slice (some ⟨vb,voff,none⟩) m vc] w fun e w''=>e= .returned (.slice (some ⟨b,off,none⟩) (n+m) c)/\w''=w3:=by
 have mixed:Tryz.prog.follows .mixedOrders=true:=by kernel_rfl
 have hz1: ¬((m:Int)=0):=by omega
 have hz2: ¬((i:Int)=(n:Int)):=by omega
 have hw1:IntKind.i64.wrap ((i:Int)+(m:Int))=(i:Int)+(m:Int):=by rw [IntKind.wrap_i64];omega
 have hb1:(0:Int)<=(i:Int)+(m:Int):=by omega
 have hin:i<=n:=by omega
 have htn:((i:Int)+(m:Int)).toNat=i+m:=by omega
 have hb2: ¬(c=i+m):=by omega
 have hb3:(i:Int)<=(n:Int)+(m:Int):=by omega
 have hb4: ¬(c=i):=by omega
 go_enter Tryz.func132,Tryz.ntmps132
 go_wp2_with (simp only [hov])
 go_region_law_o (refine step_copy_runI rfl _ _ _ _ rfl _ _ (by simp [Act.eval,Act.put]) (by simp [Act.eval,Act.put]) (hcp1 _ _ _) ?_)
 go_wp2_with (at_builtin;refine wpList_copy_runI _ rfl _ _ _ _ rfl _ _ rfl rfl (hcp2 _ _) ?_)
 go_ret
 exact ⟨rfl,rfl⟩
theorem zxe (ds rs:List V) (h:insP 3 ds=some rs):DeepOk Tryz.prog 132 ds rs:=by
 refine zxa (S:=48) (T:=3) (Vo:=184) (kT:= .i64) (by kernel_rfl) Tryz.underlying3 (fun s va n c m vc u w w' h1 h2 h3 h4 h5=>zxb s va n c m vc u w w' h1 h2 h3 h4 h5) ?_ ?_ ?_ ds rs h
 ·intro b n c i vb m vc N G w w1 w2 w3 r1 r2 h1 h2 h3 h4 h5 h6 h7 h8 h9 a1 a2 a3
  try simp only [Nat.mul_one,y41] at a2 a3
  exact zxc b 0 n c i vb 0 m vc N G w w1 w2 w3 r1 r2 h1 h2 h3 h4 h5 h6 h7 h8 h9 a1 a2 (by simp only [y41];exact a3)
 ·intro b n c i vb m vc w w2 w3 r1 r2 h1 h2 h3 h4 h5 h6 a1 a2 a3
  try simp only [Nat.mul_one,y41] at a1 a2 a3
  refine zxd b 0 n c i vb 0 m vc w w2 w3 r1 r2 h1 h2 h3 h4 h5 h6 ?_ ?_ ?_
  ·simp only [y41];exact a1
  ·simp only [y41];exact a2
  ·simp only [y41];exact a3
 ·intro w a b la ca lb cb kA kB tA tB hne hsa hsb hkB hfa hfe
  obtain ⟨e,i,hu,hi,hs,_⟩:=zbc (P:=Tryz.prog) (t:=48) (sz:=3) (by kernel_rfl)
  have hz: ∀w,(Go.sizeOf e).run Tryz.prog w= .ok 3 w:=fun w=>by simp [Go.sizeOf,typeInfo,hi,hs]
  rw [run_callFunc_extern (P:=Tryz.prog) (f:=184) (fn:=Tryz.f184) (by kernel_rfl) (by kernel_rfl) (by kernel_rfl) (by kernel_rfl) (e:=Extern.SlicesOverlaps.overlaps #[48,48] #[4]) (by kernel_rfl),
   Lib.run_overlaps_apart w 48 4 e hu 3 hz a b la ca lb cb hne tA tB kA kB hsa hsb hkB hfa hfe]
  rfl
set_option maxHeartbeats 4000000 in
set_option maxRecDepth 100000 in
theorem zxf (s:Option Addr) (va:Addr) (n c m vc:Nat) (u:Value) (w w':World) (hm:0<m) (hn:n<=4294967296) (hm2:m<=4294967296) (hnc:n<=c)
  (hrun: ∀ty,(Builtin.append_ #[36,36] ty #[.slice s n c, .slice (some va) m vc]).run Tryz.prog w= .ok u w'):
  Calls Tryz.prog 226 #[.slice s n c, .int .i64 n, .slice (some va) m vc] w fun e w''=>e= .returned u/\w''=w':=by
 have hz1: ¬((m:Int)=0):=by omega
 go_enter Tryz.func226,Tryz.ntmps226
 cases s with
 | none=>
  go_wp2_with (at_builtin;refine Lib.wpList_append_run _ rfl _ _ _ _ rfl _ _ rfl rfl _ _ (hrun _) ?_)
  go_ret
  exact ⟨rfl,rfl⟩
 | some a=>
  obtain ⟨ab,ao,asp⟩:=a
  go_wp2_with (at_builtin;refine Lib.wpList_append_run _ rfl _ _ _ _ rfl _ _ rfl rfl _ _ (hrun _) ?_)
  all_goals (go_ret;exact ⟨rfl,rfl⟩)
set_option maxHeartbeats 4000000 in
set_option maxRecDepth 100000 in
theorem zxg (b off n c i vb voff m vc N G:Nat) (w w1 w2 w3:World) (r1 r2:Value) (hi:i<n) (hm:0<m) (hnc:n<=c) (hc:c<=9223372036854775807) (hroom:c<n+m) (hn:n<=4294967296) (hm2:m<=4294967296) (hG:n+m<=G) (hG2:G<=9223372036854775807)
  (hrz: ∀ty,(Builtin.append_ #[36,3] ty #[.slice (some ⟨b,off,none⟩) i c, .int .i64 ((n:Int)+(m:Int) - (i:Int))]).run Tryz.prog w= .ok (.slice (some ⟨N,0,none⟩) (n+m) G) w1)
  (hcpA: ∀ty dc,(Builtin.copy_ #[36,36] ty #[.slice (some ⟨N,i,none⟩) (n+m - i) dc, .slice (some ⟨vb,voff,none⟩) m vc]).run Tryz.prog w1= .ok r1 w2)
  (hcpB: ∀ty dc sc,(Builtin.copy_ #[36,36] ty #[.slice (some ⟨N,i+m,none⟩) (n+m - (i+m)) dc, .slice (some ⟨b,off+i,none⟩) (n - i) sc]).run Tryz.prog w2.drew= .ok r2 w3):
  Calls Tryz.prog 226 #[.slice (some ⟨b,off,none⟩) n c, .int .i64 i, .slice (some ⟨vb,voff,none⟩) m vc] w fun e w''=>e= .returned (.slice (some ⟨N,0,none⟩) (n+m) G)/\w''=w3:=by
 have mixed:Tryz.prog.follows .mixedOrders=true:=by kernel_rfl
 have hz1: ¬((m:Int)=0):=by omega
 have hz2: ¬((i:Int)=(n:Int)):=by omega
 have hz3:(c:Int)<(n:Int)+(m:Int):=by omega
 have hGi: ¬(G=i):=by omega
 have hGim: ¬(G=i+m):=by omega
 have hci: ¬(c=i):=by omega
 have hw1:IntKind.i64.wrap ((i:Int)+(m:Int))=(i:Int)+(m:Int):=by rw [IntKind.wrap_i64];omega
 have hb1:(0:Int)<=(i:Int)+(m:Int):=by omega
 have hin:i<=n:=by omega
 have htn:((i:Int)+(m:Int)).toNat=i+m:=by omega
 have hb3:(i:Int)<=(n:Int):=by omega
 go_enter Tryz.func226,Tryz.ntmps226
 go_wp2_with (first
  | (at_builtin;refine Lib.wpList_append_run _ rfl _ _ _ _ rfl _ _ rfl rfl _ _ (hrz _) ?_)
  | (at_builtin;refine wpList_copy_runI _ rfl _ _ _ _ rfl _ _ rfl rfl (hcpA _ _) ?_))
 go_region_law_o (refine step_copy_runI rfl _ _ _ _ rfl (.slice (some ⟨N,i+m,none⟩) (n+m - (i+m)) (G - (i+m))) (.slice (some ⟨b,off+i,none⟩) (n - i) (c - i)) (by simp [Act.eval,Act.put]) (by simp [Act.eval,Act.put]) (hcpB _ (G - (i+m)) (c - i)) ?_)
 go_wp2
 go_ret
 exact ⟨rfl,rfl⟩
set_option maxHeartbeats 4000000 in
set_option maxRecDepth 100000 in
theorem zxh (b off n c i vb voff m vc:Nat) (w w2 w3:World) (r1 r2:Value) (hi:i<n) (hm:0<m) (hc:c<=9223372036854775807) (hroom:n+m<=c) (hn:n<=4294967296) (hm2:m<=4294967296)
  (hov: ∀lb cb,(callFunc 267 #[.slice (some ⟨vb,voff,none⟩) m vc, .slice (some ⟨b,off+(i+m),none⟩) lb cb]).run Tryz.prog w= .ok (.value (.bool false)) w)
  (hcp1: ∀ty dc sc,(Builtin.copy_ #[36,36] ty #[.slice (some ⟨b,off+(i+m),none⟩) (n+m - (i+m)) dc, .slice (some ⟨b,off+i,none⟩) (n+m - i) sc]).run Tryz.prog w.drew= .ok r1 w2)
  (hcp2: ∀ty dc,(Builtin.copy_ #[36,36] ty #[.slice (some ⟨b,off+i,none⟩) (n+m - i) dc, .slice (some ⟨vb,voff,none⟩) m vc]).run Tryz.prog w2= .ok r2 w3):
  Calls Tryz.prog 226 #[.slice (some ⟨b,off,none⟩) n c, .int .i64 i, .slice (some ⟨vb,voff,none⟩) m vc] w fun e w''=>e= .returned (.slice (some ⟨b,off,none⟩) (n+m) c)/\w''=w3:=by
 have mixed:Tryz.prog.follows .mixedOrders=true:=by kernel_rfl
 have hz1: ¬((m:Int)=0):=by omega
 have hz2: ¬((i:Int)=(n:Int)):=by omega
 have hw1:IntKind.i64.wrap ((i:Int)+(m:Int))=(i:Int)+(m:Int):=by rw [IntKind.wrap_i64];omega
 have hb1:(0:Int)<=(i:Int)+(m:Int):=by omega
 have hin:i<=n:=by omega
 have htn:((i:Int)+(m:Int)).toNat=i+m:=by omega
 have hb2: ¬(c=i+m):=by omega
 have hb3:(i:Int)<=(n:Int)+(m:Int):=by omega
 have hb4: ¬(c=i):=by omega
 go_enter Tryz.func226,Tryz.ntmps226
 go_wp2_with (simp only [hov])
 go_region_law_o (refine step_copy_runI rfl _ _ _ _ rfl _ _ (by simp [Act.eval,Act.put]) (by simp [Act.eval,Act.put]) (hcp1 _ _ _) ?_)
 go_wp2_with (at_builtin;refine wpList_copy_runI _ rfl _ _ _ _ rfl _ _ rfl rfl (hcp2 _ _) ?_)
 go_ret
 exact ⟨rfl,rfl⟩
theorem zxi (ds rs:List V) (h:insP 1 ds=some rs):DeepOk Tryz.prog 226 ds rs:=by
 refine zxa (S:=36) (T:=3) (Vo:=267) (kT:= .i64) (by kernel_rfl) Tryz.underlying3 (fun s va n c m vc u w w' h1 h2 h3 h4 h5=>zxf s va n c m vc u w w' h1 h2 h3 h4 h5) ?_ ?_ ?_ ds rs h
 ·intro b n c i vb m vc N G w w1 w2 w3 r1 r2 h1 h2 h3 h4 h5 h6 h7 h8 h9 a1 a2 a3
  try simp only [Nat.mul_one,y41] at a2 a3
  exact zxg b 0 n c i vb 0 m vc N G w w1 w2 w3 r1 r2 h1 h2 h3 h4 h5 h6 h7 h8 h9 a1 a2 (by simp only [y41];exact a3)
 ·intro b n c i vb m vc w w2 w3 r1 r2 h1 h2 h3 h4 h5 h6 a1 a2 a3
  try simp only [Nat.mul_one,y41] at a1 a2 a3
  refine zxh b 0 n c i vb 0 m vc w w2 w3 r1 r2 h1 h2 h3 h4 h5 h6 ?_ ?_ ?_
  ·simp only [y41];exact a1
  ·simp only [y41];exact a2
  ·simp only [y41];exact a3
 ·intro w a b la ca lb cb kA kB tA tB hne hsa hsb hkB hfa hfe
  obtain ⟨e,i,hu,hi,hs,_⟩:=zbc (P:=Tryz.prog) (t:=36) (sz:=1) (by kernel_rfl)
  have hz: ∀w,(Go.sizeOf e).run Tryz.prog w= .ok 1 w:=fun w=>by simp [Go.sizeOf,typeInfo,hi,hs]
  rw [run_callFunc_extern (P:=Tryz.prog) (f:=267) (fn:=Tryz.f267) (by kernel_rfl) (by kernel_rfl) (by kernel_rfl) (by kernel_rfl) (e:=Extern.SlicesOverlaps.overlaps #[36,36] #[4]) (by kernel_rfl),
   Lib.run_overlaps_apart w 36 4 e hu 1 hz a b la ca lb cb hne tA tB kA kB hsa hsb hkB hfa hfe]
  rfl
end Go.Dvm.C
