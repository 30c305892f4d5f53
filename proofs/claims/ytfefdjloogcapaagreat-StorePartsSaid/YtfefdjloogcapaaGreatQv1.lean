/- A small machine over plain values, and its soundness over the model: part 2. -/
import Derived.Control
import Derived.Calls
import Derived.Laws.World
import Derived.Laws.Sem
import Derived.Laws.Cells
import Derived.Laws.CopyRow
import Derived.Tactics
import Derived.RowKit
import Derived.Laws.Strings
import Derived.Laws.StructEq
import Derived.Laws.BytesArg
import Derived.Laws.Tables
import Derived.Laws.AppendOwn
import Derived.Laws.Entries
import Derived.Laws.Small
import Derived.Laws.MakeOwn
import Derived.Great.BuildSlice
import GoSem.Builtin.Clear
import Derived.MapKept
import Derived.Orders
import Derived.ChangeArms
import Derived.Below
import Derived.Carry
import Derived.OpenShut
import Derived.WideShapes
import Derived.WalkKit
import Derived.Maps.RangeWalk
import Derived.Deep.QuietTactic
import Derived.Test.YtfefdjloogcapaaGreatQv0
set_option linter.all false
set_option maxRecDepth 100000
namespace Go.Dvm
section
variable {I:Addr->Prop} {ρ:Infs} {P:Program} {w:World} {H:Hp} {a:Act} {fr:Fr} {T:Nat->Option MFun} {O:Orc}
theorem zd0 {c:Addr->Option Value} {v:V} {u:Value} (hv:VR I ρ c v u) (hg:goods (leaves v)=true):u.cells.size=(leaves v).length/\ ∀(j:Nat) (lf:V),(leaves v)[j]? =some lf->VR I ρ c lf (u.cells.getD j undef):=by
 by_cases ha: ∃cs,v= .agg cs
 ·obtain ⟨cs,rfl⟩:=ha
  obtain ⟨arr,rfl,h1,h2,h3⟩:=hv.agg_inv
  exact ⟨h1,h3⟩
 ·have hl:leaves v=[v]:=by cases v<;>first | rfl | exact absurd ⟨_,rfl⟩ ha
  rw [hl] at hg ⊢
  have h1:=hv.oneCell (by simpa [goods] using hg)
  have hc:u.cells= #[u]:=by cases u<;>first | rfl | cases h1
  rw [hc]
  refine ⟨rfl,fun j lf hj=>?_⟩
  cases j with
  | zero=>simp at hj;subst hj;exact hv
  | succ j=>simp at hj
theorem zd1 {c:Addr->Option Value} {v:V} {u:Value} (hv:VR I ρ c v u) (hg:goods (leaves v)=true): ∀x∈u.cells.toList,x.oneCell'=true:=by
 obtain ⟨h1,h2⟩:=zd0 hv hg
 intro x hx
 obtain ⟨j,hj⟩:=List.mem_iff_getElem?.1 hx
 have hlt:j<u.cells.size:=by simpa using z7 hj
 have hlf:j<(leaves v).length:=by omega
 have:=h2 j _ (y6 hlf)
 have e:u.cells.getD j undef=x:=by
  rw [y49] at hj
  rw [y15,hj];rfl
 rw [e] at this
 exact this.oneCell (zi hg (y6 hlf))
theorem Shr.nxt {I1:Addr->Prop} {H1:Hp} (hr:HR I ρ w H) (s:Shr I ρ w H I1 H1):Nxt H.length I ρ w I1 ρ w:=
 ⟨s.sub,fun a h=>by rcases s.new a h with h | h;exact .inl h;exact .inr (.inl h),Grow.refl _ _ _,fun _ h=> .inl h,fun _ _=>Pers.refl _, .inl (by rw [hr.len];exact y13 _)⟩
def isSl (P:Program) (t:TypeId):Bool:=match P.underlying t with
 | some (.slice _)=>true
 | _=>false
def isStr (P:Program) (t:TypeId):Bool:=match P.underlying t with
 | some .string=>true
 | _=>false
theorem zd2 {t:TypeId} (h:isSl P t=true): ∃e,P.underlying t=some (.slice e):=by
 unfold isSl at h;split at h
 ·rename_i e he;exact ⟨e,he⟩
 ·cases h
theorem zd3 {t:TypeId} (h:isStr P t=true):P.underlying t=some .string:=by
 unfold isStr at h;split at h
 ·assumption
 ·cases h
theorem zd4 {n:Nat} (h:n<=9223372036854775807):inR .i64 (n:Int):=by
 unfold inR;simp only [IntKind.min,IntKind.max,IntKind.signed,IntKind.bits];simp;omega
theorem zd5 (o:Oper) {x:Operand} {ts:Array TypeId} (ho:o.op= .call ⟨.builtin .len,#[x],ts⟩):execOp a.eval o=(do pure (.value (<- Builtin.len_ ts o.type #[a.eval x]))):=by
 simp [execOp,ho,resolve,invoke,builtin]
theorem zd6 (o:Oper) {x y:Operand} {ts:Array TypeId} (ho:o.op= .call ⟨.builtin .max,#[x,y],ts⟩):execOp a.eval o=(do pure (.value (<- Builtin.max_ ts o.type #[a.eval x,a.eval y]))):=by
 simp [execOp,ho,resolve,invoke,builtin]
theorem zd7 (o:Oper) {x y:Operand} {ts:Array TypeId} (ho:o.op= .call ⟨.builtin .min,#[x,y],ts⟩):execOp a.eval o=(do pure (.value (<- Builtin.min_ ts o.type #[a.eval x,a.eval y]))):=by
 simp [execOp,ho,resolve,invoke,builtin]
theorem zd8 (o:Oper) {x y:Operand} {ts:Array TypeId} (ho:o.op= .call ⟨.builtin .append,#[x,y],ts⟩):execOp a.eval o=(do pure (.value (<- Builtin.append_ ts o.type #[a.eval x,a.eval y]))):=by
 simp [execOp,ho,resolve,invoke,builtin]
theorem vw_len (hr:HR I ρ w H) {id ver off len md:Nat} {u:Value} (hx:VR I ρ w.cell? (.vw id ver off len md) u): ∃ad cp,u= .slice ad len cp:=by
 cases hx with
 | vw id ver off len md x hi ho h=>exact ho
theorem vw_lim (hr:HR I ρ w H) {id ver off len md:Nat} {u:Value} (hx:VR I ρ w.cell? (.vw id ver off len md) u) {r:Bool×Nat×List V×Bool} (hrow:row? H id ver=some r):len<=9223372036854775807:=by
 cases hx with
 | vw id ver off len md x hi ho hp=>
  rcases hr.row hrow with ⟨h1,h2,h3⟩ | ⟨h1,B,K,h2,arr,h3,h4,h5,h6⟩
  ·have:=(hp _ h3).2 rfl;omega
  ·have:=(hp _ h2).2 rfl;omega
theorem go_len (hr:HR I ρ w H) (hf:FR I ρ w.cell? fr a.tmps) {str:Bool} {ma:MArg} {o:Oper} {t:TypeId} {x:Operand} (ho:o.op= .call ⟨.builtin .len,#[x],#[t]⟩) (ht:(if str=true then isStr P t else isSl P t)=true) (h2:okArg ma x=true):Go P T O I ρ a w fr H (.len str ma) o:=by
 intro v H' h
 have hx:=arg_vr h2 hf
 simp only [ev] at h
 have hexec:execOp a.eval o=(do pure (.value (<- Builtin.len_ #[t] o.type #[a.eval x]))):=zd5 o ho
 split at h
 ·rename_i z xs hp
  simp only [y1,y7] at h
  obtain ⟨rfl,rfl⟩:=h
  rw [hp] at hx
  obtain ⟨e,he⟩:=zd2 ht
  generalize hu:a.eval x=u at*
  cases hx with
  | sl z xs ad cp s vals hc hz hn hs hd hcell hv=>
   exact Does.value hexec (u:= .int .i64 xs.length) (w':=w) (by simp [Builtin.len_,run_underlying he,goInt]) (Step.same hr (.int _ _ (zd4 hc.2)))
 ·rename_i xs hp
  simp only [y1,y7] at h
  obtain ⟨rfl,rfl⟩:=h
  rw [hp] at hx
  obtain ⟨e,he⟩:=zd2 ht
  generalize hu:a.eval x=u at*
  cases hx with
  | psl xs ad cp vals hc hg hcell hv=>
   exact Does.value hexec (u:= .int .i64 xs.length) (w':=w) (by simp [Builtin.len_,run_underlying he,goInt]) (Step.same hr (.int _ _ (zd4 hc.2)))
 ·rename_i id ver off len md hp
  cases hrow:row? H id ver with
  | none=>simp [hrow] at h
  | some r=>
  simp only [hrow,y4,y1,y7] at h
  obtain ⟨rfl,rfl⟩:=h
  rw [hp] at hx
  obtain ⟨e,he⟩:=zd2 ht
  have hlen:len<=9223372036854775807:=vw_lim hr hx hrow
  obtain ⟨ad,cp,hu⟩:=vw_len hr hx
  refine Does.value hexec (u:= .int .i64 len) (w':=w) ?_ (Step.same hr (.int _ _ (zd4 hlen)))
  rw [hu]
  simp [Builtin.len_,run_underlying he,goInt]
 ·rename_i l hp
  simp only [y1,y7] at h
  obtain ⟨rfl,rfl⟩:=h
  rw [hp] at hx
  have he:=zd3 ht
  generalize hu:a.eval x=u at*
  cases hx with
  | str l s hl hb=>
   refine Does.value hexec (u:= .int .i64 l.length) (w':=w) ?_ (Step.same hr (.int _ _ (zd4 hb)))
   rw [<- hl]
   simp [Builtin.len_,run_underlying he,goInt]
 ·cases h
theorem go_mm (hr:HR I ρ w H) (hf:FR I ρ w.cell? fr a.tmps) {mx:Bool} {ma mb:MArg} {o:Oper} {ts:Array TypeId} {x y:Operand} (ho:o.op= .call ⟨.builtin (if mx=true then .max else .min),#[x,y],ts⟩) (h2:okArg ma x=true) (h3:okArg mb y=true):Go P T O I ρ a w fr H (.mm mx [ma,mb]) o:=by
 intro v H' h
 have hx:=arg_vr h2 hf
 have hy:=arg_vr h3 hf
 simp only [ev,MArgs.vals,y32,y57] at h
 split at h
 ·rename_i k p k' q hp
  simp only [List.cons.injEq,and_true] at hp
  split at h
  ·rename_i hk
   subst hk
   simp only [y1,y7] at h
   obtain ⟨rfl,rfl⟩:=h
   rw [hp.1] at hx;rw [hp.2] at hy
   obtain ⟨e1,r1⟩:=hx.of_int
   obtain ⟨e2,r2⟩:=hy.of_int
   cases mx with
   | true=>
    refine Does.value (s:=Builtin.max_ ts o.type #[a.eval x,a.eval y]) (zd6 o ho) (by rw [e1,e2];exact run_max_int2 _ ts o.type k k p q) (Step.same hr ?_)
    simp only [if_true]
    split<;>exact .int _ _ (by first | (split<;>assumption) | assumption)
   | false=>
    refine Does.value (s:=Builtin.min_ ts o.type #[a.eval x,a.eval y]) (zd7 o ho) (by rw [e1,e2];exact run_min_int2 _ ts o.type k k p q) (Step.same hr ?_)
    simp only [y17,if_false]
    split<;>exact .int _ _ (by first | (split<;>assumption) | assumption)
  ·cases h
 ·cases h
def okZ (P:Program) (t:TypeId) (zero:List V):Bool:=match P.info? t with
 | some i=>(match i.zero with | some z=>okCs zero z.cells.toList | none=>false)
 | none=>false
theorem zd9 {t:TypeId} {zero:List V} (h:okZ P t zero=true): ∃i z,P.info? t=some i/\i.zero=some z/\z.cells.size=zero.length/\goods zero=true/\ ∀(I:Addr->Prop) (ρ:Infs) (c:Addr->Option Value) (j:Nat) (v:V),zero[j]? =some v->VR I ρ c v (z.cells.getD j undef):=by
 unfold okZ at h
 split at h
 ·rename_i i hi
  split at h
  ·rename_i z hz
   refine ⟨i,z,hi,hz,?_,?_,fun I ρ c j v hj=>?_⟩
   ·simpa using (zl (I:=fun _=>False) (ρ:=[]) (c:=fun _=>none) h).1
   ·exact (zl (I:=fun _=>False) (ρ:=[]) (c:=fun _=>none) h).2.1
   ·have:=(zl (I:=I) (ρ:=ρ) (c:=c) h).2.2 j v hj
    simpa [y15,y14] using this
  ·cases h
 ·cases h
theorem zea (hr:HR I ρ w H) {zero:List V} {o:Oper} {t:TypeId} (ho:o.op= .alloc t) (ht:okZ P t zero=true):Go P T O I ρ a w fr H (.alloc zero) o:=by
 intro v H' h
 simp only [ev,y1,y7] at h
 obtain ⟨rfl,rfl⟩:=h
 obtain ⟨i,z,hi,hz,hs,hg,hv⟩:=zd9 ht
 obtain ⟨b1,b2,b3⟩:=zbt hr hg hs (hv I ρ w.cell?) t
 refine Does.value (s:=Instr.alloc t true (.tuple #[])) (by simp [execOp,ho]) ?_ ⟨I,_,b3,b1,b2⟩
 simp [Instr.alloc,zeroValue,typeInfo,hi,hz,newVar,newRow]
theorem go_box (hr:HR I ρ w H) (hf:FR I ρ w.cell? fr a.tmps) {ma:MArg} {o:Oper} {t:TypeId} {x:Operand} (ho:o.op= .box t x) (h2:okArg ma x=true):Go P T O I ρ a w fr H (.box ma) o:=by
 intro v H' h
 simp only [ev] at h
 split at h
 ·rename_i hg
  simp only [y1,y7] at h
  obtain ⟨rfl,rfl⟩:=h
  obtain ⟨h1,hv⟩:=zd0 (arg_vr h2 hf) hg
  obtain ⟨b1,b2,b3⟩:=zbt hr hg h1 hv t
  refine Does.value (s:=Instr.box t (a.eval x)) (by simp [execOp,ho]) ?_ ⟨I,_,b3,b1,b2⟩
  simp [Instr.box,newVar,newRow]
 ·cases h
theorem zeb {e:V} {ls:List V} (hl:ls.length=(leaves e).length) (hd: ∀(j:Nat) (lf:V),ls[j]? =some lf->deep1 lf=true):leaves (mkEl e ls)=ls:=by
 by_cases ha: ∃cs,e= .agg cs
 ·obtain ⟨cs,rfl⟩:=ha;rfl
 ·have h1:leaves e=[e]:=by cases e<;>first | rfl | exact absurd ⟨_,rfl⟩ ha
  have h2:mkEl e ls=ls.headD .junk:=by cases e<;>first | rfl | exact absurd ⟨_,rfl⟩ ha
  rw [h1] at hl
  match ls,hl with
  | [y],_=>
   rw [h2]
   have:=hd 0 y rfl
   show leaves y=[y]
   cases y<;>first | rfl | simp [deep1] at this
theorem zec (hr:HR I ρ w H) (hf:FR I ρ w.cell? fr a.tmps) {n:Nat} {agg:Bool} {ma mb:MArg} {o:Oper} {t:TypeId} {x y:Operand} (ho:o.op= .store t x y) (ht:okT P t n agg=true) (h2:okArg ma x=true) (h3:okArg mb y=true):Go P T O I ρ a w fr H (.store ma mb n) o:=by
 intro v H' h
 have hx:=arg_vr h2 hf
 have hy:=arg_vr h3 hf
 simp only [ev] at h
 cases hv:vstore H n (ma.val fr) (mb.val fr) with
 | none=>simp [hv] at h
 | some H1 =>
  simp only [hv,y4,y1,y7] at h
  obtain ⟨rfl,rfl⟩:=h
  have hun: ∀{I':Addr->Prop} {ρ':Infs} {c:Addr->Option Value},VR I' ρ' c (.tup []) undef:=fun {I' ρ' c}=> .tup [] #[] rfl (fun i v h=>by simp at h)
  unfold vstore at hv
  split at hv
  ·rename_i id off hp
   split at hv
   ·rename_i cs hb
    split at hv
    ·rename_i hl
     split at hv
     ·rename_i hfit
      split at hv
      ·rename_i hg
       simp only [y1] at hv;subst hv
       rw [hp] at hx
       obtain ⟨c1,c2⟩:=zd0 hy hg
       obtain ⟨B,arr,e1,e2,e3,e4,e5⟩:=zb2 hr hb (o:=off) (vs:=(a.eval y).cells.toList) (by simpa using c1) (by omega) hg (fun j lf hj=>by have:=c2 j lf hj;simpa [y15,y14] using this)
       have hptr:a.eval x= .pointer (some ⟨B,off,none⟩):=by
        generalize a.eval x=u at hx
        cases hx with
        | ptr id off x hi ho h=>obtain ⟨B',q1,q2⟩:=h _ e1;cases q1;exact q2
       refine Does.unit (s:=Instr.storeAt t (a.eval x) (a.eval y)) (by simp [execOp,ho]) ?_ ⟨I,ρ,hun,e4,e5⟩
       rw [hptr]
       have:=zb5 (P:=P) e2 (o:=off) (vs:=(a.eval y).cells.toList) (by simp;omega) (zd1 hy hg)
       simp [Instr.storeAt,Instr.sureAddr,storeVar,(zy ht).1,c1,hl,this]
      ·cases hv
     ·cases hv
    ·cases hv
   ·cases hv
  ·rename_i id ver i j hp
   cases hs:share H (mb.val fr) with
   | none=>simp [hs] at hv
   | some p =>
    obtain ⟨d,H2⟩:=p
    simp only [hs,y4] at hv
    cases hrow:row? H2 id ver with
    | none=>simp [hrow] at hv
    | some r =>
     simp only [hrow,y4] at hv
     split at hv
     ·rename_i e he
      split at hv
      ·rename_i hfl
       split at hv
       ·rename_i hl
        split at hv
        ·rename_i hfit
         simp only [y1] at hv;subst hv
         obtain ⟨I1,sh,hd,hvd⟩:=zce hr hy hs
         obtain ⟨z,sz,xs,fl⟩:=r
         simp only at he hfl hl hfit
         subst hfl
         rcases sh.hr.row hrow with ⟨q1,q2,q3⟩ | ⟨q1,B,K,q2,q3⟩
         ·simp only at q2;rw [q2] at he;simp at he
         ·simp only at q1 q2 q3;subst q1
          obtain ⟨arr,hc,hsize,hK,hel,hdv,hI⟩:=q3
          have hidr:=z6 hrow
          simp only at hidr
          rw [hp] at hx
          have hptr:a.eval x= .pointer (some ⟨B,i*sz+j,none⟩):=by
           generalize a.eval x=u at hx
           cases hx with
           | ep id ver i j x hi ho h=>exact (h _ q2).2 rfl
          have hgd:goods (leaves d)=true:=zj fun k lf hk=>zk (hd k lf hk)
          obtain ⟨c1,c2⟩:=zd0 (hvd ρ) hgd
          have hcd:=(zd0 (hvd []) hgd).2
          have hilt:i<xs.length:=z7 he
          have hesz:=hel i e he
          have hmul:(i+1)*sz<=K*sz:=y16 sz (by omega)
          rw [y29] at hmul
          have hl':(leaves d).length=n:=hl
          have hsetl:(setAt (leaves e) j (leaves d)).length=(leaves e).length:=zb0 _ _ _
          have hfit':i*sz+j+(a.eval y).cells.toList.length<=K*sz:=by simp only [y43];omega
          have hdl: ∀(k:Nat) (lf:V),(setAt (leaves e) j (leaves d))[k]? =some lf->deep1 lf=true:=fun k lf hk=>by
           rw [zb1 _ _ _ (by omega)] at hk
           split at hk
           ·exact hd _ _ hk
           ·exact (hdv i k e lf he hk).1
          obtain ⟨w1,w2,w3⟩:=zbz sh.hr hidr q2 hc hsize hI hfit' (.inl rfl) (xs':=xs.set i (mkEl e (setAt (leaves e) j (leaves d)))) (ver':=ver) (.inl ⟨rfl,by simp⟩) (by simp) (by simpa using hK) (fun i' e' hi'=>by
           by_cases hii:i=i'
           ·subst hii
            rw [y22 hilt] at hi'
            simp only [y1] at hi';subst hi'
            rw [zeb hsetl hdl]
            refine ⟨by omega,fun j' lf hj'=>⟨hdl j' lf hj',?_⟩⟩
            rw [zb1 _ _ _ (by omega)] at hj'
            simp only [y43]
            split at hj'
            ·rw [if_pos (by omega)]
             have:=hcd _ lf hj'
             have e3:i*sz+j' - (i*sz+j)=j' - j:=by omega
             rw [e3]
             simpa [y15,y14] using this
            ·rw [if_neg (by omega)]
             exact (hdv i j' e lf he hj').2
           ·rw [y27 hii] at hi'
            refine ⟨hel i' e' hi',fun j' lf hj'=>⟨(hdv i' j' e' lf hi' hj').1,?_⟩⟩
            have hj'l:=z7 hj'
            rw [hel i' e' hi'] at hj'l
            simp only [y43]
            rw [if_neg ?_]
            ·exact (hdv i' j' e' lf hi' hj').2
            ·rcases Nat.lt_or_gt_of_ne hii with hlt | hgt
             ·have:=y16 sz (show i+1<=i' by omega)
              rw [y29] at this;omega
             ·have:=y16 sz (show i'+1<=i by omega)
              rw [y29] at this;omega)
          have hset:ρ.set id (some (.row B K sz ver (xs.set i (mkEl e (setAt (leaves e) j (leaves d)))).length))=ρ:=zcb (by simpa using q2)
          rw [hset] at w1 w2
          refine Does.unit (s:=Instr.storeAt t (a.eval x) (a.eval y)) (by simp [execOp,ho]) ?_ ⟨I1,ρ,hun,w1,(sh.nxt hr).trans (by rw [<- sh.len];exact w2) (by rw [hr.len];exact y13 _)⟩
          rw [hptr]
          have:=zb5 (P:=P) hc (o:=i*sz+j) (vs:=(a.eval y).cells.toList) (by rw [hsize];exact hfit') (zd1 (hvd ρ) hgd)
          have hcn:(a.eval y).cells.size=n:=by omega
          simp [Instr.storeAt,Instr.sureAddr,storeVar,(zy ht).1,hcn,this]
        ·cases hv
       ·cases hv
      ·cases hv
     ·cases hv
  ·cases hv
end
section
variable {I:Addr->Prop} {ρ:Infs} {P:Program} {w:World} {H:Hp} {a:Act} {fr:Fr} {T:Nat->Option MFun} {O:Orc}
def okParts (place:Nat->Option (Nat×Nat)):List (Nat×Nat×MArg)->List (Nat×Operand)->Bool
 | [],[]=>true
 | (off,n,m)::l,(i,x)::k=>(place i==some (off,n)) && okArg m x && okParts place l k
 | _,_=>false
theorem zed (place:Nat->Option (Nat×Nat)) (hf:FR I ρ w.cell? fr a.tmps): ∀(ps:List (Nat×Nat×MArg)) (xs:List (Nat×Operand)) (cs cs':List V) (arr:Array Value),okParts place ps xs=true->fillB fr cs ps=some cs'->
  arr.size=cs.length->goods cs=true->(∀(j:Nat) (v:V),cs[j]? =some v->VR I ρ w.cell? v (arr.getD j undef))->
  ∃arr',Instr.fill place arr (xs.map fun p=>(p.1,a.eval p.2))=some arr'/\arr'.size=cs'.length/\goods cs'=true/\ ∀(j:Nat) (v:V),cs'[j]? =some v->VR I ρ w.cell? v (arr'.getD j undef)
 | [],[],cs,cs',arr,h,hb,hs,hg,hv=>by
  simp only [fillB,y1] at hb;subst hb
  exact ⟨arr,rfl,hs,hg,hv⟩
 | [],_::_,cs,cs',arr,h,hb,hs,hg,hv=>by simp [okParts] at h
 | _::_,[],cs,cs',arr,h,hb,hs,hg,hv=>by simp [okParts] at h
 | (off,n,m)::l,(i,x)::k,cs,cs',arr,h,hb,hs,hg,hv=>by
  simp only [okParts,y5,beq_iff_eq] at h
  obtain ⟨⟨h1,h2⟩,h3⟩:=h
  simp only [fillB] at hb
  split at hb
  ·rename_i hl
   split at hb
   ·rename_i hfit
    split at hb
    ·rename_i hgl
     have hx:=arg_vr h2 hf
     obtain ⟨c1,c2⟩:=zd0 hx hgl
     have hfold:=Great.foldl_set off (a.eval x).cells.toList 0 arr
     generalize he:(((a.eval x).cells.toList.zipIdx 0).foldl (fun cs (x:Value×Nat)=>cs.setIfInBounds (off+x.2) x.1) arr)=arr1 at hfold
     have he':(a.eval x).cells.zipIdx.foldl (fun cs (c,j)=>cs.setIfInBounds (off+j) c) arr=arr1:=by
      rw [<- he,<- Array.foldl_toList,Array.toList_zipIdx]
     obtain ⟨f1,f2⟩:=hfold
     obtain ⟨arr',r1,r2,r3,r4⟩:=zed place hf l k (setAt cs off (leaves (m.val fr))) cs' arr1 h3 hb (by rw [f1,zb0,hs]) (by
      refine zj fun j v hj=>?_
      rw [zb1 _ _ _ (by omega)] at hj
      split at hj
      ·exact zi hgl hj
      ·exact zi hg hj) (fun j v hj=>by
      have hjl:=z7 hj
      rw [zb0] at hjl
      rw [zb1 _ _ _ (by omega)] at hj
      have hfj:=f2 j
      simp only [Nat.add_zero,y43] at hfj
      split at hj
      ·rename_i hin
       rw [if_pos (by omega)] at hfj
       have:=c2 _ v hj
       rw [y49] at hfj
       rw [y15] at this ⊢
       rw [hfj];exact this
      ·rename_i hin
       rw [if_neg (by omega)] at hfj
       have:=hv j v hj
       rw [y15] at this ⊢
       rw [hfj];exact this)
     refine ⟨arr',?_,r2,r3,r4⟩
     simp only [y32,Instr.fill,h1]
     rw [if_neg (by simp;omega),he']
     exact r1
    ·cases hb
   ·cases hb
  ·cases hb
def okBld (P:Program) (t:TypeId) (zero:List V) (ps:List (Nat×Nat×MArg)) (xs:List (Nat×Operand)):Bool:=
 match P.info? t,P.underlying t with
 | some it,some (.array _ e)=>(match it.zero,P.info? e with
  | some z,some ie=>okCs zero z.cells.toList && okParts (fun i=>some (i*ie.size,ie.size)) ps xs
  | _,_=>false)
 | some it,some (.struct fields)=>(match it.zero,fields.toList.mapM (fun f=>(P.info? f.type).map fun i=>(f.offset,i.size)) with
  | some z,some places=>okCs zero z.cells.toList && okParts (places.toArray[·]?) ps xs
  | _,_=>false)
 | _,_=>false
theorem go_bld (hr:HR I ρ w H) (hf:FR I ρ w.cell? fr a.tmps) {zero:List V} {ps:List (Nat×Nat×MArg)} {o:Oper} {t:TypeId} {xs:Array (Nat×Operand)} (ho:o.op= .build t xs) (ht:okBld P t zero ps xs.toList=true):Go P T O I ρ a w fr H (.bld zero ps) o:=by
 intro v H' h
 simp only [ev] at h
 cases hb:fillB fr zero ps with
 | none=>simp [hb] at h
 | some cs=>
  simp only [hb,y4,y1,y7] at h
  obtain ⟨rfl,rfl⟩:=h
  have key: ∃arr,P.built t (xs.toList.map fun p=>(p.1,a.eval p.2))=some arr/\arr.size=cs.length/\goods cs=true/\ ∀(j:Nat) (v:V),cs[j]? =some v->VR I ρ w.cell? v (arr.getD j undef):=by
   have hz: ∀{z:Value},okCs zero z.cells.toList=true->z.cells.size=zero.length/\goods zero=true/\ ∀(j:Nat) (v:V),zero[j]? =some v->VR I ρ w.cell? v (z.cells.getD j undef):=fun {z} h=>by
    obtain ⟨e1,e2,e3⟩:=zl (I:=I) (ρ:=ρ) (c:=w.cell?) h
    exact ⟨by simpa using e1,e2,fun j v hj=>by simpa [y15,y14] using e3 j v hj⟩
   unfold okBld at ht
   split at ht
   ·rename_i it n e hi hu
    split at ht
    ·rename_i z ie hz' hie
     simp only [y5] at ht
     obtain ⟨z1,z2,z3⟩:=hz ht.1
     obtain ⟨arr,r1,r2⟩:=zed (a:=a) _ hf _ _ _ _ z.cells ht.2 hb z1 z2 z3
     exact ⟨arr,by simp only [Program.built,hi,hu,hz',hie];exact r1,r2⟩
    ·cases ht
   ·rename_i it fields hi hu
    split at ht
    ·rename_i z places hz' hpl
     simp only [y5] at ht
     obtain ⟨z1,z2,z3⟩:=hz ht.1
     obtain ⟨arr,r1,r2⟩:=zed (a:=a) _ hf _ _ _ _ z.cells ht.2 hb z1 z2 z3
     exact ⟨arr,by simp only [Program.built,hi,hu,hz',hpl];exact r1,r2⟩
    ·cases ht
   ·cases ht
  obtain ⟨arr,r1,r2,r3,r4⟩:=key
  refine Does.value (s:=Instr.build t (xs.map fun (i,x)=>(i,a.eval x))) (by simp [execOp,ho]) (run_build w t _ arr ?_) (Step.same hr (.agg _ _ r2 r3 r4))
  rw [Array.toList_map];exact r1
theorem HR.fresh (hr:HR I ρ w H) {I':Addr->Prop} {arr:Array Value} {e:TypeId} (hI: ∀b,I b->I' b) (hn: ∀b,I' b->I b\/(b.spot=none/\b.block=w.heap.size/\b.off<arr.size)):HR I' ρ (w.alloc (.cells arr e)) H/\Nxt H.length I ρ w I' ρ (w.alloc (.cells arr e)):=by
 have hc: ∀b,I b->(w.alloc (.cells arr e)).cell? b=w.cell? b:=fun b hb=>World.cell?_alloc_lt w _ b (zbq (hr.cells b hb))
 refine ⟨⟨hr.len,fun id b i hb hi=>(hr.blk id b i hb hi).move hI hc (fun B hB=>?_) (fun B b' hB hb'=>?_) (y13 _) (fun k _=>Pers.refl _),hr.apart,fun b hb=>?_⟩,⟨hI,fun b hb=>?_,Grow.alloc hr _ _,fun _ h=> .inl h,fun _ _=>Pers.refl _, .inl (by rw [hr.len];exact y13 _)⟩⟩
 ·refine zbr w _ B (hr.live_lt ?_)
  cases i with
  | none=>cases hB
  | some inf=>exact ⟨id,inf,hi,hB⟩
 ·have hlt:B<w.heap.size:=hr.live_lt (by
   cases i with
   | none=>cases hB
   | some inf=>exact ⟨id,inf,hi,hB⟩)
  rcases hn b' hb' with h | h
  ·exact .inl h
  ·exact .inr (by omega)
 ·rcases hn b hb with h | ⟨h1,h2,h3⟩
  ·rw [hc b h];exact hr.cells b h
  ·have e1:b=⟨w.heap.size,b.off,none⟩:=by cases b;simp_all
   rw [e1,(zbs w arr e).cell _ h3];rfl
 ·rcases hn b hb with h | h
  ·exact .inl h
  ·exact .inr (.inr (by omega))
def okSeq (ms:List MArg) (len:Nat) (xs:List (Nat×Operand)):Bool:=decide (xs.map (·.1)=List.range' 0 len) && okArgs ms (xs.map (·.2))
theorem zee (f:Operand->Value): ∀(xs:List (Nat×Operand)) (k n:Nat),xs.map (·.1)=List.range' k n->xs.map (fun p=>(p.1,f p.2))=((xs.map fun p=>f p.2).zipIdx k).map fun x=>(x.2,x.1)
 | [],k,n,h=>rfl
 | (i,x)::l,k,n,h=>by
  cases n with
  | zero=>simp at h
  | succ n=>
   simp only [y32,List.range'_succ,List.cons.injEq] at h
   obtain ⟨rfl,h⟩:=h
   simp only [y32,List.zipIdx_cons]
   rw [zee f l _ n h]
theorem zef {t:TypeId} {sz len:Nat} (ht:okSl P t sz=true) {xs:Array (Nat×Operand)} (hp:xs.toList.map (·.1)=List.range' 0 len) (hs: ∀p∈xs.toList,(a.eval p.2).cells.size=sz) (hsmall:len*sz<=16777216):
  ∃arr e,(Instr.buildSlice t len (xs.map fun (i,x)=>(i,a.eval x))).run P w= .ok (.slice (some ⟨w.heap.size,0,none⟩) len len) (w.alloc (.cells arr e))/\arr.size=len*sz/\
   ∀(i j:Nat) (p:Nat×Operand),xs.toList[i]? =some p->j<sz->arr.getD (i*sz+j) undef=(a.eval p.2).cells.getD j undef:=by
 obtain ⟨hpos,e,ie,z,hu,hie,hsz,hb,hz,hzs⟩:=zbd ht
 have hlen:xs.toList.length=len:=by have:=congrArg List.length hp;simpa using this
 subst hsz
 obtain ⟨r,r1,r2,r3⟩:=Great.fill_dense hpos (xs.toList.map fun p=>a.eval p.2) 0 (if len*ie.size=0 then #[] else (Array.range (len*ie.size)).map (z.cells[· % z.cells.size]!)) (fun v hv=>by
  obtain ⟨p,hp1,rfl⟩:=List.mem_map.1 hv;exact hs p hp1) (by
  split
  ·simp only [y23,hlen,y41];omega
  ·simp only [y23,hlen,y41,Array.size_map,Array.size_range];omega)
 have hr2:r.size=len*ie.size:=by
  rw [r2];split
  ·simp;omega
  ·simp
 refine ⟨r,e,?_,hr2,fun i j p hi hj=>?_⟩
 ·have hfill:Instr.fill (fun i=>some (i*ie.size,ie.size)) (if len*ie.size=0 then #[] else (Array.range (len*ie.size)).map (z.cells[· % z.cells.size]!)) (xs.map fun (i,x)=>(i,a.eval x)).toList=some r:=by
   rw [Array.toList_map,zee _ _ 0 len hp];exact r1
  by_cases h0:len*ie.size=0
  ·rw [if_pos h0] at hfill
   have hl0:len=0:=by
    rcases Nat.eq_zero_or_pos len with h | h
    ·exact h
    ·have:=Nat.mul_pos h hpos;omega
   have hx0:xs= #[]:=by
    have:xs.toList=[]:=y33 (by omega)
    simpa using this
   subst hl0 hx0
   simp [Instr.fill] at hfill
   subst hfill
   simp [Instr.buildSlice,run_underlying hu,sizeOf,typeInfo,hie,newRow,Instr.fill,Array.range_zero']
  ·rw [if_neg h0] at hfill
   exact run_buildSlice w t e len _ r ie z hu hie hz (by omega) h0 hfill
 ·have hil:=z7 hi
  have hmul:(i+1)*ie.size<=len*ie.size:=y16 _ (by omega)
  rw [y29] at hmul
  have:=r3 (i*ie.size+j)
  rw [if_pos (by simp only [y23,hlen,y41,Nat.zero_mul];omega)] at this
  have e1:(i*ie.size+j) / ie.size=i:=by
   rw [Nat.mul_comm,Nat.mul_add_div hpos,Nat.div_eq_of_lt hj];rfl
  have e2:(i*ie.size+j) % ie.size=j:=by
   rw [Nat.mul_comm,Nat.mul_add_mod,Nat.mod_eq_of_lt hj]
  rw [e1,e2] at this
  rw [y15,this]
  simp only [Nat.sub_zero,y40,hi,y37,y4]
  rw [y15]
theorem go_bsl (hr:HR I ρ w H) (hf:FR I ρ w.cell? fr a.tmps) {sz len how:Nat} {ms:List MArg} {o:Oper} {t:TypeId} {xs:Array (Nat×Operand)} (ho:o.op= .buildSlice t len xs) (ht:okSl P t sz=true) (hq:okSeq ms len xs.toList=true) (hsmall:len*sz<=16777216) (hpsl:how=0\/how=1\/sz=1):Go P T O I ρ a w fr H (.bsl sz ms how) o:=by
 intro v H' h
 simp only [okSeq,y5,decide_eq_true_eq] at hq
 obtain ⟨hp,hargs⟩:=hq
 obtain ⟨hl,hv⟩:=zc1 hargs hf
 have hlen:xs.toList.length=len:=by have:=congrArg List.length hp;simpa using this
 have hvl:(MArgs.vals fr ms).length=len:=by simp only [MArgs.vals,y23];rw [<- hl];simpa using hlen
 have hpos:=(zbd ht).1
 have hexec:execOp a.eval o=(do pure (.value (<- Instr.buildSlice t len (xs.map fun (i,x)=>(i,a.eval x))))):=by simp [execOp,ho]
 have hval: ∀(i:Nat) (p:Nat×Operand),xs.toList[i]? =some p->((xs.toList.map (·.2)).map a.eval).getD i undef=a.eval p.2:=fun i p hi=>by
  simp [y14,hi] at*
 -- elements that are shared
 have elements: ∀(I1:Addr->Prop) (ds:List V),ds.length=len->(∀(i:Nat) (d:V),ds[i]? =some d->deepV d/\ ∀ρ',VR I1 ρ' w.cell? d (((xs.toList.map (·.2)).map a.eval).getD i undef))->sizes sz ds=true->
   ∃arr e,(Instr.buildSlice t len (xs.map fun (i,x)=>(i,a.eval x))).run P w= .ok (.slice (some ⟨w.heap.size,0,none⟩) len len) (w.alloc (.cells arr e))/\arr.size=len*sz/\
    (∀(i:Nat) (d:V),ds[i]? =some d->(leaves d).length=sz/\ ∀(j:Nat) (lf:V),(leaves d)[j]? =some lf->deep1 lf=true/\ ∀ρ',VR I1 ρ' w.cell? lf (arr.getD (i*sz+j) undef)):=by
  intro I1 ds hdl hds hsz
  have hget:=zbl hsz
  have hel: ∀(i:Nat) (d:V) (p:Nat×Operand),ds[i]? =some d->xs.toList[i]? =some p->(a.eval p.2).cells.size=sz/\ ∀(j:Nat) (lf:V),(leaves d)[j]? =some lf->deep1 lf=true/\ ∀ρ',VR I1 ρ' w.cell? lf ((a.eval p.2).cells.getD j undef):=fun i d p hi hpi=>by
   obtain ⟨h1,h2⟩:=hds i d hi
   have hg:goods (leaves d)=true:=zj fun j lf hj=>zk (h1 j lf hj)
   have h2': ∀ρ',VR I1 ρ' w.cell? d (a.eval p.2):=fun ρ'=>by rw [<- hval i p hpi];exact h2 ρ'
   obtain ⟨c1,c2⟩:=zd0 (h2' []) hg
   exact ⟨by rw [c1];exact hget i d hi,fun j lf hj=>⟨h1 j lf hj,fun ρ'=>(zd0 (h2' ρ') hg).2 j lf hj⟩⟩
  have hsall: ∀p∈xs.toList,(a.eval p.2).cells.size=sz:=fun p hpm=>by
   obtain ⟨i,hi⟩:=List.mem_iff_getElem?.1 hpm
   have hlt:i<ds.length:=by have:=z7 hi;omega
   exact (hel i _ p (y6 hlt) hi).1
  obtain ⟨arr,e,r1,r2,r3⟩:=zef (P:=P) (w:=w) (a:=a) ht hp hsall hsmall
  refine ⟨arr,e,r1,r2,fun i d hi=>⟨hget i d hi,fun j lf hj=>?_⟩⟩
  have hlt:i<xs.toList.length:=by have:=z7 hi;omega
  have hpi:=y6 hlt
  rw [r3 i j _ hpi (by rw [<- hget i d hi];exact z7 hj)]
  exact (hel i d _ hi hpi).2 j lf hj
 have hbound:len<=9223372036854775807:=by
  have:=Nat.le_mul_of_pos_right len hpos;omega
 rcases y28 1 how with h2 | h2
 ·-- values that lead to the call's own
  have hone:sz=1:=by omega
  subst hone
  obtain ⟨k,rfl⟩: ∃k,how=k+2:=⟨how - 2,by omega⟩
  simp only [ev] at h
  split at h
  ·rename_i hg
   simp only [y1,y7] at h
   obtain ⟨rfl,rfl⟩:=h
   have hcell1: ∀(i:Nat) (u:V) (p:Nat×Operand),(MArgs.vals fr ms)[i]? =some u->xs.toList[i]? =some p->(a.eval p.2).cells= #[a.eval p.2]/\VR I ρ w.cell? u (a.eval p.2):=fun i u p hi hpi=>by
    have h1:=hv i u hi
    rw [hval i p hpi] at h1
    have h3:=h1.oneCell (zi hg hi)
    refine ⟨?_,h1⟩
    generalize a.eval p.2=q at h3
    cases q<;>first | rfl | cases h3
   have hsall: ∀p∈xs.toList,(a.eval p.2).cells.size=1:=fun p hpm=>by
    obtain ⟨i,hi⟩:=List.mem_iff_getElem?.1 hpm
    have hlt:i<(MArgs.vals fr ms).length:=by have:=z7 hi;omega
    rw [(hcell1 i _ p (y6 hlt) hi).1];rfl
   obtain ⟨arr,e,r1,r2,r3⟩:=zef (P:=P) (w:=w) (a:=a) ht hp hsall hsmall
   obtain ⟨f1,f2⟩:=hr.fresh (I':=fun b=>I b\/(b.spot=none/\b.block=w.heap.size/\b.off<arr.size)) (arr:=arr) (e:=e) (fun _ h=> .inl h) (fun _ h=>h)
   refine Does.value hexec r1 ⟨_,ρ,?_,f1,f2⟩
   have hlt': ∀(i:Nat) (u:V),(MArgs.vals fr ms)[i]? =some u->i<arr.size:=fun i u hi=>by have:=z7 hi;omega
   have:=VR.psl (I:=fun b=>I b\/(b.spot=none/\b.block=w.heap.size/\b.off<arr.size)) (ρ:=ρ) (c:=(w.alloc (.cells arr e)).cell?) (MArgs.vals fr ms) ⟨w.heap.size,0,none⟩ len (fun i=>arr.getD i undef) (by omega) hg (fun i u hi=>by
    rw [add_mk,y41]
    exact ⟨.inr ⟨rfl,rfl,hlt' i u hi⟩,(zbs w arr e).cell i (hlt' i u hi)⟩) (fun i u hi=>by
    have hlt:i<xs.toList.length:=by have:=z7 hi;omega
    have hpi:=y6 hlt
    obtain ⟨c1,c2⟩:=hcell1 i u _ hi hpi
    have:=r3 i 0 _ hpi (by omega)
    rw [Nat.mul_one,Nat.add_zero,c1] at this
    rw [this]
    exact c2.next f2 hr.len.symm)
   rw [hvl] at this
   exact this
  ·cases h
 ·rcases y28 0 how with h3 | h3
  ·-- a row of its own
   obtain rfl:how=1:=by omega
   simp only [ev] at h
   cases hs:shareE H (MArgs.vals fr ms) with
   | none=>simp [hs] at h
   | some p=>
    obtain ⟨ds,H1⟩:=p
    simp only [hs,y4] at h
    split at h
    ·rename_i hsz
     simp only [y1,y7] at h
     obtain ⟨rfl,rfl⟩:=h
     obtain ⟨I1,sh,hdl,hds⟩:=zcf _ hr hv hs
     obtain ⟨arr,e,r1,r2,r3⟩:=elements I1 ds (by rw [hdl,hvl]) hds hsz
     have hdlen:ds.length=len:=by rw [hdl,hvl]
     have hcell: ∀b,I1 b->(w.alloc (.cells arr e)).cell? b=w.cell? b:=fun b hb=>World.cell?_alloc_lt w _ b (zbq (sh.hr.cells b hb))
     have hrow:RowAt I1 (w.alloc (.cells arr e)) w.heap.size len sz ds true:=by
      refine ⟨arr,zbs w arr e,r2,by omega,fun i d hi=>(r3 i d hi).1,fun i j d lf hi hj=>?_,fun b hb e'=>absurd e' (Nat.ne_of_lt (zbq (sh.hr.cells b hb)))⟩
      obtain ⟨h1,h2⟩:=(r3 i d hi).2 j lf hj
      exact ⟨h1,(h2 []).mono (fun _ h=>h) hcell (y13 _) (fun _ h=>by simp at h)⟩
     refine Does.value hexec r1 ⟨I1,ρ++[some (.row w.heap.size len sz 0 ds.length)],?_,(sh.hr.alloc _).push (.inr ⟨rfl,_,len,rfl,hrow⟩) (fun B hB hl=>?_),(sh.nxt hr).trans (Nxt.push _ (fun B hB=>?_) (Grow.alloc sh.hr _ _) (by rw [hr.len];exact y13 _)) (by rw [hr.len];exact y13 _)⟩
     ·rw [hdlen]
      refine .vw _ _ _ _ _ _ (by simp [sh.hr.len]) ⟨_,_,rfl⟩ fun inf hinf=>?_
      rw [<- sh.hr.len] at hinf
      simp only [y25,y1] at hinf;subst hinf
      exact ⟨y13 _,fun _=>⟨by omega,fun _=>by omega,_,len,rfl,by omega,fun _=>by omega,fun _=>by simp⟩⟩
     ·simp only [Has,Inf.has] at hB;have:=sh.hr.live_lt hl;omega
     ·simp only [Has,Inf.has] at hB;omega
    ·cases h
  ·obtain rfl:how=0:=by omega
   simp only [ev] at h
   cases hs:shareE H (MArgs.vals fr ms) with
   | none=>simp [hs] at h
   | some p=>
    obtain ⟨ds,H1⟩:=p
    simp only [hs,y4] at h
    split at h
    ·rename_i hsz
     simp only [y1,y7] at h
     obtain ⟨rfl,rfl⟩:=h
     obtain ⟨I1,sh,hdl,hds⟩:=zcf _ hr hv hs
     have hdlen:ds.length=len:=by rw [hdl,hvl]
     obtain ⟨arr,e,r1,r2,r3⟩:=elements I1 ds hdlen hds hsz
     obtain ⟨f1,f2⟩:=sh.hr.fresh (I':=fun b=>I1 b\/(b.spot=none/\b.block=w.heap.size/\b.off<arr.size)) (arr:=arr) (e:=e) (fun _ h=> .inl h) (fun _ h=>h)
     refine Does.value hexec r1 ⟨_,ρ,?_,f1,(sh.nxt hr).trans (by rw [<- sh.len];exact f2) (by rw [hr.len];exact y13 _)⟩
     have hlt: ∀(i j:Nat) (d lf:V),ds[i]? =some d->(leaves d)[j]? =some lf->i*sz+j<arr.size:=fun i j d lf hi hj=>by
      have h1:=z7 hi
      have h2:=z7 hj
      rw [(r3 i d hi).1] at h2
      have:=y16 sz (show i+1<=len by omega)
      rw [y29] at this;omega
     have:=VR.sl (I:=fun b=>I1 b\/(b.spot=none/\b.block=w.heap.size/\b.off<arr.size)) (ρ:=ρ) (c:=(w.alloc (.cells arr e)).cell?) false ds (some ⟨w.heap.size,0,none⟩) len sz (fun i j=>arr.getD (i*sz+j) undef) (by omega) rfl (fun e=>by cases e) (fun i d hi=>(r3 i d hi).1) (fun i j d lf hi hj=>((r3 i d hi).2 j lf hj).1) (fun ad i j d lf hi1 hi hj=>by
      simp only [y1] at hi1;subst hi1
      rw [add_mk,y41]
      exact ⟨.inr ⟨rfl,rfl,hlt i j d lf hi hj⟩,(zbs w arr e).cell _ (hlt i j d lf hi hj)⟩) (fun i j d lf hi hj=>(((r3 i d hi).2 j lf hj).2 ρ).next f2 (by rw [sh.hr.len]))
     rw [hdlen] at this
     exact this
    ·cases h
theorem go_msl (hr:HR I ρ w H) (hf:FR I ρ w.cell? fr a.tmps) {sz:Nat} {zero:V} {ml:MArg} {o:Oper} {t e:TypeId} {x x2:Operand} (ho:o.op= .makeSlice t x x2) (hu:P.underlying t=some (.slice e)) (ht:okSl P t sz=true) (hz:okZ P e (leaves zero)=true) (hd:(leaves zero).all deep1=true) (h2:okArg ml x=true) (h3:okArg ml x2=true):Go P T O I ρ a w fr H (.msl sz zero ml) o:=by
 intro v H' h
 simp only [ev] at h
 split at h
 ·rename_i k n hn
  split at h
  ·rename_i h0
   split at h
   ·rename_i hm
    simp only [y1,y7] at h
    obtain ⟨rfl,rfl⟩:=h
    have hx:=arg_vr h2 hf
    rw [hn] at hx
    obtain ⟨e1,_⟩:=hx.of_int
    have hx2:=arg_vr h3 hf
    rw [hn] at hx2
    obtain ⟨e1',_⟩:=hx2.of_int
    have hmost:most=4294967296:=rfl
    obtain ⟨hpos,e',i,z,hu',hi,hs,hb,hzz,hzs⟩:=zbd ht
    rw [hu] at hu';cases hu'
    obtain ⟨i',z',hi',hz',z1,z2,z3⟩:=zd9 hz
    rw [hi] at hi';cases hi'
    rw [hzz] at hz';cases hz'
    subst hs
    have hbytes:(i.bytes:Int)*n<=281474976710656:=by
     have h3:(i.bytes:Int)*n<=4096*4294967296:=by
      have h4:(i.bytes:Int)*n<=4096*n:=Int.mul_le_mul_of_nonneg_right (by omega) h0
      have h5:(4096:Int)*n<=4096*4294967296:=by omega
      omega
     omega
    have hrun:=run_make w t e i z hu hi hzz k k n n h0 (Int.le_refl _) hbytes (by omega)
    have hzl:z.cells.size=i.size:=hzs
    have hrow:RowAt I (w.alloc (.cells (madeCells z.cells (n.toNat*i.size)) e)) w.heap.size n.toNat i.size (List.replicate n.toNat zero) true:=by
     refine ⟨_,zbs w _ e,size_madeCells _ _,by simp;omega,fun q el hq=>?_,fun q j el lf hq hj=>?_,fun b hb e'=>absurd e' (Nat.ne_of_lt (zbq (hr.cells b hb)))⟩
     ·rw [List.getElem?_replicate] at hq
      split at hq
      ·simp only [y1] at hq;subst hq;rw [<- z1,hzl]
      ·cases hq
     ·rw [List.getElem?_replicate] at hq
      split at hq
      ·rename_i hqn
       simp only [y1] at hq;subst hq
       have hjl:=z7 hj
       rw [<- z1,hzl] at hjl
       have hlt:q*i.size+j<n.toNat*i.size:=by
        have:=y16 i.size (show q+1<=n.toNat by omega)
        rw [y29] at this;omega
       have e2:(q*i.size+j) % i.size=j:=by rw [Nat.mul_comm,Nat.mul_add_mod,Nat.mod_eq_of_lt hjl]
       have e3:(madeCells z.cells (n.toNat*i.size)).getD (q*i.size+j) undef=z.cells.getD j undef:=by
        simp [madeCells,hlt,hzl,e2,hjl]
       rw [e3]
       refine ⟨?_,z3 _ _ _ _ _ hj⟩
       rw [y51] at hd
       exact hd lf (y52 hj)
      ·cases hq
    refine Does.value (s:=Instr.makeSlice t (a.eval x) (a.eval x2)) (by simp [execOp,ho]) (by rw [e1,e1'];exact hrun) ⟨I,ρ++[some (.row w.heap.size n.toNat i.size 0 (List.replicate n.toNat zero).length)],?_,(hr.alloc _).push (.inr ⟨rfl,_,n.toNat,rfl,hrow⟩) (fun B hB hl=>?_),Nxt.push _ (fun B hB=>?_) (Grow.alloc hr _ _) (by rw [hr.len];exact y13 _)⟩
    ·refine .vw _ _ _ _ _ _ (by simp [hr.len]) ⟨_,_,rfl⟩ fun inf hinf=>?_
     rw [<- hr.len] at hinf
     simp only [y25,y1] at hinf;subst hinf
     exact ⟨y13 _,fun _=>⟨by simp,fun _=>by simp,_,n.toNat,rfl,by omega,fun _=>by omega,fun _=>by simp⟩⟩
    ·simp only [Has,Inf.has] at hB;have:=hr.live_lt hl;omega
    ·simp only [Has,Inf.has] at hB;omega
   ·cases h
  ·cases h
 ·cases h
theorem go_app (hr:HR I ρ w H) (hf:FR I ρ w.cell? fr a.tmps) {sz:Nat} {ma mb:MArg} {o:Oper} {t t2:TypeId} {x y:Operand} (ho:o.op= .call ⟨.builtin .append,#[x,y],#[t,t2]⟩) (ht:okSl P t sz=true) (ht2:isSl P t2=true) (h2:okArg ma x=true) (h3:okArg mb y=true):Go P T O I ρ a w fr H (.app ma mb sz) o:=by
 intro v H' h
 simp only [ev] at h
 cases hel:elems H (mb.val fr) with
 | none=>simp [hel] at h
 | some ys=>
  simp only [hel,y4] at h
  split at h
  ·rename_i hsz
   have hrd:=zbh hr (arg_vr h3 hf) hel sz (zbl hsz)
   obtain ⟨u,w',r1,r2⟩:=zca (P:=P) (ty:=o.type) hr ht (zd2 ht2) (arg_vr h2 hf) hrd h
   exact Does.value (zd8 o ho) r1 r2
  ·cases h
end
section
variable {I:Addr->Prop} {ρ:Infs} {P:Program} {w:World} {H:Hp} {a:Act} {fr:Fr} {T:Nat->Option MFun} {O:Orc}
theorem zeg (o:Oper) {x:Operand} {ts:Array TypeId} (ho:o.op= .call ⟨.builtin .cap,#[x],ts⟩):execOp a.eval o=(do pure (.value (<- Builtin.cap_ ts o.type #[a.eval x]))):=by
 simp [execOp,ho,resolve,invoke,builtin]
theorem go_cap (hr:HR I ρ w H) (hf:FR I ρ w.cell? fr a.tmps) {ma:MArg} {o:Oper} {t:TypeId} {x:Operand} (ho:o.op= .call ⟨.builtin .cap,#[x],#[t]⟩) (ht:isSl P t=true) (h2:okArg ma x=true):Go P T O I ρ a w fr H (.cap ma) o:=by
 intro v H' h
 have hx:=arg_vr h2 hf
 obtain ⟨e,he⟩:=zd2 ht
 have key: ∀n,a.eval x= .slice none n 0->Does P o a w (Step I ρ w H (.int .i64 0) H):=fun n hu=>by
  refine Does.value (zeg o ho) (u:= .int .i64 0) (w':=w) ?_ (Step.same hr (.int _ _ (zd4 (n:=0) (by omega))))
  rw [hu]
  simp [Builtin.cap_,run_underlying he,goInt]
 simp only [ev] at h
 split at h
 ·rename_i hp
  simp only [y1,y7] at h
  obtain ⟨rfl,rfl⟩:=h
  rw [hp] at hx
  generalize hu:a.eval x=u at hx key
  cases hx with
  | sl z xs ad cp s vals hc hz hn hs hd hcell hv=>
   cases ad with
   | none=>have:=hn rfl;subst this;exact key _ rfl
   | some q=>cases hz
 ·rename_i id ver off len md hp
  cases hrow:row? H id ver with
  | none=>simp [hrow] at h
  | some r=>
   simp only [hrow,y4] at h
   split at h
   ·rename_i hz
    simp only [y1,y7] at h
    obtain ⟨rfl,rfl⟩:=h
    rw [hp] at hx
    generalize hu:a.eval x=u at hx key
    cases hx with
    | vw id ver off len md x hi ho h=>
     rcases hr.row hrow with ⟨h1,h2,h3⟩ | ⟨h1,B,K,h2,h3⟩
     ·exact key _ ((h _ h3).2 rfl).1
     ·rw [hz] at h1;cases h1
   ·cases h
 ·cases h
end
section
variable {I:Addr->Prop} {ρ:Infs} {P:Program} {w:World} {H:Hp}
theorem zeh {t t2 ty:TypeId} {sz:Nat} (ht:okSl P t sz=true) {k2 k:IntKind} (h2:P.underlying t2=some (.int k2)):
  (Builtin.append_ #[t,t2] ty #[.slice none 0 0, .int k 0]).run P w= .ok (.slice none 0 0) w:=by
 obtain ⟨e,i,hu,hi,hs,hb⟩:=zbc ht
 have w0:IntKind.i64.wrap 0=0:=by rw [IntKind.wrap_i64];omega
 simp [Builtin.append_,run_underlying hu,run_underlying h2,sizeOf,typeInfo,hi,hs,asInt,asIntOf,w0]
theorem zei {t t2 ty:TypeId} {sz:Nat} (ht:okSl P t sz=true) {k2 k:IntKind} (h2:P.underlying t2=some (.int k2)) {n:Int} (h0:0<n) (hmost:n.toNat<=most):
  ∃(K:Nat) (e:TypeId) (i:TypeInfo) (z:Value) (rest:Array Value),P.underlying t=some (.slice e)/\P.info? e=some i/\i.zero=some z/\(n.toNat<=K/\K<=9223372036854775807)/\rest.size=(K - n.toNat)*sz/\
   (Builtin.append_ #[t,t2] ty #[.slice none 0 0, .int k n]).run P w= .ok (.slice (some ⟨w.heap.size,0,none⟩) n.toNat K) (w.drew.alloc (.cells (Builtin.zeroCells z.cells n.toNat++rest) e)):=by
 obtain ⟨hsz,e,i,z,hu,hi,hs,hb,hz,hzs⟩:=zbd ht
 have hm:most=4294967296:=rfl
 have wn:IntKind.i64.wrap n=n:=by rw [IntKind.wrap_i64];omega
 have hbytes: ¬(281474976710656<n*(i.bytes:Int)):=by
  have h4:n*(i.bytes:Int)<=n*4096:=Int.mul_le_mul_of_nonneg_left (by omega) (by omega)
  omega
 have hnx:=zb3 n.toNat 0 (by omega)
 have hbig: ¬(281474976710656<Builtin.nextslicecap n.toNat 0*i.bytes):=by
  have:Builtin.nextslicecap n.toNat 0*i.bytes<=(2*most)*4096:=Nat.mul_le_mul (by omega) hb
  unfold most at this
  omega
 have hneg: ¬n<0:=by omega
 have hn0: ¬n.toNat=0:=by omega
 have hs0: ¬sz=0:=by omega
 have hi64: ¬((9223372036854775807:Int)<n):=by omega
 have hle: ¬n<=0:=by omega
 have hmax: ¬((9223372036854775807:Int)<max n 0):=by omega
 have hns: ¬n.toNat*sz=0:=by
  have:=Nat.mul_pos (show 0<n.toNat by omega) hsz
  omega
 refine ⟨Question.cut (.appendCap n.toNat 0 e) (w.tape w.drawn (.appendCap n.toNat 0 e)),e,i,z,Builtin.zeroCells z.cells (Question.cut (.appendCap n.toNat 0 e) (w.tape w.drawn (.appendCap n.toNat 0 e)) - n.toNat),hu,hi,hz,⟨by simp [Question.cut],?_⟩,by simp [Builtin.zeroCells,hzs],?_⟩
 ·have h1:n.toNat<=maxLen:=by unfold maxLen;omega
  have h2:=grownCap_le_maxLen w n.toNat 0 e h1
  unfold grownCap maxLen at h2;omega
 have hq:(Question.appendCap n.toNat 0 e).forced=false:=rfl
 simp [Builtin.append_,run_underlying hu,run_underlying h2,sizeOf,typeInfo,hi,hs,asInt,asIntOf,wn,hbytes,hbig,hneg,hn0,hs0,hi64,hq,hle,hmax,hns,zeroValue,hz,newRow,Builtin.firstCells]
theorem zej {a:Act} {fr:Fr} {T:Nat->Option MFun} {O:Orc} (hr:HR I ρ w H) (hf:FR I ρ w.cell? fr a.tmps) {sz:Nat} {zero:V} {ma mb:MArg} {o:Oper} {t t2 e:TypeId} {k2:IntKind} {x y:Operand} (ho:o.op= .call ⟨.builtin .append,#[x,y],#[t,t2]⟩) (hu:P.underlying t=some (.slice e)) (ht:okSl P t sz=true) (ht2:P.underlying t2=some (.int k2)) (hz:okZ P e (leaves zero)=true) (hd:(leaves zero).all deep1=true) (h2:okArg ma x=true) (h3:okArg mb y=true):Go P T O I ρ a w fr H (.appz ma mb sz zero) o:=by
 intro v H' h
 have hx:=arg_vr h2 hf
 have hy:=arg_vr h3 hf
 simp only [ev] at h
 split at h
 ·rename_i k n hn
  split at h
  ·rename_i hxe
   split at h
   ·rename_i h0
    split at h
    ·rename_i hm
     simp only [y1,y7] at h
     obtain ⟨rfl,rfl⟩:=h
     rw [hn] at hy
     rw [hxe] at hx
     obtain ⟨ey,_⟩:=hy.of_int
     have ex:a.eval x= .slice none 0 0:=by
      generalize a.eval x=u at hx
      cases hx with
      | sl z xs ad cp s vals hc hz hn hs hd hcell hv=>
       cases ad with
       | none=>have:=hn rfl;subst this;rfl
       | some q=>cases hz
     have hmost:most=4294967296:=rfl
     obtain ⟨hpos,e',i,z,hu',hi,hs,hb,hzz,hzs⟩:=zbd ht
     rw [hu] at hu';cases hu'
     obtain ⟨i',z',hi',hz',z1,z2,z3⟩:=zd9 hz
     rw [hi] at hi';cases hi'
     rw [hzz] at hz';cases hz'
     by_cases hn0:n=0
     ·subst hn0
      refine Does.value (zd8 o ho) (by rw [ex,ey];exact zeh ht ht2) ⟨I,ρ++[some (.nrow sz 0)], .vw _ _ _ _ _ _ (by simp [hr.len]) ⟨_,_,rfl⟩ fun inf hinf=>?_,hr.push (.inl ⟨rfl,rfl,rfl⟩) (fun B hB=>by cases hB),Nxt.push _ (fun B hB=>by cases hB) (Grow.refl _ _ _) (by rw [hr.len];exact y13 _)⟩
      rw [<- hr.len] at hinf
      simp only [y25,y1] at hinf;subst hinf
      exact ⟨y13 _,fun _=>⟨rfl,rfl,rfl⟩⟩
     ·obtain ⟨K,e2,i2,zz,rest,q1,q2,q3,hK,hrest,hrun⟩:=zei (w:=w) (ty:=o.type) (k:=k) ht ht2 (by omega) hm
      rw [hu] at q1;cases q1
      rw [hi] at q2;cases q2
      rw [hzz] at q3;cases q3
      have hzc:(Builtin.zeroCells z.cells n.toNat).size=n.toNat*sz:=by simp [Builtin.zeroCells,hzs]
      have hrow:RowAt I (w.drew.alloc (.cells (Builtin.zeroCells z.cells n.toNat++rest) e)) w.heap.size K sz (List.replicate n.toNat zero) true:=by
       refine ⟨_,zbs w.drew _ e,?_,by simp;omega,fun q el hq=>?_,fun q j el lf hq hj=>?_,fun b hb e'=>absurd e' (Nat.ne_of_lt (zbq (hr.cells b hb)))⟩
       ·rw [Array.size_append,hzc,hrest,<- y29];congr 1;omega
       ·rw [List.getElem?_replicate] at hq
        split at hq
        ·simp only [y1] at hq;subst hq;rw [<- z1,hzs]
        ·cases hq
       ·rw [List.getElem?_replicate] at hq
        split at hq
        ·rename_i hqn
         simp only [y1] at hq;subst hq
         have hjl:=z7 hj
         rw [<- z1,hzs] at hjl
         have hlt:q*sz+j<n.toNat*sz:=by
          have:=y16 sz (show q+1<=n.toNat by omega)
          rw [y29] at this;omega
         have e2:(q*sz+j) % sz=j:=by rw [Nat.mul_comm,Nat.mul_add_mod,Nat.mod_eq_of_lt hjl]
         have e3:(Builtin.zeroCells z.cells n.toNat++rest).getD (q*sz+j) undef=z.cells.getD j undef:=by
          rw [y15,Array.getElem?_append_left (by rw [hzc];exact hlt)]
          simp [Builtin.zeroCells,hzs,hlt,e2,hjl]
         rw [e3]
         refine ⟨?_,z3 _ _ _ _ _ hj⟩
         rw [y51] at hd
         exact hd lf (y52 hj)
        ·cases hq
      have hdec:decide (n=0)=false:=by simpa using hn0
      rw [hdec]
      refine Does.value (zd8 o ho) (by rw [ex,ey];exact hrun) ⟨I,ρ++[some (.row w.heap.size K sz 0 (List.replicate n.toNat zero).length)],?_,(hr.drew.alloc _).push (.inr ⟨rfl,_,K,rfl,hrow⟩) (fun B hB hl=>?_),Nxt.push _ (fun B hB=>?_) ((Grow.alloc hr.drew _ _).of_drew) (by rw [hr.len];exact y13 _)⟩
      ·refine .vw _ _ _ _ _ _ (by simp [hr.len]) ⟨_,_,rfl⟩ fun inf hinf=>?_
       rw [<- hr.len] at hinf
       simp only [y25,y1] at hinf;subst hinf
       exact ⟨y13 _,fun _=>⟨by simp,fun _=>by simp,_,K,rfl,by omega,fun _=>by omega,fun _=>by simp⟩⟩
      ·simp only [Has,Inf.has] at hB;have:=hr.live_lt hl;omega
      ·simp only [Has,Inf.has] at hB;omega
    ·cases h
   ·cases h
  ·cases h
 ·cases h
end
section
variable {I:Addr->Prop} {ρ:Infs} {P:Program} {w:World} {H:Hp}
theorem zek {a:Act} (o:Oper) {x:Operand} {ts:Array TypeId} (ho:o.op= .call ⟨.builtin .clear,#[x],ts⟩):execOp a.eval o=(do pure (.value (<- Builtin.clear_ ts o.type #[a.eval x]))):=by
 simp [execOp,ho,resolve,invoke,builtin]
theorem go_clr {a:Act} {fr:Fr} {T:Nat->Option MFun} {O:Orc} (hr:HR I ρ w H) (hf:FR I ρ w.cell? fr a.tmps) {zero:V} {ma:MArg} {o:Oper} {t e:TypeId} {x:Operand} (ho:o.op= .call ⟨.builtin .clear,#[x],#[t]⟩) (hu:P.underlying t=some (.slice e)) (ht:okSl P t (leaves zero).length=true) (hz:okZ P e (leaves zero)=true) (hd:(leaves zero).all deep1=true) (h2:okArg ma x=true):Go P T O I ρ a w fr H (.clr ma zero) o:=by
 intro v H' h
 have hx:=arg_vr h2 hf
 simp only [ev] at h
 split at h
 ·rename_i id ver off len md hp0
  cases hrow:row? H id ver with
  | none=>simp [hrow] at h
  | some r=>
   simp only [hrow,y4] at h
   obtain ⟨zb,sz,xs,xb⟩:=r
   have hH:=z6 hrow
   simp only at h hH
   split at h
   ·rename_i hc0
    obtain ⟨rfl,hs⟩:=hc0
    subst hs
    simp only [y1,y7] at h
    obtain ⟨rfl,rfl⟩:=h
    rw [hp0] at hx
    have hexec:=zek (a:=a) o ho
    generalize a.eval x=u at hx hexec
    have hil:id<ρ.length:=by cases hx with | vw _ _ _ _ _ _ hi ho hp=>exact hi
    obtain ⟨a0,c0,hu0⟩: ∃ad cp,u= .slice ad len cp:=by cases hx with | vw _ _ _ _ _ _ hi ho hp=>exact ho
    obtain ⟨hpos,e',i,z,hu',hi,hs,hb,hzz,hzs⟩:=zbd ht
    rw [hu] at hu';cases hu'
    obtain ⟨i',z',hi',hz',z1,z2,z3⟩:=zd9 hz
    rw [hi] at hi';cases hi'
    rw [hzz] at hz';cases hz'
    by_cases hl0:len=0
    ·subst hl0
     subst hu0
     have hrun:(Builtin.clear_ #[t] o.type #[.slice a0 0 c0]).run P w= .ok (.tuple #[]) w:=by
      cases a0<;>simp [Builtin.clear_,run_underlying hu]
     have hH':H.set id (.row ver zb (leaves zero).length (xs.take off++List.replicate 0 zero++xs.drop (off+0)) true)=H:=by
      have:xs.take off++List.replicate 0 zero++xs.drop (off+0)=xs:=by simp
      rw [this]
      apply List.ext_getElem?
      intro k
      rw [List.getElem?_set]
      split
      ·rename_i hk;subst hk;rw [if_pos (z7 hH)];exact hH.symm
      ·rfl
     rw [hH']
     exact Does.value hexec hrun (Step.same hr (.tup [] #[] rfl (fun i v h=>by simp at h)))
    ·cases hx with
     | vw _ _ _ _ _ _ hi1 ho1 hp=>
     rcases hr.row hrow with ⟨h1,h2',h3⟩ | ⟨h1,B,K,h3,h4⟩
     ·simp only at h1 h2' h3;subst h1;subst h2'
      obtain ⟨_,ho1,hlen⟩:=(hp _ h3).2 rfl
      omega
     ·simp only at h1 h3 h4;subst h1
      obtain ⟨e1,e2,ad0,cp0,e6,e3,e4,e5⟩:=(hp _ h3).2 rfl
      subst e6
      obtain ⟨arr,hc,hsize,hK,hl,hv,hI⟩:=h4
      have hzc:(Builtin.zeroCells z.cells len).size=len*(leaves zero).length:=by simp [Builtin.zeroCells,hzs]
      have hzl:(Builtin.zeroCells z.cells len).toList.length=len*(leaves zero).length:=by rw [y43];exact hzc
      have hoff:off+len<=xs.length:=by omega
      have hfit:off*(leaves zero).length+(Builtin.zeroCells z.cells len).toList.length<=K*(leaves zero).length:=by
       rw [hzl,<- y29]
       exact y16 _ (by omega)
      have hget: ∀k,k<len*(leaves zero).length->(Builtin.zeroCells z.cells len).toList.getD k undef=z.cells.getD (k % (leaves zero).length) undef:=by
       intro k hk
       rw [y14,y49]
       have:k % (leaves zero).length<(leaves zero).length:=Nat.mod_lt _ hpos
       simp [Builtin.zeroCells,hzs,hk,this]
      have hone: ∀v∈(Builtin.zeroCells z.cells len).toList,v.oneCell'=true:=by
       intro v hv'
       obtain ⟨k,hk,rfl⟩:=List.mem_iff_getElem.1 hv'
       have hk':k<len*(leaves zero).length:=by rw [<- hzc];simpa using hk
       have hm:k % (leaves zero).length<(leaves zero).length:=Nat.mod_lt _ hpos
       have g:=hget k hk'
       rw [y14,y6 hk,y44] at g
       rw [g]
       exact (z3 I ρ w.cell? _ _ (y6 hm)).oneCell (zi z2 (y6 hm))
      have hst:(storeCells ad0 (Builtin.zeroCells z.cells len).toList).run P w= .ok () (w.setRow B (arrPut arr (off*(leaves zero).length) (Builtin.zeroCells z.cells len).toList)):=by
       rw [e5 (by omega)]
       exact zb5 hc (by omega) hone
      have hrun:(Builtin.clear_ #[t] o.type #[.slice (some ad0) len cp0]).run P w= .ok (.tuple #[]) (w.setRow B (arrPut arr (off*(leaves zero).length) (Builtin.zeroCells z.cells len).toList)):=by
       cases len with
       | zero=>omega
       | succ n=>simp [Builtin.clear_,run_underlying hu,zeroValue,typeInfo,hi,hzz,hst]
      have hlen':(xs.take off++List.replicate len zero++xs.drop (off+len)).length=xs.length:=by simp;omega
      have hwr:=zbz hr hH h3 hc hsize hI hfit (.inl rfl) (xs':=xs.take off++List.replicate len zero++xs.drop (off+len)) (ver':=ver) (.inl ⟨rfl,hlen'⟩) (by omega) (by omega) (fun i e hi=>by
       have hto:(xs.take off).length=off:=by simp;omega
       have keep:xs[i]? =some e->(i<off\/off+len<=i)->(leaves e).length=(leaves zero).length/\ ∀(j:Nat) (lf:V),(leaves e)[j]? =some lf->deep1 lf=true/\VR I [] w.cell? lf (if off*(leaves zero).length<=i*(leaves zero).length+j/\i*(leaves zero).length+j<off*(leaves zero).length+(Builtin.zeroCells z.cells len).toList.length then (Builtin.zeroCells z.cells len).toList.getD (i*(leaves zero).length+j - off*(leaves zero).length) undef else arr.getD (i*(leaves zero).length+j) undef):=fun hi hside=>by
        refine ⟨hl i e hi,fun j lf hj=>?_⟩
        have hjl:j<(leaves zero).length:=by rw [<- hl i e hi];exact z7 hj
        rw [if_neg (by
         rw [hzl,<- y29]
         rcases hside with h | h
         ·have:(i+1)*(leaves zero).length<=off*(leaves zero).length:=y16 _ (by omega)
          rw [y29] at this;omega
         ·have:(off+len)*(leaves zero).length<=i*(leaves zero).length:=y16 _ (by omega)
          omega)]
        exact hv i j e lf hi hj
       rw [y31] at hi
       rcases y28 i off with h | h
       ·rw [y10 (by omega),y46,if_pos h] at hi
        exact keep hi (.inl h)
       ·rw [y18 (by omega),hto] at hi
        rcases y28 (i - off) len with h' | h'
        ·rw [y10 (by simpa using h'),List.getElem?_replicate,if_pos h'] at hi
         simp only [y1] at hi
         subst hi
         refine ⟨rfl,fun j lf hj=>?_⟩
         have hjl:j<(leaves zero).length:=z7 hj
         have hge:off*(leaves zero).length<=i*(leaves zero).length:=y16 _ (by omega)
         have hlt:i*(leaves zero).length+j - off*(leaves zero).length<len*(leaves zero).length:=by
          have:(i - off+1)*(leaves zero).length<=len*(leaves zero).length:=y16 _ (by omega)
          rw [y29,Nat.sub_mul] at this;omega
         rw [if_pos (by rw [hzl];omega),hget _ hlt]
         have:i*(leaves zero).length+j - off*(leaves zero).length=(i - off)*(leaves zero).length+j:=by rw [Nat.sub_mul];omega
         rw [this,(div_at hjl).2]
         rw [y51] at hd
         exact ⟨hd lf (y52 hj),z3 _ _ _ _ _ hj⟩
        ·rw [y18 (by simpa using h'),y38] at hi
         simp only [List.length_replicate] at hi
         have:off+len+(i - off - len)=i:=by omega
         rw [this] at hi
         exact keep hi (.inr (by omega)))
      obtain ⟨w1,w2,w3⟩:=hwr
      exact Does.value hexec hrun ⟨I,_, .tup [] #[] rfl (fun i v h=>by simp at h),w1,w2⟩
   ·cases h
 ·cases h
end
def okMap (P:Program) (t:TypeId):Bool:=match P.underlying t with
 | some (.map k e)=>(match P.underlying k,(P.info? e).bind (·.zero) with | some (.int .i64),some (.int .i64 z)=>decide (z=0) | _,_=>false)
 | _=>false
section
variable {I:Addr->Prop} {ρ:Infs} {P:Program} {w:World} {H:Hp} {a:Act} {fr:Fr} {T:Nat->Option MFun} {O:Orc}
theorem zel {t:TypeId} (h:okMap P t=true): ∃k e,P.underlying t=some (.map k e)/\P.underlying k=some (.int .i64)/\(zeroValue e).run P w= .ok (.int .i64 0) w:=by
 unfold okMap at h
 split at h
 ·rename_i k e he
  split at h
  ·rename_i z hk hz
   simp only [decide_eq_true_eq] at h
   subst h
   refine ⟨k,e,he,hk,?_⟩
   rw [y21] at hz
   obtain ⟨i,hi,hz⟩:=hz
   simp [zeroValue,typeInfo,hi,hz]
  ·cases h
 ·cases h
def mfind:List (Int×Int)->Int->Nat->Option (Nat×Value)
 | [],_,_=>none
 | (k,v)::m,n,i=>if n=k then some (i, .int .i64 v) else mfind m n (i+1)
theorem zem {n:Int}: ∀{m:List (Int×Int)} {es:List MapEntry} {i:Nat},es.length=m.length->(∀(i:Nat) (k v:Int),m[i]? =some (k,v)-> ∃b,es[i]? =some {key:= .int .i64 k,val:= .int .i64 v,born:=b})->
  Instr.findNow (.int .i64) (.int .i64 n) es i=some (mfind m n i)
 | [],es,i,hl,h=>by
  rw [y33 hl];rfl
 | (k,v)::m,[],i,hl,h=>by simp at hl
 | (k,v)::m,e::es,i,hl,h=>by
  obtain ⟨b,hb⟩:=h 0 k v rfl
  simp only [y35,y1] at hb
  subst hb
  have ih:=zem (n:=n) (m:=m) (es:=es) (i:=i+1) (by simpa using hl) (fun j k' v' hj=>by simpa using h (j+1) k' v' (by simpa using hj))
  simp only [Instr.findNow,Instr.sameNow,if_true,mfind]
  by_cases hn:n=k
  ·subst hn;simp
  ·rw [show (n==k)=false by simpa using hn,if_neg hn];exact ih
theorem zen {m:List (Int×Int)} {n:Int}: ∀{i:Nat},mfind m n i=none->mget m n=0/\ ∀y,mset m n y=m++[(n,y)]:=by
 induction m with
 | nil=>intro i _;exact ⟨rfl,fun _=>rfl⟩
 | cons p m ih=>
  obtain ⟨k,v⟩:=p
  intro i h
  simp only [mfind] at h
  split at h
  ·cases h
  ·rename_i hn
   obtain ⟨h1,h2⟩:=ih h
   simp only [mget,mset,if_neg hn]
   exact ⟨h1,fun y=>by rw [h2 y];rfl⟩
theorem zeo {m:List (Int×Int)} {n:Int}: ∀{i j:Nat} {x:Value},mfind m n i=some (j,x)-> ∃q v,j=i+q/\m[q]? =some (n,v)/\x= .int .i64 v/\mget m n=v/\ ∀y,mset m n y=m.set q (n,y):=by
 induction m with
 | nil=>intro i j x h;cases h
 | cons p m ih=>
  obtain ⟨k,v⟩:=p
  intro i j x h
  simp only [mfind] at h
  split at h
  ·rename_i hn
   simp only [y1,y7] at h
   obtain ⟨rfl,rfl⟩:=h
   subst hn
   exact ⟨0,v,rfl,rfl,rfl,by simp [mget],fun y=>by simp [mset]⟩
  ·rename_i hn
   obtain ⟨q,v',h1,h2,h3,h4,h5⟩:=ih h
   refine ⟨q+1,v',by omega,by simpa using h2,h3,by simp only [mget,if_neg hn];exact h4,fun y=>by simp only [mset,if_neg hn,h5 y];rfl⟩
theorem mp_inv (hr:HR I ρ w H) {x:V} {u:Value} (hx:VR I ρ w.cell? x u) {m:List (Int×Int)} (h:mapOf H x=some m): ∃id B,x= .mp id/\H[id]? =some (.map m)/\ρ[id]? =some (some (.box B))/\u= .map (some B)/\MapAt w B m/\ ∀a,I a->a.block≠B:=by
 unfold mapOf at h
 rw [y21] at h
 obtain ⟨id,h1,h2⟩:=h
 have hxe:x= .mp id:=by
  cases x<;>simp only [mpId,y1,reduceCtorEq] at h1
  rw [h1]
 subst hxe
 split at h2
 ·rename_i m' hm
  simp only [y1] at h2;subst h2
  have hid:=z7 hm
  have hρ:ρ[id]? =some (ρ.getD id none):=by simp [show id<ρ.length by rw [hr.len];exact hid]
  obtain ⟨B,hB,hm1,hm2⟩:=hr.blk id _ _ hm hρ
  rw [hB] at hρ
  cases hx with
  | mp id x hi ho hp=>
   obtain ⟨B',e1,e2⟩:=hp _ hρ
   cases e1
   exact ⟨id,B,rfl,hm,hρ,e2,hm1,hm2⟩
 ·cases h2
theorem zep {x:V} {u:Value} (hx:VR I ρ w.cell? x u) {n:Int} (h:intOf x=some n):x= .int .i64 n/\u= .int .i64 n/\inR .i64 n:=by
 unfold intOf at h
 split at h
 ·simp only [y1] at h;subst h
  exact ⟨rfl,hx.of_int.1,hx.of_int.2⟩
 ·cases h
theorem zeq {b:Bool} {k:TypeId} (hk:P.underlying k=some (.int .i64)) (n:Int):(Instr.checkKey b 10000 k (.int .i64 n)).run P w= .ok () w:=by
 unfold Instr.checkKey
 simp [run_underlying hk]
theorem zer {k:TypeId} (hk:P.underlying k=some (.int .i64)) {n:Int} {m:List (Int×Int)} {es:Array MapEntry} (hl:es.size=m.length) (h: ∀(i:Nat) (k v:Int),m[i]? =some (k,v)->inR .i64 k/\inR .i64 v/\ ∃b,es[i]? =some {key:= .int .i64 k,val:= .int .i64 v,born:=b}):
  (Instr.findKey k (.int .i64 n) es.toList).run P w= .ok (mfind m n 0) w:=by
 have:=zem (n:=n) (m:=m) (es:=es.toList) (i:=0) (by simpa using hl) (fun i k v hi=>by
  obtain ⟨_,_,b,hb⟩:=h i k v hi
  exact ⟨b,by rw [y49];exact hb⟩)
 simp [Instr.findKey,run_underlying hk,this]
theorem zes (hr:HR I ρ w H) {o:Oper} {t:TypeId} (ho:o.op= .makeMap t none):Go P T O I ρ a w fr H .mkmap o:=by
 intro v H' h
 simp only [ev,y1,y7] at h
 obtain ⟨rfl,rfl⟩:=h
 have hget:(w.alloc (.map #[] 0)).heap[w.heap.size]? =some (.map #[] 0):=by
  show (w.heap.push _)[w.heap.size]? =_;rw [Array.getElem?_push,if_pos rfl]
 refine Does.value (s:=Instr.makeMap t none) (u:= .map (some w.heap.size)) (w':=w.alloc (.map #[] 0)) (by simp [execOp,ho]) (by simp [Instr.makeMap]) ⟨I,ρ++[some (.box w.heap.size)], .mp _ _ (by simp [hr.len]) ⟨_,rfl⟩ fun inf hinf=>?_,(hr.alloc _).push ⟨_,rfl,⟨#[],0,hget,rfl,fun i k v hi=>by simp at hi⟩,fun x hx e=>?_⟩ (fun B hB hl=>?_),Nxt.push _ (fun B hB=>?_) (Grow.alloc hr _ _) (by rw [hr.len];exact y13 _)⟩
 ·rw [<- hr.len] at hinf
  simp only [y25,y1] at hinf
  exact ⟨_,hinf.symm,rfl⟩
 ·have:=zbq (hr.cells x hx);omega
 ·simp only [Has,Inf.has] at hB;have:=hr.live_lt hl;omega
 ·simp only [Has,Inf.has] at hB;omega
theorem zet (hr:HR I ρ w H) (hf:FR I ρ w.cell? fr a.tmps) {ma mb:MArg} {o:Oper} {t:TypeId} {x k:Operand} (ho:o.op= .lookup t x k false) (ht:okMap P t=true) (h1:okArg ma x=true) (h2:okArg mb k=true):Go P T O I ρ a w fr H (.mlook ma mb) o:=by
 intro v H' h
 simp only [ev] at h
 rw [y21] at h;obtain ⟨m,hm,h⟩:=h
 rw [y21] at h;obtain ⟨n,hn,h⟩:=h
 simp only [y1,y7] at h
 obtain ⟨rfl,rfl⟩:=h
 obtain ⟨id,B,e1,e2,e3,e4,⟨es,ck,m1,m2,m3⟩,e6⟩:=mp_inv hr (arg_vr h1 hf) hm
 obtain ⟨n1,n2,n3⟩:=zep (arg_vr h2 hf) hn
 obtain ⟨K,E,hu,hk,hz⟩:=zel (w:=w) ht
 have hfind:=zer (w:=w) hk (n:=n) m2 m3
 have hr1:(Instr.lookup t (.map (some B)) (.int .i64 n) false).run P w= .ok (.int .i64 (mget m n)) w:=by
  cases hq:mfind m n 0 with
  | none=>
   rw [hq] at hfind
   simp [Instr.lookup,run_underlying hu,MapKept.run_getObj_map m1,zeq hk,hfind,hz,(zen hq).1]
  | some p=>
   obtain ⟨j,y⟩:=p
   rw [hq] at hfind
   obtain ⟨q,v,_,_,q3,q4,_⟩:=zeo hq
   simp [Instr.lookup,run_underlying hu,MapKept.run_getObj_map m1,zeq hk,hfind,q3,q4]
 have hin:inR .i64 (mget m n):=by
  cases hq:mfind m n 0 with
  | none=>rw [(zen hq).1];simpa using zd4 (n:=0) (by omega)
  | some p=>
   obtain ⟨j,y⟩:=p
   obtain ⟨q,v,_,q2,_,q4,_⟩:=zeo hq
   rw [q4];exact (m3 q n v q2).2.1
 exact Does.value (s:=Instr.lookup t (a.eval x) (a.eval k) false) (by simp [execOp,ho]) (by rw [e4,n2];exact hr1) (Step.same hr (.int _ _ hin))
theorem zeu {w':World} {B:Nat} (h: ∀B',B'≠B->w'.heap[B']? =w.heap[B']?) {x:Addr} (hx:x.block≠B):w'.cell? x=w.cell? x:=by
 unfold World.cell?;rw [h _ hx]
theorem zev (hr:HR I ρ w H) (hf:FR I ρ w.cell? fr a.tmps) {ma mb mc:MArg} {o:Oper} {t:TypeId} {x k y:Operand} (ho:o.op= .mapUpdate t x k y) (ht:okMap P t=true) (h1:okArg ma x=true) (h2:okArg mb k=true) (h3:okArg mc y=true):Go P T O I ρ a w fr H (.mput ma mb mc) o:=by
 intro v H' h
 simp only [ev] at h
 rw [y21] at h;obtain ⟨m,hm,h⟩:=h
 rw [y21] at h;obtain ⟨n,hn,h⟩:=h
 rw [y21] at h;obtain ⟨z,hz,h⟩:=h
 rw [y21] at h;obtain ⟨id,hid,h⟩:=h
 simp only [y1,y7] at h
 obtain ⟨rfl,rfl⟩:=h
 obtain ⟨id',B,e1,e2,e3,e4,⟨es,ck,m1,m2,m3⟩,e6⟩:=mp_inv hr (arg_vr h1 hf) hm
 rw [e1] at hid
 simp only [mpId,y1] at hid;subst hid
 obtain ⟨n1,n2,n3⟩:=zep (arg_vr h2 hf) hn
 obtain ⟨z1,z2,z3⟩:=zep (arg_vr h3 hf) hz
 obtain ⟨K,E,hu,hk,_⟩:=zel (w:=w) ht
 have hfind:=zer (w:=w) hk (n:=n) m2 m3
 have hlt:B<w.heap.size:=(Array.getElem?_eq_some_iff.1 m1).1
 obtain ⟨es',ck',hrun,k2,k3⟩: ∃es' ck',(Instr.mapUpdate t (.map (some B)) (.int .i64 n) (.int .i64 z)).run P w= .ok () {w with heap:=w.heap.setIfInBounds B (.map es' ck')}/\es'.size=(mset m n z).length/\ ∀(i:Nat) (k v:Int),(mset m n z)[i]? =some (k,v)->inR .i64 k/\inR .i64 v/\ ∃b,es'[i]? =some {key:= .int .i64 k,val:= .int .i64 v,born:=b}:=by
  cases hq:mfind m n 0 with
  | none=>
   rw [hq] at hfind
   refine ⟨es.push {key:= .int .i64 n,val:= .int .i64 z,born:=ck},ck+1,?_,?_,fun i k v hi=>?_⟩
   ·simp [Instr.mapUpdate,run_underlying hu,MapKept.run_getObj_map m1,zeq hk,hfind,MapKept.run_setObj_map _ m1]
   ·rw [(zen hq).2];simp [m2]
   ·rw [(zen hq).2] at hi
    rcases y28 i m.length with h | h
    ·rw [y10 h] at hi
     obtain ⟨q1,q2,b,q3⟩:=m3 i k v hi
     exact ⟨q1,q2,b,by rw [Array.getElem?_push,if_neg (by omega)];exact q3⟩
    ·rw [y18 h] at hi
     have h0:i - m.length=0:=by have:=z7 hi;simp at this;omega
     rw [h0] at hi
     simp only [y35,y1,y7] at hi
     obtain ⟨rfl,rfl⟩:=hi
     exact ⟨n3,z3,ck,by rw [Array.getElem?_push,if_pos (by omega)]⟩
  | some p=>
   obtain ⟨j,yv⟩:=p
   rw [hq] at hfind
   obtain ⟨q,v0,q1,q2,q3,q4,q5⟩:=zeo hq
   rw [y41] at q1;subst q1
   obtain ⟨r1,r2,b,r3⟩:=m3 j n v0 q2
   refine ⟨es.modify j fun e=>{e with key:= .int .i64 n,val:= .int .i64 z},ck,?_,?_,fun i k v hi=>?_⟩
   ·have hks:(Instr.keyThatStays (.int .i64 n) (.int .i64 n)).run P w= .ok (.int .i64 n) w:=by simp [Instr.keyThatStays,Instr.sameBits]
    simp [Instr.mapUpdate,run_underlying hu,MapKept.run_getObj_map m1,zeq hk,hfind,MapKept.run_setObj_map _ m1,r3,hks]
   ·rw [q5];simp [m2]
   ·rw [q5] at hi
    rw [List.getElem?_set] at hi
    rw [Array.getElem?_modify]
    split at hi
    ·rename_i hji
     subst hji
     split at hi
     ·simp only [y1,y7] at hi
      obtain ⟨rfl,rfl⟩:=hi
      exact ⟨n3,z3,b,by rw [if_pos rfl,r3];rfl⟩
     ·cases hi
    ·rename_i hji
     obtain ⟨p1,p2,b',p3⟩:=m3 i k v hi
     exact ⟨p1,p2,b',by rw [if_neg hji];exact p3⟩
 have hother: ∀B',B'≠B->({w with heap:=w.heap.setIfInBounds B (.map es' ck')}:World).heap[B']? =w.heap[B']? :=fun B' hB=>Array.getElem?_setIfInBounds_ne (Ne.symm hB)
 have hcell: ∀x,I x->({w with heap:=w.heap.setIfInBounds B (.map es' ck')}:World).cell? x=w.cell? x:=fun x hx=>zeu hother (e6 x hx)
 have hlive:Live ρ B:=⟨id',_,e3,rfl⟩
 have hap: ∀(k:Nat) (inf:Inf),k≠id'->ρ[k]? =some (some inf)-> ¬inf.has B:=fun k inf hk hq hb=>hk (hr.apart k id' inf _ B hq e3 hb rfl)
 refine Does.unit (s:=Instr.mapUpdate t (a.eval x) (a.eval k) (a.eval y)) (by simp [execOp,ho]) (by rw [e4,n2,z2];exact hrun) ⟨I,ρ.set id' (some (.box B)), .tup [] #[] rfl (fun i v h=>by simp at h),hr.upd e2 e3 (fun _ h=>h) hcell (fun x hx=>by rw [hcell x hx];exact hr.cells x hx) (fun k inf B' hk hq hb=>hother B' (fun e=>hap k inf hk hq (e▸hb))) (fun x hx=> .inl hx) (Pers.refl _) ⟨B,rfl,⟨es',ck',by simp [hlt],k2,k3⟩,e6⟩ (fun B' hB' k inf hk hq=>?_),Nxt.upd e3 (fun _ h=>h) (fun _ h=> .inl h) (Pers.refl _) (fun B' hB'=> .inl ?_) ⟨rfl,rfl,rfl,by simp,fun B' _ hn=>hother B' (fun e=>hn (e▸hlive)),hcell⟩ (by rw [hr.len];exact y13 _)⟩
 ·simp only [Has,Inf.has] at hB';subst hB';exact hap k inf hk hq
 ·simp only [Has,Inf.has] at hB';subst hB';exact hlive
def okPMap (P:Program) (t:TypeId):Bool:=match P.underlying t with
 | some (.map k e)=>(match P.underlying k,(P.info? e).bind (·.zero) with | some (.int .i64),some (.pointer none)=>true | _,_=>false)
 | _=>false
theorem zew {t:TypeId} (h:okPMap P t=true): ∃k e,P.underlying t=some (.map k e)/\P.underlying k=some (.int .i64)/\(zeroValue e).run P w= .ok (.pointer none) w:=by
 unfold okPMap at h
 split at h
 ·rename_i k e he
  split at h
  ·rename_i hk hz
   refine ⟨k,e,he,hk,?_⟩
   rw [y21] at hz
   obtain ⟨i,hi,hz⟩:=hz
   simp [zeroValue,typeInfo,hi,hz]
  ·cases h
 ·cases h
theorem zex {n:Int}: ∀{m:List (Int×V)} {es:List MapEntry} {i:Nat},es.length=m.length->(∀(i:Nat) (k:Int) (v:V),m[i]? =some (k,v)-> ∃b x,es[i]? =some {key:= .int .i64 k,val:=x,born:=b})->
  (∃(j:Nat) (v:V) (x:Value) (b:Nat),m[j]? =some (n,v)/\es[j]? =some {key:= .int .i64 n,val:=x,born:=b}/\Instr.findNow (.int .i64) (.int .i64 n) es i=some (some (i+j,x))/\pget m n=v/\ ∀y,pset m n y=m.set j (n,y))\/
  (Instr.findNow (.int .i64) (.int .i64 n) es i=some none/\pget m n= .nilp/\ ∀y,pset m n y=m++[(n,y)])
 | [],es,i,hl,h=>by
  rw [y33 hl];exact .inr ⟨rfl,rfl,fun _=>rfl⟩
 | (k,v)::m,[],i,hl,h=>by simp at hl
 | (k,v)::m,e::es,i,hl,h=>by
  obtain ⟨b,x,hb⟩:=h 0 k v rfl
  simp only [y35,y1] at hb
  subst hb
  have ih:=zex (n:=n) (m:=m) (es:=es) (i:=i+1) (by simpa using hl) (fun j k' v' hj=>by simpa using h (j+1) k' v' (by simpa using hj))
  simp only [Instr.findNow,Instr.sameNow,if_true,pget,pset]
  by_cases hn:n=k
  ·subst hn
   exact .inl ⟨0,v,x,b,rfl,rfl,by simp,by simp,fun y=>by simp⟩
  ·rw [show (n==k)=false by simpa using hn,if_neg hn]
   rcases ih with ⟨j,v',x',b',h1,h2,h3,h4,h5⟩ | ⟨h1,h2,h3⟩
   ·refine .inl ⟨j+1,v',x',b',by simpa using h1,by simpa using h2,?_,h4,fun y=>by rw [if_neg hn,h5 y];rfl⟩
    rw [show i+(j+1)=i+1+j by omega];exact h3
   ·exact .inr ⟨h1,h2,fun y=>by rw [if_neg hn,h3 y];rfl⟩
theorem pm_inv (hr:HR I ρ w H) {x:V} {u:Value} (hx:VR I ρ w.cell? x u) {m:List (Int×V)} (h:pmapOf H x=some m): ∃id B,x= .mp id/\H[id]? =some (.pmap m)/\ρ[id]? =some (some (.box B))/\u= .map (some B)/\PMapAt I ρ w B m/\ ∀a,I a->a.block≠B:=by
 unfold pmapOf at h
 rw [y21] at h
 obtain ⟨id,h1,h2⟩:=h
 have hxe:x= .mp id:=by
  cases x<;>simp only [mpId,y1,reduceCtorEq] at h1
  rw [h1]
 subst hxe
 split at h2
 ·rename_i m' hm
  simp only [y1] at h2;subst h2
  have hid:=z7 hm
  have hρ:ρ[id]? =some (ρ.getD id none):=by simp [show id<ρ.length by rw [hr.len];exact hid]
  obtain ⟨B,hB,hm1,hm2⟩:=hr.blk id _ _ hm hρ
  rw [hB] at hρ
  cases hx with
  | mp id x hi ho hp=>
   obtain ⟨B',e1,e2⟩:=hp _ hρ
   cases e1
   exact ⟨id,B,rfl,hm,hρ,e2,hm1,hm2⟩
 ·cases h2
theorem find_p {k:TypeId} (hk:P.underlying k=some (.int .i64)) {n:Int} {m:List (Int×V)} {es:Array MapEntry} (hl:es.size=m.length) (h: ∀(i:Nat) (k:Int) (v:V),m[i]? =some (k,v)->inR .i64 k/\good v=true/\ ∃b x,es[i]? =some {key:= .int .i64 k,val:=x,born:=b}/\VR I ρ w.cell? v x):
  (∃(j:Nat) (v:V) (x:Value) (b:Nat),m[j]? =some (n,v)/\es[j]? =some {key:= .int .i64 n,val:=x,born:=b}/\(Instr.findKey k (.int .i64 n) es.toList).run P w= .ok (some (j,x)) w/\pget m n=v/\ ∀y,pset m n y=m.set j (n,y))\/
  ((Instr.findKey k (.int .i64 n) es.toList).run P w= .ok none w/\pget m n= .nilp/\ ∀y,pset m n y=m++[(n,y)]):=by
 rcases zex (n:=n) (m:=m) (es:=es.toList) (i:=0) (by simpa using hl) (fun i k v hi=>by
  obtain ⟨_,_,b,x,hb,_⟩:=h i k v hi
  exact ⟨b,x,by rw [y49];exact hb⟩) with ⟨j,v,x,b,h1,h2,h3,h4,h5⟩ | ⟨h1,h2,h3⟩
 ·refine .inl ⟨j,v,x,b,h1,by rw [<- y49];exact h2,?_,h4,h5⟩
  rw [y41] at h3
  simp [Instr.findKey,run_underlying hk,h3]
 ·exact .inr ⟨by simp [Instr.findKey,run_underlying hk,h1],h2,h3⟩
theorem zey (hr:HR I ρ w H) {o:Oper} {t:TypeId} (ho:o.op= .makeMap t none):Go P T O I ρ a w fr H .mkpm o:=by
 intro v H' h
 simp only [ev,y1,y7] at h
 obtain ⟨rfl,rfl⟩:=h
 have hget:(w.alloc (.map #[] 0)).heap[w.heap.size]? =some (.map #[] 0):=by
  show (w.heap.push _)[w.heap.size]? =_;rw [Array.getElem?_push,if_pos rfl]
 refine Does.value (s:=Instr.makeMap t none) (u:= .map (some w.heap.size)) (w':=w.alloc (.map #[] 0)) (by simp [execOp,ho]) (by simp [Instr.makeMap]) ⟨I,ρ++[some (.box w.heap.size)], .mp _ _ (by simp [hr.len]) ⟨_,rfl⟩ fun inf hinf=>?_,(hr.alloc _).push ⟨_,rfl,⟨#[],0,hget,rfl,fun i k v hi=>by simp at hi⟩,fun x hx e=>?_⟩ (fun B hB hl=>?_),Nxt.push _ (fun B hB=>?_) (Grow.alloc hr _ _) (by rw [hr.len];exact y13 _)⟩
 ·rw [<- hr.len] at hinf
  simp only [y25,y1] at hinf
  exact ⟨_,hinf.symm,rfl⟩
 ·have:=zbq (hr.cells x hx);omega
 ·simp only [Has,Inf.has] at hB;have:=hr.live_lt hl;omega
 ·simp only [Has,Inf.has] at hB;omega
theorem zez (hr:HR I ρ w H) (hf:FR I ρ w.cell? fr a.tmps) {ma mb:MArg} {o:Oper} {t:TypeId} {x k:Operand} (ho:o.op= .lookup t x k false) (ht:okPMap P t=true) (h1:okArg ma x=true) (h2:okArg mb k=true):Go P T O I ρ a w fr H (.plook ma mb) o:=by
 intro v H' h
 simp only [ev] at h
 rw [y21] at h;obtain ⟨m,hm,h⟩:=h
 rw [y21] at h;obtain ⟨n,hn,h⟩:=h
 simp only [y1,y7] at h
 obtain ⟨rfl,rfl⟩:=h
 obtain ⟨id,B,e1,e2,e3,e4,⟨es,ck,m1,m2,m3⟩,e6⟩:=pm_inv hr (arg_vr h1 hf) hm
 obtain ⟨n1,n2,n3⟩:=zep (arg_vr h2 hf) hn
 obtain ⟨K,E,hu,hk,hz⟩:=zew (w:=w) ht
 rcases find_p hk (n:=n) m2 m3 with ⟨j,v,y,b,q1,q2,q3,q4,_⟩ | ⟨q1,q2,_⟩
 ·obtain ⟨_,_,b',y',r1,r2⟩:=m3 j n v q1
  rw [q2] at r1
  simp only [y1,MapEntry.mk.injEq,true_and] at r1
  obtain ⟨rfl,_⟩:=r1
  refine Does.value (s:=Instr.lookup t (a.eval x) (a.eval k) false) (by simp [execOp,ho]) (u:=y) (w':=w) ?_ (Step.same hr (by rw [q4];exact r2))
  rw [e4,n2]
  simp [Instr.lookup,run_underlying hu,MapKept.run_getObj_map m1,zeq hk,q3]
 ·refine Does.value (s:=Instr.lookup t (a.eval x) (a.eval k) false) (by simp [execOp,ho]) (u:= .pointer none) (w':=w) ?_ (Step.same hr (by rw [q2];exact .nilp))
  rw [e4,n2]
  simp [Instr.lookup,run_underlying hu,MapKept.run_getObj_map m1,zeq hk,q1,hz]
theorem ze0 (hr:HR I ρ w H) (hf:FR I ρ w.cell? fr a.tmps) {ma mb mc:MArg} {o:Oper} {t:TypeId} {x k y:Operand} (ho:o.op= .mapUpdate t x k y) (ht:okPMap P t=true) (h1:okArg ma x=true) (h2:okArg mb k=true) (h3:okArg mc y=true):Go P T O I ρ a w fr H (.pput ma mb mc) o:=by
 intro v H' h
 simp only [ev] at h
 rw [y21] at h;obtain ⟨m,hm,h⟩:=h
 rw [y21] at h;obtain ⟨n,hn,h⟩:=h
 rw [y21] at h;obtain ⟨id,hid,h⟩:=h
 split at h
 case isFalse=>cases h
 rename_i hg
 simp only [y1,y7] at h
 obtain ⟨rfl,rfl⟩:=h
 obtain ⟨id',B,e1,e2,e3,e4,⟨es,ck,m1,m2,m3⟩,e6⟩:=pm_inv hr (arg_vr h1 hf) hm
 rw [e1] at hid
 simp only [mpId,y1] at hid;subst hid
 obtain ⟨n1,n2,n3⟩:=zep (arg_vr h2 hf) hn
 have hz:=arg_vr h3 hf
 generalize mc.val fr=z at hz hg ⊢
 generalize heu:a.eval y=u at hz
 obtain ⟨K,E,hu,hk,_⟩:=zew (w:=w) ht
 have hlt:B<w.heap.size:=(Array.getElem?_eq_some_iff.1 m1).1
 obtain ⟨es',ck',hrun,k2,k3⟩: ∃es' ck',(Instr.mapUpdate t (.map (some B)) (.int .i64 n) u).run P w= .ok () {w with heap:=w.heap.setIfInBounds B (.map es' ck')}/\es'.size=(pset m n z).length/\ ∀(i:Nat) (k:Int) (v:V),(pset m n z)[i]? =some (k,v)->inR .i64 k/\good v=true/\ ∃b x,es'[i]? =some {key:= .int .i64 k,val:=x,born:=b}/\VR I ρ w.cell? v x:=by
  rcases find_p hk (n:=n) m2 m3 with ⟨j,v,yv,b,q1,q2,q3,q4,q5⟩ | ⟨q1,q2,q3⟩
  ·refine ⟨es.modify j fun e=>{e with key:= .int .i64 n,val:=u},ck,?_,?_,fun i k v hi=>?_⟩
   ·have hks:(Instr.keyThatStays (.int .i64 n) (.int .i64 n)).run P w= .ok (.int .i64 n) w:=by simp [Instr.keyThatStays,Instr.sameBits]
    simp [Instr.mapUpdate,run_underlying hu,MapKept.run_getObj_map m1,zeq hk,q3,MapKept.run_setObj_map _ m1,q2,hks]
   ·rw [q5];simp [m2]
   ·rw [q5] at hi
    rw [List.getElem?_set] at hi
    rw [Array.getElem?_modify]
    split at hi
    ·rename_i hji
     subst hji
     split at hi
     ·simp only [y1,y7] at hi
      obtain ⟨rfl,rfl⟩:=hi
      exact ⟨n3,hg,b,u,by rw [if_pos rfl,q2];rfl,hz⟩
     ·cases hi
    ·rename_i hji
     obtain ⟨p1,p2,b',x',p3,p4⟩:=m3 i k v hi
     exact ⟨p1,p2,b',x',by rw [if_neg hji];exact p3,p4⟩
  ·refine ⟨es.push {key:= .int .i64 n,val:=u,born:=ck},ck+1,?_,?_,fun i k v hi=>?_⟩
   ·simp [Instr.mapUpdate,run_underlying hu,MapKept.run_getObj_map m1,zeq hk,q1,MapKept.run_setObj_map _ m1]
   ·rw [q3];simp [m2]
   ·rw [q3] at hi
    rcases y28 i m.length with h | h
    ·rw [y10 h] at hi
     obtain ⟨p1,p2,b,x',p3,p4⟩:=m3 i k v hi
     exact ⟨p1,p2,b,x',by rw [Array.getElem?_push,if_neg (by omega)];exact p3,p4⟩
    ·rw [y18 h] at hi
     have h0:i - m.length=0:=by have:=z7 hi;simp at this;omega
     rw [h0] at hi
     simp only [y35,y1,y7] at hi
     obtain ⟨rfl,rfl⟩:=hi
     exact ⟨n3,hg,ck,u,by rw [Array.getElem?_push,if_pos (by omega)],hz⟩
 have hother: ∀B',B'≠B->({w with heap:=w.heap.setIfInBounds B (.map es' ck')}:World).heap[B']? =w.heap[B']? :=fun B' hB=>Array.getElem?_setIfInBounds_ne (Ne.symm hB)
 have hcell: ∀x,I x->({w with heap:=w.heap.setIfInBounds B (.map es' ck')}:World).cell? x=w.cell? x:=fun x hx=>zeu hother (e6 x hx)
 have hlive:Live ρ B:=⟨id',_,e3,rfl⟩
 have hap: ∀(k:Nat) (inf:Inf),k≠id'->ρ[k]? =some (some inf)-> ¬inf.has B:=fun k inf hk hq hb=>hk (hr.apart k id' inf _ B hq e3 hb rfl)
 have hget:({w with heap:=w.heap.setIfInBounds B (.map es' ck')}:World).heap[B]? =some (.map es' ck'):=Array.getElem?_setIfInBounds_self_of_lt hlt
 refine Does.unit (s:=Instr.mapUpdate t (a.eval x) (a.eval k) u) (by simp [execOp,ho,heu]) (by rw [e4,n2];exact hrun) ⟨I,ρ.set id' (some (.box B)), .tup [] #[] rfl (fun i v h=>by simp at h),hr.upd e2 e3 (fun _ h=>h) hcell (fun x hx=>by rw [hcell x hx];exact hr.cells x hx) (fun k inf B' hk hq hb=>hother B' (fun e=>hap k inf hk hq (e▸hb))) (fun x hx=> .inl hx) (Pers.refl _) ⟨B,rfl,⟨es',ck',hget,k2,fun i k v hi=>?_⟩,e6⟩ (fun B' hB' k inf hk hq=>?_),Nxt.upd e3 (fun _ h=>h) (fun _ h=> .inl h) (Pers.refl _) (fun B' hB'=> .inl ?_) ⟨rfl,rfl,rfl,by simp,fun B' _ hn=>hother B' (fun e=>hn (e▸hlive)),hcell⟩ (by rw [hr.len];exact y13 _)⟩
 ·obtain ⟨p1,p2,b,x',p3,p4⟩:=k3 i k v hi
  exact ⟨p1,p2,b,x',p3,p4.mono (fun _ h=>h) hcell (by simp) (fun q _=>Pers.at_set e3 (Pers.refl _) q)⟩
 ·simp only [Has,Inf.has] at hB';subst hB';exact hap k inf hk hq
 ·simp only [Has,Inf.has] at hB';subst hB';exact hlive
theorem ze1 (hr:HR I ρ w H) (hf:FR I ρ w.cell? fr a.tmps) {ma mb:MArg} {o:Oper} {t t2:TypeId} {x y:Operand} (ho:o.op= .call ⟨.builtin .append,#[x,y],#[t,t2]⟩) (ht:okSl P t 1=true) (ht2:isSl P t2=true) (h2:okArg ma x=true) (h3:okArg mb y=true):Go P T O I ρ a w fr H (.papp ma mb) o:=by
 intro v H' h
 simp only [ev] at h
 have hx:=arg_vr h2 hf
 have hy:=arg_vr h3 hf
 split at h
 case h_2=>cases h
 rename_i ys q1 q2
 rw [q1] at hx;rw [q2] at hy
 split at h
 case isFalse=>cases h
 rename_i hmost
 simp only [y1,y7] at h
 obtain ⟨rfl,rfl⟩:=h
 generalize hu:a.eval x=u at hx
 generalize hv:a.eval y=z at hy
 cases hx with
 | sl _ _ a0 cp s vals hc hz hn hs hd hcell hvr=>
  cases a0 with
  | some ad=>cases hz
  | none=>
   obtain rfl:cp=0:=hn rfl
   cases hy with
   | psl _ ad cp2 vals2 hc2 hg2 hcell2 hvr2=>
    have hf2: ∀ad',some ad=some ad'-> ∀k,k<ys.length*1->w.cell? (ad'.add k)=some (vals2 k):=fun ad' e k hk=>by
     cases e
     have hk':k<ys.length:=by omega
     exact (hcell2 k ys[k] (y6 hk')).2
    have hcall:=zd8 (a:=a) o ho
    rw [hu,hv] at hcall
    by_cases h0:ys.length=0
    ·refine Does.value (s:=Builtin.append_ #[t,t2] o.type #[.slice none 0 0, .slice (some ad) ys.length cp2]) (hcall) (zb6 (w':=w) ht (zd2 ht2) (by omega) vals2 (fun h=>by cases h) hf2 rfl) (Step.same hr (.any _ rfl))
    ·obtain ⟨K,e,rest,hK,hrest,hrun⟩:=zb7 (P:=P) (w:=w) (ty:=o.type) (base:=none) (sLen:=0) (sCap:=0) (c2:=cp2) ht (zd2 ht2) (by omega) (by omega) vals2 (fun _=>undef) (fun _=>rfl) (fun ad' h=>by cases h) (fun h=>by cases h) hf2
     refine Does.value (s:=Builtin.append_ #[t,t2] o.type #[.slice none 0 0, .slice (some ad) ys.length cp2]) (hcall) (by simpa using hrun) ⟨I,ρ, .any _ rfl,hr.drew.alloc _,⟨fun _ h=>h,fun _ h=> .inl h,(Grow.alloc hr.drew _ _).of_drew,fun _ h=> .inl h,fun _ _=>Pers.refl _, .inl (by rw [hr.len];exact y13 _)⟩⟩
theorem ze2 (hr:HR I ρ w H) (hf:FR I ρ w.cell? fr a.tmps) {sz:Nat} {ml:MArg} {o:Oper} {t:TypeId} {x x2:Operand} (ho:o.op= .makeSlice t x x2) (ht:okSl P t sz=true) (h2:okArg ml x=true) (h3:okArg ml x2=true):Go P T O I ρ a w fr H (.mska sz ml) o:=by
 intro v H' h
 simp only [ev] at h
 rw [y21] at h;obtain ⟨v',hv,h⟩:=h
 simp only [y1,y7] at h
 obtain ⟨rfl,rfl⟩:=h
 have hx:=arg_vr h2 hf
 have hx2:=arg_vr h3 hf
 generalize ml.val fr=q at hx hx2 hv
 cases q<;>simp only [mskaV,reduceCtorEq] at hv
 rename_i k n
 split at hv
 case isFalse=>cases hv
 rename_i hn
 obtain ⟨h0,hm⟩:=hn
 simp only [y1] at hv;subst hv
 obtain ⟨e1,_⟩:=hx.of_int
 obtain ⟨e1',_⟩:=hx2.of_int
 have hmost:most=4294967296:=rfl
 obtain ⟨hpos,e,i,z,hu,hi,hs,hb,hzz,hzs⟩:=zbd ht
 have hbytes:(i.bytes:Int)*n<=281474976710656:=by
  have h3:(i.bytes:Int)*n<=4096*4294967296:=by
   have h4:(i.bytes:Int)*n<=4096*n:=Int.mul_le_mul_of_nonneg_right (by omega) h0
   have h5:(4096:Int)*n<=4096*4294967296:=by omega
   omega
  omega
 have hrun:=run_make w t e i z hu hi hzz k k n n h0 (Int.le_refl _) hbytes (by omega)
 exact Does.value (s:=Instr.makeSlice t (a.eval x) (a.eval x2)) (by simp [execOp,ho]) (by rw [e1,e1'];exact hrun) ⟨I,ρ, .any _ rfl,hr.alloc _,⟨fun _ h=>h,fun _ h=> .inl h,Grow.alloc hr _ _,fun _ h=> .inl h,fun _ _=>Pers.refl _, .inl (by rw [hr.len];exact y13 _)⟩⟩
end
def okCall (P:Program) (f:FuncId):Bool:=match P.funcs[f]? with
 | some fn => !(fn.name == "runtime.NumGoroutine") && fn.body.isSome
 | none=>false
def okFa (P:Program) (t:TypeId) (f off:Nat):Bool:=match P.underlying t with
 | some (.struct fs)=>(match fs[f]? with
  | some g=>(match P.info? g.type,P.underlying g.type with
   | some i,some d=>okF P t f off i.size (aggD d) && !(i.size==0)
   | _,_=>false)
  | none=>false)
 | _=>false
def nilS:Operand->Bool
 | .const (.slice none n c)=>decide (n=0) && decide (c=0)
 | _=>false
def okOp (P:Program) (m:MOp) (op:Op):Bool:=
 match m,op with
 | .mv x, .move y=>okArg x y
 | .mv x, .assign y=>okArg x y
 | .pick c x y, .pick c' x' y'=>okArg c c' && okArg x x' && okArg y y'
 | .bin b x y, .binOp b' _ x' y' _=>decide (b=b') && okArg x x' && okArg y y'
 | .eqn neg ks x y, .binOp b t x' y' _=>((decide (ks=[]) && isBool P t) || okEq P t ks) && decide (b=if neg=true then .neq else .eql) && okArg x x' && okArg y y'
 | .isnil neg k x, .binOp b t x' y' _=>decide (b=if neg=true then .neq else .eql) && okNil P t k && (okArg x x' && nilC k y' || okArg x y' && nilC k x')
 | .un u x, .unOp u' _ x'=>decide (u=u') && okArg x x'
 | .conv k x, .convert s d x'=>(P.underlying s).isSome && isInt P d k && okArg x x'
 | .b2s x, .convert s d x'=>okBytes P s d && okArg x x'
 | .ext x i, .extract x' j=>okArg x x' && i==j
 | .fld x off n agg, .field t x' f=>okF P t f off n agg && okArg x x'
 | .bld z ps, .build t xs=>okBld P t z ps xs.toList
 | .alloc z, .alloc t=>okZ P t z
 | .box x, .box _ x'=>okArg x x'
 | .load x n agg, .load t x'=>okT P t n agg && okArg x x'
 | .store x y n, .store t x' y'=>(okT P t n true || okT P t n false) && okArg x x' && okArg y y'
 | .faddr x off, .fieldAddr t x' f=>okFa P t f off && okArg x x'
 | .iaddr x i sz, .indexAddr t x' i'=>okSl P t sz && okArg x x' && okArg i i'
 | .aaddr x i len sz, .indexAddr t x' i'=>(okAr P t len sz true || okAr P t len sz false) && okArg x x' && okArg i i'
 | .idx x i len sz agg, .index t x' i'=>okAr P t len sz agg && okArg x x' && okArg i i'
 | .nilck x, .nilCheck x'=>okArg x x'
 | .mkfn f caps, .makeFunc (.func f') first caps'=>f==f' && first.toList.isEmpty && okArgs caps caps'.toList
 | .mkif t x, .makeInterface t' x'=>t==t' && notIf P t && okArg x x'
 | .slc x lo hi mx sz, .slice t x' lo' hi' mx'=>okSl P t sz && okArg x x' && okOpt lo lo' && okOpt hi hi' && okOpt mx mx'
 | .bsl sz ms how, .buildSlice t len xs=>okSl P t sz && okSeq ms len xs.toList && decide (len*sz<=16777216) && decide (how=0\/how=1\/sz=1)
 | .msl sz zero l, .makeSlice t x x'=>okSl P t sz && (match P.underlying t with | some (.slice e)=>okZ P e (leaves zero) | _=>false) && (leaves zero).all deep1 && okArg l x && okArg l x'
 | .len str x, .call ⟨.builtin .len,xs,ts⟩=>(match xs.toList,ts.toList with | [x'],[t]=>(if str=true then isStr P t else isSl P t) && okArg x x' | _,_=>false)
 | .mm mx ms, .call ⟨.builtin b,xs,ts⟩=>(match ms,xs.toList,b with
  | [x,y],[x',y'], .max=>mx && okArg x x' && okArg y y'
  | [x,y],[x',y'], .min=>!mx && okArg x x' && okArg y y'
  | _,_,_=>false)
 | .app x y sz, .call ⟨.builtin .append,xs,ts⟩=>(match xs.toList,ts.toList with | [x',y'],[t,t2]=>okSl P t sz && isSl P t2 && okArg x x' && okArg y y' | _,_=>false)
 | .cap x, .call ⟨.builtin .cap,xs,ts⟩=>(match xs.toList,ts.toList with | [x'],[t]=>isSl P t && okArg x x' | _,_=>false)
 | .mkmap, .makeMap t none=>true
 | .mlook x k, .lookup t x' k' false=>okMap P t && okArg x x' && okArg k k'
 | .mput x k v, .mapUpdate t x' k' v'=>okMap P t && okArg x x' && okArg k k' && okArg v v'
 | .mkpm, .makeMap t none=>true
 | .mska sz l, .makeSlice t x x'=>okSl P t sz && okArg l x && okArg l x'
 | .plook x k, .lookup t x' k' false=>okPMap P t && okArg x x' && okArg k k'
 | .pput x k v, .mapUpdate t x' k' v'=>okPMap P t && okArg x x' && okArg k k' && okArg v v'
 | .papp x y, .call ⟨.builtin .append,xs,ts⟩=>(match xs.toList,ts.toList with | [x',y'],[t,t2]=>okSl P t 1 && isSl P t2 && okArg x x' && okArg y y' | _,_=>false)
 | .clr x zero, .call ⟨.builtin .clear,xs,ts⟩=>(match xs.toList,ts.toList with
  | [x'],[t]=>(match P.underlying t with
   | some (.slice e)=>okSl P t (leaves zero).length && okZ P e (leaves zero) && (leaves zero).all deep1 && okArg x x'
   | _=>false)
  | _,_=>false)
 | .appz x y sz zero, .call ⟨.builtin .append,xs,ts⟩=>(match xs.toList,ts.toList with
  | [x',y'],[t,t2]=>(match P.underlying t,P.underlying t2 with
   | some (.slice e),some (.int _)=>okSl P t sz && okZ P e (leaves zero) && (leaves zero).all deep1 && okArg x x' && okArg y y'
   | _,_=>false)
  | _,_=>false)
 | .call f as, .call ⟨.value (.func g),xs,_⟩=>f==g && okArgs as xs.toList
 | .callv x as, .call ⟨.value y,xs,_⟩=>okArg x y && okArgs as xs.toList
 | .nil _, .move y=>nilS y
 | .nil _, .assign y=>nilS y
 | _,_=>false
section
variable {I:Addr->Prop} {ρ:Infs} {P:Program} {w:World} {H:Hp} {a:Act} {fr:Fr} {T:Nat->Option MFun} {O:Orc}
theorem arr1 {α:Type} {xs:Array α} {x:α} (h:xs.toList=[x]):xs= #[x]:=by cases xs;simp_all
theorem arr2 {α:Type} {xs:Array α} {x y:α} (h:xs.toList=[x,y]):xs= #[x,y]:=by cases xs;simp_all
theorem ze3 {f:FuncId} (h:okCall P f=true) (args:Array Value):(callFunc f args).run P w= .ok (.enter f args) w:=by
 unfold okCall at h
 split at h
 ·rename_i fn hf
  simp only [y5,y55] at h
  obtain ⟨c,hc⟩:=Option.isSome_iff_exists.1 h.2
  have hn : ¬ fn.name = "runtime.NumGoroutine" := by simpa using h.1
  simp [callFunc,hf,hn,hc]
 ·cases h
theorem Does.enter {o:Oper} {K:Value->World->Prop} {f:FuncId} {xs:Array Value} (h:(execOp a.eval o).run P w= .ok (.enter f xs) w) (k:Calls P f xs w fun e w''=> ∃u,e= .returned u/\K u w''):Does P o a w K:=by
 unfold Does;rw [h];exact k
theorem go_nil (hr:HR I ρ w H) {sz:Nat} {o:Oper} {x:Operand} (ho:o.op= .move x\/o.op= .assign x) (hx:nilS x=true):Go P T O I ρ a w fr H (.nil sz) o:=by
 intro v H' h
 simp only [ev,y1,y7] at h
 obtain ⟨rfl,rfl⟩:=h
 unfold nilS at hx
 split at hx
 ·simp only [y5,decide_eq_true_eq] at hx
  obtain ⟨rfl,rfl⟩:=hx
  refine Does.pure (u:= .slice none 0 0) (by rcases ho with h | h<;>simp [execOp,h,Act.eval]) ⟨I,ρ++[some (.nrow sz 0)], .vw _ _ _ _ _ _ (by simp [hr.len]) ⟨_,_,rfl⟩ fun inf hinf=>?_,hr.push (.inl ⟨rfl,rfl,rfl⟩) (fun B hB=>by cases hB),Nxt.push _ (fun B hB=>by cases hB) (Grow.refl _ _ _) (by rw [hr.len];exact y13 _)⟩
  rw [<- hr.len] at hinf
  simp only [y25,y1] at hinf;subst hinf
  exact ⟨y13 _,fun _=>⟨rfl,rfl,rfl⟩⟩
 ·cases hx
theorem ze4 (hO:OrcOk P O) (hT: ∀f mf,T f=some mf->okCall P f=true) (hr:HR I ρ w H) (hf:FR I ρ w.cell? fr a.tmps) {f:FuncId} {ms:List MArg} {o:Oper} {xs:Array Operand} {ts:Array TypeId} (ho:o.op= .call ⟨.value (.func f),xs,ts⟩) (h2:okArgs ms xs.toList=true):Go P T O I ρ a w fr H (.call f ms) o:=by
 intro v H' h
 simp only [ev] at h
 obtain ⟨hl,hv⟩:=zc1 h2 hf
 cases hTf:T f with
 | none=>simp [vcall,hTf] at h
 | some mf=>
  have hc:=zc0 (xs:=xs.toList.map a.eval) hO hr (by simpa [MArgs.vals] using hl) hv h
  refine Does.enter (f:=f) (xs:=(xs.toList.map a.eval).toArray) ?_ hc
  have he:a.eval (.func f)= .func (.func f) #[] #[]:=rfl
  have:=ze3 (w:=w) (hT f mf hTf) (xs.toList.map a.eval).toArray
  have hx:xs.map a.eval=(xs.toList.map a.eval).toArray:=by cases xs;simp
  simp only [execOp,ho,resolve,he,Deferred.ofValue,Sem.run_bind,Sem.run_pure,Result.andThen_ok,invoke,Array.empty_append,Array.append_empty,hx]
  exact this
theorem ze5 (hO:OrcOk P O) (hT: ∀f mf,T f=some mf->okCall P f=true) (hr:HR I ρ w H) (hf:FR I ρ w.cell? fr a.tmps) {mx:MArg} {ms:List MArg} {o:Oper} {y:Operand} {xs:Array Operand} {ts:Array TypeId} (ho:o.op= .call ⟨.value y,xs,ts⟩) (h1:okArg mx y=true) (h2:okArgs ms xs.toList=true):Go P T O I ρ a w fr H (.callv mx ms) o:=by
 intro v H' h
 simp only [ev] at h
 split at h
 ·rename_i f cs hfn
  obtain ⟨hl,hv⟩:=zc1 h2 hf
  have hx:=arg_vr h1 hf
  rw [hfn] at hx
  obtain ⟨arr,e,hs,hg,hcv⟩:=hx.fn_inv
  have hml:(MArgs.vals fr ms).length=xs.toList.length:=by simp only [MArgs.vals,y23];exact hl.symm
  cases hTf:T f with
  | none=>simp [vcall,hTf] at h
  | some mf=>
   have hc:=zc0 (xs:=xs.toList.map a.eval++arr.toList) hO hr (by simp only [y9,y23,y43,hml,hs]) (fun i v hi=>by
    rcases y28 i (MArgs.vals fr ms).length with h | h
    ·rw [y10 h] at hi
     have:=hv i v hi
     rw [y14] at this ⊢
     rw [y10 (by simp only [y23];omega)]
     exact this
    ·rw [y18 h] at hi
     have:=hcv _ v hi
     rw [y14,y18 (by simp only [y23];omega)]
     simp only [y23,<- hml]
     simpa [y15] using this) h
   refine Does.enter (f:=f) (xs:=(xs.toList.map a.eval++arr.toList).toArray) ?_ hc
   have:=ze3 (w:=w) (hT f mf hTf) (xs.toList.map a.eval++arr.toList).toArray
   have hx:xs.map a.eval++arr=(xs.toList.map a.eval++arr.toList).toArray:=by cases xs;cases arr;simp
   simp only [execOp,ho,resolve,e,Deferred.ofValue,Sem.run_bind,Sem.run_pure,Result.andThen_ok,invoke,Array.empty_append,hx]
   exact this
 ·cases h
theorem ev_ok (hO:OrcOk P O) (hT: ∀f mf,T f=some mf->okCall P f=true) (hr:HR I ρ w H) (hf:FR I ρ w.cell? fr a.tmps) {m:MOp} {o:Oper} (hok:okOp P m o.op=true):Go P T O I ρ a w fr H m o:=by
 generalize hop:o.op=op at hok
 unfold okOp at hok
 split at hok
 ·exact go_mv hr hf (.inl hop) hok
 ·exact go_mv hr hf (.inr hop) hok
 ·simp only [y5] at hok;exact zde hr hf hop hok.1.1 hok.1.2 hok.2
 ·simp only [y5,decide_eq_true_eq] at hok;obtain ⟨⟨rfl,h1⟩,h2⟩:=hok;exact go_bin hr hf hop h1 h2
 ·simp only [y5,y39,decide_eq_true_eq] at hok
  obtain ⟨⟨⟨h0,rfl⟩,h1⟩,h2⟩:=hok
  rcases h0 with ⟨rfl,h0⟩ | h0
  ·exact go_eqb hr hf hop h0 h1 h2
  ·exact go_eqs hr hf hop h0 h1 h2
 ·simp only [y5,decide_eq_true_eq] at hok;obtain ⟨⟨rfl,h0⟩,h1⟩:=hok;exact zdf hr hf hop h0 h1
 ·simp only [y5,decide_eq_true_eq] at hok;obtain ⟨rfl,h1⟩:=hok;exact go_un hr hf hop h1
 ·simp only [y5] at hok;exact zdg hr hf hop hok.1.1 hok.1.2 hok.2
 ·simp only [y5] at hok;exact go_b2s hr hf hop hok.1 hok.2
 ·simp only [y5,beq_iff_eq] at hok;obtain ⟨h1,rfl⟩:=hok;exact go_ext hr hf hop h1
 ·simp only [y5] at hok;exact go_fld hr hf hop hok.1 hok.2
 ·exact go_bld hr hf hop hok
 ·exact zea hr hop hok
 ·exact go_box hr hf hop hok
 ·simp only [y5] at hok;exact zdj hr hf hop hok.1 hok.2
 ·simp only [y5,y39] at hok
  rcases hok.1.1 with h | h
  ·exact zec hr hf hop h hok.1.2 hok.2
  ·exact zec hr hf hop h hok.1.2 hok.2
 ·simp only [y5] at hok
  obtain ⟨h1,h2⟩:=hok
  unfold okFa at h1
  split at h1
  ·split at h1
   ·split at h1
    ·simp only [y5,y55,beq_eq_false_iff_ne] at h1
     exact zdl hr hf hop h1.1 h1.2 h2
    ·cases h1
   ·cases h1
  ·cases h1
 ·simp only [y5] at hok;exact zdm hr hf hop hok.1.1 hok.1.2 hok.2
 ·simp only [y5,y39] at hok
  rcases hok.1.1 with h | h
  ·exact zdo hr hf hop h hok.1.2 hok.2
  ·exact zdo hr hf hop h hok.1.2 hok.2
 ·simp only [y5] at hok;exact go_idx hr hf hop hok.1.1 hok.1.2 hok.2
 ·exact zdp hr hf hop hok
 ·simp only [y5,beq_iff_eq,List.isEmpty_iff] at hok
  obtain ⟨⟨rfl,h1⟩,h2⟩:=hok
  rename_i first caps'
  have:first= #[]:=by cases first;simp_all
  subst this
  exact zdq hr hf hop h2
 ·simp only [y5,beq_iff_eq] at hok;obtain ⟨⟨rfl,h1⟩,h2⟩:=hok;exact zdr hr hf hop h1 h2
 ·simp only [y5] at hok;exact go_slc hr hf hop hok.1.1.1.1 hok.1.1.1.2 hok.1.1.2 hok.1.2 hok.2
 ·simp only [y5,decide_eq_true_eq] at hok;exact go_bsl hr hf hop hok.1.1.1 hok.1.1.2 hok.1.2 hok.2
 ·simp only [y5] at hok
  obtain ⟨⟨⟨⟨h1,h2⟩,h3⟩,h4⟩,h5⟩:=hok
  split at h2
  ·rename_i e he
   exact go_msl hr hf hop he h1 h2 h3 h4 h5
  ·cases h2
 ·split at hok
  ·rename_i h1 h2
   simp only [y5] at hok
   rw [arr1 h1,arr1 h2] at hop
   exact go_len hr hf hop hok.1 hok.2
  ·cases hok
 ·split at hok
  ·rename_i h1
   simp only [y5] at hok
   rw [arr2 h1] at hop
   rw [hok.1.1]
   exact go_mm hr hf (by rw [hop];rfl) hok.1.2 hok.2
  ·rename_i h1
   simp only [y5,y55] at hok
   rw [arr2 h1] at hop
   rw [hok.1.1]
   exact go_mm hr hf (by rw [hop];rfl) hok.1.2 hok.2
  ·cases hok
 ·split at hok
  ·rename_i h1 h2
   simp only [y5] at hok
   rw [arr2 h1,arr2 h2] at hop
   exact go_app hr hf hop hok.1.1.1 hok.1.1.2 hok.1.2 hok.2
  ·cases hok
 ·split at hok
  ·rename_i h1 h2
   simp only [y5] at hok
   rw [arr1 h1,arr1 h2] at hop
   exact go_cap hr hf hop hok.1 hok.2
  ·cases hok
 ·exact zes hr hop
 ·simp only [y5] at hok;exact zet hr hf hop hok.1.1 hok.1.2 hok.2
 ·simp only [y5] at hok;exact zev hr hf hop hok.1.1.1 hok.1.1.2 hok.1.2 hok.2
 ·exact zey hr hop
 ·simp only [y5] at hok;exact ze2 hr hf hop hok.1.1 hok.1.2 hok.2
 ·simp only [y5] at hok;exact zez hr hf hop hok.1.1 hok.1.2 hok.2
 ·simp only [y5] at hok;exact ze0 hr hf hop hok.1.1.1 hok.1.1.2 hok.1.2 hok.2
 ·split at hok
  ·rename_i h1 h2
   simp only [y5] at hok
   rw [arr2 h1,arr2 h2] at hop
   exact ze1 hr hf hop hok.1.1.1 hok.1.1.2 hok.1.2 hok.2
  ·cases hok
 ·split at hok
  ·rename_i h1 h2
   rw [arr1 h1,arr1 h2] at hop
   split at hok
   ·rename_i e h3
    simp only [y5] at hok
    exact go_clr hr hf hop h3 hok.1.1.1 hok.1.1.2 hok.1.2 hok.2
   ·cases hok
  ·cases hok
 ·split at hok
  ·rename_i h1 h2
   rw [arr2 h1,arr2 h2] at hop
   split at hok
   ·rename_i e k2 h3 h4
    simp only [y5] at hok
    exact zej hr hf hop h3 hok.1.1.1.1 h4 hok.1.1.1.2 hok.1.1.2 hok.1.2 hok.2
   ·cases hok
  ·cases hok
 ·simp only [y5,beq_iff_eq] at hok;obtain ⟨rfl,h1⟩:=hok;exact ze4 hO hT hr hf hop h1
 ·simp only [y5] at hok;exact ze5 hO hT hr hf hop hok.1 hok.2
 ·exact go_nil hr (.inl hop) hok
 ·exact go_nil hr (.inr hop) hok
 ·cases hok
end
structure St (I:Addr->Prop) (ρ:Infs) (w:World) (fr:Fr) (H:Hp) (N:Nat) (a:Act):Prop where
 hr:HR I ρ w H
 fr:FR I ρ w.cell? fr a.tmps
 size:N<=a.tmps.size
 dfr:a.defers=[]
def okGuard (ops:Array Oper) (N:Nat):Option (Nat×Bool)->Option (Nat×Bool)->Bool
 | none,none=>true
 | some (g,want),some (j,want')=>want==want' && decide ((ops[j]?).bind (·.dst)=some g) && decide (g<N)
 | _,_=>false
def okDst (N:Nat):Option Nat->Option Nat->Bool
 | none,none=>true
 | some d,some d'=>d==d' && decide (d<N)
 | _,_=>false
def okO (P:Program) (ops:Array Oper) (N:Nat) (m:MO) (o:Oper):Bool:=okDst N m.dst o.dst && okGuard ops N m.guard o.guard && okOp P m.op o.op
def okOs (P:Program) (ops:Array Oper) (N:Nat):List MO->List Oper->Bool
 | [],[]=>true
 | m::l,o::k=>okO P ops N m o && okOs P ops N l k
 | _,_=>false
section
variable {I I':Addr->Prop} {ρ ρ':Infs} {P:Program} {w w':World} {H H':Hp} {a:Act} {fr:Fr} {T:Nat->Option MFun} {O:Orc} {N:Nat} {ops:Array Oper} {Q:Exit->Act->World->Prop}
theorem FR.next {h:Nat} (n:Nxt h I ρ w I' ρ' w') (hh:h=ρ.length) {tm:Array Value} (hf:FR I ρ w.cell? fr tm):FR I' ρ' w'.cell? fr tm:=fun t=>(hf t).next n hh
theorem FR.put {c:Addr->Option Value} {tm:Array Value} (hf:FR I ρ c fr tm) {d:Nat} {v:V} {u:Value} (hv:VR I ρ c v u) (hd:d<tm.size):FR I ρ c ((d,v)::fr) (tm.setIfInBounds d u):=by
 intro t
 simp only [get]
 by_cases h:t=d
 ·subst h
  rw [if_pos rfl]
  simpa [hd] using hv
 ·rw [if_neg h]
  have:=hf t
  rw [y15] at this ⊢
  rw [Array.getElem?_setIfInBounds_ne (Ne.symm h)]
  exact this
theorem St.put (st:St I ρ w fr H N a) {m:MO} {o:Oper} (hd:okDst N m.dst o.dst=true) {v:V} {u:Value} (hs:Step I ρ w H v H' u w'):
  ∃I' ρ',St I' ρ' w' (match m.dst with | some d=>(d,v)::fr | none=>fr) H' N (a.put o.dst u)/\Nxt H.length I ρ w I' ρ' w':=by
 obtain ⟨I',ρ',hv,hr,n⟩:=hs
 have hf:=st.fr.next n st.hr.len.symm
 refine ⟨I',ρ',?_,n⟩
 cases hm:m.dst with
 | none=>
  cases ho:o.dst with
  | none=>exact ⟨hr,hf,st.size,st.dfr⟩
  | some d=>simp [hm,ho,okDst] at hd
 | some d=>
  cases ho:o.dst with
  | none=>simp [hm,ho,okDst] at hd
  | some d'=>
   simp only [hm,ho,okDst,y5,beq_iff_eq,decide_eq_true_eq] at hd
   obtain ⟨rfl,hlt⟩:=hd
   exact ⟨hr,hf.put hv (y56 hlt st.size),by simpa [Act.put] using st.size,st.dfr⟩
theorem Does.wp {o:Oper} {K:Value->World->Prop} {next:Act->World->Prop} (h:Does P o a w K) (hn: ∀u w',K u w'->next (a.put o.dst u) w'):o.wp P a w next Q:=by
 unfold Does at h
 unfold Oper.wp
 generalize (execOp a.eval o).run P w=r at*
 cases r with
 | ok n w'=>
  cases n<;>simp only at h<;>try exact h.elim
  case value u=>exact hn _ _ h
  case skip=>exact hn _ _ h
  case enter f xs=>
   refine Calls.mono h fun e w'' he=>?_
   obtain ⟨u,rfl,hk⟩:=he
   exact hn _ _ hk
 | halt x w'=>exact h.elim
theorem ze6 {m:MO} {o:Oper} (hd:okDst N m.dst o.dst=true) {u:Value} {t:Nat} (ht:m.dst≠some t):(a.put o.dst u).tmps.getD t undef=a.tmps.getD t undef:=by
 cases ho:o.dst with
 | none=>rfl
 | some d'=>
  cases hm:m.dst with
  | none=>simp [hm,ho,okDst] at hd
  | some d=>
   simp only [hm,ho,okDst,y5,beq_iff_eq,decide_eq_true_eq] at hd
   obtain ⟨rfl,hlt⟩:=hd
   rw [hm] at ht
   have hne:d≠t:=fun e=>ht (by rw [e])
   simp only [Act.put]
   rw [y15,y15,Array.getElem?_setIfInBounds_ne hne]
theorem ze7 (hO:OrcOk P O) (hT: ∀f mf,T f=some mf->okCall P f=true) (st:St I ρ w fr H N a) {m:MO} {o:Oper} (hok:okO P ops N m o=true) {fr':Fr} (h:step T O fr H m=some (fr',H')) {next:Act->World->Prop}
  (hn: ∀I' ρ' a' w',St I' ρ' w' fr' H' N a'->Nxt H.length I ρ w I' ρ' w'->(∀t,m.dst≠some t->a'.tmps.getD t undef=a.tmps.getD t undef)->next a' w'):
  if Region.wanted o (yielded ops a.tmps) then o.wp P a w next Q else next (a.put o.dst undef) w:=by
 simp only [okO,y5] at hok
 obtain ⟨⟨hd,hg⟩,hop⟩:=hok
 have doit:doOp T O fr H m=some (fr',H')->o.wp P a w next Q:=by
  intro h
  simp only [doOp] at h
  cases he:ev T O fr H m.op with
  | none=>simp [he] at h
  | some p=>
   obtain ⟨v,H1⟩:=p
   simp only [he,y4,y1,y7] at h
   obtain ⟨rfl,rfl⟩:=h
   refine (ev_ok hO hT st.hr st.fr hop v H1 he).wp fun u w' hs=>?_
   obtain ⟨I',ρ',st',n⟩:=st.put hd hs
   exact hn _ _ _ _ st' n (fun t ht=>ze6 hd ht)
 have skip:some (skipOp fr m,H)=some (fr',H')->next (a.put o.dst undef) w:=by
  intro h
  simp only [y1,y7] at h
  obtain ⟨rfl,rfl⟩:=h
  obtain ⟨I',ρ',st',n⟩:=st.put (m:=m) (o:=o) hd (v:= .tup []) (u:=undef) (Step.same st.hr (.tup [] #[] rfl (fun i v h=>by simp at h)))
  exact hn _ _ _ _ st' n (fun t ht=>ze6 hd ht)
 unfold step at h
 cases hmg:m.guard with
 | none=>
  cases hog:o.guard with
  | none=>
   simp only [hmg] at h
   simp only [Region.wanted,hog,if_true]
   exact doit h
  | some q=>simp [hmg,hog,okGuard] at hg
 | some q=>
  obtain ⟨g,want⟩:=q
  cases hog:o.guard with
  | none=>simp [hmg,hog,okGuard] at hg
  | some q'=>
   obtain ⟨j,want'⟩:=q'
   simp only [hmg,hog,okGuard,y5,beq_iff_eq,decide_eq_true_eq] at hg
   obtain ⟨⟨rfl,hj⟩,hlt⟩:=hg
   simp only [hmg] at h
   have hgv:=st.fr g
   have hsz:g<a.tmps.size:=y56 hlt st.size
   have hgt:a.tmps[g]? =some (a.tmps.getD g undef):=by simp [hsz]
   split at h
   ·rename_i b hb
    rw [hb] at hgv
    have e:=hgv.of_bool
    have hy:yielded ops a.tmps j=some b:=by
     simp only [yielded,hj,y4,hgt,e]
    simp only [Region.wanted,hog,hy]
    by_cases hbw:b=want
    ·rw [if_pos hbw] at h
     rw [if_pos (by simp [hbw])]
     exact doit h
    ·rw [if_neg hbw] at h
     rw [if_neg (by simp [hbw])]
     exact skip h
   ·rename_i hb
    rw [hb] at hgv
    obtain ⟨arr,e,_⟩:=hgv.tup_inv
    have hy:yielded ops a.tmps j=none:=by
     simp only [yielded,hj,y4,hgt,e]
    simp only [Region.wanted,hog,hy]
    rw [if_neg (by simp)]
    exact skip h
   ·cases h
theorem ze8 (hO:OrcOk P O) (hT: ∀f mf,T f=some mf->okCall P f=true) (st:St I ρ w fr H N a) {m:MO} {o:Oper} (hok:okO P ops N m o=true) {fr':Fr} (h:step T O fr H m=some (fr',H')) {next:Act->World->Prop}
  (hn: ∀I' ρ' a' w',St I' ρ' w' fr' H' N a'->Nxt H.length I ρ w I' ρ' w'->next a' w'):
  if Region.wanted o (yielded ops a.tmps) then o.wp P a w next Q else next (a.put o.dst undef) w:=
 ze7 hO hT st hok h fun I' ρ' a' w' s n _=>hn I' ρ' a' w' s n
theorem Nxt.chain {h0:Nat} {I1 I2:Addr->Prop} {ρ1 ρ2:Infs} {w1 w2:World} {H1:Hp} (n1:Nxt h0 I ρ w I1 ρ1 w1) (hh:h0<=ρ.length) (hl:H1.length=ρ1.length) (n2:Nxt H1.length I1 ρ1 w1 I2 ρ2 w2):Nxt h0 I ρ w I2 ρ2 w2:=by
 have h1:h0<=ρ1.length:=by rcases n1.long with h | h<;>omega
 exact n1.trans (n2.less (by omega) (by omega)) hh
theorem ze9 (hO:OrcOk P O) (hT: ∀f mf,T f=some mf->okCall P f=true): ∀(l:List MO) (os:List Oper) {I:Addr->Prop} {ρ:Infs} {w:World} {a:Act} {fr:Fr} {H:Hp} (st:St I ρ w fr H N a) (hok:okOs P ops N l os=true) {fr':Fr} {H':Hp} (h:steps T O fr H l=some (fr',H')) {Q:Exit->Act->World->Prop}
  (hn: ∀I' ρ' a' w',St I' ρ' w' fr' H' N a'->Nxt H.length I ρ w I' ρ' w'->Q .normal a' w'),wpList P ops Q os a w
 | [],[],I,ρ,w,a,fr,H,st,hok,fr',H',h,Q,hn=>by
  simp only [steps,y1,y7] at h
  obtain ⟨rfl,rfl⟩:=h
  exact hn _ _ _ _ st (Nxt.refl _ _ _ _ (by rw [st.hr.len];exact y13 _))
 | [],_::_,I,ρ,w,a,fr,H,st,hok,fr',H',h,Q,hn=>by simp [okOs] at hok
 | _::_,[],I,ρ,w,a,fr,H,st,hok,fr',H',h,Q,hn=>by simp [okOs] at hok
 | m::l,o::os,I,ρ,w,a,fr,H,st,hok,fr',H',h,Q,hn=>by
  simp only [okOs,y5] at hok
  simp only [steps] at h
  cases h1:step T O fr H m with
  | none=>simp [h1] at h
  | some p=>
   obtain ⟨fr1,H1⟩:=p
   simp only [h1,y4] at h
   refine wpList_step fun K hK=>?_
   refine ze8 hO hT st hok.1 h1 fun I1 ρ1 a1 w1 st1 n1=>hK _ _ ?_
   exact ze9 hO hT l os st1 hok.2 h fun I2 ρ2 a2 w2 st2 n2=>hn _ _ _ _ st2 (n1.chain (by rw [st.hr.len];exact y13 _) st1.hr.len.symm n2)
end
section
variable {I I':Addr->Prop} {ρ ρ':Infs} {P:Program} {w w':World} {H H':Hp} {a:Act} {fr:Fr} {N:Nat} {h0:Nat} {ord:List Nat}
theorem zfa {v:V} {i:Nat} (h:i∈ids1 h0 v):h0<=i:=by
  have one: ∀{v:V},i∈idC h0 v->h0<=i:=by
    intro v hv
    unfold idC at hv
    split at hv
    · split at hv
      · simp at hv;omega
      · simp at hv
    · split at hv
      · simp at hv;omega
      · simp at hv
    · simp at hv
  have cap: ∀{cs:List V},i∈cs.flatMap (idC h0)->h0<=i:=fun h=>by
    obtain ⟨v,_,hv⟩:=List.mem_flatMap.1 h;exact one hv
  have caf: ∀{cs:List V},i∈cs.flatMap (idF h0)->h0<=i:=fun h=>by
    obtain ⟨v,_,hv⟩:=List.mem_flatMap.1 h
    unfold idF at hv
    split at hv
    · exact cap hv
    · exact one hv
  cases v<;>simp only [ids1] at h<;>first
    | exact cap h
    | exact caf h
    | (split at h
       · simp at h;omega
       · simp at h)
    | simp at h
def Okord (h0:Nat) (ord:List Nat):Prop:=ord.Nodup/\ ∀i∈ord,h0<=i
theorem zfb: ∀(l:List Nat) (seen:List Nat),Okord h0 seen->(∀i∈l,h0<=i)->Okord h0 (addNew seen l)
 | [],seen,h,_=>h
 | i::l,seen,h,hl=>by
  simp only [addNew]
  split
  ·exact zfb l seen h fun j hj=>hl j (y34 _ hj)
  ·rename_i hn
   refine zfb l _ ⟨?_,fun j hj=>?_⟩ fun j hj=>hl j (y34 _ hj)
   ·rw [List.nodup_append]
    exact ⟨h.1,by simp,fun x hx y hy e=>by simp at hy;subst hy;subst e;exact hn hx⟩
   ·rcases List.mem_append.1 hj with h1 | h1
    ·exact h.2 j h1
    ·simp at h1;subst h1;exact hl _ y30
theorem zfc {b:Blk} {i:Nat} (h:i∈idsB h0 b):h0<=i:=by
 cases b with
 | box cs=>obtain ⟨v,_,hv⟩:=List.mem_flatMap.1 h;exact zfa hv
 | row _ _ _ _ _=>simp [idsB] at h
 | dead=>simp [idsB] at h
 | map m=>simp [idsB] at h
 | dsk d=>simp [idsB] at h
 | pmap m=>obtain ⟨v,_,hv⟩:=List.mem_flatMap.1 h;exact zfa hv
theorem zfd: ∀(n:Nat) (seen:List Nat),Okord h0 seen->Okord h0 (reach h0 H n seen)
 | 0,seen,h=>h
 | n+1,seen,h=>by
  simp only [reach]
  split
  ·exact h
  ·refine zfd n _ (zfb _ _ h fun i hi=>?_)
   obtain ⟨j,_,hj⟩:=List.mem_flatMap.1 hi
   split at hj
   ·exact zfc hj
   ·simp at hj
theorem zfe: ∀{ord:List Nat} {i k:Nat},pos i ord=some k->ord[k]? =some i
 | [],i,k,h=>by simp [pos] at h
 | j::l,i,k,h=>by
  simp only [pos] at h
  split at h
  ·rename_i e;simp only [y1] at h;subst h;subst e;rfl
  ·cases hp:pos i l with
   | none=>simp [hp] at h
   | some q=>simp only [hp,y37,y1] at h;subst h;simpa using zfe hp
def adj (b:Blk) (i:Option Inf) (reset:Bool):Option Inf:=match b with
 | .dead=>none
 | _=>if reset=true then (match i with
  | some (.row B K sz v L)=>some (.row B K sz 0 L)
  | some (.nrow sz v)=>some (.nrow sz 0)
  | i=>i) else i
theorem zff {b:Blk} {i:Option Inf} {reset:Bool} {inf:Inf} (h:adj b i reset=some inf): ∃inf0,i=some inf0/\inf.has=inf0.has:=by
 unfold adj at h
 split at h
 ·cases h
 ·split at h
  ·split at h<;>try simp only [y1,reduceCtorEq] at h
   ·subst h;exact ⟨_,rfl,rfl⟩
   ·subst h;exact ⟨_,rfl,rfl⟩
   ·exact ⟨inf,h,rfl⟩
  ·exact ⟨inf,h,rfl⟩
def newI (h0:Nat) (ord:List Nat) (H:Hp) (ρ:Infs):Infs:=
 (List.range h0).map (fun i=>adj (renB h0 ord H false (H.getD i .dead)) (ρ.getD i none) false)++ord.map fun i=>adj (renB h0 ord H true (H.getD i .dead)) (ρ.getD i none) true
def newH (h0:Nat) (ord:List Nat) (H:Hp):Hp:=(H.take h0).map (renB h0 ord H false)++ord.map fun i=>renB h0 ord H true (H.getD i .dead)
theorem zfg {i:Nat} (h:i<h0):(newI h0 ord H ρ)[i]? =some (adj (renB h0 ord H false (H.getD i .dead)) (ρ.getD i none) false):=by
 unfold newI
 rw [y10 (by simpa using h)]
 simp [h]
theorem zfh {k i:Nat} (h:ord[k]? =some i):(newI h0 ord H ρ)[h0+k]? =some (adj (renB h0 ord H true (H.getD i .dead)) (ρ.getD i none) true):=by
 unfold newI
 rw [y18 (by simp)]
 simp [h]
theorem zfi {i j:Nat} (h:place h0 ord i=some j): ∃r,(newI h0 ord H ρ)[j]? =some (adj (renB h0 ord H r (H.getD i .dead)) (ρ.getD i none) r)/\(r=false->i<h0):=by
 unfold place at h
 split at h
 ·rename_i hi;simp only [y1] at h;subst h;exact ⟨false,zfg hi,fun _=>hi⟩
 ·cases hp:pos i ord with
  | none=>simp [hp] at h
  | some k=>simp only [hp,y37,y1] at h;subst h;exact ⟨true,zfh (zfe hp),fun h=>by cases h⟩
section
variable {c:Addr->Option Value}
theorem zfj {id off j:Nat} {x:Value} (h:place h0 ord id=some j) (hv:VR I ρ c (.ptr id off) x):VR I (newI h0 ord H ρ) c (.ptr j off) x:=by
 cases hv with
 | ptr id off x hi ho hp=>
  obtain ⟨r,h1,h2⟩:=zfi (H:=H) (ρ:=ρ) h
  refine .ptr j off x (z7 h1) ho fun inf hinf=>?_
  rw [h1] at hinf
  simp only [y1] at hinf
  have hρ:ρ[id]? =some (ρ.getD id none):=by simp [hi]
  unfold adj at hinf
  split at hinf
  ·cases hinf
  ·split at hinf
   ·split at hinf<;>try simp only [y1,reduceCtorEq] at hinf
    ·rename_i e;obtain ⟨B,q,_⟩:=hp _ (by rw [hρ,e]);cases q
    ·rename_i e;obtain ⟨B,q,_⟩:=hp _ (by rw [hρ,e]);cases q
    ·exact hp _ (by rw [hρ,hinf])
   ·exact hp _ (by rw [hρ,hinf])
theorem ren_mp {id j:Nat} {x:Value} (h:place h0 ord id=some j) (hv:VR I ρ c (.mp id) x):VR I (newI h0 ord H ρ) c (.mp j) x:=by
 cases hv with
 | mp id x hi ho hp=>
  obtain ⟨r,h1,h2⟩:=zfi (H:=H) (ρ:=ρ) h
  refine .mp j x (z7 h1) ho fun inf hinf=>?_
  rw [h1] at hinf
  simp only [y1] at hinf
  have hρ:ρ[id]? =some (ρ.getD id none):=by simp [hi]
  unfold adj at hinf
  split at hinf
  ·cases hinf
  ·split at hinf
   ·split at hinf<;>try simp only [y1,reduceCtorEq] at hinf
    ·rename_i e;obtain ⟨B,q,_⟩:=hp _ (by rw [hρ,e]);cases q
    ·rename_i e;obtain ⟨B,q,_⟩:=hp _ (by rw [hρ,e]);cases q
    ·exact hp _ (by rw [hρ,hinf])
   ·exact hp _ (by rw [hρ,hinf])
theorem ren_dp {id j:Nat} {x:Value} (h:place h0 ord id=some j) (hv:VR I ρ c (.dp id) x):VR I (newI h0 ord H ρ) c (.dp j) x:=by
 cases hv with
 | dp id x hi ho hp=>
  obtain ⟨r,h1,h2⟩:=zfi (H:=H) (ρ:=ρ) h
  refine .dp j x (z7 h1) ho fun inf hinf=>?_
  rw [h1] at hinf
  simp only [y1] at hinf
  have hρ:ρ[id]? =some (ρ.getD id none):=by simp [hi]
  unfold adj at hinf
  split at hinf
  ·cases hinf
  ·split at hinf
   ·split at hinf<;>try simp only [y1,reduceCtorEq] at hinf
    ·rename_i e;obtain ⟨_,_,q,_⟩:=hp _ (by rw [hρ,e]);cases q
    ·rename_i e;obtain ⟨_,_,q,_⟩:=hp _ (by rw [hρ,e]);cases q
    ·exact hp _ (by rw [hρ,hinf])
   ·exact hp _ (by rw [hρ,hinf])
theorem zfk {v:V} {x:Value} (hv:VR I ρ c v x):VR I (newI h0 ord H ρ) c (renC h0 ord v) x:=by
 cases v<;>(try simp only [renC])<;>try exact .junk x
 case ptr id off=>
  split
  ·rename_i j hj;exact zfj hj hv
  ·exact .junk x
 case mp id=>
  split
  ·rename_i j hj;exact ren_mp hj hv
  ·exact .junk x
 case dp id=>
  split
  ·rename_i j hj;exact ren_dp hj hv
  ·exact .junk x
 case int=>exact hv.deep rfl _
 case bool=>exact hv.deep rfl _
 case str=>exact hv.deep rfl _
 case sl=>exact hv.deep rfl _
 case nili=>exact hv.deep rfl _
 case nilp=>cases hv;exact .nilp
 case nilf=>cases hv;exact .nilf
 case any=>cases hv;exact .any _ (by assumption)
theorem zfl {v:V} {x:Value} (hv:VR I ρ c v x):VR I (newI h0 ord H ρ) c (renF h0 ord v) x:=by
 by_cases hf: ∃f cs,v= .fn f cs
 ·obtain ⟨f,cs,rfl⟩:=hf
  simp only [renF]
  split
  ·rename_i hg
   obtain ⟨arr,rfl,h1,h2,h3⟩:=hv.fn_inv
   refine .fn f _ arr (by simpa using h1) hg fun i v hi=>?_
   rw [y40] at hi
   cases hc:cs[i]? with
   | none=>simp [hc] at hi
   | some u=>simp only [hc,y37,y1] at hi;subst hi;exact zfk (h3 i u hc)
  ·exact .junk _
 ·have:renF h0 ord v=renC h0 ord v:=by cases v<;>first | rfl | exact absurd ⟨_,_,rfl⟩ hf
  rw [this];exact zfk hv
theorem zfm (hr:HR I ρ w H) {id ver:Nat} {r:Bool×Nat×List V×Bool} (h:row? H id ver=some r): ∃inf,ρ[id]? =some (some inf)/\((∃sz,inf= .nrow sz ver)\/ ∃B K sz L,inf= .row B K sz ver L):=by
 rcases hr.row h with ⟨h1,h2,h3⟩ | ⟨h1,B,K,h2,h3⟩
 ·exact ⟨_,h3, .inl ⟨_,rfl⟩⟩
 ·exact ⟨_,h2, .inr ⟨_,_,_,_,rfl⟩⟩
theorem zfn {id ver j:Nat} {r:Bool×Nat×List V×Bool} (hr:HR I ρ w H) (h:row? H id ver=some r) (hid: ¬id<h0) (hj:place h0 ord id=some j):
  (∃sz,ρ[id]? =some (some (.nrow sz ver))/\(newI h0 ord H ρ)[j]? =some (some (.nrow sz 0)))\/ ∃B K sz L,ρ[id]? =some (some (.row B K sz ver L))/\(newI h0 ord H ρ)[j]? =some (some (.row B K sz 0 L)):=by
 obtain ⟨inf,h1,h2⟩:=zfm hr h
 obtain ⟨q,h3,h4⟩:=zfi (H:=H) (ρ:=ρ) hj
 have hq:q=true:=by
  cases q with
  | true=>rfl
  | false=>exact absurd (h4 rfl) hid
 subst hq
 have hb:=z6 h
 have hg:H.getD id .dead= .row ver r.1 r.2.1 r.2.2.1 r.2.2.2:=by rw [y14,hb];rfl
 have hgρ:ρ.getD id none=some inf:=by rw [y14,h1];rfl
 rw [hg,hgρ] at h3
 simp only [renB,adj,if_true] at h3
 rcases h2 with ⟨sz,rfl⟩ | ⟨B,K,sz,L,rfl⟩
 ·exact .inl ⟨sz,h1,h3⟩
 ·exact .inr ⟨B,K,sz,L,h1,h3⟩
theorem zfo {id:Nat} (hid:id<h0) (hi:id<ρ.length) {inf:Inf} (h:(newI h0 ord H ρ)[id]? =some (some inf)):ρ[id]? =some (some inf):=by
 rw [zfg hid] at h
 simp only [y1] at h
 have hρ:ρ[id]? =some (ρ.getD id none):=by simp [hi]
 unfold adj at h
 split at h
 ·cases h
 ·simp only [y17,if_false] at h
  rw [hρ,h]
theorem zfp (hr:HR I ρ w H) {v:V} {x:Value} (hv:VR I ρ w.cell? v x):VR I (newI h0 ord H ρ) w.cell? (ren1 h0 ord H v) x:=by
 cases v<;>(try simp only [ren1])<;>try exact zfk hv
 case vw id ver off len md=>
  cases hv with
  | vw id ver off len md x hi ho hp=>
   split
   ·rename_i hid
    refine .vw _ _ _ _ _ _ (z7 (zfg hid)) ho fun inf hinf=>hp inf (zfo hid hi hinf)
   ·rename_i hid
    split
    ·rename_i r j hrow hj
     rcases zfn hr hrow hid hj with ⟨sz,h1,h2⟩ | ⟨B,K,sz,L,h1,h2⟩
     ·refine .vw _ _ _ _ _ _ (z7 h2) ho fun inf hinf=>?_
      rw [h2] at hinf
      simp only [y1] at hinf;subst hinf
      have:=(hp _ h1).2 rfl
      exact ⟨y13 _,fun _=>this⟩
     ·refine .vw _ _ _ _ _ _ (z7 h2) ho fun inf hinf=>?_
      rw [h2] at hinf
      simp only [y1] at hinf;subst hinf
      have:=(hp _ h1).2 rfl
      exact ⟨y13 _,fun _=>this⟩
    ·exact .junk _
 case ep id ver i k=>
  cases hv with
  | ep id ver i k x hi ho hp=>
   split
   ·rename_i hid
    refine .ep _ _ _ _ _ (z7 (zfg hid)) ho fun inf hinf=>hp inf (zfo hid hi hinf)
   ·rename_i hid
    split
    ·rename_i r j hrow hj
     rcases zfn hr hrow hid hj with ⟨sz,h1,h2⟩ | ⟨B,K,sz,L,h1,h2⟩
     ·exact absurd (hp _ h1) (by simp [epOk])
     ·refine .ep _ _ _ _ _ (z7 h2) ho fun inf hinf=>?_
      rw [h2] at hinf
      simp only [y1] at hinf;subst hinf
      have:=(hp _ h1).2 rfl
      exact ⟨y13 _,fun _=>this⟩
    ·exact .junk _
 case fn f cs=>
  split
  ·rename_i hg
   obtain ⟨arr,rfl,h1,h2,h3⟩:=hv.fn_inv
   refine .fn f _ arr (by simpa using h1) hg fun i v hi=>?_
   rw [y40] at hi
   cases hc:cs[i]? with
   | none=>simp [hc] at hi
   | some u=>simp only [hc,y37,y1] at hi;subst hi;exact zfk (h3 i u hc)
  ·exact .junk _
 case psl cs=>
  split
  ·rename_i hg
   cases hv with
   | psl xs ad cp vals h1 hg' hcell hv=>
    have:=VR.psl (I:=I) (ρ:=newI h0 ord H ρ) (c:=w.cell?) (cs.map (renF h0 ord)) ad cp vals (by simpa using h1) hg (fun i v hi=>by
     rw [y40] at hi
     cases hc:cs[i]? with
     | none=>simp [hc] at hi
     | some u=>exact hcell i u hc) (fun i v hi=>by
     rw [y40] at hi
     cases hc:cs[i]? with
     | none=>simp [hc] at hi
     | some u=>simp only [hc,y37,y1] at hi;subst hi;exact zfl (hv i u hc))
    simpa using this
  ·exact .junk _
theorem ren_vr (hr:HR I ρ w H) {v:V} {x:Value} (hv:VR I ρ w.cell? v x):VR I (newI h0 ord H ρ) w.cell? (ren h0 ord H v) x:=by
 by_cases ha: ∃cs,v= .agg cs
 ·obtain ⟨cs,rfl⟩:=ha
  simp only [ren]
  split
  ·rename_i hg
   obtain ⟨arr,rfl,h1,h2,h3⟩:=hv.agg_inv
   refine .agg _ arr (by simpa using h1) hg fun i v hi=>?_
   rw [y40] at hi
   cases hc:cs[i]? with
   | none=>simp [hc] at hi
   | some u=>simp only [hc,y37,y1] at hi;subst hi;exact zfp hr (h3 i u hc)
  ·exact .junk _
 ·have:ren h0 ord H v=ren1 h0 ord H v:=by cases v<;>first | rfl | exact absurd ⟨_,rfl⟩ ha
  rw [this];exact zfp hr hv
end
theorem zfq (hr:HR I ρ w H) {b:Blk} {i:Option Inf} (r:Bool) (h:BlkOk I ρ w b i):BlkOk I (newI h0 ord H ρ) w (renB h0 ord H r b) (adj (renB h0 ord H r b) i r):=by
 cases b with
 | dead=>rfl
 | map m=>
  obtain ⟨B,rfl,h1,h5⟩:=h
  exact ⟨B,by cases r<;>rfl,h1,h5⟩
 | dsk d=>
  obtain ⟨B,D,rfl,h1,h5⟩:=h
  exact ⟨B,D,by cases r<;>rfl,h1,h5⟩
 | pmap m=>
  obtain ⟨B,rfl,⟨es,ck,h1,h2,h3⟩,h5⟩:=h
  simp only [renB]
  split
  ·rename_i hg
   refine ⟨B,by cases r<;>rfl,⟨es,ck,h1,by simpa using h2,fun i k v hi=>?_⟩,h5⟩
   rw [y40] at hi
   cases hc:m[i]? with
   | none=>simp [hc] at hi
   | some p=>
    simp only [hc,y37,y1,y7] at hi
    obtain ⟨rfl,rfl⟩:=hi
    obtain ⟨q1,q2,b,x,q3,q4⟩:=h3 i p.1 p.2 hc
    exact ⟨q1,zi hg (i:=i) (by rw [y40,hc];rfl),b,x,q3,zfp hr q4⟩
  ·rfl
 | box cs=>
  obtain ⟨B,rfl,⟨arr,h1,h2,h3,h4⟩,h5⟩:=h
  simp only [renB]
  split
  ·rename_i hg
   refine ⟨B,by cases r<;>rfl,⟨arr,h1,by simpa using h2,hg,fun j lf hj=>?_⟩,h5⟩
   rw [y40] at hj
   cases hc:cs[j]? with
   | none=>simp [hc] at hj
   | some u=>simp only [hc,y37,y1] at hj;subst hj;exact zfp hr (h4 j u hc)
  ·rfl
 | row ver z sz xs x=>
  simp only [renB]
  rcases h with ⟨h1,h2,h3⟩ | ⟨h1,B,K,h2,h3⟩
  ·subst h3
   cases r
   ·exact .inl ⟨h1,h2,rfl⟩
   ·exact .inl ⟨h1,h2,rfl⟩
  ·subst h2
   cases r
   ·exact .inr ⟨h1,B,K,rfl,h3⟩
   ·exact .inr ⟨h1,B,K,rfl,h3⟩
theorem zfr:(newI h0 ord H ρ).length=h0+ord.length:=by simp [newI]
theorem zfs (ho:Okord h0 ord) {k:Nat} {inf:Inf} (h:(newI h0 ord H ρ)[k]? =some (some inf)): ∃i inf0,ρ[i]? =some (some inf0)/\inf.has=inf0.has/\((k<h0/\i=k)\/(h0<=k/\ord[k - h0]? =some i)):=by
 have hlt:=z7 h
 rw [zfr] at hlt
 rcases y28 k h0 with hk | hk
 ·rw [zfg hk] at h
  simp only [y1] at h
  obtain ⟨inf0,h1,h2⟩:=zff h
  refine ⟨k,inf0,?_,h2, .inl ⟨hk,rfl⟩⟩
  rw [y14] at h1
  cases hq:ρ[k]? with
  | none=>simp [hq] at h1
  | some q=>simp only [hq,y44] at h1;rw [h1]
 ·have ho':ord[k - h0]? =some ord[k - h0]:=y6 (by omega)
  have hk':k=h0+(k - h0):=by omega
  rw [hk',zfh ho'] at h
  simp only [y1] at h
  obtain ⟨inf0,h1,h2⟩:=zff h
  refine ⟨_,inf0,?_,h2, .inr ⟨hk,ho'⟩⟩
  rw [y14] at h1
  cases hq:ρ[ord[k - h0]]? with
  | none=>simp [hq] at h1
  | some q=>simp only [hq,y44] at h1;rw [h1]
theorem newHR (hr:HR I ρ w H) (ho:Okord h0 ord) (hh:h0<=H.length):HR I (newI h0 ord H ρ) w (newH h0 ord H) where
 len:=by rw [zfr];simp [newH];omega
 cells:=hr.cells
 blk:=fun id b i hb hi=>by
  have hlt:=z7 hi
  rw [zfr] at hlt
  rcases y28 id h0 with hk | hk
  ·rw [zfg hk] at hi
   simp only [y1] at hi;subst hi
   unfold newH at hb
   rw [y10 (by simp;omega)] at hb
   have hH:H[id]? =some (H.getD id .dead):=by simp [show id<H.length by omega]
   have hR:ρ[id]? =some (ρ.getD id none):=by simp [show id<ρ.length by rw [hr.len];omega]
   simp only [y40,y46,if_pos hk,hH,y37,y1] at hb
   subst hb
   exact zfq hr false (hr.blk id _ _ hH hR)
  ·have ho':ord[id - h0]? =some ord[id - h0]:=y6 (by omega)
   have hk':id=h0+(id - h0):=by omega
   rw [hk',zfh ho'] at hi
   simp only [y1] at hi;subst hi
   unfold newH at hb
   rw [y18 (by simp;omega)] at hb
   have e:id - (List.map (renB h0 ord H false) (List.take h0 H)).length=id - h0:=by simp;omega
   rw [e,y40,ho'] at hb
   simp only [y37,y1] at hb;subst hb
   rcases y28 ord[id - h0] H.length with hl | hl
   ·have hH:H[ord[id - h0]]? =some (H.getD ord[id - h0] .dead):=by simp [hl]
    have hR:ρ[ord[id - h0]]? =some (ρ.getD ord[id - h0] none):=by simp [show ord[id - h0]<ρ.length by rw [hr.len];omega]
    exact zfq hr true (hr.blk _ _ _ hH hR)
   ·have:H.getD ord[id - h0] .dead= .dead:=by rw [y14,y48 hl];rfl
    rw [this]
    exact rfl
 apart:=fun i j x y B hx hy hbx hby=>by
  obtain ⟨i',x0,h1,h2,h3⟩:=zfs ho hx
  obtain ⟨j',y0,g1,g2,g3⟩:=zfs ho hy
  have e:=hr.apart i' j' x0 y0 B h1 g1 (by rw [<- h2];exact hbx) (by rw [<- g2];exact hby)
  subst e
  rcases h3 with ⟨h3,h4⟩ | ⟨h3,h4⟩<;>rcases g3 with ⟨g3,g4⟩ | ⟨g3,g4⟩
  ·omega
  ·have:=ho.2 i' (y52 g4);omega
  ·have:=ho.2 i' (y52 h4);omega
  ·have hi:=z7 h4
   have hj:=z7 g4
   have:=(List.getElem?_inj hi ho.1).1 (h4.trans g4.symm)
   omega
theorem newNxt (hr:HR I ρ w H) (ho:Okord h0 ord) (hh:h0<=H.length):Nxt h0 I ρ w I (newI h0 ord H ρ) w where
 sub:=fun _ h=>h
 new:=fun _ h=> .inl h
 grow:=Grow.refl _ _ _
 live:=fun B ⟨k,inf,h1,h2⟩=>by
  obtain ⟨i,inf0,g1,g2,_⟩:=zfs ho h1
  exact .inl ⟨i,inf0,g1,by rw [<- g2];exact h2⟩
 ids:=fun id hid=>by
  rw [zfg hid]
  have hR:ρ[id]? =some (ρ.getD id none):=by simp [show id<ρ.length by rw [hr.len];omega]
  rw [hR]
  unfold adj
  split
  ·generalize ρ.getD id none=q
   match q with
   | none=>rfl
   | some (.box B)=>exact .inl rfl
   | some (.dsk B D)=>exact .inl rfl
   | some (.row B K sz v L)=>exact .inl rfl
   | some (.nrow sz v)=>exact .inl rfl
  ·simp only [y17,if_false]
   exact Pers.refl _
 long:= .inl (by rw [zfr];omega)
theorem zft {f:V->V}: ∀(live:List Nat) (fr:Fr) (t:Nat),get t ((live.map fun t=>(t,get t fr)).map fun p=>(p.1,f p.2))= .junk\/get t ((live.map fun t=>(t,get t fr)).map fun p=>(p.1,f p.2))=f (get t fr)
 | [],fr,t=> .inl rfl
 | d::l,fr,t=>by
  simp only [y32,get]
  by_cases h:t=d
  ·subst h;rw [if_pos rfl];exact .inr rfl
  ·rw [if_neg h];exact zft l fr t
theorem zfu (st:St I ρ w fr H N a) (hh:h0<=H.length) (live:List Nat): ∃ρ',St I ρ' w (canon h0 live fr H).1 (canon h0 live fr H).2 N a/\Nxt h0 I ρ w I ρ' w:=by
 have ho:Okord h0 (reach h0 H H.length (addNew [] ((live.map fun t=>(t,get t fr)).flatMap (fun p=>idsV h0 p.2)++(H.take h0).flatMap (idsB h0)))):=by
  refine zfd _ _ (zfb _ _ ⟨by simp,by simp⟩ fun i hi=>?_)
  rcases List.mem_append.1 hi with h | h
  ·obtain ⟨p,_,hp⟩:=List.mem_flatMap.1 h
   obtain ⟨v,_,hv⟩:=List.mem_flatMap.1 hp
   exact zfa hv
  ·obtain ⟨b,_,hb⟩:=List.mem_flatMap.1 h
   exact zfc hb
 refine ⟨_,⟨newHR st.hr ho hh,fun t=>?_,st.size,st.dfr⟩,newNxt st.hr ho hh⟩
 unfold canon
 rcases zft (f:=ren h0 (reach h0 H H.length (addNew [] ((live.map fun t=>(t,get t fr)).flatMap (fun p=>idsV h0 p.2)++(H.take h0).flatMap (idsB h0)))) H) live fr t with h | h
 ·rw [h];exact .junk _
 ·rw [h];exact ren_vr st.hr (st.fr t)
end
def exOf:Ex->Exit
 | .norm=> .normal
 | .exit id=> .exit id
 | .ret=> .ret
structure DrawOk (P:Program) (T:Nat->Option MFun) (N:Nat) where
 ok:List MO->List (Nat×Nat)->Array Oper->Bool
 run: ∀{O:Orc} {l:List MO} {chk:List (Nat×Nat)} {ops:Array Oper},OrcOk P O->ok l chk ops=true-> ∀{I:Addr->Prop} {ρ:Infs} {w:World} {fr:Fr} {H:Hp} {a:Act} {fr':Fr} {H':Hp} {id:Nat} {Q:Exit->Act->World->Prop},
  St I ρ w fr H N a->stepsD T O fr H l chk=some (fr',H')->(∀I' ρ' a' w',St I' ρ' w' fr' H' N a'->Nxt H.length I ρ w I' ρ' w'->Q .normal a' w')->(Code.region id ops true).wp P Q a w
def okMC (P:Program) (D:List MO->List (Nat×Nat)->Array Oper->Bool) (N:Nat):MC->Code->Bool
 | .fail,_=>true
 | .skip, .skip=>true
 | .reg l, .region _ ops false=>okOs P ops N l ops.toList
 | .dreg l chk, .region _ ops true=>D l chk ops
 | .seq x y, .seq x' y'=>okMC P D N x x' && okMC P D N y y'
 | .cond c x y, .cond c' x' y'=>okArg c c' && okMC P D N x x' && okMC P D N y y'
 | .blk id x, .block id' x'=>id==id' && okMC P D N x x'
 | .exit id, .exit id'=>id==id'
 | .loop _ x, .loop x'=>okMC P D N x x'
 | .ret, .ret=>true
 | _,_=>false
section
variable {P:Program} {T:Nat->Option MFun} {O:Orc} {N:Nat} {Q:Exit->Act->World->Prop}
def FromLoop (P:Program) (c:Code) (Q:Exit->Act->World->Prop) (a:Act) (w:World):Prop:=
 ∀(b:Frame) (k:List Item) (cs:List Frame),∃e a' w',Q e a' w'/\Arrives P (lone (b.at a (.code c:: .inLoop c::k)) cs w) b k cs e a' w'
theorem zfv {c:Code} {a:Act} {w:World} (h:FromLoop P c Q a w):(Code.loop c).wp P Q a w:=fun b k cs=>
 let ⟨e,a',w',hq,harr⟩:=h b k cs
 ⟨e,a',w',hq, .of_steps (.one step_loop) harr⟩
theorem zfw {c:Code} {a:Act} {w:World} (h:c.wp P (fun e a w=>match e with | .normal=>FromLoop P c Q a w | e=>Q e a w) a w):FromLoop P c Q a w:=by
 intro b k cs
 obtain ⟨e,a₁,w₁,hq,harr⟩:=h b (.inLoop c::k) cs
 cases e with
 | normal=>
  obtain ⟨e₂,a₂,w₂,hq₂,harr₂⟩:=hq b k cs
  exact ⟨e₂,a₂,w₂,hq₂, .of_steps (Steps.trans harr (.one step_inLoop)) harr₂⟩
 | exit id=>exact ⟨_,a₁,w₁,hq, .pass (x:= .inLoop c) rfl (fun _ _=> .inl (by simp)) harr⟩
 | goto l=>exact ⟨_,a₁,w₁,hq, .pass (x:= .inLoop c) rfl (fun _ _=> .inl (by simp)) harr⟩
 | ret=>exact ⟨_,a₁,w₁,hq, .pass (x:= .inLoop c) rfl (fun _ _=> .inl (by simp)) harr⟩
 | panic ch=>exact ⟨_,a₁,w₁,hq, .pass (x:= .inLoop c) rfl (fun _ _=> .inl (by simp)) harr⟩
 | outgrown=>exact ⟨_,a₁,w₁,hq, .pass (x:= .inLoop c) rfl (fun _ _=> .inl (by simp)) harr⟩
def Runs (P:Program) (N h0:Nat) (c:Code) (fr:Fr) (H:Hp) (e:Ex) (fr':Fr) (H':Hp):Prop:=
 ∀{I:Addr->Prop} {ρ:Infs} {w:World} {a:Act} {Q:Exit->Act->World->Prop},St I ρ w fr H N a->(∀I' ρ' a' w',St I' ρ' w' fr' H' N a'->Nxt h0 I ρ w I' ρ' w'->Q (exOf e) a' w')->c.wp P Q a w
theorem Nxt.chain0 {h0:Nat} {I I1 I2:Addr->Prop} {ρ ρ1 ρ2:Infs} {w w1 w2:World} (n1:Nxt h0 I ρ w I1 ρ1 w1) (hh:h0<=ρ.length) (n2:Nxt h0 I1 ρ1 w1 I2 ρ2 w2):Nxt h0 I ρ w I2 ρ2 w2:=n1.trans n2 hh
theorem zfx {h0:Nat} {live:List Nat} {body:Fr->Hp->Option (Ex×Fr×Hp)} {c:Code} (hb: ∀fr H e fr' H',h0<=H.length->body fr H=some (e,fr',H')->Runs P N h0 c fr H e fr' H'):
  ∀(n:Nat) (fr:Fr) (H:Hp) (e:Ex) (fr':Fr) (H':Hp),iter h0 live body n fr H=some (e,fr',H')->h0<=H.length->
   ∀{I:Addr->Prop} {ρ:Infs} {w:World} {a:Act} {Q:Exit->Act->World->Prop},St I ρ w fr H N a->(∀I' ρ' a' w',St I' ρ' w' fr' H' N a'->Nxt h0 I ρ w I' ρ' w'->Q (exOf e) a' w')->FromLoop P c Q a w
 | 0,fr,H,e,fr',H',h,hh,I,ρ,w,a,Q,st,hq=>by simp [iter] at h
 | n+1,fr,H,e,fr',H',h,hh,I,ρ,w,a,Q,st,hq=>by
  simp only [iter] at h
  obtain ⟨ρ1,st1,n1⟩:=zfu st hh live
  have hh0:h0<=ρ.length:=by rw [st.hr.len];exact hh
  have hl1:h0<=ρ1.length:=by rcases n1.long with h | h<;>omega
  cases hbd:body (canon h0 live fr H).1 (canon h0 live fr H).2 with
  | none=>simp [hbd] at h
  | some p=>
   obtain ⟨e1,fr1,H1⟩:=p
   simp only [hbd,y4] at h
   refine zfw (hb _ _ _ _ _ (by rw [<- st1.hr.len];exact hl1) hbd st1 fun I2 ρ2 a2 w2 st2 n2=>?_)
   have n12:=n1.chain0 hh0 n2
   have hl2:h0<=ρ2.length:=by rcases n12.long with h | h<;>omega
   cases e1 with
   | norm=>
    simp only at h
    exact zfx hb n fr1 H1 e fr' H' h (by rw [<- st2.hr.len];exact hl2) st2 fun I3 ρ3 a3 w3 st3 n3=>hq _ _ _ _ st3 (n12.chain0 hh0 n3)
   | exit id=>
    simp only [y1,y7] at h
    obtain ⟨rfl,rfl,rfl⟩:=h
    exact hq _ _ _ _ st2 n12
   | ret=>
    simp only [y1,y7] at h
    obtain ⟨rfl,rfl,rfl⟩:=h
    exact hq _ _ _ _ st2 n12
theorem zfy (hO:OrcOk P O) (hT: ∀f mf,T f=some mf->okCall P f=true) (D:DrawOk P T N) {m h0:Nat}: ∀(c:MC) (code:Code),okMC P D.ok N c code=true-> ∀(fr:Fr) (H:Hp) (e:Ex) (fr':Fr) (H':Hp),h0<=H.length->exec T O m h0 c fr H=some (e,fr',H')->Runs P N h0 code fr H e fr' H':=by
 intro c
 induction c with
 | skip=>
  intro code hok fr H e fr' H' hh h I ρ w a Q st hq
  cases code<;>(try simp only [okMC,y17] at hok)
  simp only [exec,y1,y7] at h
  obtain ⟨rfl,rfl,rfl⟩:=h
  exact wp_skip (hq _ _ _ _ st (Nxt.refl _ _ _ _ (by rw [st.hr.len];exact hh)))
 | fail=>
  intro code hok fr H e fr' H' hh h
  simp [exec] at h
 | reg l=>
  intro code hok fr H e fr' H' hh h I ρ w a Q st hq
  cases code<;>(try simp only [okMC,y17] at hok)
  rename_i id ops draw
  cases draw<;>simp only [okMC,y17] at hok
  simp only [exec] at h
  cases hs:steps T O fr H l with
  | none=>simp [hs] at h
  | some p=>
   simp only [hs,y4,y1,y7] at h
   obtain ⟨rfl,rfl,rfl⟩:=h
   exact wp_region_list (ze9 hO hT _ _ st hok hs fun I' ρ' a' w' st' n=>hq _ _ _ _ st' (n.less hh (by rw [st.hr.len];exact y13 _)))
 | dreg l chk=>
  intro code hok fr H e fr' H' hh h I ρ w a Q st hq
  cases code<;>(try simp only [okMC,y17] at hok)
  rename_i id ops draw
  cases draw<;>simp only [okMC,y17] at hok
  simp only [exec] at h
  cases hs:stepsD T O fr H l chk with
  | none=>simp [hs] at h
  | some p=>
   simp only [hs,y4,y1,y7] at h
   obtain ⟨rfl,rfl,rfl⟩:=h
   exact D.run hO hok st hs fun I' ρ' a' w' st' n=>hq _ _ _ _ st' (n.less hh (by rw [st.hr.len];exact y13 _))
 | seq x y ihx ihy=>
  intro code hok fr H e fr' H' hh h I ρ w a Q st hq
  cases code<;>simp only [okMC,y17,y5] at hok
  simp only [exec] at h
  cases hs:exec T O m h0 x fr H with
  | none=>simp [hs] at h
  | some p=>
   obtain ⟨e1,fr1,H1⟩:=p
   simp only [hs,y4] at h
   refine wp_seq (ihx _ hok.1 _ _ _ _ _ hh hs st fun I1 ρ1 a1 w1 st1 n1=>?_)
   have hh0:h0<=ρ.length:=by rw [st.hr.len];exact hh
   have hl1:h0<=H1.length:=by rw [<- st1.hr.len];rcases n1.long with h | h<;>omega
   cases e1 with
   | norm=>
    simp only at h
    exact ihy _ hok.2 _ _ _ _ _ hl1 h st1 fun I2 ρ2 a2 w2 st2 n2=>hq _ _ _ _ st2 (n1.chain0 hh0 n2)
   | exit id=>
    simp only [y1,y7] at h
    obtain ⟨rfl,rfl,rfl⟩:=h
    exact hq _ _ _ _ st1 n1
   | ret=>
    simp only [y1,y7] at h
    obtain ⟨rfl,rfl,rfl⟩:=h
    exact hq _ _ _ _ st1 n1
 | cond c x y ihx ihy=>
  intro code hok fr H e fr' H' hh h I ρ w a Q st hq
  cases code<;>simp only [okMC,y17,y5] at hok
  simp only [exec] at h
  split at h
  ·rename_i b hb
   have hv:=arg_vr hok.1.1 st.fr
   rw [hb] at hv
   refine wp_cond hv.of_bool ?_
   cases b with
   | true=>exact ihx _ hok.1.2 _ _ _ _ _ hh (by simpa using h) st hq
   | false=>exact ihy _ hok.2 _ _ _ _ _ hh (by simpa using h) st hq
  ·cases h
 | blk id x ih=>
  intro code hok fr H e fr' H' hh h I ρ w a Q st hq
  cases code<;>simp only [okMC,y17,y5,beq_iff_eq] at hok
  obtain ⟨rfl,hok⟩:=hok
  simp only [exec] at h
  cases hs:exec T O m h0 x fr H with
  | none=>simp [hs] at h
  | some p=>
   obtain ⟨e1,fr1,H1⟩:=p
   simp only [hs,y4] at h
   refine wp_block (ih _ hok _ _ _ _ _ hh hs st fun I1 ρ1 a1 w1 st1 n1=>?_)
   cases e1 with
   | norm=>
    simp only [y1,y7] at h
    obtain ⟨rfl,rfl,rfl⟩:=h
    exact hq _ _ _ _ st1 n1
   | exit j=>
    simp only at h
    split at h
    ·rename_i hj
     simp only [y1,y7] at h
     obtain ⟨rfl,rfl,rfl⟩:=h
     simp only [exOf,Exit.inBlock,hj,if_true]
     exact hq _ _ _ _ st1 n1
    ·rename_i hj
     simp only [y1,y7] at h
     obtain ⟨rfl,rfl,rfl⟩:=h
     simp only [exOf,Exit.inBlock,hj,if_false]
     exact hq _ _ _ _ st1 n1
   | ret=>
    simp only [y1,y7] at h
    obtain ⟨rfl,rfl,rfl⟩:=h
    exact hq _ _ _ _ st1 n1
 | exit id=>
  intro code hok fr H e fr' H' hh h I ρ w a Q st hq
  cases code<;>simp only [okMC,y17,beq_iff_eq] at hok
  subst hok
  simp only [exec,y1,y7] at h
  obtain ⟨rfl,rfl,rfl⟩:=h
  exact wp_exit (hq _ _ _ _ st (Nxt.refl _ _ _ _ (by rw [st.hr.len];exact hh)))
 | loop live x ih=>
  intro code hok fr H e fr' H' hh h I ρ w a Q st hq
  cases code<;>(try simp only [okMC,y17] at hok)
  simp only [exec] at h
  exact zfv (zfx (fun fr H e fr' H' hh h=>ih _ hok fr H e fr' H' hh h) _ _ _ _ _ _ h hh st hq)
 | ret=>
  intro code hok fr H e fr' H' hh h I ρ w a Q st hq
  cases code<;>(try simp only [okMC,y17] at hok)
  simp only [exec,y1,y7] at h
  obtain ⟨rfl,rfl,rfl⟩:=h
  exact wp_ret (hq _ _ _ _ st (Nxt.refl _ _ _ _ (by rw [st.hr.len];exact hh)))
end
def okRes (P:Program):List MRes->List ResultVar->Bool
 | [],[]=>true
 | .tmp t::l, .tmp t'::k=>t==t' && okRes P l k
 | .cell t n agg::l, .cell t' ty::k=>t==t' && okT P ty n agg && okRes P l k
 | _,_=>false
def resF (tm:Array Value) (x:ResultVar):Sem Value:=match x with
 | .tmp t=>pure (tm.getD t undef)
 | .cell q t=>do loadVar t (<- asAddr (tm.getD q undef))
theorem zfz (fn:Func) (tm:Array Value):results fn tm=(do let vs <- fn.results.mapM (resF tm);pure (if h:vs.size=1 then vs[0] else .tuple vs)):=by
 unfold results
 congr 2
section
variable {P:Program} {T:Nat->Option MFun} {O:Orc} {N:Nat}
theorem zf0 {I:Addr->Prop} {ρ:Infs} {c:Addr->Option Value} {xs:Nat->Value}: ∀(vs:List V) (k:Nat),(∀(i:Nat) (v:V),vs[i]? =some v->VR I ρ c v (xs (k+i)))-> ∀t,VR I ρ c (get t (params k vs)) (xs t)
 | [],k,_,t=> .junk _
 | v::l,k,h,t=>by
  simp only [params,get]
  by_cases e:t=k
  ·subst e;rw [if_pos rfl];exact h 0 v rfl
  ·rw [if_neg e]
   exact zf0 l (k+1) (fun i u hi=>by have:=h (i+1) u (by simpa using hi);rwa [show k+1+i=k+(i+1) by omega]) t
theorem zf1 {I:Addr->Prop} {ρ:Infs} {w:World} {H:Hp} {fr:Fr} {a:Act} (st:St I ρ w fr H N a): ∀(ms:List MRes) (rs:List ResultVar) (vs:List V),okRes P ms rs=true->resL fr H ms=some vs->
  ∃ys:List Value,(rs.mapM (resF a.tmps)).run P w= .ok ys w/\ys.length=vs.length/\ ∀(i:Nat) (v:V),vs[i]? =some v->VR I ρ w.cell? v (ys.getD i undef)
 | [],[],vs,_,h=>by
  simp only [resL,y1] at h;subst h
  exact ⟨[],by simp,rfl,fun i v h=>by simp at h⟩
 | [],_::_,vs,hok,h=>by simp [okRes] at hok
 | .tmp _::_,[],vs,hok,h=>by simp [okRes] at hok
 | .cell _ _ _::_,[],vs,hok,h=>by simp [okRes] at hok
 | .tmp t::l, .cell _ _::k,vs,hok,h=>by simp [okRes] at hok
 | .cell _ _ _::l, .tmp _::k,vs,hok,h=>by simp [okRes] at hok
 | .tmp t::l, .tmp t'::k,vs,hok,h=>by
  simp only [okRes,y5,beq_iff_eq] at hok
  obtain ⟨rfl,hok⟩:=hok
  simp only [resL,resV,y4] at h
  cases hl:resL fr H l with
  | none=>simp [hl] at h
  | some us=>
   simp only [hl,y4,y1] at h;subst h
   obtain ⟨ys,h1,h2,h3⟩:=zf1 st l k us hok hl
   refine ⟨a.tmps.getD t undef::ys,?_,by simp [h2],fun i v hi=>?_⟩
   ·simp only [List.mapM_cons,resF,Sem.run_bind,Sem.run_pure,Result.andThen_ok,h1]
   ·cases i with
    | zero=>simp at hi;subst hi;simpa using st.fr t
    | succ i=>simpa using h3 i v (by simpa using hi)
 | .cell t n agg::l, .cell t' ty::k,vs,hok,h=>by
  simp only [okRes,y5,beq_iff_eq] at hok
  obtain ⟨⟨rfl,ht⟩,hok⟩:=hok
  simp only [resL,resV] at h
  cases hv:vload H n agg (get t fr) with
  | none=>simp [hv] at h
  | some u=>
   simp only [hv,y4] at h
   cases hl:resL fr H l with
   | none=>simp [hl] at h
   | some us=>
    simp only [hl,y4,y1] at h;subst h
    obtain ⟨ys,h1,h2,h3⟩:=zf1 st l k us hok hl
    obtain ⟨ad,e,z,hz,hvr⟩:=zba (P:=P) st.hr ht (st.fr t) hv
    refine ⟨z::ys,?_,by simp [h2],fun i v hi=>?_⟩
    ·simp only [List.mapM_cons,resF,e,show asAddr (Value.pointer (some ad))=pure ad from rfl,pure_bind,Sem.run_bind,Sem.run_pure,Result.andThen_ok,hz,h1]
    ·cases i with
     | zero=>simp at hi;subst hi;simpa using hvr
     | succ i=>simpa using h3 i v (by simpa using hi)
theorem zf2 {fn:Func} {tm:Array Value} {w:World} {ys:List Value} (h:(fn.results.toList.mapM (resF tm)).run P w= .ok ys w):(results fn tm).run P w= .ok (packX ys) w:=by
 have hm:(fn.results.mapM (resF tm)).run P w= .ok ys.toArray w:=by
  rw [Array.mapM_eq_mapM_toList,map_eq_pure_bind,Sem.run_bind,h]
  rfl
 rw [zfz,Sem.run_bind,hm]
 simp only [Result.andThen_ok,Sem.run_pure]
 congr 1
 match ys with
 | []=>rfl
 | [y]=>rfl
 | y::z::l=>simp [packX]
structure FunOk (P:Program) (T:Nat->Option MFun) (f:FuncId) (mf:MFun) where
 fn:Func
 c:Code
 hf:P.funcs[f]? =some fn
 hb:fn.body=some c
 D:DrawOk P T fn.ntmps
 code:okMC P D.ok fn.ntmps mf.body c=true
 res:okRes P mf.res fn.results.toList=true
 prm: ∀p,mf.prim=some p-> ∀ds rs,p ds=some rs->DeepOk P f ds rs
 iprm: ∀g,mf.iprim=some g-> ∀vs H rs H',g vs H=some (rs,H')->InlOk P f vs H rs H'
theorem zf3 (hO:OrcOk P O) (hT: ∀f mf,T f=some mf->okCall P f=true) {f:FuncId} {mf:MFun} (F:FunOk P T f mf) {m:Nat} {vs rs:List V} {H H':Hp} (h:runInl T O m mf vs H=some (rs,H')):InlOk P f vs H rs H':=by
 intro I ρ w xs hl hr hx
 unfold runInl at h
 cases he:exec T O m H.length mf.body (params 0 vs) H with
 | none=>simp [he] at h
 | some p=>
  obtain ⟨e,fr',H1⟩:=p
  simp only [he,y4] at h
  refine calls_of_wp F.hf F.hb ?_
  have st:St I ρ w (params 0 vs) H F.fn.ntmps {tmps:=xs.toArray++Array.replicate (F.fn.ntmps - xs.toArray.size) undef,defers:=[]}:=by
   refine ⟨hr,fun t=>?_,by simp;omega,rfl⟩
   refine zf0 (xs:=fun t=>(xs.toArray++Array.replicate (F.fn.ntmps - xs.toArray.size) undef).getD t undef) vs 0 (fun i v hi=>?_) t
   have hlt:=z7 hi
   have:=hx i v hi
   simp only [y41]
   rw [y15,Array.getElem?_append_left (by simp;omega)]
   simpa [y14] using this
  refine zfy hO hT F.D mf.body F.c F.code _ _ _ _ _ (y13 _) he st fun I' ρ' a' w' st' n=>?_
  have fin:(resL fr' H1 mf.res).bind (fun l=>some (l,H1))=some (rs,H')->a'.defers=[]/\ ∃v,(results F.fn a'.tmps).run P w'= .ok v w'/\ ∃(I':Addr->Prop) (ρ':Infs) (ys:List Value),Ending.returned v= .returned (packX ys)/\ys.length=rs.length/\(∀(i:Nat) (v:V),rs[i]? =some v->VR I' ρ' w'.cell? v (ys.getD i undef))/\HR I' ρ' w' H'/\Nxt H.length I ρ w I' ρ' w':=by
   intro h
   cases hres:resL fr' H1 mf.res with
   | none=>simp [hres] at h
   | some us=>
    simp only [hres,y4,y1,y7] at h
    obtain ⟨rfl,rfl⟩:=h
    obtain ⟨ys,h1,h2,h3⟩:=zf1 (P:=P) st' mf.res F.fn.results.toList us F.res hres
    exact ⟨st'.dfr,_,zf2 h1,I',ρ',ys,rfl,h2,h3,st'.hr,n⟩
  cases e with
  | norm=>exact fin h
  | exit id=>simp at h
  | ret=>exact fin h
theorem zf4 (hO:OrcOk P O) (hT: ∀f mf,T f=some mf->okCall P f=true) {f:FuncId} {mf:MFun} (F:FunOk P T f mf) {m:Nat} {vs rs:List V} {H H':Hp} (h:runI T O m mf vs H=some (rs,H')):InlOk P f vs H rs H':=by
 unfold runI at h
 split at h
 ·rename_i g hg;exact F.iprm g hg _ _ _ _ h
 ·exact zf3 hO hT F h
theorem zf5 (hO:OrcOk P O) (hT: ∀f mf,T f=some mf->okCall P f=true) {f:FuncId} {mf:MFun} (F:FunOk P T f mf) {m:Nat} {ds rs:List V} (h:runDeep T O m mf ds=some rs):DeepOk P f ds rs:=by
 unfold runDeep at h
 split at h
 ·rename_i p hp;exact F.prm p hp _ _ h
 intro I w xs bs is hl hI hap hds
 obtain ⟨k1,k2,k3⟩:=hds.2 [] [] rfl
 simp only [y45] at k1 k3
 cases hi:runInl T O m mf (putT [] ds).1 (putT [] ds).2 with
 | none=>simp [hi] at h
 | some p=>
  obtain ⟨us,H1⟩:=p
  simp only [hi,y4] at h
  cases ho:outT mf.rets H1 us with
  | none=>simp [ho] at h
  | some q=>
   obtain ⟨ds',H2⟩:=q
   simp only [ho,y4,y1] at h;subst h
   have hr:HR I is w (putT [] ds).2:=by
    rw [k1]
    exact ⟨hds.1.1,fun id b i hb hi=>by
     obtain ⟨⟨ver,z,sz,ys,x,rfl⟩,hok⟩:=hds.1.2 id b i hb hi
     exact hok,hap,hI⟩
   refine (zf3 hO hT F hi I is w xs (by rw [hl,k2]) hr k3).mono ?_
   rintro e w' ⟨I1,ρ1,ys,rfl,h1,h2,h3,n⟩
   obtain ⟨I2,ρ2,bs',is',g,g2,g3⟩:=zcs (fun i=>ys.getD i undef) h3 h2 ho
   refine ⟨I2,ys,bs',is',rfl,by rw [h1,g3],g2,g.apart,g.hr.cells,⟨fun a ha=>g.sub a (n.sub a ha),fun a ha=>?_,n.grow,fun B hB=>?_,fun id hid=>by omega, .inl (Nat.zero_le _)⟩⟩
   ·rcases g.new a ha with h | h
    ·exact n.new a h
    ·rcases n.live _ h with h | h
     ·exact .inr (.inl h)
     ·exact .inr (.inr h)
   ·exact n.live B (g.gone B hB).1
theorem zf6 {I:Addr->Prop} {ρ:Infs} {c:Addr->Option Value} {v:V} {x:Value} (h:VR I ρ c v x):VR I ρ c (weaken v) x:=by
 unfold weaken
 split
 ·cases h with
  | vw id ver off len md x hi ho hp=>
   refine .vw _ _ _ _ _ _ hi ho fun inf hinf=>?_
   have:=hp inf hinf
   cases inf with
   | dsk B D=>exact this
   | box B=>exact this
   | nrow sz v=>exact this
   | row B K sz v L=>
    refine ⟨this.1,fun e=>?_⟩
    obtain ⟨h1,h2,h3⟩:=this.2 e
    obtain ⟨ad,cp,q1,q2,q3,q4⟩:=h3
    exact ⟨h1,fun h=>absurd h (by decide),ad,cp,q1,q2,fun _=>q3 (by decide),q4⟩
 ·exact h
theorem wk_ok {f:FuncId} {vs rs:List V} {H H1:Hp} (b:Bool) (h:InlOk P f vs H rs H1):InlOk P f vs H (wkL b rs) H1:=by
 unfold wkL
 split
 ·intro I ρ w xs hl hr hx
  refine Calls.mono (h I ρ w xs hl hr hx) fun e w' ⟨I',ρ',ys,he,hlen,hv,hr',n⟩=>⟨I',ρ',ys,he,by simp [hlen],fun i v hi=>?_,hr',n⟩
  simp only [y40,Option.map_eq_some_iff] at hi
  obtain ⟨u,hu,rfl⟩:=hi
  exact zf6 (hv i u hu)
 ·exact h
theorem zf7 {f:FuncId} {vs rs:List V} {H H1:Hp} (h:InlOk P f vs H rs H1):InlOk P f vs H (trim H.length (rs,H1)).1 (trim H.length (rs,H1)).2:=by
 intro I ρ w xs hl hr hx
 refine Calls.mono (h I ρ w xs hl hr hx) fun e w' ⟨I',ρ',ys,he,hlen,hv,hr',n⟩=>?_
 have hh:H.length<=H1.length:=by
  rw [<- hr'.len]
  rcases n.long with h | h
  ·exact h
  ·rw [hr.len] at h;omega
 have ho:Okord H.length (reach H.length H1 H1.length (addNew [] (rs.flatMap (idsV H.length)++(H1.take H.length).flatMap (idsB H.length)))):=by
  refine zfd _ _ (zfb _ _ ⟨by simp,by simp⟩ fun i hi=>?_)
  rcases List.mem_append.1 hi with h | h
  ·obtain ⟨p,_,hp⟩:=List.mem_flatMap.1 h
   obtain ⟨v,_,hv⟩:=List.mem_flatMap.1 hp
   exact zfa hv
  ·obtain ⟨b,_,hb⟩:=List.mem_flatMap.1 h
   exact zfc hb
 refine ⟨I',_,ys,he,by simp [trim,hlen],fun i v hi=>?_,newHR hr' ho hh,n.trans (newNxt hr' ho hh) (by rw [hr.len];exact y13 _)⟩
 simp only [trim,y40,Option.map_eq_some_iff] at hi
 obtain ⟨u,hu,rfl⟩:=hi
 exact ren_vr hr' (hv i u hu)
theorem orc_ok (hF: ∀f mf,T f=some mf->Nonempty (FunOk P T f mf)) (hT: ∀f mf,T f=some mf->okCall P f=true): ∀n,OrcOk P (orc T n)
 | 0=>⟨fun f vs H rs H' h=>by simp [orc] at h,fun f ds rs h=>by simp [orc] at h⟩
 | n+1=>by
  have ih:=orc_ok hF hT n
  refine ⟨fun f vs H rs H' h=>?_,fun f ds rs h=>?_⟩
  ·simp only [orc] at h
   cases hf:T f with
   | none=>simp [hf] at h
   | some mf=>
    simp only [hf,y4] at h
    obtain ⟨F⟩:=hF f mf hf
    rw [Option.map_eq_some_iff] at h
    obtain ⟨⟨rs0,H0⟩,h1,h2⟩:=h
    have:=zf7 (wk_ok mf.weak (zf4 ih hT F h1))
    simp only at h2
    rw [h2] at this
    exact this
  ·simp only [orc] at h
   cases hf:T f with
   | none=>simp [hf] at h
   | some mf=>
    simp only [hf,y4] at h
    obtain ⟨F⟩:=hF f mf hf
    exact zf5 ih hT F h
end
def MArg.tmps:MArg->List Nat
 | .t n=>[n]
 | .c _=>[]
def argsT (l:List MArg):List Nat:=l.flatMap MArg.tmps
def optT:Option MArg->List Nat
 | none=>[]
 | some x=>x.tmps
def partsT (l:List (Nat×Nat×MArg)):List Nat:=l.flatMap fun p=>p.2.2.tmps
def MOp.tmps:MOp->List Nat
 | .mv x=>x.tmps
 | .pick c a b=>c.tmps++(a.tmps++b.tmps)
 | .bin _ x y=>x.tmps++y.tmps
 | .eqn _ _ x y=>x.tmps++y.tmps
 | .isnil _ _ x=>x.tmps
 | .un _ x=>x.tmps
 | .conv _ x=>x.tmps
 | .b2s x=>x.tmps
 | .ext x _=>x.tmps
 | .fld x _ _ _=>x.tmps
 | .bld _ ps=>partsT ps
 | .alloc _=>[]
 | .box x=>x.tmps
 | .load x _ _=>x.tmps
 | .store x y _=>x.tmps++y.tmps
 | .faddr x _=>x.tmps
 | .iaddr x i _=>x.tmps++i.tmps
 | .aaddr x i _ _=>x.tmps++i.tmps
 | .idx x i _ _ _=>x.tmps++i.tmps
 | .nilck x=>x.tmps
 | .mkfn _ l=>argsT l
 | .mkif _ x=>x.tmps
 | .slc x lo hi mx _=>x.tmps++(optT lo++(optT hi++optT mx))
 | .bsl _ l _=>argsT l
 | .msl _ _ x=>x.tmps
 | .len _ x=>x.tmps
 | .cap x=>x.tmps
 | .mm _ l=>argsT l
 | .app x y _=>x.tmps++y.tmps
 | .appz x y _ _=>x.tmps++y.tmps
 | .clr x _=>x.tmps
 | .call _ l=>argsT l
 | .callv x l=>x.tmps++argsT l
 | .nil _=>[]
 | .mkmap=>[]
 | .mlook x k=>x.tmps++k.tmps
 | .mput x k v=>x.tmps++(k.tmps++v.tmps)
 | .mkpm=>[]
 | .plook x k=>x.tmps++k.tmps
 | .pput x k v=>x.tmps++(k.tmps++v.tmps)
 | .papp x y=>x.tmps++y.tmps
 | .mska _ x=>x.tmps
def MO.reads (m:MO):List Nat:=match m.guard with
 | none=>m.op.tmps
 | some (g,_)=>g::m.op.tmps
def isE:MOp->Bool
 | .store _ _ _=>true
 | .alloc _=>true
 | .box _=>true
 | .bsl _ _ _=>true
 | .msl _ _ _=>true
 | .app _ _ _=>true
 | .appz _ _ _ _=>true
 | .clr _ _=>true
 | .call _ _=>true
 | .callv _ _=>true
 | .nil _=>true
 | .mkmap=>true
 | .mput _ _ _=>true
 | .mkpm=>true
 | .pput _ _ _=>true
 | .papp _ _=>true
 | _=>false
def isP:MOp->Bool
 | .mv _=>true
 | .pick _ _ _=>true
 | .bin _ _ _=>true
 | .eqn _ _ _ _=>true
 | .un _ _=>true
 | .conv _ _=>true
 | .ext _ _=>true
 | .fld _ _ _ _=>true
 | .bld _ _=>true
 | .faddr _ _=>true
 | .aaddr _ _ _ _=>true
 | .idx _ _ _ _ _=>true
 | .nilck _=>true
 | .mkfn _ _=>true
 | .mkif _ _=>true
 | .mm _ _=>true
 | .mska _ _=>true
 | _=>false
section
variable {T:Nat->Option MFun} {O:Orc} {fr fr':Fr} {H H1 H':Hp}
theorem zf8 {x:MArg} (h: ∀t∈x.tmps,get t fr=get t fr'):x.val fr=x.val fr':=by
 cases x with
 | t n=>exact h n (by simp [MArg.tmps])
 | c v=>rfl
theorem zf9: ∀{l:List MArg},(∀t∈argsT l,get t fr=get t fr')->MArgs.vals fr l=MArgs.vals fr' l
 | [],_=>rfl
 | x::l,h=>by
  have h1:=zf9 (l:=l) fun t ht=>h t (by simp only [argsT,List.flatMap_cons,List.mem_append];exact .inr ht)
  have h2:=zf8 (x:=x) fun t ht=>h t (by simp only [argsT,List.flatMap_cons,List.mem_append];exact .inl ht)
  simp only [MArgs.vals,y32] at h1 ⊢
  rw [h1,h2]
theorem zga {x:Option MArg} (h: ∀t∈optT x,get t fr=get t fr'):optInt fr x=optInt fr' x:=by
 cases x with
 | none=>rfl
 | some x=>simp only [optInt];rw [zf8 h]
theorem zgb: ∀{ps:List (Nat×Nat×MArg)} (cs:List V),(∀t∈partsT ps,get t fr=get t fr')->fillB fr cs ps=fillB fr' cs ps
 | [],cs,_=>rfl
 | (off,n,x)::l,cs,h=>by
  have h2:=zf8 (x:=x) fun t ht=>h t (by simp only [partsT,List.flatMap_cons,List.mem_append];exact .inl ht)
  simp only [fillB,h2]
  have:=fun cs=>zgb (ps:=l) cs fun t ht=>h t (by simp only [partsT,List.flatMap_cons,List.mem_append];exact .inr ht)
  simp only [this]
theorem zgc {op:MOp} (h: ∀t∈op.tmps,get t fr=get t fr'):ev T O fr H op=ev T O fr' H op:=by
 cases op<;>simp only [MOp.tmps,List.mem_append] at h
 case mv x=>simp only [ev,zf8 h]
 case pick c a b=>simp only [ev,zf8 (x:=c) fun t ht=>h t (.inl ht),zf8 (x:=a) fun t ht=>h t (.inr (.inl ht)),zf8 (x:=b) fun t ht=>h t (.inr (.inr ht))]
 case bin o x y=>simp only [ev,zf8 (x:=x) fun t ht=>h t (.inl ht),zf8 (x:=y) fun t ht=>h t (.inr ht)]
 case eqn o k x y=>simp only [ev,zf8 (x:=x) fun t ht=>h t (.inl ht),zf8 (x:=y) fun t ht=>h t (.inr ht)]
 case isnil n k x=>simp only [ev,zf8 h]
 case un o x=>simp only [ev,zf8 h]
 case conv k x=>simp only [ev,zf8 h]
 case b2s x=>simp only [ev,zf8 h]
 case ext x i=>simp only [ev,zf8 h]
 case fld x _ _ _=>simp only [ev,zf8 h]
 case bld z ps=>simp only [ev,zgb z h]
 case alloc z=>rfl
 case box x=>simp only [ev,zf8 h]
 case load x _ _=>simp only [ev,zf8 h]
 case store x y n=>simp only [ev,zf8 (x:=x) fun t ht=>h t (.inl ht),zf8 (x:=y) fun t ht=>h t (.inr ht)]
 case faddr x _=>simp only [ev,zf8 h]
 case iaddr x y n=>simp only [ev,zf8 (x:=x) fun t ht=>h t (.inl ht),zf8 (x:=y) fun t ht=>h t (.inr ht)]
 case aaddr x y n m=>simp only [ev,zf8 (x:=x) fun t ht=>h t (.inl ht),zf8 (x:=y) fun t ht=>h t (.inr ht)]
 case idx x y n m g=>simp only [ev,zf8 (x:=x) fun t ht=>h t (.inl ht),zf8 (x:=y) fun t ht=>h t (.inr ht)]
 case nilck x=>simp only [ev,zf8 h]
 case mkfn f l=>simp only [ev,zf9 h]
 case mkif t x=>simp only [ev,zf8 h]
 case slc x lo hi mx n=>simp only [ev,zf8 (x:=x) fun t ht=>h t (.inl ht),zga (x:=lo) fun t ht=>h t (.inr (.inl ht)),zga (x:=hi) fun t ht=>h t (.inr (.inr (.inl ht))),zga (x:=mx) fun t ht=>h t (.inr (.inr (.inr ht)))]
 case bsl sz l how=>
  have:=zf9 h
  match how with
  | 0=>simp only [ev,this]
  | 1=>simp only [ev,this]
  | k+2=>simp only [ev,this]
 case msl sz z x=>simp only [ev,zf8 h]
 case len s x=>simp only [ev,zf8 h]
 case cap x=>simp only [ev,zf8 h]
 case mm s l=>simp only [ev,zf9 h]
 case app x y n=>simp only [ev,zf8 (x:=x) fun t ht=>h t (.inl ht),zf8 (x:=y) fun t ht=>h t (.inr ht)]
 case appz x y n z=>simp only [ev,zf8 (x:=x) fun t ht=>h t (.inl ht),zf8 (x:=y) fun t ht=>h t (.inr ht)]
 case clr x z=>simp only [ev,zf8 h]
 case call f l=>simp only [ev,zf9 h]
 case callv x l=>simp only [ev,zf8 (x:=x) fun t ht=>h t (.inl ht),zf9 (l:=l) fun t ht=>h t (.inr ht)]
 case nil sz=>rfl
 case mkmap=>rfl
 case mkpm=>rfl
 case mska sz x=>simp only [ev,zf8 h]
 case plook x k=>simp only [ev,zf8 (x:=x) fun t ht=>h t (.inl ht),zf8 (x:=k) fun t ht=>h t (.inr ht)]
 case pput x k v=>simp only [ev,zf8 (x:=x) fun t ht=>h t (.inl ht),zf8 (x:=k) fun t ht=>h t (.inr (.inl ht)),zf8 (x:=v) fun t ht=>h t (.inr (.inr ht))]
 case papp x y=>simp only [ev,zf8 (x:=x) fun t ht=>h t (.inl ht),zf8 (x:=y) fun t ht=>h t (.inr ht)]
 case mlook x k=>simp only [ev,zf8 (x:=x) fun t ht=>h t (.inl ht),zf8 (x:=k) fun t ht=>h t (.inr ht)]
 case mput x k v=>simp only [ev,zf8 (x:=x) fun t ht=>h t (.inl ht),zf8 (x:=k) fun t ht=>h t (.inr (.inl ht)),zf8 (x:=v) fun t ht=>h t (.inr (.inr ht))]
theorem zgd {op:MOp} (hp:isP op=true) {v:V} (h:ev T O fr H op=some (v,H1)):H1=H/\ ∀H',ev T O fr H' op=some (v,H'):=by
 cases op<;>simp only [isP,y17] at hp<;>simp only [ev] at h ⊢
 case mv x=>simp only [y1,y7] at h;obtain ⟨rfl,rfl⟩:=h;exact ⟨rfl,fun _=>rfl⟩
 all_goals first
  | (split at h<;>first
    | (simp only [y1,y7] at h;obtain ⟨rfl,rfl⟩:=h;exact ⟨rfl,fun _=>by simp_all⟩)
    | (cases h;done)
    | skip)
  | skip
 all_goals try (rw [y21] at h;obtain ⟨y,h1,h2⟩:=h;simp only [y1,y7] at h2;obtain ⟨rfl,rfl⟩:=h2;exact ⟨rfl,fun _=>by simp_all⟩)
 all_goals (split at h<;>first | (cases h;done) | skip)
 all_goals try (simp only [y1,y7] at h;obtain ⟨rfl,rfl⟩:=h;exact ⟨rfl,fun _=>by simp_all⟩)
 all_goals (split at h<;>first | (cases h;done) | skip)
 all_goals try (simp only [y1,y7] at h;obtain ⟨rfl,rfl⟩:=h;exact ⟨rfl,fun _=>by simp_all⟩)
 all_goals (rw [y21] at h;obtain ⟨y,h1,h2⟩:=h;simp only [y1,y7] at h2;obtain ⟨rfl,rfl⟩:=h2;exact ⟨rfl,fun _=>by simp_all⟩)
theorem zge {op:MOp} (he:isE op=false) {v:V} (h:ev T O fr H op=some (v,H1)):H1=H:=by
 by_cases hp:isP op=true
 ·exact (zgd hp h).1
 ·cases op<;>simp only [isE,isP,Bool.true_eq_false,not_true_eq_false,y17,not_false_eq_true] at he hp<;>simp only [ev] at h
  case isnil n k x=>rw [y21] at h;obtain ⟨y,h1,h2⟩:=h;simp only [y1,y7] at h2;exact h2.2.symm
  case b2s x=>
   rw [y21] at h;obtain ⟨y,h1,h2⟩:=h
   split at h2
   ·simp only [y1,y7] at h2;exact h2.2.symm
   ·cases h2
  case load x n g=>rw [y21] at h;obtain ⟨y,h1,h2⟩:=h;simp only [y1,y7] at h2;exact h2.2.symm
  case iaddr x i n=>
   split at h
   ·rw [y21] at h;obtain ⟨y,h1,h2⟩:=h;simp only [y1,y7] at h2;exact h2.2.symm
   ·cases h
  case slc x lo hi mx n=>
   rw [y21] at h;obtain ⟨y,h1,h⟩:=h
   rw [y21] at h;obtain ⟨y2,h2,h⟩:=h
   rw [y21] at h;obtain ⟨y3,h3,h⟩:=h
   have fin: ∀{a b:V} {K:Hp},some (a,K)=some (b,H1)->H1=K:=fun h=>by simp only [y1,y7] at h;exact h.2.symm
   unfold vslc at h
   repeat' (first | (split at h) | exact fin h | (cases h;done) | (rw [y21] at h;obtain ⟨_,_,h⟩:=h))
  case len s x=>
   repeat' (first | (split at h) | (simp only [y1,y7] at h;exact h.2.symm) | (cases h;done) | (rw [y21] at h;obtain ⟨_,_,h⟩:=h))
  case mlook x k=>
   rw [y21] at h;obtain ⟨y,h1,h⟩:=h
   rw [y21] at h;obtain ⟨y2,h2,h⟩:=h
   simp only [y1,y7] at h;exact h.2.symm
  case plook x k=>
   rw [y21] at h;obtain ⟨y,h1,h⟩:=h
   rw [y21] at h;obtain ⟨y2,h2,h⟩:=h
   simp only [y1,y7] at h;exact h.2.symm
  case cap x=>
   repeat' (first | (split at h) | (simp only [y1,y7] at h;exact h.2.symm) | (cases h;done) | (rw [y21] at h;obtain ⟨_,_,h⟩:=h))
def upd (d:Option Nat) (v:V) (fr:Fr):Fr:=match d with
 | some d=>(d,v)::fr
 | none=>fr
theorem zgf {d:Option Nat} {v:V} {t:Nat} (h:d≠some t):get t (upd d v fr)=get t fr:=by
 cases d with
 | none=>rfl
 | some d=>simp only [upd,get];rw [if_neg];rintro rfl;exact h rfl
theorem zgg {v:V} {t:Nat}:get t (upd (some t) v fr)=v:=by simp [upd,get]
theorem zgh {m:MO}:step T O fr H m=(stepV T O fr H m).map fun p=>(upd m.dst p.1 fr,p.2):=by
 have hd:doOp T O fr H m=(ev T O fr H m.op).map fun p=>(upd m.dst p.1 fr,p.2):=by
  unfold doOp
  cases ev T O fr H m.op with
  | none=>rfl
  | some p=>cases hm:m.dst<;>simp [upd]
 have hs:some (skipOp fr m,H)=(some (V.tup [],H)).map fun p=>(upd m.dst p.1 fr,p.2):=by
  unfold skipOp
  cases hm:m.dst<;>simp [upd]
 unfold step stepV
 cases m.guard with
 | none=>exact hd
 | some q=>
  obtain ⟨g,want⟩:=q
  simp only
  split
  ·rename_i b hb
   by_cases h:b=want
   ·rw [if_pos h,if_pos h];exact hd
   ·rw [if_neg h,if_neg h];exact hs
  ·exact hs
  ·rfl
theorem zgi {m:MO} (h: ∀t∈m.reads,get t fr=get t fr'):stepV T O fr H m=stepV T O fr' H m:=by
 unfold stepV
 unfold MO.reads at h
 cases hg:m.guard with
 | none=>rw [hg] at h;exact zgc h
 | some q=>
  obtain ⟨g,want⟩:=q
  rw [hg] at h
  simp only [List.mem_cons] at h
  simp only [h g (.inl rfl),zgc (T:=T) (O:=O) (H:=H) fun t ht=>h t (.inr ht)]
theorem zgj {m:MO} (hp:isP m.op=true) {v:V} (h:stepV T O fr H m=some (v,H1)):H1=H/\ ∀H',stepV T O fr H' m=some (v,H'):=by
 unfold stepV at h ⊢
 cases hg:m.guard with
 | none=>simp only [hg] at h ⊢;exact zgd hp h
 | some q=>
  obtain ⟨g,want⟩:=q
  simp only [hg] at h ⊢
  split at h
  ·rename_i b hb
   split at h
   ·rename_i e
    have:=zgd hp h
    exact ⟨this.1,fun H'=>by simp only [if_pos e];exact this.2 H'⟩
   ·rename_i e
    simp only [y1,y7] at h
    obtain ⟨rfl,rfl⟩:=h
    exact ⟨rfl,fun H'=>by simp only [if_neg e]⟩
  ·rename_i hb
   simp only [y1,y7] at h
   obtain ⟨rfl,rfl⟩:=h
   exact ⟨rfl,fun H'=>rfl⟩
  ·cases h
theorem zgk {m:MO} (he:isE m.op=false) {v:V} (h:stepV T O fr H m=some (v,H1)):H1=H:=by
 unfold stepV at h
 cases hg:m.guard with
 | none=>simp only [hg] at h;exact zge he h
 | some q=>
  obtain ⟨g,want⟩:=q
  simp only [hg] at h
  split at h
  ·split at h
   ·exact zge he h
   ·simp only [y1,y7] at h;exact h.2.symm
  ·simp only [y1,y7] at h;exact h.2.symm
  ·cases h
end
def direct (o:Oper):List Nat:=(o.after.toList.filter (Region.binds .any)).map (·.on)
def close (acc:List (List Nat)):List Nat->List Nat
 | []=>[]
 | d::ds=>let r:=close acc ds;let more:=(d::acc.getD d []).filter fun x=>!r.contains x;more++r
def clos:List Oper->List (List Nat)->List (List Nat)
 | [],acc=>acc
 | o::l,acc=>clos l (acc++[close acc (direct o)])
def edgesOk:Nat->List Oper->Bool
 | _,[]=>true
 | k,o::r=>(direct o).all (fun d=>decide (d<k)) && edgesOk (k+1) r
def shareFree (mi mj:MO):Bool:=
 (match mi.dst with | none=>true | some d=>!(mj.reads.contains d) && decide (mj.dst≠some d)) && (match mj.dst with | none=>true | some d=>!(mi.reads.contains d))
def classes (chk:List (Nat×Nat)) (i j:Nat) (mi mj:MO):Bool:=
 !(isE mi.op && isE mj.op) && (!(isE mi.op && !isP mj.op) || chk.contains (j,i)) && (!(isE mj.op && !isP mi.op) || chk.contains (i,j))
def pairOk (cl:List (List Nat)) (chk:List (Nat×Nat)) (i j:Nat) (mi mj:MO):Bool:=(cl.getD j []).contains i || (shareFree mi mj && classes chk i j mi mj)
def strictOk (cl:List (List Nat)) (l:List MO) (chk:List (Nat×Nat)):Bool:=
 (List.range l.length).all fun j=>(List.range j).all fun i=>pairOk cl chk i j (l.getD i default) (l.getD j default)
def isAlloc (m:MO):Bool:=match m with
 | ⟨some _, .alloc _,none⟩=>true
 | _=>false
def lateOk (cl:List (List Nat)) (l:List MO) (chk:List (Nat×Nat)) (k:Nat):Bool:=
 isAlloc (l.getD k default) &&
 ((List.range l.length).all fun j=>(List.range j).all fun i=>pairOk cl chk i j (l.getD i default) (l.getD j default) || (decide (j=k) && (shareFree (l.getD i default) (l.getD j default) && isE (l.getD i default).op))) &&
 ((List.range l.length).all fun j=>decide (j<=k) || ((shareFree (l.getD k default) (l.getD j default) && classes chk k j (l.getD k default) (l.getD j default)) || (List.range k).all fun i=>!(isE (l.getD i default).op) || (cl.getD j []).contains i))
def okD (P:Program) (N:Nat) (l:List MO) (chk:List (Nat×Nat)) (ops:Array Oper):Bool:=
 okOs P ops N l ops.toList && edgesOk 0 ops.toList &&
 (strictOk (clos ops.toList []) l chk || (List.range l.length).any fun k=>lateOk (clos ops.toList []) l chk k)
def Closed (ops:Array Oper) (S:Nat->Bool):Prop:= ∀(j:Nat) (o:Oper),ops[j]? =some o->S j=true-> ∀d∈direct o,S d=true
def Bef (ops:Array Oper) (i j:Nat):Prop:= ∀S,Closed ops S->S j=true->S i=true
theorem zgl {S:Nat->Bool} {acc:List (List Nat)} (ha: ∀(j:Nat) (c:List Nat),acc[j]? =some c->S j=true-> ∀i∈c,S i=true): ∀{ds:List Nat},(∀d∈ds,S d=true)-> ∀i∈close acc ds,S i=true
 | [],_,i,h=>by simp [close] at h
 | d::ds,hd,i,h=>by
  simp only [close,List.mem_append,List.mem_filter,List.mem_cons] at h
  have hSd:=hd d y30
  rcases h with ⟨h | h,_⟩ | h
  ·rw [h];exact hSd
  ·rw [y14] at h
   cases hq:acc[d]? with
   | none=>simp [hq] at h
   | some c=>simp only [hq,y44] at h;exact ha d c hq hSd i h
  ·exact zgl ha (fun d' h'=>hd d' (y34 _ h')) i h
theorem zgm {S:Nat->Bool}: ∀(l:List Oper) (acc:List (List Nat)),(∀(j:Nat) (o:Oper),l[j]? =some o->S (acc.length+j)=true-> ∀d∈direct o,S d=true)->(∀(j:Nat) (c:List Nat),acc[j]? =some c->S j=true-> ∀i∈c,S i=true)->
  ∀(j:Nat) (c:List Nat),(clos l acc)[j]? =some c->S j=true-> ∀i∈c,S i=true
 | [],acc,_,ha=>ha
 | o::l,acc,hl,ha=>by
  simp only [clos]
  have e: ∀j,(acc++[close acc (direct o)]).length+j=acc.length+(j+1):=fun j=>by simp;omega
  refine zgm l _ (fun j o' hj hS=>hl (j+1) o' (by simpa using hj) (by rw [<- e j];exact hS)) fun j c hj hS i hi=>?_
  rcases y28 j acc.length with h | h
  ·rw [y10 h] at hj;exact ha j c hj hS i hi
  ·rw [y18 h] at hj
   have hj0:j - acc.length=0:=by have:=z7 hj;simp at this;omega
   rw [hj0] at hj
   simp only [y35,y1] at hj;subst hj
   have hje:j=acc.length+0:=by omega
   exact zgl ha (hl 0 o rfl (by rw [<- hje];exact hS)) i hi
theorem bef_of {ops:Array Oper} {i j:Nat} (h:((clos ops.toList []).getD j []).contains i=true):Bef ops i j:=by
 intro S hc hS
 rw [y14] at h
 cases hq:(clos ops.toList [])[j]? with
 | none=>simp [hq] at h
 | some c=>
  simp only [hq,y44,List.contains_iff_mem] at h
  exact zgm ops.toList [] (fun j o hj hS=>hc j o (by simpa using hj) (by simpa using hS)) (fun j c h=>by simp at h) j c hq hS i h
theorem zgn: ∀{l:List Oper} {k:Nat},edgesOk k l=true-> ∀(i:Nat) (o:Oper),l[i]? =some o-> ∀d∈direct o,d<k+i
 | [],k,_,i,o,h=>by simp at h
 | o'::l,k,he,i,o,h=>by
  simp only [edgesOk,y5,y51,decide_eq_true_eq] at he
  cases i with
  | zero=>simp only [y35,y1] at h;subst h;intro d hd;exact he.1 d hd
  | succ i=>intro d hd;have:=zgn he.2 i o (by simpa using h) d hd;omega
structure Run (T:Nat->Option MFun) (O:Orc) (l:List MO) (fr:Fr) (H:Hp) (F:Nat->Fr) (Hh:Nat->Hp) (v:Nat->V):Prop where
 f0:F 0=fr
 h0:Hh 0=H
 st: ∀(i:Nat) (m:MO),l[i]? =some m->stepV T O (F i) (Hh i) m=some (v i,Hh (i+1))/\F (i+1)=upd m.dst (v i) (F i)
section
variable {T:Nat->Option MFun} {O:Orc}
theorem zgo: ∀{l:List MO} {fr fr':Fr} {H H':Hp},steps T O fr H l=some (fr',H')-> ∃F Hh v,Run T O l fr H F Hh v/\F l.length=fr'/\Hh l.length=H'/\ ∀i,i<=l.length->(trace T O fr H l)[i]? =some (F i,Hh i)
 | [],fr,fr',H,H',h=>by
  simp only [steps,y1,y7] at h
  obtain ⟨rfl,rfl⟩:=h
  exact ⟨fun _=>fr,fun _=>H,fun _=> .junk,⟨rfl,rfl,fun i m h=>by simp at h⟩,rfl,rfl,fun i hi=>by simp at hi;subst hi;rfl⟩
 | m ::l,fr,fr',H,H',h=>by
  simp only [steps] at h
  rw [zgh] at h
  cases hs:stepV T O fr H m with
  | none=>simp [hs] at h
  | some p=>
   simp only [hs,y37,y4] at h
   obtain ⟨F,Hh,v,hr,h1,h2,h3⟩:=zgo h
   refine ⟨fun | 0=>fr | k+1=>F k,fun | 0=>H | k+1=>Hh k,fun | 0=>p.1 | k+1=>v k,⟨rfl,rfl,fun i m' hi=>?_⟩,h1,h2,fun i hi=>?_⟩
   ·cases i with
    | zero=>
     simp only [y35,y1] at hi;subst hi
     exact ⟨by simp only [hs,hr.h0],hr.f0⟩
    | succ i=>exact hr.st i m' (by simpa using hi)
   ·cases i with
    | zero=>simp [trace]
    | succ i=>
     simp only [trace,zgh,hs,y37,List.getElem?_cons_succ]
     exact h3 i (by simpa using hi)
theorem zgp {tr:List (Fr×Hp)} {l:List MO}: ∀{chk:List (Nat×Nat)},allSame T O tr l chk-> ∀{r e:Nat},(r,e)∈chk->sameAt T O tr l r e/\sameAt T O tr l r (e+1)
 | [],_,r,e,h=>by simp at h
 | (r',e')::c,hs,r,e,h=>by
  simp only [allSame] at hs
  rcases List.mem_cons.1 h with h | h
  ·cases h;exact ⟨hs.1,hs.2.1⟩
  ·exact zgp hs.2.2 h
variable {ops:Array Oper} {l:List MO} {chk:List (Nat×Nat)} {fr:Fr} {H:Hp} {F:Nat->Fr} {Hh:Nat->Hp} {v:Nat->V} {S:Nat->Bool}
def frS (l:List MO) (v:Nat->V) (fr:Fr) (S:Nat->Bool):Nat->Fr
 | 0=>fr
 | k+1=>match l[k]? with
  | some m=>if S k=true then upd m.dst (v k) (frS l v fr S k) else frS l v fr S k
  | none=>frS l v fr S k
def hS (l:List MO) (Hh:Nat->Hp) (S:Nat->Bool):Nat->Hp
 | 0=>Hh 0
 | k+1=>match l[k]? with
  | some m=>if (S k && isE m.op)=true then Hh (k+1) else hS l Hh S k
  | none=>hS l Hh S k
def Pairs (ops:Array Oper) (l:List MO) (chk:List (Nat×Nat)):Prop:= ∀(i j:Nat) (mi mj:MO),i<j->l[i]? =some mi->l[j]? =some mj->Bef ops i j\/(shareFree mi mj=true/\classes chk i j mi mj=true)
theorem zgq {mi mj:MO} (h:shareFree mi mj=true):(∀t,mi.dst=some t->t∉mj.reads/\mj.dst≠some t)/\ ∀t,mj.dst=some t->t∉mi.reads:=by
 simp only [shareFree,y5] at h
 refine ⟨fun t ht=>?_,fun t ht=>?_⟩
 ·have:=h.1
  rw [ht] at this
  simp only [y5,y55,List.contains_eq_mem,decide_eq_false_iff_not,decide_eq_true_eq] at this
  exact this
 ·have:=h.2
  rw [ht] at this
  simpa using this
theorem zgr {i j:Nat} (hb:Bef ops i j) (hc:Closed ops S) {o:Oper} (hj:ops[j]? =some o) (hd: ∀d∈direct o,S d=true) (hij:i≠j):S i=true:=by
 have:=hb (fun k=>S k || k==j) (fun k o' hk hS d hd'=>?_) (by simp)
 ·simp only [y39,beq_iff_eq] at this
  exact this.resolve_right hij
 ·simp only [y39,beq_iff_eq] at hS ⊢
  rcases hS with hS | rfl
  ·exact .inl (hc k o' hk hS d hd')
  ·rw [hj] at hk;cases hk;exact .inl (hd d hd')
theorem zgs (hp:Pairs ops l chk) (hc:Closed ops S) {i:Nat} {mi:MO} (hi:l[i]? =some mi) (hn:S i=false) {j:Nat} {mj:MO} (hij:i<j) (hj:l[j]? =some mj) (h: ¬(shareFree mi mj=true/\classes chk i j mi mj=true)):S j=false:=by
 rcases hp i j mi mj hij hi hj with hb | hb
 ·cases hS:S j with
  | false=>rfl
  | true=>have:=hb S hc hS;rw [hn] at this;cases this
 ·exact absurd hb h
theorem zgt (hp:Pairs ops l chk) (hc:Closed ops S) {i:Nat} {mi:MO} {oi:Oper} (hi:l[i]? =some mi) (hoi:ops[i]? =some oi) (hd: ∀d∈direct oi,S d=true) {j:Nat} {mj:MO} (hij:j<i) (hj:l[j]? =some mj) (h: ¬(shareFree mj mi=true/\classes chk j i mj mi=true)):S j=true:=by
 rcases hp j i mj mi hij hj hi with hb | hb
 ·exact zgr hb hc hoi hd (by omega)
 ·exact absurd hb h
section
variable {i:Nat} {mi:MO} (LN: ∀(j:Nat) (mj:MO),i<j->l[j]? =some mj-> ¬(shareFree mi mj=true/\classes chk i j mi mj=true)->S j=false) (ED: ∀(j:Nat) (mj:MO),j<i->l[j]? =some mj-> ¬(shareFree mj mi=true/\classes chk j i mj mi=true)->S j=true)
variable (hi:l[i]? =some mi) (hn:S i=false)
include LN ED hi hn
theorem zgu (hr:Run T O l fr H F Hh v) {t:Nat} (ht:t∈mi.reads): ∀k,get t (frS l v fr S k)=get t (F (min k i)):=by
 intro k
 induction k with
 | zero=>simp only [frS,Nat.zero_min];rw [hr.f0]
 | succ k ih=>
  rcases y28 k i with hk | hk
  ·-- ahead of it
   rw [show min (k+1) i=k+1 by omega]
   rw [show min k i=k by omega] at ih
   have hlt:=z7 hi
   have hm:l[k]? =some l[k]:=y6 (by omega)
   simp only [frS,hm]
   rw [(hr.st k _ hm).2]
   by_cases hdst:l[k].dst=some t
   ·have hS:S k=true:=ED _ _ hk hm fun h=>((zgq h.1).1 t hdst).1 ht
    rw [if_pos hS,hdst,zgg,zgg]
   ·rw [zgf hdst]
    split
    ·rw [zgf hdst];exact ih
    ·exact ih
  ·rw [show min (k+1) i=i by omega]
   rw [show min k i=i by omega] at ih
   simp only [frS]
   split
   ·rename_i m hm
    split
    ·rename_i hS
     have hki:k≠i:=fun e=>by rw [e,hn] at hS;cases hS
     have hdst:m.dst≠some t:=fun hdst=>by
      have:=LN _ _ (by omega) hm fun h=>(zgq h.1).2 t hdst ht
      rw [this] at hS;cases hS
     rw [zgf hdst];exact ih
    ·exact ih
   ·exact ih
theorem zgv (t:Nat): ∀k,i<k->get t (frS l v fr (fun q=>S q || q==i) k)=get t (upd mi.dst (v i) (frS l v fr S k)):=by
 have lo: ∀k,k<=i->frS l v fr (fun q=>S q || q==i) k=frS l v fr S k:=by
  intro k
  induction k with
  | zero=>intro _;rfl
  | succ k ih=>
   intro hk
   simp only [frS,ih (by omega),show (k==i)=false by simp;omega,Bool.or_false]
 intro k
 induction k with
 | zero=>intro h;omega
 | succ k ih=>
  intro hk
  rcases y28 i k with h | h
  ·have ih:=ih h
   simp only [frS]
   have hki:(k==i)=false:=by simp;omega
   simp only [hki,Bool.or_false]
   split
   ·rename_i m hm
    split
    ·rename_i hS
     by_cases hdm:m.dst=some t
     ·have hne:mi.dst≠some t:=fun hdi=>by
       have:=LN _ _ h hm fun hh=>((zgq hh.1).1 t hdi).2 hdm
       rw [this] at hS;cases hS
      rw [zgf hne,hdm,zgg,zgg]
     ·rw [zgf hdm]
      by_cases hdi:mi.dst=some t
      ·rw [ih,hdi,zgg,zgg]
      ·rw [ih,zgf hdi,zgf hdi,zgf hdm]
    ·exact ih
   ·exact ih
  ·have e:k=i:=by omega
   subst e
   simp only [frS,hi,lo k (y13 _),beq_self_eq_true,Bool.or_true,if_true,hn,y17,if_false]
theorem zgw (he:isE mi.op=false): ∀k,hS l Hh (fun q=>S q || q==i) k=hS l Hh S k:=by
 intro k
 induction k with
 | zero=>rfl
 | succ k ih=>
  simp only [hS,ih]
  by_cases hk:k=i
  ·subst hk;simp only [hi,he,Bool.and_false,y17,if_false]
  ·simp only [show (k==i)=false by simpa using hk,Bool.or_false]
theorem zgx (he:isE mi.op=true): ∀k,i<k->hS l Hh (fun q=>S q || q==i) k=Hh (i+1):=by
 intro k
 induction k with
 | zero=>intro h;omega
 | succ k ih=>
  intro hk
  rcases y28 i k with h | h
  ·simp only [hS,show (k==i)=false by simp;omega,Bool.or_false]
   split
   ·rename_i m hm
    split
    ·rename_i hS
     simp only [y5] at hS
     have:=LN _ _ h hm fun hh=>by
      have:=hh.2
      simp only [classes,he,hS.2,Bool.and_self,Bool.not_true,Bool.false_and,y17] at this
     rw [this] at hS;cases hS.1
    ·exact ih h
   ·exact ih h
  ·have e:k=i:=by omega
   subst e
   simp only [hS,hi,beq_self_eq_true,Bool.or_true,he,Bool.and_self,if_true]
theorem zgy (hr:Run T O l fr H F Hh v) (he:isE mi.op=true): ∀k,hS l Hh S k=Hh (min k i):=by
 intro k
 induction k with
 | zero=>simp [hS]
 | succ k ih=>
  have hlt:=z7 hi
  rcases y28 k i with hk | hk
  ·have hm:l[k]? =some l[k]:=y6 (by omega)
   rw [show min (k+1) i=k+1 by omega]
   rw [show min k i=k by omega] at ih
   simp only [hS,hm]
   by_cases hek:isE l[k].op=true
   ·have:S k=true:=ED _ _ hk hm fun hh=>by
     have:=hh.2
     simp only [classes,he,hek,Bool.and_self,Bool.not_true,Bool.false_and,y17] at this
    rw [if_pos (by simp [this,hek])]
   ·rw [if_neg (by simp [hek]),ih]
    exact (zgk (by simpa using hek) (hr.st k _ hm).1).symm
  ·rw [show min (k+1) i=i by omega]
   rw [show min k i=i by omega] at ih
   simp only [hS]
   split
   ·rename_i m hm
    rw [if_neg]
    ·exact ih
    ·intro h
     simp only [y5] at h
     have hki:k≠i:=fun e=>by rw [e,hn] at h;cases h.1
     have:=LN _ _ (by omega) hm fun hh=>by
      have:=hh.2
      simp only [classes,he,h.2,Bool.and_self,Bool.not_true,Bool.false_and,y17] at this
     rw [this] at h;cases h.1
   ·exact ih
theorem zgz (hr:Run T O l fr H F Hh v) (he:isE mi.op=false) (hpu:isP mi.op=false): ∀k,k<=l.length->
  (k<=i->(∃e,(i,e)∈chk/\hS l Hh S k=Hh e)\/hS l Hh S k=Hh k)/\(i<=k->(∃e,(i,e)∈chk/\(hS l Hh S k=Hh e\/hS l Hh S k=Hh (e+1)))\/hS l Hh S k=Hh i):=by
 intro k
 induction k with
 | zero=>
  intro _
  refine ⟨fun _=> .inr rfl,fun h=> .inr ?_⟩
  have:i=0:=by omega
  rw [this];rfl
 | succ k ih=>
  intro hkl
  obtain ⟨ih1,ih2⟩:=ih (by omega)
  have hm:l[k]? =some l[k]:=y6 (by omega)
  have up:k<i->(∃e,(i,e)∈chk/\hS l Hh S (k+1)=Hh e)\/hS l Hh S (k+1)=Hh (k+1):=by
   intro hk
   simp only [hS,hm]
   by_cases hek:isE l[k].op=true
   ·by_cases hSk:S k=true
    ·rw [if_pos (by simp [hSk,hek])];exact .inr rfl
    ·rw [if_neg (by simp [hSk])]
     -- not done, and ahead: nothing orders them
     have hchk:(i,k)∈chk:=by
      have hb:=Classical.byContradiction fun hh=>hSk (ED k _ hk hm hh)
      ·have:=hb.2
       simp only [classes,y5,y39,hek,hpu,Bool.not_false,Bool.and_self,Bool.not_true,y17,false_or,List.contains_iff_mem] at this
       exact this.1.2
     rcases ih1 (by omega) with ⟨e,h1,h2⟩ | h2
     ·exact .inl ⟨e,h1,h2⟩
     ·exact .inl ⟨k,hchk,h2⟩
   ·rw [if_neg (by simp [hek])]
    rcases ih1 (by omega) with ⟨e,h1,h2⟩ | h2
    ·exact .inl ⟨e,h1,h2⟩
    ·exact .inr (by rw [h2];exact (zgk (by simpa using hek) (hr.st k _ hm).1).symm)
  refine ⟨fun hk=>up (by omega),fun hk=>?_⟩
  rcases y28 k i with hki | hki
  ·have e:k+1=i:=by omega
   rcases up hki with ⟨e',h1,h2⟩ | h2
   ·exact .inl ⟨e',h1, .inl h2⟩
   ·exact .inr (by rw [h2,e])
  ·simp only [hS,hm]
   split
   ·rename_i h
    simp only [y5] at h
    have hki':k≠i:=fun e=>by have:=h.1;rw [e,hn] at this;cases this
    refine .inl ⟨k,?_, .inr rfl⟩
    have hb:=Classical.byContradiction fun hh=>by
     have:=LN k _ (by omega) hm hh
     rw [this] at h;cases h.1
    ·have:=hb.2
     simp only [classes,y5,y39,h.2,hpu,Bool.not_false,Bool.and_self,Bool.not_true,y17,false_or,List.contains_iff_mem] at this
     exact this.2
   ·exact ih2 hki
theorem zg0 (hr:Run T O l fr H F Hh v) (hs: ∀r e,(r,e)∈chk-> ∀m,l[r]? =some m->stepV T O (F r) (Hh e) m=some (v r,Hh e)/\stepV T O (F r) (Hh (e+1)) m=some (v r,Hh (e+1))):
  stepV T O (frS l v fr S l.length) (hS l Hh S l.length) mi=some (v i,hS l Hh (fun q=>S q || q==i) l.length):=by
 have hlt:=z7 hi
 have hfr: ∀K,stepV T O (frS l v fr S l.length) K mi=stepV T O (F i) K mi:=fun K=>zgi fun t ht=>by
  rw [zgu LN ED hi hn hr ht l.length,show min l.length i=i by omega]
 rw [hfr]
 have hrun:=(hr.st i mi hi).1
 cases he:isE mi.op with
 | true=>
  rw [zgx LN ED hi hn he l.length hlt,zgy LN ED hi hn hr he l.length,show min l.length i=i by omega]
  exact hrun
 | false=>
  rw [zgw LN ED hi hn he]
  cases hpu:isP mi.op with
  | true=>exact (zgj hpu hrun).2 _
  | false=>
   rcases (zgz LN ED hi hn hr he hpu l.length (y13 _)).2 (by omega) with ⟨e,h1,h2 | h2⟩ | h2
   ·rw [h2];exact (hs i e h1 mi hi).1
   ·rw [h2];exact (hs i e h1 mi hi).2
   ·rw [h2]
    have:=zgk he hrun
    rw [this] at hrun;exact hrun
end
end
section
variable {P:Program} {T:Nat->Option MFun} {O:Orc} {N:Nat} {ops:Array Oper} {l:List MO} {chk:List (Nat×Nat)}
theorem zg1: ∀{l:List MO} {os:List Oper},okOs P ops N l os=true->l.length=os.length/\ ∀(i:Nat) (m:MO) (o:Oper),l[i]? =some m->os[i]? =some o->okO P ops N m o=true
 | [],[],_=>⟨rfl,fun i m o h=>by simp at h⟩
 | [],_::_,h=>by simp [okOs] at h
 | _::_,[],h=>by simp [okOs] at h
 | m::l,o::os,h=>by
  simp only [okOs,y5] at h
  obtain ⟨h1,h2⟩:=zg1 h.2
  refine ⟨by simp [h1],fun i m' o' hm ho=>?_⟩
  cases i with
  | zero=>simp at hm ho;subst hm;subst ho;exact h.1
  | succ i=>exact h2 i m' o' (by simpa using hm) (by simpa using ho)
theorem zg2 (h:strictOk (clos ops.toList []) l chk=true):Pairs ops l chk:=by
 intro i j mi mj hij hi hj
 unfold strictOk at h
 simp only [y51,List.mem_range] at h
 have:=h j (z7 hj) i hij
 rw [y14,y14,hi,hj] at this
 simp only [y44,pairOk,y39,y5] at this
 rcases this with h | h
 ·exact .inl (bef_of h)
 ·exact .inr h
theorem St.congr {I:Addr->Prop} {ρ:Infs} {w:World} {fr fr':Fr} {H:Hp} {a:Act} (st:St I ρ w fr H N a) (h: ∀t,get t fr'=get t fr):St I ρ w fr' H N a:=
 ⟨st.hr,fun t=>by rw [h t];exact st.fr t,st.size,st.dfr⟩
theorem St.congr_heap {I:Addr->Prop} {ρ:Infs} {w:World} {fr fr':Fr} {H H':Hp} {a:Act} (st:St I ρ w fr H N a) (h: ∀t,get t fr'=get t fr) (hh:H'=H):St I ρ w fr' H' N a:=by
 subst hh;exact st.congr h
theorem zg3 (T:Nat->Option MFun) (O:Orc): ∀(fr:Fr) (H:Hp) (l:List MO),(trace T O fr H l).length<=l.length+1
 | fr,H,[]=>by simp [trace]
 | fr,H,o::l=>by
  simp only [trace,y20]
  split
  ·rename_i p hp;have:=zg3 T O p.1 p.2 l;omega
  ·simp
theorem zg4 {v:Nat->V} {fr:Fr} {S S':Nat->Bool}: ∀k,(∀i,i<k->S i=S' i)->frS l v fr S k=frS l v fr S' k
 | 0,_=>rfl
 | k+1,h=>by simp only [frS,zg4 k fun i hi=>h i (by omega),h k (by omega)]
theorem zg5 {Hh:Nat->Hp} {S S':Nat->Bool}: ∀k,(∀i,i<k->S i=S' i)->hS l Hh S k=hS l Hh S' k
 | 0,_=>rfl
 | k+1,h=>by simp only [hS,zg5 k fun i hi=>h i (by omega),h k (by omega)]
theorem zg6 {fr:Fr} {H:Hp} {F:Nat->Fr} {Hh:Nat->Hp} {v:Nat->V} {S:Nat->Bool} (hr:Run T O l fr H F Hh v): ∀k,k<=l.length->(∀i,i<k->S i=true)->frS l v fr S k=F k/\hS l Hh S k=Hh k
 | 0,_,_=>⟨hr.f0.symm,rfl⟩
 | k+1,hk,h=>by
  obtain ⟨h1,h2⟩:=zg6 hr k (by omega) fun i hi=>h i (by omega)
  have hm:l[k]? =some l[k]:=y6 (by omega)
  obtain ⟨s1,s2⟩:=hr.st k _ hm
  refine ⟨?_,?_⟩
  ·simp only [frS,hm,h k (by omega),if_true,h1];exact s2.symm
  ·simp only [hS,hm,h k (by omega),y58]
   split
   ·rfl
   ·rename_i he;rw [h2];exact (zgk (by simpa using he) s1).symm
theorem zg7 {fr:Fr} {v:Nat->V} {Hh:Nat->Hp} {S:Nat->Bool}: ∀k,(∀i,i<k->S i=false)->frS l v fr S k=fr/\hS l Hh S k=Hh 0
 | 0,_=>⟨rfl,rfl⟩
 | k+1,h=>by
  obtain ⟨h1,h2⟩:=zg7 (fr:=fr) (v:=v) (Hh:=Hh) k fun i hi=>h i (by omega)
  simp only [frS,hS,h k (by omega),y17,if_false,Bool.false_and,h1,h2]
  constructor<;>split<;>rfl
theorem zg8: ∀{ls:List Bool} {i:Nat},ls[i]? =some false->(ls.set i true).count true=ls.count true+1
 | [],i,h=>by simp at h
 | b::ls,0,h=>by simp at h;subst h;simp
 | b::ls,i+1,h=>by
  have:=zg8 (ls:=ls) (i:=i) (by simpa using h)
  simp only [List.set_cons_succ,List.count_cons,this]
  omega
theorem zg9: ∀{ls:List Bool},ls.count true=ls.length-> ∀i,i<ls.length->ls[i]? =some true
 | [],_,i,h=>by simp at h
 | b::ls,hc,i,h=>by
  have hle:=List.count_le_length (a:=true) (l:=ls)
  cases b with
  | false=>simp at hc;omega
  | true=>
   cases i with
   | zero=>rfl
   | succ i=>simpa using zg9 (by simpa using hc) i (by simpa using h)
theorem zha (hed:edgesOk 0 ops.toList=true) {listed:Array Bool} (hsz:listed.size=ops.size) (hrd:Region.ready .any ops listed=[]): ∀i,i<ops.size->listed.getD i false=true:=by
  intro i
  induction i using Nat.strongRecOn with
  | _ i ih=>
   intro hi
   cases hli:listed.getD i false with
   | true=>rfl
   | false=>
    have:i∈Region.ready .any ops listed:=by
     rw [mem_ready]
     have hlt:i<listed.size:=by omega
     refine ⟨by simp [hlt] at hli ⊢;exact hli,ops[i],by simp [hi],fun e he hb=>?_⟩
     have hd:e.on∈direct ops[i]:=by
      simp only [direct,List.mem_map,List.mem_filter]
      exact ⟨e,⟨by simpa using he,hb⟩,rfl⟩
     have:=zgn hed i ops[i] (by simp [hi]) e.on hd
     exact ih e.on (by omega) (by omega)
    rw [hrd] at this;cases this
theorem zhb (hO:OrcOk P O) (hT: ∀f mf,T f=some mf->okCall P f=true) (hos:okOs P ops N l ops.toList=true) (hed:edgesOk 0 ops.toList=true) (hpr:strictOk (clos ops.toList []) l chk=true) {fr:Fr} {H:Hp} {F:Nat->Fr} {Hh:Nat->Hp} {v:Nat->V} (hr:Run T O l fr H F Hh v)
  (hs: ∀r e,(r,e)∈chk-> ∀m,l[r]? =some m->stepV T O (F r) (Hh e) m=some (v r,Hh e)/\stepV T O (F r) (Hh (e+1)) m=some (v r,Hh (e+1))) {h0:Nat} {I0:Addr->Prop} {ρ0:Infs} {w0:World} (hh0:h0<=ρ0.length) {Q:Exit->Act->World->Prop}
  (hq: ∀I' ρ' a' w',St I' ρ' w' (F l.length) (Hh l.length) N a'->Nxt h0 I0 ρ0 w0 I' ρ' w'->Q .normal a' w'):
  ∀(fuel:Nat) (listed:Array Bool),listed.size=ops.size->listed.toList.count true+fuel=ops.size->Closed ops (fun k=>listed.getD k false)->
   ∀{I:Addr->Prop} {ρ:Infs} {w:World} {a:Act},St I ρ w (frS l v fr (fun k=>listed.getD k false) l.length) (hS l Hh (fun k=>listed.getD k false) l.length) N a->Nxt h0 I0 ρ0 w0 I ρ w->wpAny P .any ops Q fuel listed a w:=by
 have hp:=zg2 hpr
 obtain ⟨hlen,hget⟩:=zg1 hos
 have hlen':l.length=ops.size:=by simpa using hlen
 have done:=fun listed hsz hrd=>zha (ops:=ops) hed (listed:=listed) hsz hrd
 have fin: ∀(listed:Array Bool) {I:Addr->Prop} {ρ:Infs} {w:World} {a:Act},(∀i,i<ops.size->listed.getD i false=true)->St I ρ w (frS l v fr (fun k=>listed.getD k false) l.length) (hS l Hh (fun k=>listed.getD k false) l.length) N a->Nxt h0 I0 ρ0 w0 I ρ w->Q .normal a w:=by
  intro listed I ρ w a hall st n
  obtain ⟨e1,e2⟩:=zg6 (S:=fun k=>listed.getD k false) hr l.length (y13 _) fun i hi=>hall i (by omega)
  rw [e1,e2] at st
  exact hq _ _ _ _ st n
 intro fuel
 induction fuel with
 | zero=>
  intro listed hsz hcnt hcl I ρ w a st n
  have hall: ∀i,i<ops.size->listed.getD i false=true:=fun i hi=>by
   have:=zg9 (ls:=listed.toList) (by simp only [y43];omega) i (by simp only [y43];omega)
   rw [y49] at this
   rw [y15,this];rfl
  refine ⟨?_,fin listed hall st n⟩
  cases hrd:Region.ready .any ops listed with
  | nil=>rfl
  | cons i rs=>
   have hi:i∈Region.ready .any ops listed:=by rw [hrd];exact y30
   rw [mem_ready] at hi
   obtain ⟨h1,o,h2,_⟩:=hi
   have hlt:i<ops.size:=(Array.getElem?_eq_some_iff.1 h2).1
   have:=hall i hlt
   have hlt':i<listed.size:=by omega
   simp [hlt'] at h1 this
   rw [this] at h1;cases h1
 | succ fuel ih=>
  intro listed hsz hcnt hcl I ρ w a st n
  refine ⟨fun hrd=>fin listed (done listed hsz hrd) st n,fun i hi=>?_⟩
  rw [mem_ready] at hi
  obtain ⟨hli,o,ho,hall⟩:=hi
  have hlt:i<ops.size:=(Array.getElem?_eq_some_iff.1 ho).1
  have hlt':i<listed.size:=by omega
  have hm:l[i]? =some l[i]:=y6 (by omega)
  have hn:listed.getD i false=false:=by simp [hlt'] at hli ⊢;exact hli
  have hd: ∀d∈direct o,listed.getD d false=true:=fun d hd=>by
   simp only [direct,List.mem_map,List.mem_filter] at hd
   obtain ⟨e,⟨he,hb⟩,rfl⟩:=hd
   exact hall e (by simpa using he) hb
  have hset: ∀k,(listed.setIfInBounds i true).getD k false=(listed.getD k false || k==i):=fun k=>by
   by_cases hk:i=k
   ·subst hk;simp [hlt']
   ·rw [getD_set_ne false hk]
    have:(k==i)=false:=by simpa using Ne.symm hk
    rw [this,Bool.or_false]
  have hLN:=fun j mj hij hj h=>zgs (S:=fun k=>listed.getD k false) hp hcl hm hn (j:=j) (mj:=mj) hij hj h
  have hED:=fun j mj hij hj h=>zgt (S:=fun k=>listed.getD k false) hp hcl hm ho hd (j:=j) (mj:=mj) hij hj h
  have hstep:=zg0 (S:=fun k=>listed.getD k false) hLN hED hm hn hr hs
  have hst:step T O (frS l v fr (fun k=>listed.getD k false) l.length) (hS l Hh (fun k=>listed.getD k false) l.length) l[i]=some (upd l[i].dst (v i) (frS l v fr (fun k=>listed.getD k false) l.length),hS l Hh (fun q=>listed.getD q false || q==i) l.length):=by
   rw [zgh,hstep];rfl
  have hstp:=ze8 (Q:=Q) (ops:=ops) hO hT st (hget i l[i] o hm (by simpa using ho)) hst (next:=wpAny P .any ops Q fuel (listed.setIfInBounds i true)) (fun I' ρ' a' w' st' n'=>by
   refine ih _ (by simpa using hsz) ?_ (fun j o' hj hS d hd'=>?_) (st'.congr_heap ?_ ?_) (n.chain hh0 st.hr.len.symm n')
   ·have:(listed.setIfInBounds i true).toList.count true=listed.toList.count true+1:=by
     rw [Array.toList_setIfInBounds]
     exact zg8 (by rw [y49];simp [hlt'] at hn ⊢;exact hn)
    omega
   ·simp only [hset,y39,beq_iff_eq] at hS ⊢
    rcases hS with hS | rfl
    ·exact .inl (hcl j o' hj hS d hd')
    ·rw [ho] at hj;cases hj;exact .inl (hd d hd')
   ·intro t
    rw [zg4 l.length fun k _=>hset k]
    exact zgv hLN hED hm hn t l.length (by omega)
   ·exact zg5 l.length fun k _=>hset k)
  unfold wpOp
  simp only [ho]
  split
  ·rename_i hw;rw [if_pos hw] at hstp;exact .inl hstp
  ·rename_i hw;rw [if_neg hw] at hstp;exact hstp
end
section
variable {P:Program} {T:Nat->Option MFun} {O:Orc} {N:Nat} {ops:Array Oper} {l:List MO} {chk:List (Nat×Nat)} {S:Nat->Bool} {k d:Nat} {zero:List V}
structure Late (ops:Array Oper) (l:List MO) (chk:List (Nat×Nat)) (k d:Nat) (zero:List V):Prop where
 hk:l[k]? =some ⟨some d, .alloc zero,none⟩
 rp: ∀(i j:Nat) (mi mj:MO),i<j->l[i]? =some mi->l[j]? =some mj->Bef ops i j\/(shareFree mi mj=true/\classes chk i j mi mj=true)\/(j=k/\shareFree mi mj=true/\isE mi.op=true)
 cl: ∀(j:Nat) (mk mj:MO),k<j->l[k]? =some mk->l[j]? =some mj-> ¬(shareFree mk mj=true/\classes chk k j mk mj=true)-> ∀(i:Nat) (mi:MO),i<k->l[i]? =some mi->isE mi.op=true->Bef ops i j
theorem zhc (h:lateOk (clos ops.toList []) l chk k=true): ∃d zero,Late ops l chk k d zero:=by
 simp only [lateOk,y5] at h
 obtain ⟨⟨h1,h2⟩,h3⟩:=h
 have gd: ∀{j:Nat} {mj:MO},l[j]? =some mj->l.getD j default=mj:=fun hj=>by rw [y14,hj];rfl
 unfold isAlloc at h1
 split at h1
 ·rename_i dd zz hm
  have hk:l[k]? =some ⟨some dd, .alloc zz,none⟩:=by
   rw [y14] at hm
   cases hq:l[k]? with
   | none=>simp [hq] at hm;cases hm
   | some m=>simp only [hq,y44] at hm;rw [hm]
  refine ⟨dd,zz,hk,fun i j mi mj hij hi hj=>?_,fun j mk mj hkj hk' hj hf i mi hik hi he=>?_⟩
  ·simp only [y51,List.mem_range] at h2
   have:=h2 j (z7 hj) i hij
   rw [gd hi,gd hj] at this
   simp only [pairOk,y39,y5,decide_eq_true_eq] at this
   rcases this with (h | h) | h
   ·exact .inl (bef_of h)
   ·exact .inr (.inl h)
   ·exact .inr (.inr ⟨h.1,h.2.1,h.2.2⟩)
  ·simp only [y51,List.mem_range] at h3
   have:=h3 j (z7 hj)
   rw [gd hk',gd hj] at this
   simp only [y39,y5,decide_eq_true_eq,y51,List.mem_range] at this
   rcases this with h | h | h
   ·omega
   ·exact absurd h hf
   ·have:=h i hik
    rw [gd hi,he] at this
    simp only [Bool.not_true,y17,false_or] at this
    exact bef_of this
 ·cases h1
def allE (l:List MO) (S:Nat->Bool) (k:Nat):Prop:= ∀(i:Nat) (mi:MO),i<k->l[i]? =some mi->isE mi.op=true->S i=true
open Classical in
noncomputable def eff (l:List MO) (S:Nat->Bool) (k:Nat):Nat->Bool:=fun q=>S q && (decide (q≠k) || decide (allE l S k))
theorem eff_ne {q:Nat} (h:q≠k):eff l S k q=S q:=by simp [eff,h]
theorem eff_k (h:allE l S k):eff l S k k=S k:=by simp [eff,h]
theorem zhd (h: ¬allE l S k):eff l S k k=false:=by simp [eff,h]
theorem eff_no {q:Nat} (h:S q=false):eff l S k q=false:=by simp [eff,h]
theorem zhe {i:Nat} (h:allE l S k):allE l (fun q=>S q || q==i) k:=fun j mj hj hl he=>by simp [h j mj hj hl he]
section
variable (L:Late ops l chk k d zero) (hc:Closed ops S) {i:Nat} {mi:MO} {oi:Oper} (hi:l[i]? =some mi) (hoi:ops[i]? =some oi) (hn:S i=false) (hd: ∀d∈direct oi,S d=true)
include L hc hi hoi hn hd
theorem zhf (j:Nat) (mj:MO) (hij:i<j) (hj:l[j]? =some mj) (h: ¬(shareFree mi mj=true/\classes chk i j mi mj=true)):eff l S k j=false:=by
 have bef:Bef ops i j->eff l S k j=false:=fun hb=>by
  cases hS:S j with
  | false=>exact eff_no hS
  | true=>have:=hb S hc hS;rw [hn] at this;cases this
 rcases L.rp i j mi mj hij hi hj with hb | hb | ⟨hb,_,he⟩
 ·exact bef hb
 ·exact absurd hb h
 ·subst hb
  exact zhd fun ha=>by have:=ha i mi hij hi he;rw [hn] at this;cases this
theorem zhg (hik:i=k->allE l S k) (j:Nat) (mj:MO) (hij:j<i) (hj:l[j]? =some mj) (h: ¬(shareFree mj mi=true/\classes chk j i mj mi=true)):eff l S k j=true:=by
 rcases L.rp j i mj mi hij hj hi with hb | hb | ⟨hb,_,he⟩
 ·have hS:=zgr hb hc hoi hd (by omega)
  by_cases hjk:j=k
  ·subst hjk
   rw [eff_k,hS]
   intro i' mi' hi' hl' he'
   exact zgr (L.cl i mj mi hij hj hi h i' mi' hi' hl' he') hc hoi hd (by omega)
  ·rw [eff_ne hjk];exact hS
 ·exact absurd hb h
 ·rw [eff_ne (by omega)]
  exact hik hb j mj (by omega) hj he
end
section
variable (L:Late ops l chk k d zero) (hc:Closed ops S) {i:Nat} {mi:MO} {oi:Oper} (hi:l[i]? =some mi) (hoi:ops[i]? =some oi) (hd: ∀d∈direct oi,S d=true)
 (hSk:S k=true) (hno: ¬allE l S k) (hik:i≠k)
include L hc hi hoi hd hSk hno hik
theorem zhh {mk:MO} (hk:l[k]? =some mk) (hn:S i=false):d∉mi.reads/\mi.dst≠some d:=by
 have hm:mk=⟨some d, .alloc zero,none⟩:=by have:=L.hk;rw [hk] at this;simpa using this
 rcases y28 i k with h | h
 ·rcases L.rp i k mi mk h hi hk with hb | hb | hb
  ·have:=hb S hc hSk;rw [hn] at this;cases this
  ·have:=zgq hb.1
   rw [hm] at this
   exact ⟨this.2 d rfl,fun e=>(this.1 d e).2 rfl⟩
  ·have:=zgq hb.2.1
   rw [hm] at this
   exact ⟨this.2 d rfl,fun e=>(this.1 d e).2 rfl⟩
 ·have hf:shareFree mk mi=true/\classes chk k i mk mi=true:=Classical.byContradiction fun hh=>
   hno fun i' mi' hi' hl' he'=>zgr (L.cl i mk mi (by omega) hk hi hh i' mi' hi' hl' he') hc hoi hd (by omega)
  have:=zgq hf.1
  rw [hm] at this
  exact this.1 d rfl
theorem zhi {mk:MO} (hk:l[k]? =some mk) (j:Nat) (mj:MO) (hkj:k<j) (hj:l[j]? =some mj) (h: ¬(shareFree mk mj=true/\classes chk k j mk mj=true)):(eff l S k j || j==i)=false:=by
 have hcl:=L.cl j mk mj hkj hk hj h
 rw [Bool.or_eq_false_iff]
 refine ⟨?_,?_⟩
 ·rw [eff_ne (by omega)]
  cases hS:S j with
  | false=>rfl
  | true=>exact absurd (fun i' mi' hi' hl' he'=>hcl i' mi' hi' hl' he' S hc hS) hno
 ·by_cases e:j=i
  ·subst e
   exact absurd (fun i' mi' hi' hl' he'=>zgr (hcl i' mi' hi' hl' he') hc hoi hd (by omega)) hno
  ·simpa using e
theorem zhj (hall:allE l (fun q=>S q || q==i) k) {mk:MO} (hk:l[k]? =some mk) (j:Nat) (mj:MO) (hjk:j<k) (hj:l[j]? =some mj) (h: ¬(shareFree mj mk=true/\classes chk j k mj mk=true)):(eff l S k j || j==i)=true:=by
 rw [eff_ne (by omega)]
 rcases L.rp j k mj mk hjk hj hk with hb | hb | hb
 ·rw [hb S hc hSk];rfl
 ·exact absurd hb h
 ·exact hall j mj hjk hj hb.2.2
end
def Pend (d:Nat) (zero:List V) (w0:World) (I:Addr->Prop) (ρ:Infs) (w:World) (a:Act):Prop:= ∃B arr,a.tmps.getD d undef= .pointer (some ⟨B,0,none⟩)/\CellsAt w B arr/\arr.size=zero.length/\goods zero=true/\
 (∀(I:Addr->Prop) (ρ:Infs) (c:Addr->Option Value) (j:Nat) (lf:V),zero[j]? =some lf->VR I ρ c lf (arr.getD j undef))/\ ¬Live ρ B/\(∀x,I x->x.block≠B)/\w0.heap.size<=B
theorem Pend.next {w0:World} {I I':Addr->Prop} {ρ ρ':Infs} {w w':World} {a a':Act} {h:Nat} (p:Pend d zero w0 I ρ w a) (n:Nxt h I ρ w I' ρ' w') (ht:a'.tmps.getD d undef=a.tmps.getD d undef):Pend d zero w0 I' ρ' w' a':=by
 obtain ⟨B,arr,h1,⟨ty,h2⟩,h3,h4,h5,h6,h7,h8⟩:=p
 have hlt:B<w.heap.size:=(Array.getElem?_eq_some_iff.1 h2).1
 refine ⟨B,arr,by rw [ht];exact h1,⟨ty,by rw [n.grow.keep B hlt h6];exact h2⟩,h3,h4,h5,fun hl=>?_,fun x hx=>?_,h8⟩
 ·rcases n.live B hl with h | h
  ·exact h6 h
  ·omega
 ·rcases n.new x hx with h | h | h
  ·exact h7 x h
  ·intro e;rw [e] at h;exact h6 h
  ·intro e;omega
theorem zhk {w0 w:World} {I0 I:Addr->Prop} {ρ0 ρ:Infs} {a:Act} {h0:Nat} {fr:Fr} {H:Hp} (p:Pend d zero w0 I ρ w a) (st:St I ρ w ((d, .junk)::fr) H N a) (hh:h0<=ρ0.length) (n:Nxt h0 I0 ρ0 w0 I ρ w):
  ∃ρ',St I ρ' w ((d, .ptr H.length 0)::fr) (H++[.box zero]) N a/\Nxt h0 I0 ρ0 w0 I ρ' w:=by
 obtain ⟨B,arr,h1,hc,h3,h4,h5,h6,h7,h8⟩:=p
 have hmore: ∀id,id<ρ.length->Pers ρ[id]? (ρ++[some (.box B)])[id]? :=fun id hid=>by rw [y10 hid];exact Pers.refl _
 refine ⟨ρ++[some (.box B)],⟨st.hr.push ⟨B,rfl,⟨arr,hc,h3,h4,fun j lf hj=>h5 _ _ _ j lf hj⟩,h7⟩ (fun B' hB hl=>?_),fun t=>?_,st.size,st.dfr⟩,⟨n.sub,n.new,n.grow,fun B' ⟨id,inf,hid,hB⟩=>?_,fun id hid=>?_,?_⟩⟩
 ·simp only [Has,Inf.has] at hB;subst hB;exact h6 hl
 ·simp only [get]
  by_cases ht:t=d
  ·subst ht
   rw [if_pos rfl,h1]
   refine .ptr _ _ _ (by simp [st.hr.len]) ⟨_,rfl⟩ fun inf hinf=>⟨B,?_,rfl⟩
   rw [<- st.hr.len] at hinf
   simp only [y25,y1] at hinf
   exact hinf.symm
  ·rw [if_neg ht]
   have:=st.fr t
   simp only [get] at this
   rw [if_neg ht] at this
   exact this.mono (fun _ h=>h) (fun _ _=>rfl) (by simp) hmore
 ·rcases y28 id ρ.length with h | h
  ·rw [y10 h] at hid
   exact n.live B' ⟨id,inf,hid,hB⟩
  ·rw [y18 h] at hid
   have h0:id - ρ.length=0:=by have:=z7 hid;simp at this;omega
   rw [h0] at hid
   simp only [y35,y1] at hid
   subst hid
   simp only [Inf.has] at hB
   subst hB
   exact .inr h8
 ·have hl:h0<=ρ.length:=by rcases n.long with h | h<;>omega
  rw [y10 (by omega)]
  exact n.ids id hid
 ·rcases n.long with h | h
  ·left;simp;omega
  ·right;exact h
theorem zhl {op:Op} (h:okOp P (.alloc zero) op=true): ∃t,op= .alloc t/\okZ P t zero=true:=by
 cases op<;>first | (simp [okOp] at h;done) | skip
 exact ⟨_,rfl,by simpa [okOp] using h⟩
theorem zhm {w0 w:World} {I0 I:Addr->Prop} {ρ0 ρ:Infs} {a:Act} {h0:Nat} {fr:Fr} {H:Hp} {o:Oper} {Q:Exit->Act->World->Prop} {next:Act->World->Prop} (st:St I ρ w fr H N a) (hok:okO P ops N ⟨some d, .alloc zero,none⟩ o=true) (hh:h0<=ρ0.length) (n:Nxt h0 I0 ρ0 w0 I ρ w)
  (hn: ∀a' w',St I ρ w' ((d, .junk)::fr) H N a'->Pend d zero w0 I ρ w' a'->Nxt h0 I0 ρ0 w0 I ρ w'->next a' w'):Region.wanted o (yielded ops a.tmps)=true/\o.wp P a w next Q:=by
 simp only [okO,y5] at hok
 obtain ⟨⟨hd,hg⟩,hop⟩:=hok
 have hog:o.guard=none:=by
  cases hog:o.guard with
  | none=>rfl
  | some q=>simp [hog,okGuard] at hg
 refine ⟨by simp [Region.wanted,hog],?_⟩
 have hdoes:Does P o a w fun u w'=> ∃arr ty,u= .pointer (some ⟨w.heap.size,0,none⟩)/\w'=w.alloc (.cells arr ty)/\arr.size=zero.length/\goods zero=true/\(∀(I:Addr->Prop) (ρ:Infs) (c:Addr->Option Value) (j:Nat) (lf:V),zero[j]? =some lf->VR I ρ c lf (arr.getD j undef)):=by
  obtain ⟨t,ho,hz⟩:=zhl hop
  obtain ⟨i,z,hi,hzz,hs,hg',hv⟩:=zd9 hz
  refine Does.value (s:=Instr.alloc t true (.tuple #[])) (u:= .pointer (some ⟨w.heap.size,0,none⟩)) (w':=w.alloc (.cells z.cells t)) (by simp [execOp,ho]) ?_ ⟨z.cells,t,rfl,rfl,hs,hg',hv⟩
  simp [Instr.alloc,zeroValue,typeInfo,hi,hzz,newVar,newRow]
 refine hdoes.wp fun u w' ⟨arr,ty,hu,hw,h3,h4,h5⟩=>?_
 have hlt:d<a.tmps.size:=by
  cases ho:o.dst with
  | none=>simp [ho,okDst] at hd
  | some d'=>
   simp only [ho,okDst,y5,decide_eq_true_eq] at hd
   exact y56 hd.2 st.size
 have hod:o.dst=some d:=by
  cases ho:o.dst with
  | none=>simp [ho,okDst] at hd
  | some d'=>simp only [ho,okDst,y5,beq_iff_eq] at hd;rw [hd.1]
 subst hw;subst hu
 have nn:Nxt H.length I ρ w I ρ (w.alloc (.cells arr ty)):=⟨fun _ h=>h,fun _ h=> .inl h,Grow.alloc st.hr _ _,fun _ h=> .inl h,fun _ _=>Pers.refl _, .inl (by rw [st.hr.len];exact y13 _)⟩
 refine hn _ _ ⟨st.hr.alloc _,?_,?_,?_⟩ ⟨w.heap.size,arr,?_,zbs w arr ty,h3,h4,h5,fun hl=>?_,fun x hx=>?_,?_⟩ (n.chain hh st.hr.len.symm nn)
 ·rw [hod]
  exact FR.put (fun t=>(st.fr t).mono (fun _ h=>h) (fun x hx=>World.cell?_alloc_lt w _ x (zbq (st.hr.cells x hx))) (y13 _) (fun _ _=>Pers.refl _)) (.junk _) hlt
 ·rw [hod];simpa [Act.put] using st.size
 ·rw [hod];exact st.dfr
 ·rw [hod];simp [Act.put,hlt]
 ·have:=st.hr.live_lt hl;omega
 ·have:=zbq (st.hr.cells x hx);omega
 ·exact n.grow.size
def InvL (l:List MO) (v:Nat->V) (fr:Fr) (Hh:Nat->Hp) (k d:Nat) (zero:List V) (N:Nat) (w0:World) (S:Nat->Bool) (I:Addr->Prop) (ρ:Infs) (w:World) (a:Act):Prop:=
 (¬(S k=true/\ ¬allE l S k)/\St I ρ w (frS l v fr (eff l S k) l.length) (hS l Hh (eff l S k) l.length) N a)\/
 ((S k=true/\ ¬allE l S k)/\St I ρ w ((d, .junk)::frS l v fr (eff l S k) l.length) (hS l Hh (eff l S k) l.length) N a/\Pend d zero w0 I ρ w a)
theorem zhn (hO:OrcOk P O) (hT: ∀f mf,T f=some mf->okCall P f=true) (L:Late ops l chk k d zero) {fr:Fr} {H:Hp} {F:Nat->Fr} {Hh:Nat->Hp} {v:Nat->V} (hr:Run T O l fr H F Hh v)
  (hs: ∀r e,(r,e)∈chk-> ∀m,l[r]? =some m->stepV T O (F r) (Hh e) m=some (v r,Hh e)/\stepV T O (F r) (Hh (e+1)) m=some (v r,Hh (e+1))) {h0:Nat} {I0:Addr->Prop} {ρ0:Infs} {w0:World} (hh0:h0<=ρ0.length)
  (hc:Closed ops S) {i:Nat} {mi:MO} {oi:Oper} (hi:l[i]? =some mi) (hoi:ops[i]? =some oi) (hn:S i=false) (hd: ∀d∈direct oi,S d=true) (hok:okO P ops N mi oi=true)
  {I:Addr->Prop} {ρ:Infs} {w:World} {a:Act} (inv:InvL l v fr Hh k d zero N w0 S I ρ w a) (n:Nxt h0 I0 ρ0 w0 I ρ w) {Q:Exit->Act->World->Prop} {next:Act->World->Prop}
  (hnext: ∀I' ρ' a' w',InvL l v fr Hh k d zero N w0 (fun q=>S q || q==i) I' ρ' w' a'->Nxt h0 I0 ρ0 w0 I' ρ' w'->next a' w'):
  if Region.wanted oi (yielded ops a.tmps) then oi.wp P a w next Q else next (a.put oi.dst undef) w:=by
 by_cases hcase:i=k/\ ¬allE l S k
 ·obtain ⟨rfl,hna⟩:=hcase
  have hm:mi=⟨some d, .alloc zero,none⟩:=by have:=L.hk;rw [hi] at this;simpa using this
  subst hm
  have hna': ¬allE l (fun q=>S q || q==i) i:=fun h=>hna fun j mj hj hl he=>by
   have:=h j mj hj hl he
   have hji:(j==i)=false:=by simp;omega
   simpa [hji] using this
  have heff:eff l (fun q=>S q || q==i) i=eff l S i:=by
   funext q
   by_cases hq:q=i
   ·subst hq;rw [zhd hna',zhd hna]
   ·rw [eff_ne hq,eff_ne hq];simp [hq]
  rcases inv with ⟨_,st⟩ | ⟨⟨hSk,_⟩,_⟩
  ·obtain ⟨hw,hwp⟩:=zhm (next:=next) (Q:=Q) st hok hh0 n (fun a' w' st' p' n'=>hnext _ _ _ _ (.inr ⟨⟨by simp,hna'⟩,by rw [heff];exact st',p'⟩) n')
   rw [if_pos hw];exact hwp
  ·rw [hn] at hSk;cases hSk
 ·have hik:i=k->allE l S k:=fun e=>Classical.byContradiction fun h=>hcase ⟨e,h⟩
  have LN:=zhf L hc hi hoi hn hd
  have ED:=zhg L hc hi hoi hn hd hik
  have hn':eff l S k i=false:=eff_no hn
  have hstep:=zg0 LN ED hi hn' hr hs
  rcases inv with ⟨hnp,st⟩ | ⟨⟨hSk,hno⟩,st,p⟩
  ·have hst:step T O (frS l v fr (eff l S k) l.length) (hS l Hh (eff l S k) l.length) mi=some (upd mi.dst (v i) (frS l v fr (eff l S k) l.length),hS l Hh (fun q=>eff l S k q || q==i) l.length):=by rw [zgh,hstep];rfl
   have hallk:S k=true->allE l S k:=fun h=>Classical.byContradiction fun h'=>hnp ⟨h,h'⟩
   have heff:eff l (fun q=>S q || q==i) k=fun q=>eff l S k q || q==i:=by
    funext q
    by_cases hq:q=k
    ·subst hq
     by_cases hiq:i=q
     ·have h1:=zhe (i:=i) (hik hiq)
      rw [eff_k h1];simp [hiq]
     ·have hqi:(q==i)=false:=by simp;exact fun e=>hiq e.symm
      simp only [hqi,Bool.or_false]
      cases hSq:S q with
      | false=>rw [eff_no hSq,eff_no (by simp [hSq,hqi])]
      | true=>
       rw [eff_k (hallk hSq),eff_k (zhe (hallk hSq))];simp [hqi]
    ·rw [eff_ne hq,eff_ne hq]
   refine ze7 hO hT st hok hst fun I' ρ' a' w' st' n' _=>hnext _ _ _ _ (.inl ⟨?_,?_⟩) (n.chain hh0 st.hr.len.symm n')
   ·rintro ⟨h1,h2⟩
    simp only [y39,beq_iff_eq] at h1
    rcases h1 with h1 | h1
    ·exact h2 (zhe (hallk h1))
    ·exact h2 (zhe (hik h1.symm))
   ·rw [heff]
    exact st'.congr fun t=>zgv LN ED hi hn' t l.length (z7 hi)
  ·have hne:i≠k:=fun e=>by rw [e,hSk] at hn;cases hn
   have hki:(k==i)=false:=by simp;exact fun e=>hne e.symm
   obtain ⟨hrd,hdst⟩:=zhh L hc hi hoi hd hSk hno hne L.hk hn
   have hst2:stepV T O ((d,V.junk)::frS l v fr (eff l S k) l.length) (hS l Hh (eff l S k) l.length) mi=some (v i,hS l Hh (fun q=>eff l S k q || q==i) l.length):=by
    rw [zgi (fr':=frS l v fr (eff l S k) l.length) fun t ht=>by simp only [get];rw [if_neg];rintro rfl;exact hrd ht]
    exact hstep
   have hst:step T O ((d,V.junk)::frS l v fr (eff l S k) l.length) (hS l Hh (eff l S k) l.length) mi=some (upd mi.dst (v i) ((d,V.junk)::frS l v fr (eff l S k) l.length),hS l Hh (fun q=>eff l S k q || q==i) l.length):=by rw [zgh,hst2];rfl
   refine ze7 hO hT st hok hst fun I' ρ' a' w' st' n' ht=>?_
   have p':=p.next n' (ht d hdst)
   have n2:=n.chain hh0 st.hr.len.symm n'
   have st2:St I' ρ' w' ((d,V.junk)::frS l v fr (fun q=>eff l S k q || q==i) l.length) (hS l Hh (fun q=>eff l S k q || q==i) l.length) N a':=st'.congr fun t=>by
    have hp:=zgv (v:=v) (fr:=fr) LN ED hi hn' t l.length (z7 hi)
    by_cases htd:t=d
    ·subst htd;rw [zgf hdst];simp [get]
    ·have e1: ∀f:Fr,get t ((d,V.junk)::f)=get t f:=fun f=>by simp [get,htd]
     rw [e1,hp]
     by_cases hmt:mi.dst=some t
     ·rw [hmt,zgg,zgg]
     ·rw [zgf hmt,zgf hmt,e1]
   by_cases hall:allE l (fun q=>S q || q==i) k
   ·obtain ⟨ρ2,st3,n3⟩:=zhk p' st2 hh0 n2
    have LN2:=zhi L hc hi hoi hd hSk hno hne L.hk
    have ED2:=zhj L hc hi hoi hd hSk hno hne hall L.hk
    have hS1k:(fun q=>eff l S k q || q==i) k=false:=by simp [zhd hno,hki]
    have hstep2:=zg0 (S:=fun q=>eff l S k q || q==i) LN2 ED2 L.hk hS1k hr hs
    simp only [stepV,ev,y1,y7] at hstep2
    obtain ⟨hv,hH⟩:=hstep2
    have heff:eff l (fun q=>S q || q==i) k=fun q=>(eff l S k q || q==i) || q==k:=by
     funext q
     by_cases hq:q=k
     ·subst hq;rw [eff_k hall];simp [hSk]
     ·rw [eff_ne hq,eff_ne hq];simp [hq]
    refine hnext _ _ _ _ (.inl ⟨fun h=>h.2 hall,?_⟩) n3
    rw [heff]
    refine st3.congr_heap (fun t=>?_) hH.symm
    rw [zgv (S:=fun q=>eff l S k q || q==i) LN2 ED2 L.hk hS1k t l.length (z7 L.hk),<- hv]
    rfl
   ·have heff:eff l (fun q=>S q || q==i) k=fun q=>eff l S k q || q==i:=by
     funext q
     by_cases hq:q=k
     ·subst hq;rw [zhd hall,zhd hno];simp [hki]
     ·rw [eff_ne hq,eff_ne hq]
    refine hnext _ _ _ _ (.inr ⟨⟨by simp [hSk],hall⟩,?_,p'⟩) n2
    rw [heff];exact st2
theorem zho (hO:OrcOk P O) (hT: ∀f mf,T f=some mf->okCall P f=true) (hos:okOs P ops N l ops.toList=true) (hed:edgesOk 0 ops.toList=true) (L:Late ops l chk k d zero) {fr:Fr} {H:Hp} {F:Nat->Fr} {Hh:Nat->Hp} {v:Nat->V} (hr:Run T O l fr H F Hh v)
  (hs: ∀r e,(r,e)∈chk-> ∀m,l[r]? =some m->stepV T O (F r) (Hh e) m=some (v r,Hh e)/\stepV T O (F r) (Hh (e+1)) m=some (v r,Hh (e+1))) {h0:Nat} {I0:Addr->Prop} {ρ0:Infs} {w0:World} (hh0:h0<=ρ0.length) {Q:Exit->Act->World->Prop}
  (hq: ∀I' ρ' a' w',St I' ρ' w' (F l.length) (Hh l.length) N a'->Nxt h0 I0 ρ0 w0 I' ρ' w'->Q .normal a' w'):
  ∀(fuel:Nat) (listed:Array Bool),listed.size=ops.size->listed.toList.count true+fuel=ops.size->Closed ops (fun k=>listed.getD k false)->
   ∀{I:Addr->Prop} {ρ:Infs} {w:World} {a:Act},InvL l v fr Hh k d zero N w0 (fun k=>listed.getD k false) I ρ w a->Nxt h0 I0 ρ0 w0 I ρ w->wpAny P .any ops Q fuel listed a w:=by
 obtain ⟨hlen,hget⟩:=zg1 hos
 have hlen':l.length=ops.size:=by simpa using hlen
 have done:=fun listed hsz hrd=>zha (ops:=ops) hed (listed:=listed) hsz hrd
 have fin: ∀(listed:Array Bool) {I:Addr->Prop} {ρ:Infs} {w:World} {a:Act},(∀i,i<ops.size->listed.getD i false=true)->InvL l v fr Hh k d zero N w0 (fun k=>listed.getD k false) I ρ w a->Nxt h0 I0 ρ0 w0 I ρ w->Q .normal a w:=by
  intro listed I ρ w a hall inv n
  have hae:allE l (fun k=>listed.getD k false) k:=fun i mi hi hl he=>hall i (by have:=z7 hl;omega)
  rcases inv with ⟨_,st⟩ | ⟨⟨_,h⟩,_⟩
  ·obtain ⟨e1,e2⟩:=zg6 (S:=eff l (fun k=>listed.getD k false) k) hr l.length (y13 _) fun i hi=>by
    by_cases hik:i=k
    ·subst hik;rw [eff_k hae];exact hall i (by omega)
    ·rw [eff_ne hik];exact hall i (by omega)
   rw [e1,e2] at st
   exact hq _ _ _ _ st n
  ·exact absurd hae h
 intro fuel
 induction fuel with
 | zero=>
  intro listed hsz hcnt hcl I ρ w a inv n
  have hall: ∀i,i<ops.size->listed.getD i false=true:=fun i hi=>by
   have:=zg9 (ls:=listed.toList) (by simp only [y43];omega) i (by simp only [y43];omega)
   rw [y49] at this
   rw [y15,this];rfl
  refine ⟨?_,fin listed hall inv n⟩
  cases hrd:Region.ready .any ops listed with
  | nil=>rfl
  | cons i rs=>
   have hi:i∈Region.ready .any ops listed:=by rw [hrd];exact y30
   rw [mem_ready] at hi
   obtain ⟨h1,o,h2,_⟩:=hi
   have hlt:i<ops.size:=(Array.getElem?_eq_some_iff.1 h2).1
   have:=hall i hlt
   have hlt':i<listed.size:=by omega
   simp [hlt'] at h1 this
   rw [this] at h1;cases h1
 | succ fuel ih=>
  intro listed hsz hcnt hcl I ρ w a inv n
  refine ⟨fun hrd=>fin listed (done listed hsz hrd) inv n,fun i hi=>?_⟩
  rw [mem_ready] at hi
  obtain ⟨hli,o,ho,hall⟩:=hi
  have hlt:i<ops.size:=(Array.getElem?_eq_some_iff.1 ho).1
  have hlt':i<listed.size:=by omega
  have hm:l[i]? =some l[i]:=y6 (by omega)
  have hn:listed.getD i false=false:=by simp [hlt'] at hli ⊢;exact hli
  have hd: ∀d∈direct o,listed.getD d false=true:=fun d hd=>by
   simp only [direct,List.mem_map,List.mem_filter] at hd
   obtain ⟨e,⟨he,hb⟩,rfl⟩:=hd
   exact hall e (by simpa using he) hb
  have hset:(fun q=>(listed.setIfInBounds i true).getD q false)=fun q=>listed.getD q false || q==i:=by
   funext q
   by_cases hk:i=q
   ·subst hk;simp [hlt']
   ·rw [getD_set_ne false hk]
    have:(q==i)=false:=by simpa using Ne.symm hk
    rw [this,Bool.or_false]
  have hstp:=zhn (S:=fun k=>listed.getD k false) (Q:=Q) hO hT L hr hs hh0 hcl hm ho hn hd (hget i l[i] o hm (by simpa using ho)) inv n (next:=wpAny P .any ops Q fuel (listed.setIfInBounds i true)) (fun I' ρ' a' w' inv' n'=>by
   refine ih _ (by simpa using hsz) ?_ (fun j o' hj hS d hd'=>?_) (by rw [hset];exact inv') n'
   ·have:(listed.setIfInBounds i true).toList.count true=listed.toList.count true+1:=by
     rw [Array.toList_setIfInBounds]
     exact zg8 (by rw [y49];simp [hlt'] at hn ⊢;exact hn)
    omega
   ·have hset':=fun q=>congrFun hset q
    simp only [hset',y39,beq_iff_eq] at hS ⊢
    rcases hS with hS | rfl
    ·exact .inl (hcl j o' hj hS d hd')
    ·rw [ho] at hj;cases hj;exact .inl (hd d hd'))
  unfold wpOp
  simp only [ho]
  split
  ·rename_i hw;rw [if_pos hw] at hstp;exact .inl hstp
  ·rename_i hw;rw [if_neg hw] at hstp;exact hstp
noncomputable def drawOk (hT: ∀f mf,T f=some mf->okCall P f=true) (hm:P.follows .mixedOrders=true) (N:Nat):DrawOk P T N where
 ok:=okD P N
 run :=by
  intro O l chk ops hO hok I ρ w fr H a fr' H' id Q st h hq
  unfold stepsD at h
  split at h
  ·rename_i hall
   obtain ⟨F,Hh,v,hr,h1,h2,h3⟩:=zgo h
   have hs: ∀r e,(r,e)∈chk-> ∀m,l[r]? =some m->stepV T O (F r) (Hh e) m=some (v r,Hh e)/\stepV T O (F r) (Hh (e+1)) m=some (v r,Hh (e+1)):=by
    intro r e hre m hm
    obtain ⟨g1,g2⟩:=zgp hall hre
    have hr0:=h3 r (Nat.le_of_lt (z7 hm))
    have hst:=(hr.st r m hm).1
    have key: ∀e,sameAt T O (trace T O fr H l) l r e->stepV T O (F r) (Hh e) m=some (v r,Hh e):=by
     intro e hse
     unfold sameAt at hse
     rw [hr0,hm] at hse
     split at hse
     ·rename_i p q m' hp hq' hm'
      simp only [y1] at hp hm'
      subst hp;subst hm'
      obtain ⟨u,g3,g4⟩:=hse
      have hel:e<=l.length:=by
       have:=z7 hq'
       have hle:=zg3 T O fr H l
       omega
      have hq2:=h3 e hel
      rw [hq'] at hq2
      simp only [y1] at hq2;subst hq2
      rw [hst] at g3
      simp only [y1,y7] at g3
      rw [g3.1];exact g4
     ·exact hse.elim
    exact ⟨key e g1,key (e+1) g2⟩
   simp only [okD,y5,y39] at hok
   obtain ⟨⟨hos,hed⟩,hpr⟩:=hok
   have hlen:l.length=ops.size:=by simpa using (zg1 hos).1
   refine wp_region_any hm ?_
   have hfn:=zg7 (l:=l) (fr:=fr) (v:=v) (Hh:=Hh) (S:=fun k=>(Array.replicate ops.size false).getD k false) l.length (fun i hi=>by
    have:i<ops.size:=by omega
    simp [this])
   have hcl0:Closed ops (fun k=>(Array.replicate ops.size false).getD k false):=by
    intro j o hj hS
    by_cases h:j<ops.size
    ·simp [h] at hS
    ·simp [h] at hS
   have hz: ∀k,(fun k=>(Array.replicate ops.size false).getD k false) k=false:=by
    intro k
    by_cases h:k<ops.size<;>simp [h]
   have nx:Nxt H.length I ρ w I ρ w.drew:=⟨fun _ h=>h,fun _ h=> .inl h,(Grow.refl _ _ _).drew,fun _ h=> .inl h,fun _ _=>Pers.refl _, .inl (by rw [st.hr.len];exact y13 _)⟩
   rcases hpr with hpr | hpr
   ·refine zhb (h0:=H.length) (I0:=I) (ρ0:=ρ) (w0:=w) hO hT hos hed hpr hr hs (by rw [st.hr.len];exact y13 _) (fun I' ρ' a' w' st' n=>hq _ _ _ _ (by rw [h1,h2] at st';exact st') n) ops.size (Array.replicate ops.size false) (by simp) (by simp [List.count_replicate]) hcl0 (I:=I) (ρ:=ρ) ?_ nx
    rw [hfn.1,hfn.2,hr.h0]
    exact ⟨st.hr.drew,st.fr,st.size,st.dfr⟩
   ·rw [List.any_eq_true] at hpr
    obtain ⟨k,hk,hpr⟩:=hpr
    obtain ⟨d,zero,L⟩:=zhc hpr
    refine zho (h0:=H.length) (I0:=I) (ρ0:=ρ) (w0:=w) hO hT hos hed L hr hs (by rw [st.hr.len];exact y13 _) (fun I' ρ' a' w' st' n=>hq _ _ _ _ (by rw [h1,h2] at st';exact st') n) ops.size (Array.replicate ops.size false) (by simp) (by simp [List.count_replicate]) hcl0 (I:=I) (ρ:=ρ) (.inl ⟨fun h=>absurd h.1 (by have:=hz k;simp only at this;simp [this]),?_⟩) nx
    have hf2:=zg7 (l:=l) (fr:=fr) (v:=v) (Hh:=Hh) (S:=eff l (fun k=>(Array.replicate ops.size false).getD k false) k) l.length (fun i hi=>by
     have:=hz i
     simp only at this
     simp only [eff,this,Bool.false_and])
    rw [hf2.1,hf2.2,hr.h0]
    exact ⟨st.hr.drew,st.fr,st.size,st.dfr⟩
  ·cases h
end
def look:List (Nat×MFun)->Nat->Option MFun
 | [],_=>none
 | (g,mf)::l,f=>if f=g then some mf else look l f
def okFun (P:Program) (f:Nat) (mf:MFun):Bool:=match P.funcs[f]? with
 | some fn=>(match fn.body with
  | some c=>okCall P f && okMC P (okD P fn.ntmps) fn.ntmps mf.body c && okRes P mf.res fn.results.toList
  | none=>false)
 | none=>false
def okTab (P:Program):List (Nat×MFun)->Bool
 | []=>true
 | (f,mf)::l=>okFun P f mf && okTab P l
theorem zhp: ∀{l:List (Nat×MFun)} {f:Nat} {mf:MFun},look l f=some mf->(f,mf)∈l
 | [],f,mf,h=>by simp [look] at h
 | (g,m)::l,f,mf,h=>by
  simp only [look] at h
  split at h
  ·rename_i e;simp only [y1] at h;subst h;subst e;exact y30
  ·exact y34 _ (zhp h)
section
variable {P:Program} {tab:List (Nat×MFun)}
theorem zhq: ∀{tab:List (Nat×MFun)},okTab P tab=true-> ∀{f:Nat} {mf:MFun},(f,mf)∈tab->okFun P f mf=true
 | [],_,f,mf,h=>by simp at h
 | (g,m)::l,ht,f,mf,h=>by
  simp only [okTab,y5] at ht
  rcases List.mem_cons.1 h with h | h
  ·cases h;exact ht.1
  ·exact zhq ht.2 h
theorem zhr (ht:okTab P tab=true) (f:Nat) (mf:MFun) (h:look tab f=some mf):okCall P f=true:=by
 have:=zhq ht (zhp h)
 unfold okFun at this
 split at this
 ·split at this
  ·simp only [y5] at this;exact this.1.1
  ·cases this
 ·cases this
def PrimOk (P:Program):List (Nat×MFun)->Prop
 | []=>True
 | (f,mf)::l=>((∀p,mf.prim=some p-> ∀ds rs,p ds=some rs->DeepOk P f ds rs)/\(∀g,mf.iprim=some g-> ∀vs H rs H',g vs H=some (rs,H')->InlOk P f vs H rs H'))/\PrimOk P l
theorem np {f:Nat} {mf:MFun} (h:mf.prim=none) (h2:mf.iprim=none):(∀p,mf.prim=some p-> ∀ds rs,p ds=some rs->DeepOk P f ds rs)/\(∀g,mf.iprim=some g-> ∀vs H rs H',g vs H=some (rs,H')->InlOk P f vs H rs H'):=⟨fun p e=>(by rw [h] at e;cases e),fun p e=>(by rw [h2] at e;cases e)⟩
theorem nq {f:Nat} {mf:MFun} (h:mf.prim=none:=by rfl) (h2:mf.iprim=none:=by rfl):(∀p,mf.prim=some p-> ∀ds rs,p ds=some rs->DeepOk P f ds rs)/\(∀g,mf.iprim=some g-> ∀vs H rs H',g vs H=some (rs,H')->InlOk P f vs H rs H'):=⟨fun p e=>(by rw [h] at e;cases e),fun p e=>(by rw [h2] at e;cases e)⟩
theorem npd {f:Nat} {mf:MFun} {p0:List V->Option (List V)} (h:mf.prim=some p0) (h2:mf.iprim=none) (k: ∀ds rs,p0 ds=some rs->DeepOk P f ds rs):(∀p,mf.prim=some p-> ∀ds rs,p ds=some rs->DeepOk P f ds rs)/\(∀g,mf.iprim=some g-> ∀vs H rs H',g vs H=some (rs,H')->InlOk P f vs H rs H'):=⟨fun p e=>(by rw [h] at e;cases e;exact k),fun p e=>(by rw [h2] at e;cases e)⟩
theorem npi {f:Nat} {mf:MFun} {g0:List V->Hp->Option (List V×Hp)} (h:mf.prim=none) (h2:mf.iprim=some g0) (k: ∀vs H rs H',g0 vs H=some (rs,H')->InlOk P f vs H rs H'):(∀p,mf.prim=some p-> ∀ds rs,p ds=some rs->DeepOk P f ds rs)/\(∀g,mf.iprim=some g-> ∀vs H rs H',g vs H=some (rs,H')->InlOk P f vs H rs H'):=⟨fun p e=>(by rw [h] at e;cases e),fun p e=>(by rw [h2] at e;cases e;exact k)⟩
theorem zhs: ∀{tab:List (Nat×MFun)},PrimOk P tab-> ∀{f:Nat} {mf:MFun},(f,mf)∈tab->(∀p,mf.prim=some p-> ∀ds rs,p ds=some rs->DeepOk P f ds rs)/\(∀g,mf.iprim=some g-> ∀vs H rs H',g vs H=some (rs,H')->InlOk P f vs H rs H')
 | [],_,f,mf,h=>by simp at h
 | (g,m)::l,ht,f,mf,h=>by
  rcases List.mem_cons.1 h with h | h
  ·cases h;exact ht.1
  ·exact zhs ht.2 h
theorem tab_ok (hm:P.follows .mixedOrders=true) (ht:okTab P tab=true) (hp:PrimOk P tab) {f:Nat} {mf:MFun} (h:look tab f=some mf):Nonempty (FunOk P (look tab) f mf):=by
 have:=zhq ht (zhp h)
 unfold okFun at this
 split at this
 ·rename_i fn hf
  split at this
  ·rename_i c hc
   simp only [y5] at this
   exact ⟨{fn:=fn,c:=c,hf:=hf,hb:=hc,D:=drawOk (zhr ht) hm fn.ntmps,code:=this.1.2,res:=this.2,prm:=(zhs hp (zhp h)).1,iprm:=(zhs hp (zhp h)).2}⟩
  ·cases this
 ·cases this
end
section
variable {T:Nat->Option MFun} {O:Orc} {m h0:Nat} {fr:Fr} {H:Hp}
inductive KI where
 | code (c:MC)
 | blk (id:Nat)
 | rounds (live:List Nat) (a:MC) (n:Nat)
noncomputable def unw (T:Nat->Option MFun) (O:Orc) (m h0:Nat):List KI->Option (Ex×Fr×Hp)->Option (Ex×Fr×Hp)
 | [],r=>r
 | .code c::K,r=>unw T O m h0 K (r.bind fun p=>match p.1 with | .norm=>exec T O m h0 c p.2.1 p.2.2 | e=>some (e,p.2.1,p.2.2))
 | .blk id::K,r=>unw T O m h0 K (r.bind fun p=>match p.1 with | .exit j=>(if j=id then some (.norm,p.2.1,p.2.2) else some (.exit j,p.2.1,p.2.2)) | e=>some (e,p.2.1,p.2.2))
 | .rounds live a n::K,r=>unw T O m h0 K (r.bind fun p=>match p.1 with | .norm=>iter h0 live (exec T O m h0 a) n p.2.1 p.2.2 | e=>some (e,p.2.1,p.2.2))
variable {K:List KI}
theorem zht (a b:MC):unw T O m h0 K (exec T O m h0 (.seq a b) fr H)=unw T O m h0 (.code b::K) (exec T O m h0 a fr H):=by
 rfl
theorem zhu (id:Nat) (a:MC):unw T O m h0 K (exec T O m h0 (.blk id a) fr H)=unw T O m h0 (.blk id::K) (exec T O m h0 a fr H):=by
 rfl
theorem zhv (id j:Nat):unw T O m h0 (.blk id::K) (some (.exit j,fr,H))=if j=id then unw T O m h0 K (some (.norm,fr,H)) else unw T O m h0 K (some (.exit j,fr,H)):=by
 by_cases h:j=id<;>simp [unw,h]
theorem zhw (live:List Nat) (a:MC) (n:Nat):unw T O m h0 K (iter h0 live (exec T O m h0 a) (n+1) fr H)=unw T O m h0 (.rounds live a n::K) (exec T O m h0 a (canon h0 live fr H).1 (canon h0 live fr H).2):=rfl
def runO (T:Nat->Option MFun) (O:Orc) (l:List MO) (fr:Fr) (H:Hp):Option (Ex×Fr×Hp):=(steps T O fr H l).bind fun p=>some (.norm,p.1,p.2)
theorem zhx (l:List MO):exec T O m h0 (.dreg l []) fr H=runO T O l fr H:=by simp [exec,stepsD,allSame,runO]
theorem zhy (l:List MO) (k) (h:allSame T O (trace T O fr H l) l k):exec T O m h0 (.dreg l k) fr H=runO T O l fr H:=by simp [exec,stepsD,h,runO]
def goP (T:Nat->Option MFun) (O:Orc) (l:List MO) (fr:Fr) (d:Option Nat) (r:Option (V×Hp)):Option (Ex×Fr×Hp):=
 r.bind fun p=>runO T O l (match d with | some d=>(d,p.1)::fr | none=>fr) p.2
theorem zhz (l:List MO) (d:Option Nat) (op:MOp):runO T O (⟨d,op,none⟩::l) fr H=goP T O l fr d (ev T O fr H op):=by
 simp only [runO,goP,steps,step,doOp]
 cases ev T O fr H op<;>rfl
theorem zh0 {l:List MO} {d:Option Nat} {op:MOp} {g:Nat} {want:Bool} (h:get g fr= .bool want):runO T O (⟨d,op,some (g,want)⟩::l) fr H=goP T O l fr d (ev T O fr H op):=by
 simp only [runO,goP,steps,step,doOp,h,if_true]
 cases ev T O fr H op<;>rfl
theorem zh1 {l:List MO} {d:Option Nat} {op:MOp} {g:Nat} {want:Bool} (h:get g fr= .bool (!want)):runO T O (⟨d,op,some (g,want)⟩::l) fr H=runO T O l (match d with | some d=>(d,V.tup [])::fr | none=>fr) H:=by
 cases want<;>cases d<;>simp [runO,steps,step,h,skipOp]
theorem zh2 {l:List MO} {d:Option Nat} {op:MOp} {g:Nat} {want:Bool} (h:get g fr= .tup []):runO T O (⟨d,op,some (g,want)⟩::l) fr H=runO T O l (match d with | some d=>(d,V.tup [])::fr | none=>fr) H:=by
 cases d<;>simp [runO,steps,step,h,skipOp]
def fin (res:List MRes) (rets:List (List Nat)) (r:Option (Ex×Fr×Hp)):Option (List V):=
 r.bind fun p=>match p.1 with
  | .exit _=>none
  | _=>(resL p.2.1 p.2.2 res).bind fun l=>(outT rets p.2.2 l).bind fun q=>some q.1
theorem zh3 (mf:MFun) {p:List V->Option (List V)} (hp:mf.prim=some p) (ds:List V):runDeep T O m mf ds=p ds:=by
 simp only [runDeep,hp]
theorem zh4 (mf:MFun) (hp:mf.prim=none) (ds:List V):runDeep T O m mf ds=fin mf.res mf.rets (unw T O m (putT [] ds).2.length [] (exec T O m (putT [] ds).2.length mf.body (params 0 (putT [] ds).1) (putT [] ds).2)):=by
 simp only [runDeep,hp,runInl,fin,unw,Option.bind_assoc]
 congr 1;funext p;rcases p with ⟨e,fr,H⟩;cases e<;>simp [Option.bind_assoc]
def trimO (h0:Nat) (H:Hp) (l:List V) (ord:List Nat):List V×Hp:=(l.map (ren h0 ord H),(H.take h0).map (renB h0 ord H false)++ord.map fun i=>renB h0 ord H true (H.getD i .dead))
def trimK (h0:Nat) (H:Hp) (l:List V):List V×Hp:=trimO h0 H l (reach h0 H H.length (addNew [] (l.flatMap (idsV h0)++(H.take h0).flatMap (idsB h0))))
def finI (h0:Nat) (wk:Bool) (res:List MRes) (r:Option (Ex×Fr×Hp)):Option (List V×Hp):=
 r.bind fun p=>match p.1 with
  | .exit _=>none
  | _=>(resL p.2.1 p.2.2 res).bind fun l=>some (trimK h0 p.2.2 (wkL wk l))
theorem zh5 (mf:MFun) (hp:mf.iprim=none) (vs:List V):((runI T O m mf vs H).map fun p=>trim H.length (wkL mf.weak p.1,p.2))=finI H.length mf.weak mf.res (unw T O m H.length [] (exec T O m H.length mf.body (params 0 vs) H)):=by
 simp only [runI,hp,runInl,finI,unw]
 cases exec T O m H.length mf.body (params 0 vs) H with
 | none=>rfl
 | some p=>
  obtain ⟨e,fr',H'⟩:=p
  cases e<;>simp only [y4]<;>first | rfl | (cases resL fr' H' mf.res<;>rfl)
def finG (h0:Nat) (wk:Bool) (r:Option (List V×Hp)):Option (List V×Hp):=r.bind fun p=>some (trimK h0 p.2 (wkL wk p.1))
theorem zh6 (mf:MFun) {g:List V->Hp->Option (List V×Hp)} (hp:mf.iprim=some g) (vs:List V):((runI T O m mf vs H).map fun p=>trim H.length (wkL mf.weak p.1,p.2))=finG H.length mf.weak (g vs H):=by
 simp only [runI,hp,finG];cases g vs H<;>rfl
theorem zh7 (T) (n f ds):(orc T (n+1)).deep f ds=(T f).bind fun mf=>runDeep T (orc T n) n mf ds:=rfl
theorem zh8 (T) (n f vs H):(orc T (n+1)).inl f vs H=(T f).bind fun mf=>(runI T (orc T n) n mf vs H).map fun p=>trim H.length (wkL mf.weak p.1,p.2):=rfl
def vk (H H1:Hp) (ms:List Nat) (vs:List V):Option (List V)->Option (V×Hp)
 | none=>none
 | some r=>if scalars r=true then some (pack r,takes H ms vs) else some (pack (putT H1 r).1,(putT H1 r).2)
def ik:Option (List V×Hp)->Option (V×Hp)
 | none=>none
 | some p=>some (pack p.1,p.2)
theorem zh9 {f:Nat} {mf:MFun} {vs:List V} (h:T f=some mf) (hi:mf.inline=false):vcall T O f vs H=(args H mf.modes vs).bind fun p=>vk H p.2 mf.modes vs (O.deep f p.1):=by
 simp only [vcall,h,hi,y17,if_false]
 congr 1;funext p
 cases O.deep f p.1<;>rfl
theorem zia {f:Nat} {mf:MFun} {vs:List V} (h:T f=some mf) (hi:mf.inline=true):vcall T O f vs H=ik (O.inl f vs H):=by
 simp only [vcall,h,hi,if_true]
 cases O.inl f vs H<;>rfl
noncomputable def condE (T:Nat->Option MFun) (O:Orc) (m h0:Nat) (a b:MC) (fr:Fr) (H:Hp):V->Option (Ex×Fr×Hp)
 | .bool c=>if c=true then exec T O m h0 a fr H else exec T O m h0 b fr H
 | _=>none
theorem zib (x:MArg) (a b:MC):exec T O m h0 (.cond x a b) fr H=condE T O m h0 a b fr H (x.val fr):=by
 unfold condE;simp only [exec];split<;>simp_all
def onG (T:Nat->Option MFun) (O:Orc) (d:Option Nat) (op:MOp) (want:Bool) (l:List MO) (fr:Fr) (H:Hp):V->Option (Ex×Fr×Hp)
 | .bool b=>if b=want then goP T O l fr d (ev T O fr H op) else runO T O l (match d with | some d=>(d,V.tup [])::fr | none=>fr) H
 | .tup []=>runO T O l (match d with | some d=>(d,V.tup [])::fr | none=>fr) H
 | _=>none
theorem runO_g (l:List MO) (d:Option Nat) (op:MOp) (g:Nat) (want:Bool):runO T O (⟨d,op,some (g,want)⟩::l) fr H=onG T O d op want l fr H (get g fr):=by
 unfold onG
 split
 ·rename_i b hb
  by_cases h:b=want
  ·subst h;rw [if_pos rfl];exact zh0 hb
  ·rw [if_neg h];refine zh1 (want:=want) ?_;rw [hb];cases b<;>cases want<;>first | rfl | exact absurd rfl h
 ·rename_i hb;exact zh2 hb
 ·rename_i h1 h2
  have:step T O fr H ⟨d,op,some (g,want)⟩=none:=by
   unfold step
   split
   ·rename_i h;cases h
   ·rename_i g' w' hg
    simp only [y1,y7] at hg
    obtain ⟨rfl,rfl⟩:=hg
    split
    ·rename_i b hb;exact absurd hb (h1 b)
    ·rename_i hb;exact absurd hb h2
    ·rfl
  simp only [runO,steps,this,Option.bind_none]
def stepK (fr:Fr) (d:Option Nat):Option (V×Hp)->Option (Fr×Hp)
 | none=>none
 | some p=>some (match d with | some d=>(d,p.1)::fr | none=>fr,p.2)
def traceK (T:Nat->Option MFun) (O:Orc) (l:List MO):Option (Fr×Hp)->List (Fr×Hp)
 | none=>[]
 | some p=>trace T O p.1 p.2 l
theorem zic (o:MO) (l:List MO):trace T O fr H (o::l)=(fr,H)::traceK T O l (step T O fr H o):=by
 simp only [trace,traceK]
 cases step T O fr H o<;>rfl
theorem step_n (d:Option Nat) (op:MOp):step T O fr H ⟨d,op,none⟩=stepK fr d (ev T O fr H op):=by
 simp only [step,doOp,stepK];cases ev T O fr H op<;>rfl
def stepG (T:Nat->Option MFun) (O:Orc) (d:Option Nat) (op:MOp) (want:Bool) (fr:Fr) (H:Hp):V->Option (Fr×Hp)
 | .bool b=>if b=want then stepK fr d (ev T O fr H op) else some (match d with | some d=>(d,V.tup [])::fr | none=>fr,H)
 | .tup []=>some (match d with | some d=>(d,V.tup [])::fr | none=>fr,H)
 | _=>none
theorem step_g (d:Option Nat) (op:MOp) (g:Nat) (want:Bool):step T O fr H ⟨d,op,some (g,want)⟩=stepG T O d op want fr H (get g fr):=by
 unfold stepG step doOp
 simp only
 split
 ·rename_i b hb
  rw [hb];simp only [stepK,skipOp]
  split
  ·cases ev T O fr H op<;>rfl
  ·rfl
 ·rename_i hb;rw [hb];rfl
 ·rename_i h1 h2
  split
  ·rename_i b hb;exact absurd hb (h1 b)
  ·rename_i hb;exact absurd hb h2
  ·rfl
def vG (T:Nat->Option MFun) (O:Orc) (op:MOp) (want:Bool) (fr:Fr) (H:Hp):V->Option (V×Hp)
 | .bool b=>if b=want then ev T O fr H op else some (.tup [],H)
 | .tup []=>some (.tup [],H)
 | _=>none
theorem zid (d:Option Nat) (op:MOp) (g:Nat) (want:Bool):stepV T O fr H ⟨d,op,some (g,want)⟩=vG T O op want fr H (get g fr):=by
 unfold vG stepV
 simp only
 split<;>simp_all
def sameV (h:Hp) (a:Option (V×Hp)) (h2:Hp) (b:Option (V×Hp)):Prop:=match a,b with
 | some p,some q=>p.2=h/\q.2=h2/\q.1=p.1
 | _,_=>False
def sameK (T:Nat->Option MFun) (O:Orc) (p q:Option (Fr×Hp)) (o:Option MO):Prop:=match p,q,o with
 | some p,some q,some o=>sameV p.2 (stepV T O p.1 p.2 o) q.2 (stepV T O p.1 q.2 o)
 | _,_,_=>False
theorem zie {h h2:Hp} {a b:Option (V×Hp)}:sameV h a h2 b<-> ∃v,a=some (v,h)/\b=some (v,h2):=by
 cases a with
 | none=>simp [sameV]
 | some p=>
  cases b with
  | none=>simp [sameV]
  | some q=>
   obtain ⟨v,h1⟩:=p;obtain ⟨v2,h3⟩:=q
   simp only [sameV,y1,y7]
   constructor
   ·rintro ⟨rfl,rfl,rfl⟩;exact ⟨_,⟨rfl,rfl⟩,rfl,rfl⟩
   ·rintro ⟨_,⟨rfl,rfl⟩,rfl,rfl⟩;exact ⟨rfl,rfl,rfl⟩
theorem zif (tr:List (Fr×Hp)) (l:List MO) (r e:Nat):sameAt T O tr l r e=sameK T O tr[r]? tr[e]? l[r]? :=by
 unfold sameAt sameK
 cases tr[r]? <;>cases tr[e]? <;>cases l[r]? <;>first | rfl | (simp only;exact propext zie.symm)
theorem zih {α:Type} (e:α->V) (sz:Nat) (h: ∀a,(leaves (e a)).length=sz): ∀l:List α,sizes sz (l.map e)=true
 | []=>rfl
 | a::l=>by simp [sizes,h a,zih e sz h l]
theorem zii: ∀l:List Int,u8s (l.map (V.int .u8))=true
 | []=>rfl
 | a::l=>by simp [u8s,zii l]
theorem zij {sz:Nat}: ∀{xs:List V},sizes sz xs=true<-> ∀v∈xs,(leaves v).length=sz
 | []=>by simp [sizes]
 | a::l=>by simp [sizes,zij (xs:=l)]
theorem zik {sz n:Nat} {xs:List V} (h:sizes sz xs=true):sizes sz (xs.drop n)=true:=zij.2 fun v hv=>zij.1 h v (List.mem_of_mem_drop hv)
theorem zil {sz n:Nat} {xs:List V} (h:sizes sz xs=true):sizes sz (xs.take n)=true:=zij.2 fun v hv=>zij.1 h v (y42 hv)
theorem zim {sz:Nat}: ∀{xs ys:List V},sizes sz (xs++ys)=(sizes sz xs && sizes sz ys)
 | [],ys=>by simp [sizes]
 | a::l,ys=>by simp [sizes,zim (xs:=l),Bool.and_assoc]
theorem zin {sz n:Nat} {xs:List V} {v:V} (h:sizes sz xs=true) (hv:(leaves v).length=sz):sizes sz (xs.set n v)=true:=zij.2 fun u hu=>by
 rcases List.mem_or_eq_of_mem_set hu with h1 | h1
 ·exact zij.1 h u h1
 ·rw [h1];exact hv
theorem zio {sz n:Nat} {v:V} (hv:(leaves v).length=sz):sizes sz (List.replicate n v)=true:=zij.2 fun u hu=>by rw [(List.mem_replicate.1 hu).2];exact hv
theorem zip: ∀{xs:List V},u8s xs=true<-> ∀v∈xs,∃n,v= .int .u8 n
 | []=>by simp [u8s]
 | a::l=>by
  constructor
  ·intro h
   unfold u8s at h
   split at h
   ·rename_i h1;cases h1
   ·rename_i n l' h1;cases h1
    intro v hv
    rcases List.mem_cons.1 hv with rfl | hv
    ·exact ⟨_,rfl⟩
    ·exact zip.1 h v hv
   ·cases h
  ·intro h
   obtain ⟨n,rfl⟩:=h a (y30)
   simp only [u8s]
   exact zip.2 fun v hv=>h v (y34 _ hv)
theorem ziq {n:Nat} {xs:List V} (h:u8s xs=true):u8s (xs.drop n)=true:=zip.2 fun v hv=>zip.1 h v (List.mem_of_mem_drop hv)
theorem zir {n:Nat} {xs:List V} (h:u8s xs=true):u8s (xs.take n)=true:=zip.2 fun v hv=>zip.1 h v (y42 hv)
theorem zis {xs ys:List V} (h:u8s xs=true) (h':u8s ys=true):u8s (xs++ys)=true:=zip.2 fun v hv=>by
 rcases List.mem_append.1 hv with h1 | h1
 ·exact zip.1 h v h1
 ·exact zip.1 h' v h1
theorem zit {n:Nat} {m:Int} {xs:List V} (h:u8s xs=true):u8s (xs.set n (.int .u8 m))=true:=zip.2 fun u hu=>by
 rcases List.mem_or_eq_of_mem_set hu with h1 | h1
 ·exact zip.1 h u h1
 ·exact ⟨_,h1⟩
theorem ziu {n:Nat} {m:Int}:u8s (List.replicate n (.int .u8 m))=true:=zip.2 fun u hu=>⟨_,(List.mem_replicate.1 hu).2⟩
def isNm:V->Bool
 | .int _ _=>true
 | _=>false
def ints (l:List V):Prop:= ∀v∈l,isNm v=true
theorem ziv {k:IntKind} {l:List Int}:ints (l.map (V.int k)):=fun v hv=>by
 obtain ⟨n,_,rfl⟩:=List.mem_map.1 hv;rfl
theorem ziw {n:Nat} {xs:List V} (h:ints xs):ints (xs.drop n):=fun v hv=>h v (List.mem_of_mem_drop hv)
theorem zix {n:Nat} {xs:List V} (h:ints xs):ints (xs.take n):=fun v hv=>h v (y42 hv)
theorem ziy {n:Nat} {k:IntKind} {m:Int} {xs:List V} (h:ints xs):ints (xs.set n (.int k m)):=fun v hv=>by
 rcases List.mem_or_eq_of_mem_set hv with h1 | h1
 ·exact h v h1
 ·rw [h1];rfl
theorem ziz {n:Nat} {k:IntKind} {m:Int}:ints (List.replicate n (.int k m)):=fun v hv=>by rw [(List.mem_replicate.1 hv).2];rfl
theorem zi0 {xs ys:List V} (h:ints xs) (h':ints ys):ints (xs++ys):=fun v hv=>by
 rcases List.mem_append.1 hv with h1 | h1
 ·exact h v h1
 ·exact h' v h1
theorem zi1 {a:V} {l:List V} (h:ints (a::l)):(∃k n,a= .int k n)/\ints l:=
 ⟨by (have:=h a y30;cases a<;>first | exact ⟨_,_,rfl⟩ | (cases this;done)),fun v hv=>h v (y34 _ hv)⟩
theorem zi2: ∀{l:List V},ints l->goods l=true
 | [],_=>rfl
 | a::l,h=>by obtain ⟨⟨k,n,rfl⟩,h2⟩:=zi1 h;simp [goods,good,zi2 h2]
theorem zi3: ∀{l:List V},ints l->l.all scalar=true
 | [],_=>rfl
 | a::l,h=>by obtain ⟨⟨k,n,rfl⟩,h2⟩:=zi1 h;simp only [List.all_cons,scalar,zi3 h2,y58]
theorem zi4 {H:Hp}: ∀{l:List V},ints l->shareL H l=some (l,H)
 | [],_=>rfl
 | a::l,h=>by obtain ⟨⟨k,n,rfl⟩,h2⟩:=zi1 h;simp [shareL,share1,zi4 h2]
theorem zi5 {H:Hp}: ∀{l:List V},ints l->outL [] H l=some (l,H)
 | [],_=>rfl
 | a::l,h=>by obtain ⟨⟨k,n,rfl⟩,h2⟩:=zi1 h;simp [outL,out1,share1,zi5 h2]
theorem zi6 {H:Hp}: ∀{l:List V},ints l->putL H l=(l,H)
 | [],_=>rfl
 | a::l,h=>by obtain ⟨⟨k,n,rfl⟩,h2⟩:=zi1 h;simp [putL,put1,zi6 h2]
theorem zi7 {h0:Nat}: ∀{l:List V},ints l->l.flatMap (ids1 h0)=[]
 | [],_=>rfl
 | a::l,h=>by obtain ⟨⟨k,n,rfl⟩,h2⟩:=zi1 h;simp only [List.flatMap_cons,ids1,zi7 h2,y45]
theorem zi8 {h0:Nat} {ord:List Nat} {H:Hp}: ∀{l:List V},ints l->l.map (ren1 h0 ord H)=l
 | [],_=>rfl
 | a::l,h=>by obtain ⟨⟨k,n,rfl⟩,h2⟩:=zi1 h;simp only [y32,zi8 h2];rfl
theorem zi9 {ls:List V}: ∀{cs:List V} {off i:Nat},(setAt cs off ls)[i]? =if i<cs.length/\off<=i/\i<off+ls.length then ls[i - off]? else cs[i]? :=by
 induction ls with
 | nil=>intro cs off i;simp only [setAt,y24];rw [if_neg (by omega)]
 | cons v l ih=>
  intro cs off i
  simp only [setAt]
  rw [ih]
  simp only [List.length_set,y20]
  by_cases h1:i<cs.length/\off+1<=i/\i<off+1+l.length
  ·rw [if_pos h1,if_pos (by omega)]
   obtain ⟨j,rfl⟩: ∃j,i=off+1+j:=⟨i - (off+1),by omega⟩
   rw [show off+1+j - (off+1)=j by omega,show off+1+j - off=j+1 by omega,List.getElem?_cons_succ]
  ·rw [if_neg h1]
   by_cases h2:i<cs.length/\off<=i/\i<off+(l.length+1)
   ·rw [if_pos h2]
    have:i=off:=by omega
    subst this
    rw [y22 h2.1,show i - i=0 by omega,y35]
   ·rw [if_neg h2]
    by_cases e:off=i
    ·subst e
     have: ¬off<cs.length:=by omega
     rw [y48 (by simp;omega),y48 (by omega)]
    ·rw [y27 e]
theorem zja {cs ls:List V} (h:ls.length=cs.length):setAt cs 0 ls=ls:=by
 apply List.ext_getElem?
 intro i
 rw [zi9]
 by_cases hi:i<cs.length
 ·rw [if_pos (by omega)];rfl
 ·rw [if_neg (by omega),y48 (by omega),y48 (by omega)]
theorem zjb {cs ls:List V} (h:ls.length<=cs.length):setAt cs 0 ls=ls++cs.drop ls.length:=by
 apply List.ext_getElem?
 intro i
 rw [zi9,List.getElem?_append]
 by_cases h1:i<ls.length
 ·rw [if_pos (by omega),if_pos h1];rfl
 ·rw [if_neg (by omega),if_neg h1,y38,show ls.length+(i - ls.length)=i by omega]
theorem zjc (k:IntKind) (l:List Int):(l.map (V.int k)).map num=l:=by simp [num,Function.comp_def]
theorem cut1 (xs:List V) (off len:Nat):cut xs off len 1=xs.drop off:=by
 unfold cut;by_cases h:off=0<;>simp [h]
theorem cut0 (xs:List V) (off len:Nat):cut xs off len 0=(xs.drop off).take len:=by
 unfold cut;by_cases h:off=0<;>simp [h]
theorem cut2 (xs:List V) (off len:Nat):cut xs off len 2=(xs.drop off).take len:=by
 unfold cut;by_cases h:off=0<;>simp [h]
end
structure Sl (α:Type) where
 z:Bool
 l:List α
structure Ow (α:Type) where
 n:Bool
 x:Bool
 xs:List α
def Sl.enc {α:Type} (e:α->V) (s:Sl α):V:= .sl s.z (s.l.map e)
def Ow.enc {α:Type} (sz:Nat) (e:α->V) (s:Ow α):V:= .own s.n sz s.x (s.xs.map e)
def arrEnc {α:Type} (e:α->V) (l:List α):V:= .agg (l.map e)
abbrev insOk {α:Type} (a0:Ow α) (a1:Int) (a2:Ow α):Prop:=a0.x=true/\0<=a1/\a1<=(a0.xs.length:Int)/\a2.n=false/\a2.xs.length≠0/\a0.xs.length+a2.xs.length<=4294967296
def insR {α:Type} (a0:Ow α) (a1:Int) (a2:Ow α):Ow α:=⟨false,true,a0.xs.take a1.toNat++a2.xs++a0.xs.drop a1.toNat⟩
def insP (sz:Nat) (l:List V):Option (List V):=match l with
 | [.own z s x xs, .int .i64 i, .own z2 s2 x2 vs]=>if s=sz/\s2=sz/\x=true/\0<=i/\i<=(xs.length:Int)/\z2=false/\vs.length≠0/\xs.length+vs.length<=4294967296 then some [.own false sz true (xs.take i.toNat++vs++xs.drop i.toNat)] else none
 | _=>none
theorem zjd {α:Type} (e:α->V) (sz:Nat) {a0:Ow α} {a1:Int} {a2:Ow α} (c:insOk a0 a1 a2):insP sz [a0.enc sz e, .int .i64 a1,a2.enc sz e]=some [(insR a0 a1 a2).enc sz e]:=by
 obtain ⟨h1,h2,h3,h4,h5,h6⟩:=c
 simp only [Ow.enc,insP,insR]
 rw [if_pos (by simp only [y23];exact ⟨trivial,trivial,h1,h2,h3,h4,h5,h6⟩)]
 simp [List.map_take,List.map_drop]
end Go.Dvm
