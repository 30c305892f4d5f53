/- Walks through a disk's functions. -/
import Derived.Carry
import Derived.Shelf.Abstract
import Derived.Handy
import Derived.KernelRfl
import Derived.Deep.RegionHeld3
import Derived.Deep.QuietTactic
import Derived.BigQuiet
import Derived.RegionTactic
import Derived.Shelf.SlMaps.Clone
import Derived.Ground.SlmcProg
import Derived.Shelf.SlIterI.Nil
import Derived.Shelf.SlIterI.Sorted
import Derived.Shelf.SortM.Plain
import Derived.Shelf.SortM.SortNone
import Derived.Ground.GgzProg
import Derived.Ground.SlgmProg
import Derived.Shelf.SlicesE.DeleteFunc
import Derived.Ground.SlgfProg
import Derived.Test.YtfefdjloogcapaaGreatProg
import Derived.Test.YtfefdjloogcapaaGreatQv2
set_option linter.all false
set_option maxRecDepth 100000
set_option maxHeartbeats 16000000
namespace Go.Dvm.C
open Go Go.Proofs Go.RowKit Go.Maps
theorem zxj (w:World) (B nb cn:Nat) (es:Array MapEntry) (L:MapEntry->Nat) (c2:w.cell? ⟨B,2,none⟩=some (.map (some nb))) (hn:w.heap[nb]? =some (.map es cn))
    (hb:(es.toList.map (·.born)).Nodup) (hc: ∀x∈es.toList,x.born<cn) (hf: ∀x∈es.toList,∃f a cp,x.val= .pointer (some ⟨f,0,none⟩)/\w.cell? ⟨f,0,none⟩=some (.slice a (L x) cp)) (hs:lensL L es.toList<=4611686018427387904):
    Calls Tryz.prog 59 #[.pointer (some ⟨B,0,none⟩)] w fun e w'=>e= .returned (.int .i64 (lensL L es.toList))/\Kp (fun _=>False) w w':=by
  have hu:Tryz.prog.underlying 86=some (.map 3 108):=by kernel_rfl
  have hrg:(Instr.range 86 (.map (some nb))).run Tryz.prog w= .ok (.pointer (some ⟨w.heap.size,0,none⟩)) (w.alloc (.mapIter (some nb) cn #[] cn)):=by
    simp [Instr.range,run_underlying hu,MapKept.run_getObj_map hn]
  have hlt:nb<w.heap.size:=(Array.getElem?_eq_some_iff.1 hn).1
  go_enter Tryz.func59,Tryz.ntmps59
  go_wp2
  refine wp_loop_rounds (es.size+1) (zkf (fun n a w1=> ∃(t5 t11 t12 t13 t14 t15 t16 t17 t18 t19 t20 t21:Value) (m c:Nat) (seen:Array Nat),a= {tmps:= #[.pointer (some ⟨B,0,none⟩),undef, .int .i64 0, .int .i64 m,undef,t5, .pointer (some ⟨B,0,none⟩), .pointer (some ⟨B,0,none⟩), .pointer (some ⟨B,2,none⟩), .map (some nb), .pointer (some ⟨w.heap.size,0,none⟩),t11,t12,t13,t14,t15,t16,t17,t18,t19,t20,t21,undef],defers:=[]}/\
     (leftOf es seen).size<n/\cn<=c/\m+lensL L (leftOf es seen).toList=lensL L es.toList/\w1.heap[w.heap.size]? =some (.mapIter (some nb) cn seen c)/\Kp (fun _=>False) w w1) ?_ ?_ _ _ _ ?_)
  · rintro a w1 ⟨_,_,_,_,_,_,_,_,_,_,_,_,_,_,_,_,h,_⟩;omega
  · rintro n a w1 ⟨t5,t11,t12,t13,t14,t15,t16,t17,t18,t19,t20,t21,m,c,seen,rfl,h1,h2,h3,h4,h5⟩
    have hn1:w1.heap[nb]? =some (.map es cn):=by rw [h5.keep _ hlt (by simp)];exact hn
    have hsz:w.heap.size<w1.heap.size:=(Array.getElem?_eq_some_iff.1 h4).1
    rcases run_next_at (P:=Tryz.prog) w1 0 w.heap.size nb cn c seen es cn h4 hn1 hc h2 with ⟨g1,g2⟩ | ⟨e,he,w2,hw2,g2⟩
    · have hz:lensL L (leftOf es seen).toList=0:=by rw [Array.eq_empty_of_size_eq_zero g1];rfl
      have hm:m=lensL L es.toList:=by omega
      subst hm
      go_wp2
      go_ret
      exact ⟨rfl,h5⟩
    · have hes:=(mem_left he).1
      obtain ⟨f,fa,cp,hv,hfc⟩:=hf e hes
      have hfl:f<w.heap.size:=by
        unfold World.cell? at hfc
        split at hfc
        · rename_i hq;exact (Array.getElem?_eq_some_iff.1 hq).1
        · cases hfc
      have hle:L e+lensL L (leftOf es (seen.push e.born)).toList=lensL L (leftOf es seen).toList:=by have:=zki L hb he;omega
      have hw2':w2.heap=w1.heap:=by rcases hw2 with rfl | rfl<;>rfl
      have k3:(_root_.Go.ChangeMaps.setBlock w2 w.heap.size (.mapIter (some nb) cn (seen.push e.born) cn)).heap[w.heap.size]? =some (.mapIter (some nb) cn (seen.push e.born) cn):=by
        show (w2.heap.setIfInBounds _ _)[_]? =_
        rw [hw2'];simp [hsz]
      have k5:Kp (fun _=>False) w (_root_.Go.ChangeMaps.setBlock w2 w.heap.size (.mapIter (some nb) cn (seen.push e.born) cn)):=by
        refine ⟨by rcases hw2 with rfl | rfl<;>exact h5.os,by rcases hw2 with rfl | rfl<;>exact h5.tape,by rcases hw2 with rfl | rfl<;>exact h5.output,?_,fun k hk _=>?_⟩
        · show _<=(w2.heap.setIfInBounds _ _).size;rw [hw2'];simp;exact h5.size
        · show (w2.heap.setIfInBounds _ _)[k]? =_;rw [hw2',Array.getElem?_setIfInBounds_ne (by omega)];exact h5.keep k hk (by simp)
      have k1:(_root_.Go.ChangeMaps.setBlock w2 w.heap.size (.mapIter (some nb) cn (seen.push e.born) cn)).heap[nb]? =some (.map es cn):=by rw [k5.keep _ hlt (by simp)];exact hn
      have hen:=run_entry_at (P:=Tryz.prog) (_root_.Go.ChangeMaps.setBlock w2 w.heap.size (.mapIter (some nb) cn (seen.push e.born) cn)) w.heap.size nb cn seen es cn e k3 k1 hes hb
      have hfc2:(_root_.Go.ChangeMaps.setBlock w2 w.heap.size (.mapIter (some nb) cn (seen.push e.born) cn)).cell? ⟨f,0,none⟩=some (.slice fa (L e) cp):=by rw [zkg k5 hfl (by simp)];exact hfc
      rw [hv] at g2 hen
      generalize _root_.Go.ChangeMaps.setBlock w2 w.heap.size (.mapIter (some nb) cn (seen.push e.born) cn)=w3 at g2 hen hfc2 k3 k5
      have hwr:((m+L e:Nat):Int)=(m:Int)+(L e:Int):=by omega
      go_wp2
      exact ⟨_,_,_,_,_,_,_,_,_,_,_,_,m+L e,cn,seen.push e.born,by rw [hwr],by have:=left_shrinks es seen e he;omega,Nat.le_refl _,by omega,k3,k5⟩
  · refine ⟨_,_,_,_,_,_,_,_,_,_,_,_,0,cn,#[],rfl,?_,Nat.le_refl _,?_,?_,Kp.alloc _ _ _⟩
    · unfold leftOf;have:=Array.size_filter_le (p:=fun e:MapEntry=>!(#[]:Array Nat).contains e.born) (xs:=es);omega
    · rw [show (leftOf es #[]).toList=es.toList by simp [leftOf]];omega
    · show (w.heap.push _)[_]? =_;rw [Array.getElem?_push,if_pos rfl]
theorem zxk {w:World} {B i:Nat} {arr:Array Value} {v:Value} (h:CellsAt w B arr) (hi:arr[i]? =some v):w.cell? ⟨B,i,none⟩=some v:=by
 obtain ⟨ty,h⟩:=h;simp [World.cell?,h,hi]
theorem zxl {w:World} {B i:Nat} {arr:Array Value} (h:CellsAt w B arr):w.frozen? ⟨B,i,none⟩=false:=by
 obtain ⟨ty,h⟩:=h;simp [World.frozen?,h]
theorem zxm {w:World} {B i:Nat} {arr:Array Value} {v:Value} (h:CellsAt w B arr):CellsAt (w.setCell ⟨B,i,none⟩ v) B (arr.set! i v):=by
 obtain ⟨ty,h⟩:=h;exact ⟨ty,heap_setCell_same w B i arr ty v h⟩
theorem wrp64 (n:Int):wrp .i64 n=wrap64 n:=by unfold wrp wrap64;exact IntKind.wrap_i64 n
theorem zxn {w:World} {B kb nb:Nat} {wv:Value} {d:Dk} (h:CellsAt w B (dcells d kb nb wv)):
   Calls Tryz.prog 62 #[.pointer (some ⟨B,0,none⟩)] w fun e w'=>e= .returned (.int .i64 0)/\Kp (· =B) w w'/\CellsAt w' B (dcells (did d) kb nb wv):=by
  have c4:w.cell? ⟨B,4,none⟩=some (.bool d.out):=zxk h rfl
  have c5:w.cell? ⟨B,5,none⟩=some (.bool d.armed):=zxk h rfl
  have c6:w.cell? ⟨B,6,none⟩=some (.int .i64 d.left):=zxk h rfl
  have f4:w.frozen? ⟨B,4,none⟩=false:=zxl h
  have f5:w.frozen? ⟨B,5,none⟩=false:=zxl h
  have f6:w.frozen? ⟨B,6,none⟩=false:=zxl h
  go_enter Tryz.func62,Tryz.ntmps62
  go_wp2
  · go_ret
    rename_i ha
    refine ⟨rfl,((Kp.set (own:=(· =B)) w ⟨B,6,none⟩ _ rfl).trans (Kp.set (own:=(· =B)) _ ⟨B,4,none⟩ _ rfl)).trans (Kp.set (own:=(· =B)) _ ⟨B,5,none⟩ _ rfl),?_⟩
    have:=zxm (i:=5) (v:= .bool !decide (wrap64 (d.left - 1)<=0)) (zxm (i:=4) (v:= .bool (decide (wrap64 (d.left - 1)<=0))) (zxm (i:=6) (v:= .int .i64 (wrap64 (d.left - 1))) h))
    unfold did;rw [if_pos ha,wrp64];exact this
  · go_ret
    rename_i ha
    refine ⟨rfl,Kp.refl _ _,?_⟩
    unfold did;rw [if_neg (by rw [ha];decide)];exact h
theorem zxo {w:World} {B kb nb:Nat} {wv:Value} {d:Dk} (h:CellsAt w B (dcells d kb nb wv)):
   Calls Tryz.prog 47 #[.pointer (some ⟨B,0,none⟩)] w fun e w'=>e= .returned (.bool !d.out)/\w'=w:=by
  have c4:w.cell? ⟨B,4,none⟩=some (.bool d.out):=zxk h rfl
  go_enter Tryz.func47,Tryz.ntmps47
  go_wp2
  go_ret
  exact ⟨rfl,rfl⟩
theorem zxp {w:World} (n:Int):Calls Tryz.prog 58 #[.int .i64 n] w fun e w'=>e= .returned (.bool (decide (0<=n/\n<1048576)))/\w'=w:=by
 go_enter Tryz.func58,Tryz.ntmps58
 go_wp2
 ·go_ret;rename_i h0;exact ⟨by simp [h0],rfl⟩
 ·go_ret;rename_i h0;exact ⟨by simp;omega,rfl⟩
theorem zxq {w:World} (n:Int):Calls Tryz.prog 14 #[.int .i64 n] w fun e w'=>e= .returned (.pointer (some ⟨w.heap.size+2,0,none⟩))/\w'=((w.alloc (.map #[] 0)).alloc (.map #[] 0)).alloc (.cells (dcells ⟨n,[],0,false,false,0⟩ w.heap.size (w.heap.size+1) (.slice none 0 0)) 89 (0,0)):=by
 have hmm:= @run_makeMap Tryz.prog
 go_enter Tryz.func14,Tryz.ntmps14
 go_wp2
 go_ret
 exact ⟨rfl,rfl⟩
theorem zxr {w:World} {nb cn F N:Nat} {es:Array MapEntry} {ks:List (Int×Nat)} {n:Int} {f:Nat} (h:NMap w nb es cn ks) (hn:nlook ks n=none) (hr:inR .i64 n)
  (c1:w.cell? ⟨N,0,none⟩=some (.int .i64 n)) (c2:w.cell? ⟨F,0,none⟩=some (.pointer (some ⟨f,0,none⟩))):
  Calls Tryz.prog 61 #[.map (some nb), .pointer (some ⟨F,0,none⟩), .pointer (some ⟨N,0,none⟩)] w fun e w'=>e= .returned (.tuple #[])/\w'=_root_.Go.ChangeMaps.setBlock w nb (.map (es.push {key:= .int .i64 n,val:= .pointer (some ⟨f,0,none⟩),born:=cn}) (cn+1)):=by
 have hadd:=h.add (P:=Tryz.prog) (t:=86) (K:=3) (E:=108) (by kernel_rfl) (by kernel_rfl) (f:=f) hn hr
 go_enter Tryz.func61,Tryz.ntmps61
 go_wp2
 go_returns
 exact ⟨rfl,rfl⟩
theorem zxs {w w1:World} {B nb fid:Nat} {wb:Option Nat} {wl wc:Nat} {caps:Array Value} (c2:w.cell? ⟨B,2,none⟩=some (.map (some nb)))
  (he: ∀args w,(callFunc fid args).run Tryz.prog w= .ok (.enter fid args) w) (hc:Calls Tryz.prog fid (#[.map (some nb)]++caps) w fun e w'=>e= .returned (.tuple #[])/\w'=w1)
  (c3:w1.cell? ⟨B,3,none⟩=some (.slice (adr wb) wl wc)) (f3:w1.frozen? ⟨B,3,none⟩=false) (hw:RoomAt w1 wb wl wc) (hm:wl+1<=most) (hB:B<w1.heap.size) (hwb:wb≠some B):
  Calls Tryz.prog 60 #[.pointer (some ⟨B,0,none⟩), .func (.func fid) #[] caps] w fun e w'=>e= .returned (.tuple #[])/\
   ∃(wb':Option Nat) (wc':Nat),RoomAt w' wb' (wl+1) wc'/\(wb'=wb\/ ∃r,wb'=some r/\w1.heap.size<=r)/\Kp (fun k=>k=B\/wb=some k) w1 w'/\ ∀arr,CellsAt w1 B arr->CellsAt w' B (arr.set! 3 (.slice (adr wb') (wl+1) wc')):=by
 obtain ⟨wb',wc',w2,hap,hr2,ho2,hk2⟩:=zkm (P:=Tryz.prog) (w:=w1.alloc (.cells #[.func (.func fid) #[] caps] 112)) (t:=87) (t2:=87) (ty:=87) (o:=wb) (n:=wl) (cp:=wc) (m:=1) (c2:=1) (a2:=some ⟨w1.heap.size,0,none⟩) (by kernel_rfl) ⟨112,by kernel_rfl⟩
  (by cases wb with
   | none=>exact hw
   | some r=>obtain ⟨q1,arr,⟨ty,q2⟩,q3⟩:=hw;exact ⟨q1,arr,⟨ty,by rw [zbr w1 _ _ (Array.getElem?_eq_some_iff.1 q2).1];exact q2⟩,q3⟩) hm (fun h=>by cases h) (fun ad h k hk=>by
    cases h
    obtain rfl:k=0:=by omega
    exact ⟨.func (.func fid) #[] caps,by rw [show Addr.add ⟨w1.heap.size,0,none⟩ 0=⟨w1.heap.size,0,none⟩ from rfl];exact zxk (zbs w1 _ _) rfl,rfl⟩)
 have kk:Kp (fun k=>wb=some k) w1 w2:=(Kp.alloc _ _ _).trans hk2
 have c3':w2.cell? ⟨B,3,none⟩=some (.slice (adr wb) wl wc):=by rw [zkg kk hB (by exact hwb)];exact c3
 have f3':w2.frozen? ⟨B,3,none⟩=false:=by
  have:=kk.keep B hB hwb
  unfold World.frozen? at f3 ⊢;simp only at f3 ⊢;rw [this];exact f3
 go_enter Tryz.func60,Tryz.ntmps60
 go_wp2_with (first | (at_builtin;refine zkn rfl _ _ _ _ rfl rfl rfl hap ?_) | (refine hc.mono ?_;rintro e w' ⟨rfl,rfl⟩))
 go_returns
 have hs:(w'.alloc (Obj.cells #[Value.func (Fn.func fid) #[] caps] 112)).heap.size=w'.heap.size+1:=by simp
 have hne: ∀r,wb'=some r->r≠B:=fun r e eB=>by
  rcases ho2 with h | h
  ·exact hwb (by rw [<- h,e,eB])
  ·rw [h,Option.some.injEq] at e;omega
 refine ⟨rfl,wb',wc',hr2.move fun r e=>heap_setCell_other _ _ _ _ (hne r e),?_,(kk.mono fun k h=> .inr h).trans (Kp.set (own:=fun k=>k=B\/wb=some k) _ _ _ (.inl rfl)),fun arr ⟨ty,ha⟩=>zxm ⟨ty,by rw [kk.keep B hB hwb];exact ha⟩⟩
 rcases ho2 with h | h
 ·exact .inl h
 ·exact .inr ⟨_,h,by omega⟩
theorem zxt {W1:World} {B:Nat} {D:List Nat} {own:Nat->Option (Nat×Nat)} {d:Dk} {kb nb:Nat} {wb:Option Nat} {wc:Nat} {fr:List (Nat×Option Nat)} {ek es:Array MapEntry} {ck cn:Nat} (hh:DskIn W1 B D own d kb nb wb wc fr ek es ck cn)
  {n:Int} (hf:nlook (ksOf d.now fr) n=none) (hn:inR .i64 n) {N:Nat} (cN:W1.cell? ⟨N,0,none⟩=some (.int .i64 n)) (hNl:N<W1.heap.size) (hNh: ¬(Inf.dsk B D).has N) (hW:d.wts+1<=most):
  Calls Tryz.prog 60 #[.pointer (some ⟨B,0,none⟩), .func (.func 61) #[] #[.pointer (some ⟨W1.heap.size+1,0,none⟩), .pointer (some ⟨N,0,none⟩)]] ((W1.alloc (.cells #[.slice none 0 0, .int .i64 0] 110)).alloc (.cells #[.pointer (some ⟨W1.heap.size,0,none⟩)] 108)) fun e w'=>e= .returned (.tuple #[])/\
   ∃(wb':Option Nat) (wc':Nat) (own':Nat->Option (Nat×Nat)) (es':Array MapEntry),DskIn w' B (W1.heap.size::(wb'.toList++D)) own' {d with now:=d.now++[(n,0)],wts:=d.wts+1} kb nb wb' wc' (fr++[(W1.heap.size,none)]) ek es' ck (cn+1)/\
    Kp (Inf.dsk B D).has W1 w'/\ ∀r∈wb'.toList,r∈D\/W1.heap.size+2<=r:=by
 have k2:Kp (fun _=>False) W1 ((W1.alloc (.cells #[.slice none 0 0, .int .i64 0] 110)).alloc (.cells #[.pointer (some ⟨W1.heap.size,0,none⟩)] 108)):=(Kp.alloc _ _ _).trans (Kp.alloc _ _ _)
 have cF2:((W1.alloc (.cells #[.slice none 0 0, .int .i64 0] 110)).alloc (.cells #[.pointer (some ⟨W1.heap.size,0,none⟩)] 108)).cell? ⟨W1.heap.size+1,0,none⟩=some (.pointer (some ⟨W1.heap.size,0,none⟩)):=by
  have:=zxk (zbs (W1.alloc (.cells #[.slice none 0 0, .int .i64 0] 110)) #[.pointer (some ⟨W1.heap.size,0,none⟩)] 108) (i:=0) rfl
  rwa [show (W1.alloc (.cells #[.slice none 0 0, .int .i64 0] 110)).heap.size=W1.heap.size+1 by simp] at this
 have cF0:CellsAt ((W1.alloc (.cells #[.slice none 0 0, .int .i64 0] 110)).alloc (.cells #[.pointer (some ⟨W1.heap.size,0,none⟩)] 108)) W1.heap.size #[.slice none 0 0, .int .i64 0]:=(zbs W1 _ _).move (zbr _ _ _ (by simp))
 have hs2:((W1.alloc (.cells #[.slice none 0 0, .int .i64 0] 110)).alloc (.cells #[.pointer (some ⟨W1.heap.size,0,none⟩)] 108)).heap.size=W1.heap.size+2:=by simp
 generalize (W1.alloc (.cells #[.slice none 0 0, .int .i64 0] 110)).alloc (.cells #[.pointer (some ⟨W1.heap.size,0,none⟩)] 108)=W2 at*
 have h2:=hh.move fun x hx=>k2.keep x (hh.lt x hx) (by simp)
 have hlt: ∀{b:Nat} {t:Nat×Nat},own b=some t->b<W1.heap.size:=fun hb=>hh.lt _ (hh.oD _ _ hb)
 have hc:=zxr h2.map hf hn ((zkg k2 (x:=⟨N,0,none⟩) hNl (by simp)).trans cN) cF2
 rw [show (#[.map (some nb), .pointer (some ⟨W1.heap.size+1,0,none⟩), .pointer (some ⟨N,0,none⟩)]:Array Value)= #[.map (some nb)]++ #[.pointer (some ⟨W1.heap.size+1,0,none⟩), .pointer (some ⟨N,0,none⟩)] from rfl] at hc
 have ka:=NMap.added h2.map (f:=W1.heap.size) hf hn
 have k3:=Kp.setBlock W2 nb (.map (es.push {key:= .int .i64 n,val:= .pointer (some ⟨W1.heap.size,0,none⟩),born:=cn}) (cn+1))
 generalize _root_.Go.ChangeMaps.setBlock W2 nb (.map (es.push {key:= .int .i64 n,val:= .pointer (some ⟨W1.heap.size,0,none⟩),born:=cn}) (cn+1))=Wc at*
 have neN: ∀{b:Nat} {t:Nat×Nat},own b=some t->t≠(2,0)->b≠nb:=fun hb ht e=>by subst e;rw [h2.oN] at hb;cases hb;exact ht rfl
 have neW: ∀{b:Nat} {t:Nat×Nat},own b=some t->t≠(3,0)->wb≠some b:=fun hb ht e=>by rw [h2.oW _ e] at hb;cases hb;exact ht rfl
 have bN:=neN h2.oB (by decide)
 have bW:=neW h2.oB (by decide)
 have kB:=hlt hh.oB
 have kNb:=hlt hh.oN
 have cB:CellsAt Wc B (dcells d kb nb (.slice (adr wb) d.wts wc)):=h2.cells.move (k3.keep B (by omega) bN)
 have hs3:=k3.size
 refine (zxs (w:=W2) (w1:=Wc) (fid:=61) (zxk h2.cells rfl) (enters_of Tryz.func61 (by kernel_rfl) rfl) hc (zxk cB rfl) (zxl cB) (h2.wts.move fun r e=>k3.keep r (by have:=hlt (hh.oW r e);omega) (neN (h2.oW r e) (by decide))) hW (by omega) bW).mono ?_
 rintro e w' ⟨rfl,wb',wc',r1,r2,r3,r4⟩
 have kall:Kp (fun b=>b=B\/b=nb\/wb=some b) W1 w':=((k2.mono fun _ h=>h.elim).trans (k3.mono fun _ h=> .inr (.inl h))).trans (r3.mono fun b h=>h.elim .inl fun h=> .inr (.inr h))
 have ho:wb'=wb\/ ∃r,wb'=some r/\W1.heap.size+2<=r:=r2.imp id fun ⟨r,h1,h2⟩=>⟨r,h1,by omega⟩
 have hF0: ∀t,own W1.heap.size≠some t:=fun t hb=>by have:=hlt hb;omega
 have fW:wb≠some W1.heap.size:=fun e=>hF0 _ (h2.oW _ e)
 have hBn:CellsAt w' B (dcells {d with now:=d.now++[(n,0)],wts:=d.wts+1} kb nb (.slice (adr wb') (d.wts+1) wc')):=r4 _ cB
 refine ⟨rfl,wb',wc',_,_,hh.newf kall (Nat.le_refl _) ((cF0.move (k3.keep _ (by omega) (by omega))).move (r3.keep _ (by omega) (by rintro (e | e);omega;exact fW e))) (ka.move (r3.keep _ (by omega) (by rintro (e | e);exact bN e.symm;exact neW h2.oN (by decide) e))) hBn r1 (ho.imp id fun ⟨r,h1,h2⟩=>⟨r,h1,by omega,by omega⟩),kall.mono ?_,fun r hr=>?_⟩
 ·rintro b (rfl | rfl | h1)
  ·exact hh.oD _ _ hh.oB
  ·exact hh.oD _ _ hh.oN
  ·exact hh.oD _ _ (hh.oW b h1)
 ·rcases ho with h1 | ⟨r',h1,h2'⟩
  ·rw [h1] at hr
   have hr:wb=some r:=by simpa using hr
   rcases hh.oD _ _ (hh.oW r hr) with h3 | h3
   ·exact absurd hr (by rw [<- h3];exact bW)
   ·exact .inl h3
  ·rw [h1] at hr;simp at hr;subst hr;exact .inr h2'
theorem zxu {w:World} {B:Nat} {D:List Nat} {own:Nat->Option (Nat×Nat)} {d:Dk} {kb nb:Nat} {wb:Option Nat} {wc:Nat} {fr:List (Nat×Option Nat)} {ek es:Array MapEntry} {ck cn:Nat} (h:DskIn w B D own d kb nb wb wc fr ek es ck cn)
  {n:Int} (hn:inR .i64 n) {m c2':Nat} {aS:Option Addr} (hs:SrcOk w (Inf.dsk B D).has aS m) (hU:dUsed d.now+m<=most) (hW:d.wts+1<=most):
  Calls Tryz.prog 26 #[.pointer (some ⟨B,0,none⟩), .int .i64 n, .slice aS m c2'] w fun e w'=>e= .returned (.int .i64 (dApp d n m).2)/\Kp (Inf.dsk B D).has w w'/\ ∃D',DskAt w' B D' (dApp d n m).1/\ ∀x∈D',x∈D\/w.heap.size<=x:=by
 have hasB:(Inf.dsk B D).has B:= .inl rfl
 have hB:B<w.heap.size:=h.lt _ hasB
 have c0:w.cell? ⟨B,0,none⟩=some (.int .i64 d.room):=zxk h.cells rfl
 have c4:w.cell? ⟨B,4,none⟩=some (.bool d.out):=zxk h.cells rfl
 have c2:w.cell? ⟨B,2,none⟩=some (.map (some nb)):=zxk h.cells rfl
 have nB:w.heap.size≠B:=by omega
 have k1:=Kp.alloc (fun _=>False) w (.cells #[.int .i64 n] 3)
 have cN:=zxk (zbs w #[.int .i64 n] 3) (i:=0) rfl
 have c4':=(zkg k1 (x:=⟨B,4,none⟩) hB (by simp)).trans c4
 have most64:most=4294967296:=rfl
 have wW: ∀x:Int,IntKind.i64.wrap x=wrap64 x:=fun x=>by rw [IntKind.wrap_i64];unfold wrap64;rfl
 go_enter Tryz.func26,Tryz.ntmps26
 go_wp2_with (go_at_call 58;refine (zxp _).mono ?_;rintro e w' ⟨rfl,rfl⟩)
 ·go_ret
  rename_i ho
  have e:dApp d n m=(d,11):=by unfold dApp;rw [if_pos ho]
  rw [e]
  exact ⟨rfl,k1.mono fun _ h=>h.elim,D,⟨_,_,_,_,_,_,_,_,_,_,h.move fun x hx=>k1.keep x (h.lt x hx) (by simp)⟩,fun x hx=> .inl hx⟩
 ·go_ret
  rename_i ho hm
  have e:dApp d n m=(d,1):=by unfold dApp;rw [if_neg (by rw [ho];decide),if_pos (by simp only [Bool.not_eq_true',decide_eq_false_iff_not] at hm;omega)]
  rw [e]
  exact ⟨rfl,k1.mono fun _ h=>h.elim,D,⟨_,_,_,_,_,_,_,_,_,_,h.move fun x hx=>k1.keep x (h.lt x hx) (by simp)⟩,fun x hx=> .inl hx⟩
 ·have c0':=(zkg k1 (x:=⟨B,0,none⟩) hB (by simp)).trans c0
  have hB1:B<(w.alloc (.cells #[.int .i64 n] 3)).heap.size:=by simp;omega
  have hN1:w.heap.size<(w.alloc (.cells #[.int .i64 n] 3)).heap.size:=by simp
  generalize w.alloc (.cells #[.int .i64 n] 3)=w1 at*
  have keep1: ∀{W:World},Kp (fun _=>False) w1 W->W.cell? ⟨B,0,none⟩=some (.int .i64 d.room)/\Kp (fun _=>False) w1 W:=fun {W} kk=>⟨(zkg kk hB1 (by simp)).trans c0',kk⟩
  have hu: ∀W,Kp (fun _=>False) w1 W->Calls Tryz.prog 59 #[.pointer (some ⟨B,0,none⟩)] W fun e w'=>e= .returned (.int .i64 (dUsed d.now:Int))/\Kp (fun _=>False) W w':=fun W kk=>by
   have hW:=(h.move fun x hx=>(k1.trans kk).keep x (h.lt x hx) (by simp))
   obtain ⟨u1,u2⟩:=hW.used
   have:=zxj W B nb cn es (lenW W) (zxk hW.cells rfl) hW.map.at_ hW.map.once hW.map.born u2 (by rw [u1];omega)
   rw [u1] at this;exact this
  go_region_held3 (fun W=>W.cell? ⟨B,0,none⟩=some (.int .i64 d.room)/\Kp (fun _=>False) w1 W) (first | assumption | exact keep1 ⟨rfl,rfl,rfl,Nat.le_refl _,fun _ _ _=>rfl⟩ | exact keep1 (by assumption)) (first | (go_at_call 59;refine (hu _ (And.right (by assumption))).mono ?_;rintro e W ⟨rfl,kk⟩;have kW:=Kp.trans (And.right (by assumption)) kk;clear kk))
  clear hu keep1 c0' c4' c0 c4 c2
  have kW0:=k1.trans kW
  have hh:=h.move fun x hx=>kW0.keep x (h.lt x hx) (by simp)
  have hs2:=hs.move kW0 (by simp)
  have cN2:=(zkg kW (x:=⟨w.heap.size,0,none⟩) hN1 (by simp)).trans cN
  have c2:W.cell? ⟨B,2,none⟩=some (.map (some nb)):=zxk hh.cells rfl
  have hlk: ∀q,(Instr.lookup 86 (.map (some nb)) (.int .i64 n) false).run Tryz.prog (W.drewN q)= .ok (.pointer (adr (nlook (ksOf d.now fr) n))) (W.drewN q):=fun q=>by
   obtain ⟨k,e,he,hk,hz⟩:=zew (P:=Tryz.prog) (w:=W.drewN q) (t:=86) (by kernel_rfl)
   exact (NMap.move (w':=W.drewN q) hh.map rfl).look he hk hz n
  have ho:d.out=false:=by assumption
  have hm:(!decide (0<=n))=false/\(!decide (n<1048576))=false:=by assumption
  have wU:wrap64 ((dUsed d.now:Int)+(m:Int))=((dUsed d.now+m:Nat):Int):=by unfold wrap64;omega
  go_wp2
  ·go_ret
   rename_i hr
   have e:dApp d n m=(d,10):=by
    unfold dApp;rw [if_neg (by rw [ho];decide),if_neg (by simp only [Bool.not_eq_false',decide_eq_true_eq] at hm;omega),if_pos (by rw [<- wU];simpa using hr)]
   rw [e]
   exact ⟨rfl,kW0.mono fun _ h=>h.elim,D,⟨_,_,_,_,_,_,_,_,_,_,hh⟩,fun x hx=> .inl hx⟩
  ·have hr:wrap64 ((dUsed d.now:Int)+(m:Int))<=d.room:=by assumption
   have hhq: ∀q,DskIn (W.drewN q) B D own d kb nb wb wc fr ek es ck cn:=fun q=>hh.move fun _ _=>rfl
   have hsq: ∀q,SrcOk (W.drewN q) (Inf.dsk B D).has aS m:=fun q=>hs2.move (Kp.drewN (fun _=>False) W q) (by simp)
   go_quiet (fail)
   have hk:=kW0.trans (Kp.drewN (fun _=>False) W nq)
   have hN3:w.heap.size<(W.drewN nq).heap.size:=Nat.lt_of_lt_of_le hN1 kW.size
   replace hhq:=hhq nq
   replace hsq:=hsq nq
   have cN3:(W.drewN nq).cell? ⟨w.heap.size,0,none⟩=some (.int .i64 n):=cN2
   generalize W.drewN nq=Wa at*
   have hNh: ¬(Inf.dsk B D).has w.heap.size:=fun hx=>by have:=h.lt _ hx;omega
   have hA: ∀f,nlook (ksOf d.now fr) n=some f->AppAt w Wa B D d n m w.heap.size f aS:=fun f hf=>by
    obtain ⟨i,x,g,q1,q2,q3,q4⟩:=hh.found hf
    refine ⟨D,own,d,wb,wc,fr,es,cn,kb,nb,ek,ck,i,x,g,hhq,q1,q2,q3,cN3,hsq,hk.mono (fun _ h=>h.elim),fun x hx=> .inl hx,hN3,hNh,?_,?_⟩
    ·unfold dApp
     rw [if_neg (by rw [ho];decide),if_neg (by simp only [Bool.not_eq_false',decide_eq_true_eq] at hm;omega),if_neg (by rw [<- wU];omega),q4]
     simp only [Option.getD_some,Option.isSome_some,if_true]
    ·have:x<=dUsed d.now:=zku q1
     omega
   rcases hf:nlook (ksOf d.now fr) n with _ | f
   simp only [adr,Option.map_none,Option.isNone_none]
   clear hlk hs hs2 hh hA
   go_wp2_with (first | (go_at_call 60;refine (zxt hhq hf hn cN3 hN3 hNh hW).mono ?_;rintro e W1 ⟨rfl,wb',wc',own',es',g1,g2,g3⟩))
   have hl:=hhq.len
   have hlost:=hhq.lost hf
   have hA:AppAt w W1 B D d n m w.heap.size Wa.heap.size aS:=by
    have hnew: ∀x,(Inf.dsk B (Wa.heap.size::(wb'.toList++D))).has x->(Inf.dsk B D).has x\/Wa.heap.size<=x:=fun x hx=>by
     rcases hx with h1 | h1
     ·exact .inl (.inl h1)
     ·rcases List.mem_cons.1 h1 with h1 | h1
      ·exact .inr (by omega)
      ·rcases List.mem_append.1 h1 with h1 | h1
       ·rcases g3 x h1 with h2 | h2
        ·exact .inl (.inr h2)
        ·exact .inr (by omega)
       ·exact .inl (.inr h1)
    refine ⟨_,own',_,wb',wc',_,es',cn+1,kb,nb,ek,ck,fr.length,0,(Wa.heap.size,none),g1,?_,?_,rfl,(zkg g2 (x:=⟨w.heap.size,0,none⟩) hN3 hNh).trans cN3,(hsq.more hnew).move g2 (fun x hx=>hx.imp id fun h=>List.mem_cons_of_mem _ (List.mem_append_right _ h)),(hk.mono fun _ h=>h.elim).trans g2,fun x hx=>?_,Nat.lt_of_lt_of_le hN3 g2.size,fun hx=>?_,?_,by omega⟩
    ·rw [hl];simp
    ·simp
    ·have hk1:=hk.size
     rcases List.mem_cons.1 hx with h1 | h1
     ·exact .inr (by omega)
     ·rcases List.mem_append.1 h1 with h1 | h1
      ·exact (g3 x h1).imp id fun h2=>by omega
      ·exact .inl h1
    ·rcases hnew _ hx with h1 | h1
     ·exact hNh h1
     ·omega
    ·unfold dApp
     rw [if_neg (by rw [ho];decide),if_neg (by simp only [Bool.not_eq_false',decide_eq_true_eq] at hm;omega),if_neg (by rw [<- wU];omega),zks hlost,zkv _ _ hlost,zkp _ hlost]
     rfl
   clear hhq hsq cN3 g1 g2 g3
   generalize Wa.heap.size=f at hA ⊢
   rotate_left
   replace hA:=hA f hf
   simp only [adr,Option.map_some,Option.isNone_some]
   clear hlk hs hs2 hh hhq hsq cN3
   go_wp2
   generalize Wa=W1 at hA ⊢
   all_goals (
    obtain ⟨D1,own1,d1,wb1,wc1,fr1,es1,cn1,kb1,nb1,ek1,ck1,i,x,g,a1,q1,q2,q3,q4,q5,q6,q7,q8,q9,q10,q11⟩:=hA
    have hnl:nlook (ksOf d1.now fr1) n=some f:=by
     have:(ksOf d1.now fr1)[i]? =some (n,f):=by unfold ksOf;rw [List.getElem?_zipWith,q1,q2,<- q3]
     exact zkj this a1.map.keys
    have c2: ∀q,(W1.drewN q).cell? ⟨B,2,none⟩=some (.map (some nb1)):=fun q=>zxk a1.cells rfl
    have c4: ∀q,(W1.drewN q).cell? ⟨w.heap.size,0,none⟩=some (.int .i64 n):=fun q=>q4
    have hlk: ∀q,(Instr.lookup 86 (.map (some nb1)) (.int .i64 n) false).run Tryz.prog (W1.drewN q)= .ok (.pointer (some ⟨f,0,none⟩)) (W1.drewN q):=fun q=>by
     obtain ⟨k,e,he,hk,hz⟩:=zew (P:=Tryz.prog) (w:=W1.drewN q) (t:=86) (by kernel_rfl)
     have:=(NMap.move (w':=W1.drewN q) a1.map rfl).look he hk hz n
     rw [hnl] at this;exact this
    go_quiet (fail)
    have a2:DskIn (W1.drewN nq) B D1 own1 d1 kb1 nb1 wb1 wc1 fr1 ek1 es1 ck1 cn1:=a1.move fun _ _=>rfl
    have p5:=q5.move (Kp.drewN (fun _=>False) W1 nq) (by simp)
    have p6:=q6.trans (Kp.drewN (Inf.dsk B D).has W1 nq)
    generalize W1.drewN nq=W2 at*
    obtain ⟨cp,kp,hcell,hroom⟩:=a2.file i _ g q1 q2
    obtain ⟨oF1,oF2⟩:=a2.oF i g q2
    subst q3
    obtain ⟨o',cp',W3,hap,hr3,ho3,hk3⟩:=zkm (P:=Tryz.prog) (w:=W2) (t:=37) (t2:=37) (ty:=37) (c2:=c2') (by kernel_rfl) (by obtain ⟨e,_,h,_⟩:=zbc (P:=Tryz.prog) (t:=37) (sz:=1) (by kernel_rfl);exact ⟨e,h⟩) hroom q11 p5.1 (fun ad e k hk=>by obtain ⟨v,h1,h2,_⟩:=p5.2 ad e k hk;exact ⟨v,h1,h2⟩)
    have neg2: ∀{b:Nat} {t:Nat×Nat},own1 b=some t->t≠(5,i)-> ¬g.2=some b:=fun hb ht e=>by rw [oF2 _ e] at hb;cases hb;exact ht rfl
    have lt2: ∀{b:Nat} {t:Nat×Nat},own1 b=some t->b<W2.heap.size:=fun hb=>a2.lt _ (a2.oD _ _ hb)
    have cf3:CellsAt W3 g.1 #[.slice (adr g.2) x cp, .int .i64 kp]:=hcell.move (hk3.keep _ (lt2 oF1) (neg2 oF1 (by simp)))
    have cF2:W2.cell? ⟨g.1,0,none⟩=some (.slice (adr g.2) x cp):=zxk hcell rfl
    have cF3:W3.cell? ⟨g.1,0,none⟩=some (.slice (adr g.2) x cp):=zxk cf3 rfl
    have fF3:W3.frozen? ⟨g.1,0,none⟩=false:=zxl cf3
    have k4:=Kp.set (own:=fun b=>b=g.1\/g.2=some b) W3 ⟨g.1,0,none⟩ (.slice (adr o') (x+m) cp') (.inl rfl)
    have cf4:=zxm (i:=0) (v:= .slice (adr o') (x+m) cp') cf3
    have k24:Kp (fun b=>b=g.1\/g.2=some b) W2 (W3.setCell ⟨g.1,0,none⟩ (.slice (adr o') (x+m) cp')):=(hk3.mono fun _ h=> .inr h).trans k4
    have ho4:o'=g.2\/ ∃r,o'=some r/\W2.heap.size<=r:=ho3.imp id fun h=>⟨_,h,Nat.le_refl _⟩
    have no4: ∀r,o'=some r->r≠g.1:=fun r e er=>by
     rcases ho4 with h1 | ⟨r',h1,h2⟩
     ·exact neg2 oF1 (by simp) (by rw [<- h1,e,er])
     ·rw [h1] at e;cases e;have:=lt2 oF1;omega
    have hr4:=hr3.move (w':=W3.setCell ⟨g.1,0,none⟩ (.slice (adr o') (x+m) cp')) fun r e=>heap_setCell_other _ _ _ _ (no4 r e)
    have hg:=a2.grow q1 q2 k24 (kp:=kp) cf4 hr4 ho4
    generalize hW4:W3.setCell ⟨g.1,0,none⟩ (.slice (adr o') (x+m) cp')=W4 at*
    go_wp2_with (first | (at_builtin;refine zkn rfl _ _ _ _ rfl rfl rfl hap ?_) | (go_at_call 62;refine (zxn hg.cells).mono ?_;rintro e W5 ⟨rfl,k5,c5⟩))
    go_ret
    have ks:=a2.keysN
    rw [q10]
    have hd2: ∀d2:Dk,(did d2).now=d2.now/\(did d2).wts=d2.wts/\(did d2).room=d2.room/\(inR .i64 d2.left->inR .i64 (did d2).left):=fun d2=>by
     unfold did
     split
     ·exact ⟨rfl,rfl,rfl,fun _=>by rw [wrp64];unfold wrap64 inR IntKind.min IntKind.max;simp [IntKind.signed,IntKind.bits];omega⟩
     ·exact ⟨rfl,rfl,rfl,id⟩
    have hfin:=hg.setd (d':=did {d1 with now:=d1.now.set i (n,x+m)}) (hd2 _).1 (hd2 _).2.1 (by rw [(hd2 _).2.2.1];exact hg.room) ((hd2 _).2.2.2 hg.left) k5 c5
    have hin: ∀y,y<w.heap.size->(Inf.dsk B D1).has y->(Inf.dsk B D).has y:=fun y hy hx=>hx.imp id fun h1=>(q7 y h1).elim id fun h2=>by omega
    refine ⟨rfl,(p6.then k24 fun y hy h1=>?_).then k5 fun y _ h1=> .inl h1.symm,_,⟨_,_,_,_,_,_,_,_,_,_,by rw [zko _ q1 ks];exact hfin⟩,fun y hy=>?_⟩
    ·rcases h1 with h1 | h1
     ·exact hin y hy (by rw [h1];exact a2.oD _ _ oF1)
     ·exact hin y hy (a2.oD _ _ (oF2 y h1))
    ·rcases List.mem_append.1 hy with h1 | h1
     ·have hs6:=p6.size
      rcases ho4 with h2 | ⟨r,h2,h3⟩
      ·rw [h2] at h1
       have h1:g.2=some y:=by simpa using h1
       rcases Nat.lt_or_ge y w.heap.size with h4 | h4
       ·rcases hin y h4 (a2.oD _ _ (oF2 y h1)) with h5 | h5
        ·exact absurd h1 (by rw [<- h5];exact neg2 a2.oB (by simp))
        ·exact .inl h5
       ·exact .inr h4
      ·rw [h2] at h1;simp at h1;subst h1;exact .inr (by omega)
     ·exact q7 y h1)
theorem zxv (d2:Dk):(did d2).now=d2.now/\(did d2).wts=d2.wts/\(did d2).room=d2.room/\(inR .i64 d2.left->inR .i64 (did d2).left):=by
 unfold did
 split
 ·exact ⟨rfl,rfl,rfl,fun _=>by rw [wrp64];unfold wrap64 inR IntKind.min IntKind.max;simp [IntKind.signed,IntKind.bits];omega⟩
 ·exact ⟨rfl,rfl,rfl,id⟩
theorem zxw {w:World} {B:Nat} {D:List Nat} {own:Nat->Option (Nat×Nat)} {d:Dk} {kb nb:Nat} {wb:Option Nat} {wc:Nat} {fr:List (Nat×Option Nat)} {ek es:Array MapEntry} {ck cn:Nat} (h:DskIn w B D own d kb nb wb wc fr ek es ck cn)
  (n:Int):(Instr.lookup 86 (.map (some nb)) (.int .i64 n) false).run Tryz.prog w= .ok (.pointer (adr (nlook (ksOf d.now fr) n))) w:=by
 obtain ⟨k,e,he,hk,hz⟩:=zew (P:=Tryz.prog) (w:=w) (t:=86) (by kernel_rfl)
 exact h.map.look he hk hz n
theorem zxx {w:World} {B:Nat} {D:List Nat} {own:Nat->Option (Nat×Nat)} {d:Dk} {kb nb:Nat} {wb:Option Nat} {wc:Nat} {fr:List (Nat×Option Nat)} {ek es:Array MapEntry} {ck cn:Nat} (h:DskIn w B D own d kb nb wb wc fr ek es ck cn)
  (n:Int):Calls Tryz.prog 117 #[.pointer (some ⟨B,0,none⟩), .int .i64 n] w fun e w'=>e= .returned (.tuple #[.pointer (if d.out=true then none else adr (nlook (ksOf d.now fr) n)), .int .i64 (if d.out=true then 11 else if (nlook (ksOf d.now fr) n).isSome=true then 0 else 8)])/\w'=w:=by
 have c2:w.cell? ⟨B,2,none⟩=some (.map (some nb)):=zxk h.cells rfl
 have c4:w.cell? ⟨B,4,none⟩=some (.bool d.out):=zxk h.cells rfl
 have hlk:=zxw h n
 cases ho:d.out<;>rw [ho] at c4<;>cases hf:nlook (ksOf d.now fr) n<;>rw [hf] at hlk<;>simp only [adr,Option.map_none,Option.map_some,Option.isSome_none,Option.isSome_some,Bool.false_eq_true,if_true,if_false] at hlk ⊢
 all_goals (go_enter Tryz.func117,Tryz.ntmps117;go_wp2;go_returns;exact ⟨rfl,rfl⟩)
theorem zxy {w:World} {B:Nat} {D:List Nat} {own:Nat->Option (Nat×Nat)} {d:Dk} {kb nb:Nat} {wb:Option Nat} {wc:Nat} {fr:List (Nat×Option Nat)} {ek es:Array MapEntry} {ck cn:Nat} (h:DskIn w B D own d kb nb wb wc fr ek es ck cn)
  {n:Int}:Calls Tryz.prog 73 #[.pointer (some ⟨B,0,none⟩), .int .i64 n] w fun e w'=>e= .returned (.int .i64 (dSync d n).2)/\Kp (Inf.dsk B D).has w w'/\ ∃D',DskAt w' B D' (dSync d n).1/\ ∀x∈D',x∈D\/w.heap.size<=x:=by
 have hfw:=zxx h n
 have same:DskAt w B D d:=⟨_,_,_,_,_,_,_,_,_,_,h⟩
 by_cases ho:d.out=true
 ·rw [ho] at hfw
  have e:dSync d n=(d,11):=by unfold dSync;rw [if_pos ho]
  go_enter Tryz.func73,Tryz.ntmps73
  go_wp2_with (go_at_call 117;refine hfw.mono ?_;rintro e w' ⟨rfl,rfl⟩;simp only [if_true])
  go_ret
  try rw [e]
  exact ⟨rfl,Kp.refl _ _,D,same,fun _ h=> .inl h⟩
 simp only [Bool.not_eq_true] at ho
 rw [ho] at hfw
 rcases hf:nlook (ksOf d.now fr) n with _ | f
 ·rw [hf] at hfw
  have e:dSync d n=(d,8):=by unfold dSync;rw [zks (h.lost hf),ho];rfl
  go_enter Tryz.func73,Tryz.ntmps73
  go_wp2_with (go_at_call 117;refine hfw.mono ?_;rintro e w' ⟨rfl,rfl⟩;simp only [adr,Option.map_none,Option.isSome_none,Bool.false_eq_true,if_false])
  go_ret
  try rw [e]
  exact ⟨rfl,Kp.refl _ _,D,same,fun _ h=> .inl h⟩
 ·rw [hf] at hfw
  obtain ⟨i,x,g,q1,q2,q3,q4⟩:=h.found hf
  subst q3
  obtain ⟨cp,kp,hcell,hroom⟩:=h.file i _ g q1 q2
  obtain ⟨oF1,oF2⟩:=h.oF i g q2
  have cf0:w.cell? ⟨g.1,0,none⟩=some (.slice (adr g.2) x cp):=zxk hcell rfl
  have cf1:w.cell? ⟨g.1,1,none⟩=some (.int .i64 kp):=zxk hcell rfl
  have ff1:w.frozen? ⟨g.1,1,none⟩=false:=zxl hcell
  have k1:=Kp.set (own:=fun b=>b=g.1\/g.2=some b) w ⟨g.1,1,none⟩ (.int .i64 (x:Int)) (.inl rfl)
  have hg:=h.grow q1 q2 (x':=x) (o':=g.2) (cp':=cp) k1 (kp:=(x:Int)) (zxm (i:=1) (v:= .int .i64 (x:Int)) hcell) (hroom.move fun r e=>heap_setCell_other _ _ _ _ fun e2=>by have:=oF2 r e;rw [e2,oF1] at this;cases this) (.inl rfl)
  have hnow:d.now.set i (n,x)=d.now:=by rw [<- (List.getElem?_eq_some_iff.1 q1).2];exact List.set_getElem_self _
  have hd1:({d with now:=d.now.set i (n,x)}:Dk)=d:=by rw [hnow]
  rw [hd1] at hg
  have hsub: ∀y∈g.2.toList++D,y∈D\/w.heap.size<=y:=fun y hy=>by
   rcases List.mem_append.1 hy with h1 | h1
   ·have h1:g.2=some y:=by simpa using h1
    rcases h.oD _ _ (oF2 y h1) with h2 | h2
    ·have:=h.oB;rw [h2,oF2 y h1] at this;cases this
    ·exact .inl h2
   ·exact .inl h1
  generalize hW1:w.setCell ⟨g.1,1,none⟩ (.int .i64 (x:Int))=W1 at*
  go_enter Tryz.func73,Tryz.ntmps73
  go_wp2_with (first | (go_at_call 117;refine hfw.mono ?_;rintro e w' ⟨rfl,rfl⟩;simp only [adr,Option.map_some,Option.isSome_some,Bool.false_eq_true,if_true,if_false]) | (go_at_call 62;refine (zxn hg.cells).mono ?_;rintro e W5 ⟨rfl,k5,c5⟩))
  ·go_ret
   have e:dSync d n=(did d,0):=by unfold dSync;rw [if_neg (by rw [ho];decide),q4];rfl
   try rw [e]
   have hfin:=hg.setd (d':=did d) (zxv _).1 (zxv _).2.1 (by rw [(zxv _).2.2.1];exact hg.room) ((zxv _).2.2.2 hg.left) k5 c5
   refine ⟨rfl,(k1.mono ?_).trans (k5.mono fun y h=> .inl h.symm),_,⟨_,_,_,_,_,_,_,_,_,_,hfin⟩,hsub⟩
   rintro y (h1 | h1)
   ·rw [h1];exact h.oD _ _ oF1
   ·exact h.oD _ _ (oF2 y h1)
end Go.Dvm.C
namespace Go.Proofs
open Go.RowKit Go.Maps Go.Shelf
shelf_lay_g SlLaysW.n5 Slmc 5 at Tryz 120 as Tryz.cloneA
end Go.Proofs
namespace Go.Dvm.C
open Go Go.Proofs Go.RowKit Go.Maps
theorem zxz {w:World} {B:Nat} {D:List Nat} {own:Nat->Option (Nat×Nat)} {d:Dk} {kb nb:Nat} {wb:Option Nat} {wc:Nat} {fr:List (Nat×Option Nat)} {ek es:Array MapEntry} {ck cn:Nat} (h:DskIn w B D own d kb nb wb wc fr ek es ck cn):Calls Tryz.prog 76 #[.pointer (some ⟨B,0,none⟩)] w fun e w'=>e= .returned (.int .i64 (dSyncD d).2)/\Kp (Inf.dsk B D).has w w'/\ ∃D',DskAt w' B D' (dSyncD d).1/\ ∀x∈D',x∈D\/w.heap.size<=x:=by
 have c2:w.cell? ⟨B,2,none⟩=some (.map (some nb)):=zxk h.cells rfl
 have c4:w.cell? ⟨B,4,none⟩=some (.bool d.out):=zxk h.cells rfl
 have same:DskAt w B D d:=⟨_,_,_,_,_,_,_,_,_,_,h⟩
 have hB:B<w.heap.size:=h.lt _ (.inl rfl)
 cases ho:d.out<;>rw [ho] at c4
 ·have e:dSyncD d=(did {d with wts:=0},0):=by unfold dSyncD;rw [ho];rfl
  have c1:=zxk h.cells (i:=1) rfl
  have c3:=zxk h.cells (i:=3) rfl
  have f1:=zxl h.cells (i:=1)
  have f3:=zxl h.cells (i:=3)
  have k1:Kp (· =B) w (((w.setCell ⟨B,1,none⟩ (.map (some w.heap.size))).setCell ⟨B,3,none⟩ (.slice none 0 0)).alloc (.map es cn)):=((Kp.set (own:=(· =B)) w ⟨B,1,none⟩ _ rfl).trans (Kp.set (own:=(· =B)) _ ⟨B,3,none⟩ _ rfl)).trans (Kp.alloc _ _ _)
  have cB2:=(zxm (i:=3) (v:= .slice none 0 0) (zxm (i:=1) (v:= .map (some w.heap.size)) h.cells)).move (zbr _ (.map es cn) B (by simpa using hB))
  have hm:(((w.setCell ⟨B,1,none⟩ (.map (some w.heap.size))).setCell ⟨B,3,none⟩ (.slice none 0 0)).alloc (.map es cn)).heap[w.heap.size]? =some (.map es cn):=by
   show (Array.push _ _)[_]? =_
   rw [Array.getElem?_push,if_pos (by simp)]
  have hg:=h.synced k1 (Nat.le_refl _) hm cB2
  generalize hW2:((w.setCell ⟨B,1,none⟩ (.map (some w.heap.size))).setCell ⟨B,3,none⟩ (.slice none 0 0)).alloc (.map es cn)=W2 at*
  go_enter Tryz.func76,Tryz.ntmps76
  go_wp2_with (first | (go_at_call 120;refine (AnyW.maps_Clone Tryz.cloneA nb es cn _ h.map.at_).mono ?_;rintro e w' ⟨rfl,rfl⟩) | (go_at_call 62;refine (zxn hg.cells).mono ?_;rintro e W5 ⟨rfl,k5,c5⟩))
  go_ret
  try rw [e]
  have hfin:=hg.setd (d':=did {d with wts:=0}) (zxv _).1 (zxv _).2.1 (by rw [(zxv _).2.2.1];exact hg.room) ((zxv _).2.2.2 hg.left) k5 c5
  exact ⟨rfl,(k1.mono fun y h=> .inl h.symm).trans (k5.mono fun y h=> .inl h.symm),_,⟨_,_,_,_,_,_,_,_,_,_,hfin⟩,fun y hy=>(List.mem_cons.1 hy).elim (fun h=> .inr (by omega)) .inl⟩
 ·have e:dSyncD d=(d,11):=by unfold dSyncD;rw [if_pos ho]
  go_enter Tryz.func76,Tryz.ntmps76
  go_wp2
  go_ret
  try rw [e]
  exact ⟨rfl,Kp.refl _ _,D,same,fun _ h=> .inl h⟩
end Go.Dvm.C
namespace Go.Proofs
open Go.RowKit Go.Maps Go.Sort Go.Shelf
shelf_lay_g SlLaysZI.n7 Ggz 7 at Tryz 89 as Tryz.keysA
shelf_lay_g SlLaysZI.n6 Ggz 6 at Tryz 88 as Tryz.sortedA
shelf_lay_g SlLaysM.n5 Slgm 5 at Tryz 138 as Tryz.sortA
theorem zx0 (m:Nat):AnyZI.SortsIn Tryz.prog Tryz.sortedA_ren Fence.wide m:=
  ⟨fun blk off cap ss W hH hblk hsz=>callsIn_wide.2 (AnyM.slices_Sort_int Tryz.sortA blk off cap ss W hH hblk hsz),
   fun p cap W=>callsIn_wide.2 (AnyM.slices_Sort_int_none Tryz.sortA p cap W)⟩
theorem zx1 {w:World} {nb cn:Nat} {es:Array MapEntry} {ks:List (Int×Nat)} (h:Go.Dvm.NMap w nb es cn ks) (hl:ks.length<=maxLen):
  ∃D:DataW Unit,w.ownsMap Tryz.prog 3 (fun _=>some (.nil,[])) nb es.size D/\(intKeys D).Perm (ks.map (·.1))/\Maps.size D=ks.length:=by
 have hu:Tryz.prog.underlying 3=some (.int .i64):=by kernel_rfl
 have hkey: ∀k:Int,Go.Dvm.inR .i64 k->keyOf Tryz.prog 3 (.int .i64 k)=some (.int .i64 k):=fun k hk=>by
  have h2:k<=9223372036854775807:=hk.2
  simp [keyOf,hu,mapKey,Lit.wf,hk.1,h2]
 have hent: ∀(i:Nat) (x:MapEntry),es.toList[i]? =some x-> ∃(k:Int) (f:Nat),ks[i]? =some (k,f)/\x.key= .int .i64 k/\Go.Dvm.inR .i64 k:=fun i x hx=>by
  have hi:i<ks.length:=by
   have:=(List.getElem?_eq_some_iff.1 hx).1
   have:=h.size
   simp at*;omega
  obtain ⟨q1,b,q2⟩:=h.ent i ks[i].1 ks[i].2 (List.getElem?_eq_getElem hi)
  rw [<- Array.getElem?_toList,hx] at q2
  cases q2
  exact ⟨_,_,List.getElem?_eq_getElem hi,rfl,q1⟩
 have hrd: ∀x∈es.toList,∃k,WideElems.rd (H:=Unit) Tryz.prog 3 (fun _=>some (.nil,[])) x=some (.int .i64 k, .nil)/\x.key= .int .i64 k:=fun x hx=>by
  obtain ⟨i,hi⟩:=List.mem_iff_getElem?.1 hx
  obtain ⟨k,f,q1,q2,q3⟩:=hent i x hi
  refine ⟨k,?_,q2⟩
  obtain ⟨key,val,born⟩:=x
  obtain rfl:key= .int .i64 k:=q2
  exact WideElems.rd_mk (R:=fun _=>some (DataW.nil,[])) (hkey k q3) rfl
 have hmap:(es.toList.map (WideElems.rg (H:=Unit) Tryz.prog 3 (fun _=>some (.nil,[])))).map (fun p=>_root_.Go.intOf p.1)=ks.map (·.1):=by
  apply List.ext_getElem?
  intro i
  simp only [List.getElem?_map]
  rcases hc:es.toList[i]? with _ | x
  ·have:ks[i]? =none:=by
    rw [List.getElem?_eq_none_iff] at hc ⊢
    have:=h.size;simp at hc;omega
   rw [this];rfl
  ·obtain ⟨k,f,q1,q2,q3⟩:=hent i x hc
   obtain ⟨k',r1,r2⟩:=hrd x (List.mem_of_getElem? hc)
   rw [q2] at r2;cases r2
   rw [q1]
   simp only [Option.map_some,WideElems.rg_of r1,_root_.Go.intOf]
 refine ⟨.map ((es.toList.map (WideElems.rg (H:=Unit) Tryz.prog 3 (fun _=>some (.nil,[])))).foldr DataW.insert []),⟨es,cn,h.at_,⟨by rw [h.size];exact hl,(MapKept.stamped_iff es cn).2 ⟨h.born,h.once,?_⟩,fun x hx=>?_⟩,Nat.le_refl _,rfl⟩,?_,?_⟩
 ·rw [List.pairwise_iff_getElem]
  intro i j hi hj hij e
  obtain ⟨k,f,q1,q2,_⟩:=hent i _ (List.getElem?_eq_getElem hi)
  obtain ⟨k2,f2,r1,r2,_⟩:=hent j _ (List.getElem?_eq_getElem hj)
  rw [q2,r2] at e
  cases e
  have hn:=h.keys
  rw [List.Nodup,List.pairwise_iff_getElem] at hn
  have hi':i<(ks.map (·.1)).length:=by simp;exact (List.getElem?_eq_some_iff.1 q1).1
  have hj':j<(ks.map (·.1)).length:=by simp;exact (List.getElem?_eq_some_iff.1 r1).1
  refine hn i j hi' hj' hij ?_
  rw [List.getElem_map,List.getElem_map,(List.getElem?_eq_some_iff.1 q1).2,(List.getElem?_eq_some_iff.1 r1).2]
 ·obtain ⟨k,q1,_⟩:=hrd x hx
  exact ⟨_,q1⟩
 ·rw [<- hmap]
  exact (WideShapes.sorted_perm _).map _
 ·show (List.foldr DataW.insert [] _).length=_
  rw [length_sorted,List.length_map,Array.length_toList,h.size]
theorem zx2 {w:World} {B:Nat} {D:List Nat} {own:Nat->Option (Nat×Nat)} {d:Go.Dvm.Dk} {kb nb:Nat} {wb:Option Nat} {wc:Nat} {fr:List (Nat×Option Nat)} {ek es:Array MapEntry} {ck cn:Nat} (h:Go.Dvm.DskIn w B D own d kb nb wb wc fr ek es ck cn) (hl:d.now.length<=4294967296):Calls Tryz.prog 46 #[.pointer (some ⟨B,0,none⟩)] w fun e w'=> ∃v,e= .returned v/\w'.ownsRow w.heap.size 3 1 v (Go.Dvm.dNames d.now).length ((Go.Dvm.dNames d.now).map encZ)/\(v= .slice none 0 0<->Go.Dvm.dNames d.now=[])/\Below w.heap.size w w':=by
 refine (callsIn_wide (n:=6)).1 ?_
 have c2:w.cell? ⟨B,2,none⟩=some (.map (some nb)):=Go.Dvm.C.zxk h.cells rfl
 have hn:=h.map.at_
 have hbl:nb<w.heap.size:=(Array.getElem?_eq_some_iff.1 hn).1
 obtain ⟨Dm,hown,hperm,hsz⟩:=zx1 (h.map.move (Go.Dvm.zbr w (.cells #[.map (some nb)] 86) nb hbl)) (by rw [Go.Dvm.ks_len h.len];unfold maxLen;omega)
 have hkl:=Go.Dvm.ks_len h.len
 have hseq:SeqGives Fence.wide 2 Tryz.prog 139 #[.pointer (some ⟨w.heap.size,0,none⟩)] encZ (fun ss=>ss.Perm (intKeys Dm)) (Maps.size Dm) (w.alloc (.cells #[.map (some nb)] 86)):=
  AnyZI.keys_gives (ρ:=Tryz.keysA_ren) {Tryz.keysA with} Fence.wide _ trivial rfl (by omega) w.heap.size nb _ Dm _ (by simp) (by simp) hown
 have cK: ∀mb W,CallsIn Fence.wide 5 Tryz.prog 89 #[.map mb] W fun e w'=>e= .returned (.func (.func 139) #[] #[.pointer (some ⟨W.heap.size,0,none⟩)])/\w'=W.alloc (.cells #[.map mb] 86):=fun mb W=>AnyZI.keys_in Tryz.keysA Fence.wide 5 trivial rfl mb W
 have cS:=AnyZI.sorted_in Tryz.sortedA Fence.wide 5 trivial trivial trivial trivial rfl (by omega) (zx0 _) (enters_of Tryz.func138 (by kernel_rfl) rfl) 139 #[.pointer (some ⟨w.heap.size,0,none⟩)] trivial (enters_of Tryz.func139 (by kernel_rfl) rfl) _ _ (by rw [hsz,hkl];unfold maxLen;omega) (by rw [hsz,hkl];omega) _ hseq
 change CallsIn _ _ Tryz.prog 88 _ _ _ at cS
 have hfK:Fence.wide.fn 89:=trivial
 have hfS:Fence.wide.fn 88:=trivial
 refine callsIn_of_wp Tryz.func46 rfl trivial ?_ rfl
 simp only [Tryz.ntmps46,List.size_toArray,List.length_cons,List.length_nil,Nat.reduceAdd,Nat.reduceSub,Array.replicate_succ,Array.replicate_zero,List.push_toArray,List.append_toArray,List.nil_append,List.cons_append]
 gi_wp2_with (first
  | (gi_at_call 89;refine (cK _ _).mono ?_;rintro e w' ⟨rfl,rfl⟩)
  | (gi_at_call 88;refine cS.mono ?_;rintro e w' ⟨v,ss,rfl,hS,hrow,hnil,hb⟩))
 go_ret
 have hd:ss.mergeSort (fun x y=>decide (x<=y))=Go.Dvm.dNames d.now:=Go.Dvm.zk0 ((hS.trans hperm).trans (by rw [Go.Dvm.zkq h.len]))
 have hlen:(Go.Dvm.dNames d.now).length=ss.length:=by rw [<- hd];exact (List.mergeSort_perm _ _).length_eq
 have hz:(w.alloc (.cells #[.map (some nb)] 86)).heap.size=w.heap.size+1:=by simp
 refine ⟨v,rfl,?_,?_,?_⟩
 ·rw [hlen];rw [hd] at hrow;exact ⟨hrow.1,hrow.2.imp id fun ⟨g,c,cur,h1,h2,h3⟩=>⟨g,c,cur,h1,by omega,h3⟩⟩
 ·rw [hnil,<- List.length_eq_zero_iff,<- List.length_eq_zero_iff,hlen]
 ·exact (Below.refl _ _ |>.alloc (Nat.le_refl _) _).trans (hb.mono (by omega))
end Go.Proofs
namespace Go.Dvm
end Go.Dvm
namespace Go.Dvm.C
open Go Go.Proofs Go.RowKit Go.Maps
def gnσ (i j:Nat):Option Nat:=if j<i then some j else if j=i then none else some (j - 1)
end Go.Dvm.C
namespace Go.Dvm.C
open Go Go.Proofs Go.RowKit Go.Maps
def mvσ (i m j:Nat):Option Nat:=if j=i then some m else if (if j<i then j else j - 1)=m then none else some (if j<i then j else j - 1)
end Go.Dvm.C
namespace Go.Proofs
open Go.RowKit Go.Maps Go.Sort Go.Shelf Go.Lib
shelf_lay_g SlLaysH.n10 Slgf 10 at Tryz 141 as Tryz.delA
shelf_lay_g SlLaysH.n6 Slgf 6 at Tryz 191 as Tryz.idxA
theorem zx3 (least x:Int) (N:Nat) (W:World) (hc:W.cell? ⟨N,0,none⟩=some (.int .i64 least)):FnGives Tryz.prog 140 #[.pointer (some ⟨N,0,none⟩)] #[.int .i64 x] (.bool (Go.Dvm.fOther least x)) W:=by
 show Calls Tryz.prog 140 #[.int .i64 x, .pointer (some ⟨N,0,none⟩)] W _
 go_enter Tryz.func140,Tryz.ntmps140
 go_wp2
 ·go_ret
  have hx:least<=x:=by assumption
  exact ⟨by simp [Go.Dvm.fOther],0,rfl⟩
 ·go_ret
  have hx:x<least:=by assumption
  exact ⟨by simp [Go.Dvm.fOther,hx],0,rfl⟩
theorem zx4 {w:World} {g:Nat} {cur:Array Value} {ty:TypeId} (h:w.heap[g]? =some (.cells cur ty (0,0))) (j:Nat):w.cell? ⟨g,j,none⟩=cur[j]? /\w.frozen? ⟨g,j,none⟩=false:=by
 simp [World.cell?,World.frozen?,h]
theorem zx5 {α:Type} [Inhabited α] (enc:α->Value) (w:World) (blk off:Nat) (d:Array α) (k:Nat) (h:k≠blk):(putRow enc w blk off d).heap[k]? =w.heap[k]? :=by
 unfold putRow mapBlock
 show (w.heap.modify blk _)[k]? =_
 rw [Array.getElem?_modify,if_neg (fun e=>h e.symm)]
theorem zx6 {w:World} {B:Nat} {D:List Nat} {own:Nat->Option (Nat×Nat)} {d:Go.Dvm.Dk} {kb nb:Nat} {wb:Option Nat} {wc:Nat} {fr:List (Nat×Option Nat)} {ek es:Array MapEntry} {ck cn:Nat} (h:Go.Dvm.DskIn w B D own d kb nb wb wc fr ek es ck cn) (hl:d.now.length<=4294967296) (least:Int):
  Calls Tryz.prog 90 #[.pointer (some ⟨B,0,none⟩), .int .i64 least] w fun e w'=> ∃(a:Option Addr) (cp:Nat),e= .returned (.slice a (Go.Dvm.dFiles d least).length cp)/\(a=none<->Go.Dvm.dNames d.now=[])/\(a=none->cp=0)/\(Go.Dvm.dFiles d least).length<=cp/\
   (∀ad,a=some ad->w.heap.size<=ad.block/\ ∀(i:Nat) (x:Int),(Go.Dvm.dFiles d least)[i]? =some x->w'.cell? (ad.add i)=some (.int .i64 x))/\Go.Dvm.Kp (fun _=>False) w w':=by
 have k1:Go.Dvm.Kp (fun _=>False) w (w.alloc (.cells #[.int .i64 least] 3)):=Go.Dvm.Kp.alloc _ _ _
 have h1:=h.move (w':=w.alloc (.cells #[.int .i64 least] 3)) fun x hx=>k1.keep x (h.lt x hx) (by simp)
 have cN:(w.alloc (.cells #[.int .i64 least] 3)).cell? ⟨w.heap.size,0,none⟩=some (.int .i64 least):=Go.Dvm.C.zxk (Go.Dvm.zbs w _ _) rfl
 have hsz:(w.alloc (.cells #[.int .i64 least] 3)).heap.size=w.heap.size+1:=by simp
 generalize hW0:w.alloc (.cells #[.int .i64 least] 3)=W0 at*
 have hnw:=zx2 h1 hl
 have eg: ∀args w,(callFunc 140 args).run Tryz.prog w= .ok (.enter 140 args) w:=enters_of Tryz.func140 (by kernel_rfl) rfl
 have kpb: ∀{W:World},Below W0.heap.size W0 W->Go.Dvm.Kp (fun _=>False) w W:=fun {W} hb=>k1.trans ⟨hb.os,hb.tape,hb.output,hb.size,fun k hk _=>hb.block k hk⟩
 have hdel: ∀(W1:World) (v:Value),W1.ownsRow W0.heap.size 3 1 v (Go.Dvm.dNames d.now).length ((Go.Dvm.dNames d.now).map encZ)->(v= .slice none 0 0<->Go.Dvm.dNames d.now=[])->Below W0.heap.size W0 W1->
   Calls Tryz.prog 141 #[v, .func (.func 140) #[] #[.pointer (some ⟨w.heap.size,0,none⟩)]] W1 fun e w'=> ∃(a:Option Addr) (cp:Nat),e= .returned (.slice a (Go.Dvm.dFiles d least).length cp)/\(a=none<->Go.Dvm.dNames d.now=[])/\(a=none->cp=0)/\(Go.Dvm.dFiles d least).length<=cp/\
    (∀ad,a=some ad->w.heap.size<=ad.block/\ ∀(i:Nat) (x:Int),(Go.Dvm.dFiles d least)[i]? =some x->w'.cell? (ad.add i)=some (.int .i64 x))/\Go.Dvm.Kp (fun _=>False) w w':=fun W1 v hrow hnil hb=>by
  obtain ⟨hr1,hr2⟩:=hrow
  rcases hr2 with ⟨rfl,h2⟩ | ⟨g,cap,cur,rfl,g1,g2,g3,g4,g5,g6⟩
  ·have hn:Go.Dvm.dNames d.now=[]:=List.eq_nil_of_length_eq_zero h2
   have hf:Go.Dvm.dFiles d least=[]:=by unfold Go.Dvm.dFiles;rw [hn];rfl
   have hk:=kpb hb
   have hi:=fun fv=>AnyE.slices_IndexFunc_empty Tryz.idxA none 0 fv W1
   change∀fv,Calls Tryz.prog 191 _ _ _ at hi
   rw [hf,hn]
   go_enter Tryz.func141,Tryz.ntmps141
   go_wp2_with (go_at_call 191;refine (hi _).mono ?_;rintro e w' ⟨rfl,rfl⟩)
   go_ret
   exact ⟨none,0,rfl,by simp,fun _=>rfl,by simp,fun ad e=>by (cases e),hk⟩
  ·have hcell:W1.cell? ⟨w.heap.size,0,none⟩=some (.int .i64 least):=by
    unfold World.cell? at cN ⊢;simp only at cN ⊢;rw [hb.block _ (by omega)];exact cN
   have hlt1:w.heap.size<W1.heap.size:=by have:=hb.size;omega
   have hM:maxLen=9223372036854775807:=by decide
   have hp:PredAt Tryz.prog 140 #[.pointer (some ⟨w.heap.size,0,none⟩)] (Value.int .i64) (Go.Dvm.fOther least) W1:=fun W x hbb=>zx3 least x _ W ((hbb.cell (p:=⟨w.heap.size,0,none⟩) hlt1).trans hcell)
   have hpo:PredOver Tryz.prog 140 #[.pointer (some ⟨w.heap.size,0,none⟩)] (Value.int .i64) (Go.Dvm.fOther least) g 0 (Go.Dvm.dNames d.now).toArray.size W1:=fun n os dk x _=>zx3 least x _ _ (by
    unfold sortWorld
    rw [cell?_grow _ _ _ (by show w.heap.size<(putRow _ _ _ _ _).heap.size;rw [size_putRow];exact hlt1),cell?_putRow_other _ _ g 0 _ _ (Or.inl (by show w.heap.size≠g;omega))]
    exact hcell)
   have hcur: ∀(j:Nat) (x:Int),(Go.Dvm.dNames d.now)[j]? =some x->cur[j]? =some (.int .i64 x):=fun j x hx=>by
    have hjl:=(List.getElem?_eq_some_iff.1 hx).1
    have:(List.take ((Go.Dvm.dNames d.now).length*1) cur.toList)[j]? =some (.int .i64 x):=by rw [g6,List.getElem?_map,hx];rfl
    rwa [List.getElem?_take,if_pos (by omega),Array.getElem?_toList] at this
   have hH:Holds (Value.int .i64) W1 g 0 (Go.Dvm.dNames d.now).toArray:=fun j hj=>by
    have hj':j<(Go.Dvm.dNames d.now).length:=by simpa using hj
    obtain ⟨c1,c2⟩:=zx4 g2 j
    rw [Nat.zero_add]
    refine ⟨?_,c2⟩
    rw [c1,hcur j _ (List.getElem?_eq_getElem hj'),getElem!_pos _ j hj];rfl
   have hcon:=AnyE.slices_DeleteFunc Tryz.delA (Value.int .i64) (fun _=>rfl) (Go.Dvm.fOther least) 140 #[.pointer (some ⟨w.heap.size,0,none⟩)] eg 0 Tryz.zeroValue3 g 0 cap (Go.Dvm.dNames d.now).toArray W1 hp hpo hH (by simp;omega) (by simpa using g3)
   change Calls Tryz.prog 141 _ _ _ at hcon
   rw [List.size_toArray] at hcon
   refine hcon.mono ?_
   rintro e w' ⟨rfl,q,rfl⟩
   have hfe:((Go.Dvm.dNames d.now).toArray.toList.filter fun x=>!Go.Dvm.fOther least x)=Go.Dvm.dFiles d least:=by simp [Go.Dvm.dFiles]
   rw [hfe]
   have hfl:(Go.Dvm.dFiles d least).length<=(Go.Dvm.dNames d.now).length:=List.length_filter_le _ _
   have hna:Go.Dvm.dNames d.now≠[]:=fun hn=>by have:=hnil.2 hn;cases this
   refine ⟨some ⟨g,0,none⟩,cap,rfl,⟨fun e=>(by cases e),fun e=>absurd e hna⟩,fun e=>(by cases e),by omega,fun ad e=>?_,?_⟩
   ·cases e
    refine ⟨by show w.heap.size<=g;omega,fun i x hx=>?_⟩
    have hil:=(List.getElem?_eq_some_iff.1 hx).1
    have hcp:=cell?_putRow (Value.int .i64) (Sort.ahead W1 q) g 0 (Go.Dvm.dNames d.now).toArray ((Go.Dvm.dFiles d least)++List.replicate ((Go.Dvm.dNames d.now).toArray.size - (Go.Dvm.dFiles d least).length) 0).toArray (fun j hj=>hH j hj) (by simp;omega) i (by simp;omega)
    rw [Nat.zero_add] at hcp
    have he:Addr.add ⟨g,0,none⟩ i=⟨g,i,none⟩:=by rw [Go.Dvm.add_mk,Nat.zero_add]
    rw [he]
    refine hcp.trans ?_
    rw [getElem!_pos _ i (by simp;omega)]
    simp only [List.getElem_toArray]
    rw [List.getElem_append_left hil,(List.getElem?_eq_some_iff.1 hx).2]
   ·refine ⟨hb.os.trans k1.os,hb.tape.trans k1.tape,hb.output.trans k1.output,?_,fun k hk _=>?_⟩
    ·rw [size_putRow];show w.heap.size<=W1.heap.size;omega
    ·rw [zx5 _ _ _ _ _ _ (by omega)]
     exact (hb.block k (by omega)).trans (k1.keep k hk (by simp))
 go_enter Tryz.func90,Tryz.ntmps90
 go_wp2_with (first | (go_at_call 46;refine hnw.mono ?_;rintro e W1 ⟨v,rfl,r1,r2,r3⟩) | (go_at_call 141;refine (hdel _ _ r1 r2 r3).mono ?_;rintro e w' ⟨a,cp,rfl,q1,q2,q3,q4,q5⟩))
 go_ret
 exact ⟨a,cp,rfl,q1,q2,q3,q4,q5⟩
end Go.Proofs
namespace Go.Dvm.C
open Go Go.Dvm Go.Proofs Go.RowKit Go.Maps
theorem W_pApp:AppW Tryz.prog 26:=fun w B D d n m c aS ⟨_,_,_,_,_,_,_,_,_,_,h⟩ hn hs hU hW=>zxu h hn hs hU hW
theorem zx7:FilesW Tryz.prog 90:=fun w B D d n ⟨_,_,_,_,_,_,_,_,_,_,h⟩ hl=>Go.Proofs.zx6 h hl n
theorem zx8:NamesW Tryz.prog 46:=⟨3,fun w B D d ⟨_,_,_,_,_,_,_,_,_,_,h⟩ hl=>(Go.Proofs.zx2 h hl).mono fun e w' ⟨v,h1,h2,h3,h4⟩=>⟨v,h1,h2,h3,⟨h4.os,h4.tape,h4.output,h4.size,fun k hk _=>h4.block k hk⟩⟩⟩
theorem W_pNew:NewW Tryz.prog 14:=⟨89,fun w n=>zxq n⟩
theorem W_pOn:OnW Tryz.prog 47:=fun w B D d ⟨_,_,_,_,_,_,_,_,_,_,h⟩=>zxo h.cells
theorem zx9:SyncW Tryz.prog 73:=fun w B D d n ⟨_,_,_,_,_,_,_,_,_,_,h⟩=>zxy h
theorem zya:SyncDW Tryz.prog 76:=fun w B D d ⟨_,_,_,_,_,_,_,_,_,_,h⟩=>zxz h
end Go.Dvm.C
