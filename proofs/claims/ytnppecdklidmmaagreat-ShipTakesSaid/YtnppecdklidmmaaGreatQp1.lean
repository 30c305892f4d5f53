/- Plain laws of the functions: part 2. -/
import Derived.Test.YtnppecdklidmmaaGreatQp0
set_option linter.all false
set_option maxRecDepth 100000
namespace Go.Dvm.I
open Go Go.Dvm
def cutsB (l:List Int):Prop:= ∀n∈l,n=cutI n
instance (l:List Int):Decidable (cutsB l):=by unfold cutsB;infer_instance
theorem zbx8 (n:Int):Ev (fun q=>zk7 q n) (!(decide (n=cutI n))):=Ev.su (Ev.bind (zbsp n) (Ev.ret _))
theorem zbx9 (z:Bool) (L:List Int) (h0:Int) (h1z:Bool) (h1l:List Int) (h2:Bool) (h3:Int) (hL:L.length<=1000000): ∀(k i:Nat),L.length=i+k->
  ∃r,Ev (fun q=>zla q z L (L.length:Int) (i:Int) h0 h1z h1l h2 h3) r/\(0<=r<-> ¬cutsB (L.drop i))
 | 0,i,hk=>by
  refine ⟨-1,Ev.su (Ev.ne (Ev.ret _)),?_⟩
  rw [y12 (by omega)];simp [cutsB]
 | k+1,i,hk=>by
  have hi:i<L.length:=by omega
  have he:L[((i:Int)).toNat]? =some L[i]:=by simp [hi]
  have hd:=y9 hi
  by_cases h:L[i]=cutI L[i]
  ·obtain ⟨r,hr,hi2⟩:=zbx9 z L h0 h1z h1l h2 h3 hL k (i+1) (by omega)
   rw [show ((i+1:Nat):Int)=wrp .i64 ((i:Int)+1) by rw [zbsa (by omega) (by omega)];omega] at hr
   refine ⟨r,Ev.su (Ev.po (Ev.po (Ev.opt he (Ev.bind (zbx8 _) (Ev.neg (by simpa using h) hr))))),?_⟩
   rw [hi2,hd];unfold cutsB;simp only [List.mem_cons,forall_eq_or_imp]
   exact ⟨fun a b=>a b.2,fun a b=>a ⟨h,b⟩⟩
  ·refine ⟨i,Ev.su (Ev.po (Ev.po (Ev.opt he (Ev.bind (zbx8 _) (Ev.pos (by simpa using h) (Ev.ret _)))))),?_⟩
   rw [hd];unfold cutsB;simp only [List.mem_cons,forall_eq_or_imp]
   exact ⟨fun _ b=>h b.1,fun _=>by omega⟩
theorem zbya (z:Bool) (L:List Int) (h0:Int) (h1z:Bool) (h1l:List Int) (h2:Bool) (h3:Int) (hL:L.length<=1000000): ∃r,Ev (fun q=>zlb q z L h0 h1z h1l h2 h3) r/\(0<=r<-> ¬cutsB L):=by
 obtain ⟨r,h,h4⟩:=zbx9 z L h0 h1z h1l h2 h3 hL L.length 0 (by omega)
 exact ⟨r,Ev.su h,by simpa using h4⟩
def prs (least:Int):Int->List Int->Bool
 | last,a::b::t=>decide (last<a) && (decide (a<=255) && (decide (least<=b) && (decide (b<=1099511627776) && prs least a t)))
 | _,_=>true
def pairsOk (least:Int) (l:List Int):Bool:=prs least (-1) l && (decide (l.length % 2=0) && decide (l.length<=128))
theorem zbyb (z:Bool) (L:List Int) (least:Int) (hL:L.length<=1000000): ∀(k i:Nat) (last:Int),L.length<=i+2*k->i<=2000000->
  Ev (fun q=>zk8 q z L least last (i:Int)) (prs least last (L.drop i) && (decide (L.length % 2=0) && decide (L.length<=128)))
 | k,i,last,hk,hi9=>by
  have w1:wrp .i64 ((i:Int)+1)=((i+1:Nat):Int):=by rw [zbsa (by omega) (by omega)];omega
  have w2:wrp .i64 ((i:Int)+2)=((i+2:Nat):Int):=by rw [zbsa (by omega) (by omega)];omega
  by_cases h:i+1<L.length
  ·cases k with
   | zero=>omega
   | succ k=>
    have he:L[((i:Int)).toNat]? =some L[i]:=by rw [y28];exact y7 (by omega)
    have he2:L[(wrp .i64 ((i:Int)+1)).toNat]? =some L[i+1]:=by rw [w1,y28];exact y7 h
    have hd:L.drop i=L[i]::L[i+1]::L.drop (i+2):=by rw [y9 (by omega),y9 h]
    rw [hd]
    simp only [prs]
    refine Ev.su (Ev.pos (by rw [w1];omega) (Ev.po (Ev.opt he (Ev.ite (fun c=>Ev.ret' ?_) fun c=>Ev.ite (fun c2=>Ev.ret' ?_) fun c2=>Ev.pos (by rw [w1];omega) (Ev.opt he2 (Ev.ite (fun c3=>Ev.ret' ?_) fun c3=>Ev.ite (fun c4=>Ev.ret' ?_) fun c4=>?_))))))
    ·rw [decide_eq_false (show¬last<L[i] by omega)];rfl
    ·rw [decide_eq_false (show¬L[i]<=255 by omega)];simp
    ·rw [decide_eq_false (show¬least<=L[i+1] by omega)];simp
    ·rw [decide_eq_false (show¬L[i+1]<=1099511627776 by omega)];simp
    ·rw [decide_eq_true (show last<L[i] by omega),decide_eq_true (show L[i]<=255 by omega),decide_eq_true (show least<=L[i+1] by omega),decide_eq_true (show L[i+1]<=1099511627776 by omega),w2]
     simp only [y64]
     exact zbyb z L least hL k (i+2) L[i] (by omega) (by omega)
  ·have hp:prs least last (L.drop i)=true:=by
    have hl:(L.drop i).length<=1:=by rw [y13];omega
    generalize L.drop i=X at hl
    match X,hl with
    | [],_=>rfl
    | [a],_=>rfl
   rw [hp,y64]
   have ht:Int.tmod (L.length:Int) 2=((L.length % 2:Nat):Int):=by rw [y61 (by omega)];omega
   refine Ev.su (Ev.neg (by rw [w1];omega) (Ev.ite (fun c=>Ev.ret' ?_) fun c=>Ev.ret' ?_))
   ·rw [ht] at c
    rw [decide_eq_true (show L.length % 2=0 by omega),y64]
    by_cases h4:L.length<=128
    ·rw [decide_eq_true h4,decide_eq_true (by omega)]
    ·rw [decide_eq_false h4,decide_eq_false (by omega)]
   ·rw [ht] at c
    rw [decide_eq_false (show¬L.length % 2=0 by omega)];rfl
theorem zbyc (s:Sl Int) (least:Int) (hL:s.l.length<=1000000):Ev (fun q=>zk9 q s least) (pairsOk least s.l):=by
 have:=zbyb s.z s.l least hL s.l.length 0 (-1) (by omega) (by omega)
 exact Ev.su this
theorem zbyd (z:Bool) (L:List Int) (least:Int) (hL:L.length<=1000000) (h2:L.length % 2=0): ∀(k i:Nat) (last:Int),L.length<=i+2*k->i<=2000000->i % 2=0->(∀e,0<i->L[i - 2]? =some e->e=last/\0<=last)->(i=0->last= -1)->
  Ev (fun q=>zkw q z L least (i:Int)) (prs least last (L.drop i))
 | k, i,last,hk,hi9,hi2,hla,hl0=>by
  have w1:wrp .i64 ((i:Int)+1)=((i+1:Nat):Int):=by rw [zbsa (by omega) (by omega)];omega
  have w2:wrp .i64 ((i:Int)+2)=((i+2:Nat):Int):=by rw [zbsa (by omega) (by omega)];omega
  by_cases h:i<L.length
  ·have h':i+1<L.length:=by omega
   cases k with
   | zero=>omega
   | succ k=>
    have he:L[((i:Int)).toNat]? =some L[i]:=by rw [y28];exact y7 (by omega)
    have he2:L[(wrp .i64 ((i:Int)+1)).toNat]? =some L[i+1]:=by rw [w1,y28];exact y7 h'
    have hd:L.drop i=L[i]::L[i+1]::L.drop (i+2):=by rw [y9 (by omega),y9 h']
    rw [hd]
    simp only [prs]
    have tail:last<L[i]-> ¬L[i]<0-> ¬255<L[i]->Ev (fun q=>if 0<=(wrp .i64 ((i:Int)+1)) then ((L[(wrp .i64 ((i:Int)+1)).toNat]?).bind fun e4=>(if e4<least then (some false) else (if 1099511627776<e4 then (some false) else (zkw q z L least (wrp .i64 ((i:Int)+2)))))) else none) (decide (last<L[i]) && (decide (L[i]<=255) && (decide (least<=L[i+1]) && (decide (L[i+1]<=1099511627776) && prs least L[i] (L.drop (i+2)))))):=fun c0 c1 c2=>by
     rw [decide_eq_true c0,decide_eq_true (show L[i]<=255 by omega)]
     refine Ev.pos (by rw [w1];omega) (Ev.opt he2 (Ev.ite (fun c3=>Ev.ret' ?_) fun c3=>Ev.ite (fun c4=>Ev.ret' ?_) fun c4=>?_))
     ·rw [decide_eq_false (show¬least<=L[i+1] by omega)];simp
     ·rw [decide_eq_false (show¬L[i+1]<=1099511627776 by omega)];simp
     ·rw [decide_eq_true (show least<=L[i+1] by omega),decide_eq_true (show L[i+1]<=1099511627776 by omega),w2]
      simp only [y64]
      refine zbyd z L least hL h2 k (i+2) L[i] (by omega) (by omega) (by omega) (fun e _ hx=>?_) (by omega)
      rw [Nat.add_sub_cancel,y7 h] at hx
      simp only [y4] at hx
      exact ⟨hx.symm,by omega⟩
    refine Ev.su (Ev.po (Ev.po (Ev.opt he (Ev.ite (fun c=>Ev.ret' ?_) fun c=>Ev.ite (fun c2=>Ev.ret' ?_) fun c2=>Ev.ite (fun c3=>?_) fun c3=>?_))))
    ·by_cases h0:0<i
     ·have:=(hla L[i - 2] h0 (y7 (by omega))).2
      rw [decide_eq_false (show¬last<L[i] by omega)];rfl
     ·rw [decide_eq_false (show¬last<L[i] by have:=hl0 (by omega);omega)];rfl
    ·rw [decide_eq_false (show¬L[i]<=255 by omega)];simp
    ·have w3:wrp .i64 ((i:Int) - 2)=((i - 2:Nat):Int):=by rw [zbsa (by omega) (by omega)];omega
     have he3:L[(wrp .i64 ((i:Int) - 2)).toNat]? =some L[i - 2]:=by rw [w3,y28];exact y7 (by omega)
     have hq:=hla L[i - 2] (by omega) (y7 (by omega))
     refine Ev.pos (by rw [w3];omega) (Ev.opt he3 (Ev.ite (fun c4=>Ev.ret' ?_) fun c4=>tail (by omega) c c2))
     rw [decide_eq_false (show¬last<L[i] by omega)];rfl
    ·exact tail (by have:=hl0 (by omega);omega) c c2
  ·rw [y12 (by omega)]
   exact Ev.su (Ev.ne (Ev.ret _))
theorem zbye (s:Sl Int) (least:Int) (hL:s.l.length<=1000000):Ev (fun q=>zkx q s least) (pairsOk least s.l):=by
 have ht:Int.tmod (s.l.length:Int) 2=((s.l.length % 2:Nat):Int):=by rw [y61 (by omega)];omega
 unfold pairsOk
 refine Ev.su (Ev.ite (fun c=>Ev.ite (fun c2=>Ev.ret' ?_) fun c2=>?_) fun c=>Ev.ret' ?_)
 ·rw [decide_eq_false (show¬s.l.length<=128 by omega)];simp
 ·rw [ht] at c
  rw [decide_eq_true (show s.l.length<=128 by omega),decide_eq_true (show s.l.length % 2=0 by omega)]
  have:=zbyd s.z s.l least hL (by omega) s.l.length 0 (-1) (by omega) (by omega) (by omega) (fun e h=>by omega) (fun _=>rfl)
  refine Ev.cast this ?_
  simp
 ·rw [ht] at c
  rw [decide_eq_false (show¬s.l.length % 2=0 by omega)];simp
def kindOk (k:Int) (l:List Int):Bool:=
 if k=0\/k=1 then decide (l.length=1/\cutsB l) else if k=2\/k=3 then decide (l.length<=64/\cutsB l) else if k=4 then pairsOk (-1099511627776) l else if k=5 then pairsOk 0 l else false
def mayS (s:zkm):Bool:=if s.To<0 then false else if 3<=s.To then false else if s.Sealed=true then kindOk s.Kind s.L.l else if s.To=0 then kindOk s.Kind s.L.l else false
theorem zbyf (s:zkm) (hL:s.L.l.length<=1000000):Ev (fun q=>((zlb q s.L.z s.L.l s.Kind s.L.z s.L.l s.Sealed s.To).bind fun r1=>(if s.Kind=0 then (if (s.L.l.length:Int)=1 then (some (!(decide (0<=r1)))) else (some false)) else (if s.Kind=1 then (if (s.L.l.length:Int)=1 then (some (!(decide (0<=r1)))) else (some false)) else (if s.Kind=2 then (if (s.L.l.length:Int)<=64 then (some (!(decide (0<=r1)))) else (some false)) else (if s.Kind=3 then (if (s.L.l.length:Int)<=64 then (some (!(decide (0<=r1)))) else (some false)) else (if s.Kind=4 then ((zk9 q s.L (-1099511627776)).bind fun r2=>(some r2)) else (if s.Kind=5 then ((zk9 q s.L 0).bind fun r3=>(some r3)) else (some false))))))))) (kindOk s.Kind s.L.l):=by
 obtain ⟨r,h,hr⟩:=zbya s.L.z s.L.l s.Kind s.L.z s.L.l s.Sealed s.To hL
 have one: ∀{P:Prop} [Decidable P],P->Ev (fun _:Nat=>(some (!(decide (0<=r))):Option Bool)) (decide (P/\cutsB s.L.l)):=fun {P} _ hp=>Ev.ret' (by
  by_cases hc:cutsB s.L.l
  ·rw [decide_eq_false (fun e=>hr.1 e hc)];symm;simp only [Bool.not_false,decide_eq_true_eq];exact ⟨hp,hc⟩
  ·rw [decide_eq_true (hr.2 hc)];symm;simp only [Bool.not_true,decide_eq_false_iff_not];exact fun e=>hc e.2)
 have no: ∀{P:Prop} [Decidable P],¬P->Ev (fun _:Nat=>(some false:Option Bool)) (decide (P/\cutsB s.L.l)):=fun {P} _ hp=>Ev.ret' (by
  symm;simp only [decide_eq_false_iff_not];exact fun e=>hp e.1)
 refine Ev.bind h ?_
 unfold kindOk
 by_cases k0:s.Kind=0
 ·rw [if_pos (show s.Kind=0\/s.Kind=1 from .inl k0)]
  by_cases hl:s.L.l.length=1
  ·exact Ev.pos k0 (Ev.po (one hl))
  ·exact Ev.pos k0 (Ev.ne (no hl))
 by_cases k1:s.Kind=1
 ·rw [if_pos (show s.Kind=0\/s.Kind=1 from .inr k1)]
  by_cases hl:s.L.l.length=1
  ·exact Ev.neg k0 (Ev.pos k1 (Ev.po (one hl)))
  ·exact Ev.neg k0 (Ev.pos k1 (Ev.ne (no hl)))
 rw [if_neg (show¬(s.Kind=0\/s.Kind=1) by omega)]
 by_cases k2:s.Kind=2
 ·rw [if_pos (show s.Kind=2\/s.Kind=3 from .inl k2)]
  by_cases hl:s.L.l.length<=64
  ·exact Ev.neg k0 (Ev.neg k1 (Ev.pos k2 (Ev.po (one hl))))
  ·exact Ev.neg k0 (Ev.neg k1 (Ev.pos k2 (Ev.ne (no hl))))
 by_cases k3:s.Kind=3
 ·rw [if_pos (show s.Kind=2\/s.Kind=3 from .inr k3)]
  by_cases hl:s.L.l.length<=64
  ·exact Ev.neg k0 (Ev.neg k1 (Ev.neg k2 (Ev.pos k3 (Ev.po (one hl)))))
  ·exact Ev.neg k0 (Ev.neg k1 (Ev.neg k2 (Ev.pos k3 (Ev.ne (no hl)))))
 rw [if_neg (show¬(s.Kind=2\/s.Kind=3) by omega)]
 refine Ev.neg k0 (Ev.neg k1 (Ev.neg k2 (Ev.neg k3 (Ev.ite (fun k4=>?_) fun k4=>Ev.ite (fun k5=>?_) fun k5=>?_))))
 ·rw [if_pos k4];exact Ev.bind (zbyc _ _ hL) (Ev.ret _)
 ·rw [if_neg k4,if_pos k5];exact Ev.bind (zbyc _ _ hL) (Ev.ret _)
 ·rw [if_neg k4,if_neg k5];exact Ev.ret _
theorem zbyg (s:zkm) (hL:s.L.l.length<=1000000):Ev (fun q=>zlc q s) (mayS s):=by
 have hb:=zbyf s hL
 unfold mayS
 refine Ev.su (Ev.ite (fun h=>?_) fun h=>Ev.ite (fun h2=>?_) fun h2=>Ev.ite (fun h3=>?_) fun h3=>Ev.ite (fun h4=>?_) fun h4=>?_)
 ·rw [if_pos h];exact Ev.ret _
 ·rw [if_neg h,if_pos h2];exact Ev.ret _
 ·rw [if_neg h,if_neg h2,if_pos h3];exact hb
 ·rw [if_neg h,if_neg h2,if_neg h3,if_pos h4];exact hb
 ·rw [if_neg h,if_neg h2,if_neg h3,if_neg h4];exact Ev.ret _
theorem zbyh (h0:Int) (z:Bool) (L:List Int) (h2:Bool) (h3:Int) (hL:L.length<=1000000): ∀(k i:Nat),L.length=i+k->
  ∃r,Ev (fun q=>zkz q (i:Int) h0 z L h2 h3) r/\(r=true<->cutsB (L.drop i))
 | 0,i,hk=>by
  refine ⟨true,Ev.su (Ev.ne (Ev.ret _)),?_⟩
  rw [y12 (by omega)];simp [cutsB]
 | k+1,i,hk=>by
  have hi:i<L.length:=by omega
  have he:L[((i:Int)).toNat]? =some L[i]:=by simp [hi]
  have hd:=y9 hi
  by_cases h:L[i]=cutI L[i]
  ·obtain ⟨r,hr,hi2⟩:=zbyh h0 z L h2 h3 hL k (i+1) (by omega)
   rw [show ((i+1:Nat):Int)=wrp .i64 ((i:Int)+1) by rw [zbsa (by omega) (by omega)];omega] at hr
   refine ⟨r,Ev.su (Ev.po (Ev.po (Ev.opt he (Ev.bind (zbsq _) (Ev.pos h hr))))),?_⟩
   rw [hi2,hd];unfold cutsB;simp only [List.mem_cons,forall_eq_or_imp]
   exact ⟨fun a=>⟨h,a⟩,fun a=>a.2⟩
  ·refine ⟨false,Ev.su (Ev.po (Ev.po (Ev.opt he (Ev.bind (zbsq _) (Ev.neg h (Ev.ret _)))))),?_⟩
   rw [hd]
   exact ⟨fun e=>(by cases e),fun a=>absurd (a _ y32) h⟩
theorem zbyi (s:zkm) (hL:s.L.l.length<=1000000):Ev (fun q=>(if s.Kind<0 then (some false) else (if 6<=s.Kind then (some false) else (if s.Kind=4 then ((zkx q s.L (-1099511627776)).bind fun r1=>(some r1)) else (if s.Kind=5 then ((zkx q s.L 0).bind fun r2=>(some r2)) else (if 64<(s.L.l.length:Int) then (some false) else (if (s.L.l.length:Int)=1 then (zkz q 0 s.Kind s.L.z s.L.l s.Sealed s.To) else (if s.Kind<=1 then (some false) else (zkz q 0 s.Kind s.L.z s.L.l s.Sealed s.To))))))))) (kindOk s.Kind s.L.l):=by
 obtain ⟨r,h,hr⟩:=zbyh s.Kind s.L.z s.L.l s.Sealed s.To hL s.L.l.length 0 (by omega)
 rw [y38] at hr
 have one: ∀{P:Prop} [Decidable P],P->r=(decide (P/\cutsB s.L.l)):=fun {P} _ hp=>by
  by_cases hc:cutsB s.L.l
  ·rw [hr.2 hc];symm;simp only [decide_eq_true_eq];exact ⟨hp,hc⟩
  ·have:r=false:=by cases r;rfl;exact absurd (hr.1 rfl) hc
   rw [this];symm;simp only [decide_eq_false_iff_not];exact fun e=>hc e.2
 have no: ∀{P:Prop} [Decidable P],¬P->false=(decide (P/\cutsB s.L.l)):=fun {P} _ hp=>by
  symm;simp only [decide_eq_false_iff_not];exact fun e=>hp e.1
 unfold kindOk
 refine Ev.ite (fun c=>Ev.ret' ?_) fun c=>Ev.ite (fun c2=>Ev.ret' ?_) fun c2=>Ev.ite (fun k4=>?_) fun k4=>Ev.ite (fun k5=>?_) fun k5=>?_
 ·rw [if_neg (show¬(s.Kind=0\/s.Kind=1) by omega),if_neg (show¬(s.Kind=2\/s.Kind=3) by omega),if_neg (show¬s.Kind=4 by omega),if_neg (show¬s.Kind=5 by omega)]
 ·rw [if_neg (show¬(s.Kind=0\/s.Kind=1) by omega),if_neg (show¬(s.Kind=2\/s.Kind=3) by omega),if_neg (show¬s.Kind=4 by omega),if_neg (show¬s.Kind=5 by omega)]
 ·rw [if_neg (show¬(s.Kind=0\/s.Kind=1) by omega),if_neg (show¬(s.Kind=2\/s.Kind=3) by omega),if_pos k4];exact Ev.bind (zbye _ _ hL) (Ev.ret _)
 ·rw [if_neg (show¬(s.Kind=0\/s.Kind=1) by omega),if_neg (show¬(s.Kind=2\/s.Kind=3) by omega),if_neg k4,if_pos k5];exact Ev.bind (zbye _ _ hL) (Ev.ret _)
 ·by_cases k01:s.Kind=0\/s.Kind=1
  ·rw [if_pos k01]
   refine Ev.ite (fun c3=>Ev.ret' ?_) fun c3=>Ev.ite (fun c4=>Ev.cast h ?_) fun c4=>Ev.po (Ev.ret' ?_)
   ·exact no (by omega)
   ·exact one (by omega)
   ·exact no (by omega)
  ·rw [if_neg k01,if_pos (show s.Kind=2\/s.Kind=3 by omega)]
   refine Ev.ite (fun c3=>Ev.ret' ?_) fun c3=>Ev.ite (fun c4=>Ev.cast h ?_) fun c4=>Ev.ne (Ev.cast h ?_)
   ·exact no (by omega)
   ·exact one (by omega)
   ·exact one (by omega)
theorem zbyj (s:zkm) (hL:s.L.l.length<=1000000):Ev (fun q=>zk0 q s) (mayS s):=by
 have hb:=zbyi s hL
 unfold mayS
 refine Ev.su (Ev.ite (fun h=>?_) fun h=>Ev.ite (fun h2=>?_) fun h2=>Ev.ite (fun h3=>?_) fun h3=>Ev.ite (fun h4=>?_) fun h4=>?_)
 ·rw [if_pos h];exact Ev.ret _
 ·rw [if_neg h,if_pos (by omega)];exact Ev.ret _
 ·rw [if_neg h,if_neg (by omega),if_pos h3];exact hb
 ·rw [if_neg h,if_neg (by omega),if_neg h3,if_pos h4];exact hb
 ·rw [if_neg h,if_neg (by omega),if_neg h3,if_neg h4];exact Ev.ret _
def entOk (e:zkn):Bool:=decide (0<=e.Proc) && (decide (e.Proc<=64) && (decide (0<=e.Seq) && (decide (e.Seq<4611686018427387904) && (decide (-1125899906842624<=e.Resp) && decide (e.Resp<=1125899906842624)))))
theorem zbyk (e:zkn):Ev (fun q=>zl2 q e) (entOk e):=by
 unfold entOk
 exact Ev.su (Ev.ite (fun h1=>Ev.ite (fun h2=>Ev.ite (fun h3=>Ev.ite (fun h4=>Ev.ite (fun h5=>Ev.ret' (by simp [*])) fun h5=>Ev.ret' (by simp [*])) fun h4=>Ev.ret' (by simp [*])) fun h3=>Ev.ret' (by simp [*])) fun h2=>Ev.ret' (by simp [*])) fun h1=>Ev.ret' (by simp [*]))
def tabB:Int->List zkn->Bool
 | _,[]=>true
 | last,e::t=>entOk e && (decide (last<e.Proc) && tabB e.Proc t)
theorem zbyl (z z2:Bool) (L:List zkn) (hL:L.length<=1000000): ∀(k i:Nat) (last:Int),L.length=i+k->(∀e,0<i->L[i - 1]? =some e->e.Proc=last)->(i=0->last= -1)->
  Ev (fun q=>zl3 q z L z2 L (L.length:Int) (i:Int)) (tabB last (L.drop i))
 | 0,i,last,hk,h1,h0=>by
  refine Ev.su (Ev.ne (Ev.ret' ?_))
  rw [y12 (by omega)];rfl
 | k+1,i,last,hk,h1,h0=>by
  have hi:i<L.length:=by omega
  have he:L[((i:Int)).toNat]? =some L[i]:=by simp [hi]
  rw [y9 hi]
  simp only [tabB]
  have w1:wrp .i64 ((i:Int)+1)=((i+1:Nat):Int):=by rw [zbsa (by omega) (by omega)];omega
  have ih:=zbyl z z2 L hL k (i+1) L[i].Proc (by omega) (fun e _ hx=>by
   rw [Nat.add_sub_cancel,y7 hi] at hx
   simp only [y4] at hx;rw [hx]) (by omega)
  refine Ev.su (Ev.po (Ev.po (Ev.opt he (Ev.bind (zbyk _) (Ev.ite (fun c=>Ev.ite (fun c2=>?_) fun c2=>?_) fun c=>Ev.ret' ?_)))))
  ·have w3:wrp .i64 ((i:Int) - 1)=((i - 1:Nat):Int):=by rw [zbsa (by omega) (by omega)];omega
   have he3:L[(wrp .i64 ((i:Int) - 1)).toNat]? =some L[i - 1]:=by rw [w3,y28];exact y7 (by omega)
   have hq:=h1 L[i - 1] (by omega) (y7 (by omega))
   refine Ev.pos (by rw [w3];omega) (Ev.opt he3 (Ev.ite (fun c4=>Ev.ret' ?_) fun c4=>?_))
   ·rw [c,decide_eq_false (show¬last<L[i].Proc by omega)];rfl
   ·rw [c,decide_eq_true (show last<L[i].Proc by omega),w1];simpa using ih
  ·have:=h0 (by omega)
   have hp:0<=L[i].Proc:=by unfold entOk at c;simp only [y6,decide_eq_true_eq] at c;exact c.1
   rw [c,decide_eq_true (show last<L[i].Proc by omega),w1];simpa using ih
  ·simp only [Bool.not_eq_true] at c;rw [c];rfl
theorem zbym (s:Sl zkn) (hL:s.l.length<=1000000):Ev (fun q=>zl4 q s) (tabB (-1) s.l):=
 Ev.su (zbyl s.z s.z s.l hL s.l.length 0 (-1) (by omega) (fun e h=>by omega) (fun _=>rfl))
theorem zbyn (z:Bool) (L:List zkn) (hL:L.length<=1000000): ∀(k i:Nat) (last:Int),L.length=i+k->(∀e,0<i->L[i - 1]? =some e->e.Proc=last)->(i=0->last= -1)->
  Ev (fun q=>zk1 q z L (i:Int)) (tabB last (L.drop i))
 | 0,i,last,hk,h1,h0=>by
  refine Ev.su (Ev.ne (Ev.ret' ?_))
  rw [y12 (by omega)];rfl
 | k+1,i,last,hk,h1,h0=>by
  have hi:i<L.length:=by omega
  have he:L[((i:Int)).toNat]? =some L[i]:=by simp [hi]
  rw [y9 hi]
  simp only [tabB]
  have w1:wrp .i64 ((i:Int)+1)=((i+1:Nat):Int):=by rw [zbsa (by omega) (by omega)];omega
  have ih:=zbyn z L hL k (i+1) L[i].Proc (by omega) (fun e _ hx=>by
   rw [Nat.add_sub_cancel,y7 hi] at hx
   simp only [y4] at hx;rw [hx]) (by omega)
  refine Ev.su (Ev.po (Ev.po (Ev.opt he (Ev.ite (fun c1=>Ev.ret' ?_) fun c1=>Ev.ite (fun c2=>Ev.ret' ?_) fun c2=>Ev.ite (fun c3=>Ev.ret' ?_) fun c3=>Ev.ite (fun c4=>Ev.ret' ?_) fun c4=>Ev.ite (fun c5=>Ev.ret' ?_) fun c5=>Ev.ite (fun c6=>Ev.ret' ?_) fun c6=>Ev.ite (fun c7=>?_) fun c7=>?_))))
  ·unfold entOk;rw [decide_eq_false (show¬0<=L[i].Proc by omega)];simp
  ·unfold entOk;rw [decide_eq_false (show¬L[i].Proc<=64 by omega)];simp
  ·unfold entOk;rw [decide_eq_false (show¬0<=L[i].Seq by omega)];simp
  ·unfold entOk;rw [decide_eq_false (show¬L[i].Seq<4611686018427387904 by omega)];simp
  ·unfold entOk;rw [decide_eq_false (show¬ -1125899906842624<=L[i].Resp by omega)];simp
  ·unfold entOk;rw [decide_eq_false (show¬L[i].Resp<=1125899906842624 by omega)];simp
  ·have c:entOk L[i]=true:=by unfold entOk;simp only [y6,decide_eq_true_eq];omega
   have w3:wrp .i64 ((i:Int) - 1)=((i - 1:Nat):Int):=by rw [zbsa (by omega) (by omega)];omega
   have he3:L[(wrp .i64 ((i:Int) - 1)).toNat]? =some L[i - 1]:=by rw [w3,y28];exact y7 (by omega)
   have hq:=h1 L[i - 1] (by omega) (y7 (by omega))
   refine Ev.pos (by rw [w3];omega) (Ev.opt he3 (Ev.ite (fun c4=>Ev.ret' ?_) fun c4=>?_))
   ·rw [c,decide_eq_false (show¬last<L[i].Proc by omega)];rfl
   ·rw [c,decide_eq_true (show last<L[i].Proc by omega),w1];simpa using ih
  ·have c:entOk L[i]=true:=by unfold entOk;simp only [y6,decide_eq_true_eq];omega
   have:=h0 (by omega)
   rw [c,decide_eq_true (show last<L[i].Proc by omega),w1];simpa using ih
theorem zbyo (s:Sl zkn) (hL:s.l.length<=1000000):Ev (fun q=>zk2 q s) (tabB (-1) s.l):=
 Ev.su (zbyn s.z s.l hL s.l.length 0 (-1) (by omega) (fun e h=>by omega) (fun _=>rfl))
def mayN (s:zko):Bool:=decide (0<=s.Index) && (decide (s.Index<4611686018427387904) && (mayS s.State && tabB (-1) s.Table.l))
theorem zbyp (s:zko) (h1:s.State.L.l.length<=1000000) (h2:s.Table.l.length<=1000000):Ev (fun q=>zl5 q s) (mayN s):=by
 unfold mayN
 refine Ev.su (Ev.ite (fun c1=>Ev.ite (fun c2=>Ev.bind (zbyg _ h1) (Ev.ite (fun c3=>Ev.bind (zbym _ h2) (Ev.ret' ?_)) fun c3=>Ev.ret' ?_)) fun c2=>Ev.ret' ?_) fun c1=>Ev.ret' ?_)
 ·simp [c1,c2,c3]
 ·simp [c3]
 ·simp [c2]
 ·simp [c1]
theorem zbyq (s:zko) (h1:s.State.L.l.length<=1000000) (h2:s.Table.l.length<=1000000):Ev (fun q=>zk3 q s) (mayN s):=by
 unfold mayN
 refine Ev.su (Ev.bind (zbyj _ h1) (Ev.bind (zbyo _ h2) (Ev.ite (fun c1=>Ev.ite (fun c2=>Ev.ite (fun c3=>Ev.ret' ?_) fun c3=>Ev.ret' ?_) fun c2=>Ev.ret' ?_) fun c1=>Ev.ret' ?_)))
 ·simp [c1,c2,c3]
 ·simp [c3]
 ·simp only [Bool.not_eq_true] at c2;simp [c2]
 ·simp only [Bool.not_eq_true] at c1;simp [c1]
instance:DecidableEq zkn:=fun a b=>if h:a.Proc=b.Proc/\a.Seq=b.Seq/\a.Resp=b.Resp then isTrue (by cases a;cases b;simp_all) else isFalse (fun e=>h (by rw [e];exact ⟨rfl,rfl,rfl⟩))
theorem zbyr {a b:zkn} (h1:a.Proc=b.Proc) (h2:a.Seq=b.Seq) (h3:a.Resp=b.Resp):a=b:=by cases a;cases b;simp_all
theorem zbys (s:Sl Int) (hz:s.z=true->s.l=[]) (hl:s.l.length<=4294967296): ∃z,Ev (fun q=>zle q s) ⟨z,true,s.l⟩:=by
 by_cases h:s.z=true
 ·exact ⟨true,Ev.su (Ev.pos h (Ev.ret' (by rw [hz h])))⟩
 ·exact ⟨false,Ev.su (Ev.neg h (Ev.pos hl (Ev.ret _)))⟩
theorem zbyt {least:Int}: ∀{l:List Int} {last:Int},prs least last l=true->l.length % 2=0-> -1<=last-> -1099511627776<=least-> ∀x∈l,-1099511627776<=x/\x<=1099511627776
 | [],last,h,h2,h3,h4,x,hx=>by cases hx
 | [a],last,h,h2,h3,h4,x,hx=>by simp at h2
 | a::b::t,last,h,h2,h3,h4,x,hx=>by
  simp only [prs,y6,decide_eq_true_eq] at h
  simp only [y21] at h2
  rcases List.mem_cons.1 hx with e | e
  ·omega
  ·rcases List.mem_cons.1 e with e | e
   ·omega
   ·exact zbyt h.2.2.2.2 (by omega) (by omega) h4 x e
theorem zbyu {l:List Int} (h:cutsB l): ∀x∈l,-1099511627776<=x/\x<=1099511627776:=fun x hx=>zbst.1 (h x hx)
theorem zbyv {k:Int} {l:List Int} (h:kindOk k l=true):0<=k/\k<=5/\l.length<=128/\ ∀x∈l,-1099511627776<=x/\x<=1099511627776:=by
 unfold kindOk at h
 split at h
 ·simp only [decide_eq_true_eq] at h;exact ⟨by omega,by omega,by omega,zbyu h.2⟩
 ·split at h
  ·simp only [decide_eq_true_eq] at h;exact ⟨by omega,by omega,by omega,zbyu h.2⟩
  ·split at h
   ·simp only [pairsOk,y6,decide_eq_true_eq] at h;exact ⟨by omega,by omega,by omega,zbyt h.1 h.2.1 (by omega) (by omega)⟩
   ·split at h
    ·simp only [pairsOk,y6,decide_eq_true_eq] at h;exact ⟨by omega,by omega,by omega,zbyt h.1 h.2.1 (by omega) (by omega)⟩
    ·cases h
theorem zbyw {s:zkm} (h:mayS s=true):0<=s.To/\s.To<=2/\(s.Sealed=false->s.To=0)/\kindOk s.Kind s.L.l=true:=by
 unfold mayS at h
 split at h
 ·cases h
 ·split at h
  ·cases h
  ·split at h
   ·rename_i h1 h2 h3;exact ⟨by omega,by omega,fun e=>(by rw [e] at h3;cases h3),h⟩
   ·split at h
    ·rename_i h1 h2 h3 h4;exact ⟨by omega,by omega,fun _=>h4,h⟩
    ·cases h
theorem zbyx {e:zkn} (h:entOk e=true):0<=e.Proc/\e.Proc<=64/\0<=e.Seq/\e.Seq<4611686018427387904/\ -1125899906842624<=e.Resp/\e.Resp<=1125899906842624:=by
 simpa only [entOk,y6,decide_eq_true_eq] using h
theorem zbyy {s:zko} (h:mayN s=true):0<=s.Index/\s.Index<4611686018427387904/\mayS s.State=true/\tabB (-1) s.Table.l=true:=by
 simpa only [mayN,y6,decide_eq_true_eq] using h
/-- A table has at most 65 entries. -/
theorem zbyz: ∀{t:List zkn} {last:Int},tabB last t=true-> -1<=last->(t.length:Int)+last<=64\/t=[]
 | [],last,h,h1=> .inr rfl
 | a::t,last,h,h1=>by
  simp only [tabB,y6,decide_eq_true_eq] at h
  have ha:=zbyx h.1
  rcases zbyz h.2.2 (by omega) with e | e
  ·left;rw [y21];omega
  ·left;rw [e];simp only [y21,y25];omega
def sealN (s:zkm):Int:=if s.Sealed=true then s.To+1 else 0
def numsB (l:List Int):List Int:=l.flatMap putS
theorem zby0 (x:Int) (l:List Int):numsB (x::l)=putS x++numsB l:=by simp [numsB]
def stateB (s:zkm):List Int:=((put s.Kind++put (sealN s))++put (s.L.l.length:Int))++numsB s.L.l
def entB (e:zkn):List Int:=put e.Proc++(put e.Seq++putS e.Resp)
def tabE (l:List zkn):List Int:=l.flatMap entB
theorem zby1 (e:zkn) (l:List zkn):tabE (e::l)=entB e++tabE l:=by simp [tabE]
def wholeB (s:zko):List Int:=((put ((stateB s.State).length:Int)++stateB s.State)++put (s.Table.l.length:Int))++tabE s.Table.l
/-- Pieces of 64 bytes. -/
def chks:Nat->List Int->List (List Int)
 | 0,_=>[]
 | k+1,l=>if l.length=0 then [] else l.take 64::chks k (l.drop 64)
def frsB (F:List (List Int)):List Int:=(F.map encF).flatten
theorem zby2 (l:List Int):(encF l).length=(put (l.length:Int)).length+l.length+4:=by
 simp only [encF,fix4,y10,y21,y25];omega
/-- What the first frame tells. -/
def manB (i:Int) (w:List Int):List Int:=((([115]++put 3)++put i)++put (w.length:Int))++fix4 (bsum w).toNat
def snapB (s:zko):List Int:=encF (manB s.Index (wholeB s))++frsB (chks (wholeB s).length (wholeB s))
/-- The same states, the same snapshots. -/
def sameS (a b:zkm):Bool:=decide (a.Kind=b.Kind) && (decide (a.Sealed=b.Sealed) && (decide (a.To=b.To) && decide (a.L.l=b.L.l)))
def sameN (a b:zko):Bool:=decide (a.Index=b.Index) && (sameS a.State b.State && decide (a.Table.l=b.Table.l))
theorem zby3 (x0:Int) (xz:Bool) (A:List Int) (x2:Bool) (x3 y0:Int) (yz:Bool) (B:List Int) (y2:Bool) (y3:Int) (hl:A.length=B.length) (hL:A.length<=1099511627776): ∀(k i:Nat),A.length=i+k->Ev (fun q=>zq4 q (i:Int) x0 xz A x2 x3 y0 yz B y2 y3) (decide (A.drop i=B.drop i))
 | 0,i,hk=>by
  refine Ev.su (Ev.ne (Ev.ret' ?_))
  rw [y12 (by omega),y12 (by omega)];simp
 | k+1,i,hk=>by
  have hi:i<A.length:=by omega
  have hi2:i<B.length:=by omega
  have hg:A[(i:Int).toNat]? =some A[i]:=by simpa using y7 hi
  have hg2:B[(i:Int).toNat]? =some B[i]:=by simpa using y7 hi2
  refine Ev.su (Ev.po (Ev.po (Ev.opt hg (Ev.opt hg2 ?_))))
  rw [y9 hi,y9 hi2]
  refine Ev.ite (fun h=>?_) fun h=>Ev.ret' (by symm;rw [decide_eq_false_iff_not];intro e;exact h (List.cons.inj e).1)
  rw [zbsa (by omega) (by omega),show ((i:Int)+1)=((i+1:Nat):Int) by omega]
  refine (zby3 x0 xz A x2 x3 y0 yz B y2 y3 hl hL k (i+1) (by omega)).cast ?_
  rw [decide_eq_decide,List.cons.injEq];simp only [h,true_and]
theorem zby4 (a b:zkm) (hL:a.L.l.length<=1099511627776):Ev (fun q=>zq5 q a b) (sameS a b):=by
 unfold sameS
 refine Ev.su (Ev.ite (fun c1=>Ev.ite (fun c2=>Ev.ite (fun c3=>Ev.ite (fun c4=>?_) fun c4=>Ev.ret' ?_) fun c3=>Ev.ret' ?_) fun c2=>Ev.ret' ?_) fun c1=>Ev.ret' ?_)
 ·rw [beq_iff_eq] at c2
  refine Ev.cast (zby3 a.Kind a.L.z a.L.l a.Sealed a.To b.Kind b.L.z b.L.l b.Sealed b.To (by omega) hL a.L.l.length 0 (by omega)) ?_
  simp [c1,c2,c3]
 ·have: ¬a.L.l=b.L.l:=fun e=>c4 (by rw [e])
  simp [this]
 ·simp [c3]
 ·rw [beq_iff_eq] at c2;simp [c2]
 ·simp [c1]
theorem zby5 (x0 x1:Int) (xz:Bool) (xl:List Int) (x2:Bool) (x3:Int) (z:Bool) (A:List zkn) (y0 y1:Int) (yz:Bool) (yl:List Int) (y2:Bool) (y3:Int) (z2:Bool) (B:List zkn) (hl:A.length=B.length) (hL:A.length<=1099511627776): ∀(k i:Nat),A.length=i+k->Ev (fun q=>zq6 q (i:Int) x0 x1 xz xl x2 x3 z A y0 y1 yz yl y2 y3 z2 B) (decide (A.drop i=B.drop i))
 | 0,i,hk=>by
  refine Ev.su (Ev.ne (Ev.ret' ?_))
  rw [y12 (by omega),y12 (by omega)];simp
 | k+1,i,hk=>by
  have hi:i<A.length:=by omega
  have hi2:i<B.length:=by omega
  have hg:A[(i:Int).toNat]? =some A[i]:=by simpa using y7 hi
  have hg2:B[(i:Int).toNat]? =some B[i]:=by simpa using y7 hi2
  have no: ¬A[i]=B[i]->false=decide (A[i]::A.drop (i+1)=B[i]::B.drop (i+1)):=fun h=>by
   symm;rw [decide_eq_false_iff_not];intro e;exact h (List.cons.inj e).1
  rw [y9 hi,y9 hi2]
  refine Ev.su (Ev.po (Ev.po (Ev.opt hg (Ev.opt hg2 (Ev.ite (fun c1=>Ev.ite (fun c2=>Ev.ite (fun c3=>?_) fun c3=>Ev.ret' (no fun e=>c3 (by rw [e]))) fun c2=>Ev.ret' (no fun e=>c2 (by rw [e]))) fun c1=>Ev.ret' (no fun e=>c1 (by rw [e])))))))
  rw [zbsa (by omega) (by omega),show ((i:Int)+1)=((i+1:Nat):Int) by omega]
  refine (zby5 x0 x1 xz xl x2 x3 z A y0 y1 yz yl y2 y3 z2 B hl hL k (i+1) (by omega)).cast ?_
  rw [decide_eq_decide,List.cons.injEq];simp only [zbyr c1 c2 c3,true_and]
theorem zby6 (a b:zko) (hL:a.State.L.l.length<=1099511627776) (hT:a.Table.l.length<=1099511627776):Ev (fun q=>zq7 q a b) (sameN a b):=by
 unfold sameN
 refine Ev.su (Ev.bind (zby4 _ _ hL) (Ev.ite (fun c1=>Ev.ite (fun c2=>Ev.ite (fun c3=>?_) fun c3=>Ev.ret' ?_) fun c2=>Ev.ret' ?_) fun c1=>Ev.ret' ?_))
 ·refine Ev.cast (zby5 a.Index a.State.Kind a.State.L.z a.State.L.l a.State.Sealed a.State.To a.Table.z a.Table.l b.Index b.State.Kind b.State.L.z b.State.L.l b.State.Sealed b.State.To b.Table.z b.Table.l (by omega) hT a.Table.l.length 0 (by omega)) ?_
  simp [c1,c2]
 ·have: ¬a.Table.l=b.Table.l:=fun e=>c3 (by rw [e])
  simp [this]
 ·simp [c2]
 ·simp only [Bool.not_eq_true] at c1;simp [c1]
theorem zby7 (a:zko):sameN a a=true:=by simp [sameN,sameS]
theorem zby8 (n:Int):1<=(putS n).length:=zbsg _
theorem zby9 {l:List Int} (hb:isB l) (h:(getN l).2≠0):l.take (getN l).2.toNat=put (getN l).1:=by
 unfold getN at h ⊢
 cases e:rd 0 l with
 | none=>simp [e] at h
 | some p=>
  simp only [e] at h ⊢
  split
  ·rename_i h2;rw [if_pos h2] at h;simp at h
  ·rename_i h2
   have:=(rd_inv hb (show rd 0 l=some (p.1,p.2) from e)).1
   simp only [y28]
   rw [this,put_ok (by omega) (by omega),y28]
theorem zbza {l:List Int} (hb:isB l) (h:(getS l).2≠0):l.take (getS l).2.toNat=putS (getS l).1:=by
 unfold getS at h ⊢
 cases e:rd 0 l with
 | none=>simp [e] at h
 | some p=>
  have:=(rd_inv hb (show rd 0 l=some (p.1,p.2) from e)).1
  simp only [y28]
  rw [this,putS,zbvj]
theorem zbzb {l:List Int} (hb:isB l) (h:0<(getN l).2):l=put (getN l).1++l.drop (getN l).2.toNat:=by
 rw [<- zby9 hb (by omega),List.take_append_drop]
theorem zbzc {l:List Int} (hb:isB l) (h:0<(getS l).2):l=putS (getS l).1++l.drop (getS l).2.toNat:=by
 rw [<- zbza hb (by omega),List.take_append_drop]
theorem zbzd: ∀{f:Nat} {l:List Int},isB l-> ∀d∈(walkF f l).1,isB d/\d.length<=1048576
 | 0,l,hb,d,h=>by simp [walkF] at h
 | f +1,l,hb,d,h=>by
  simp only [walkF] at h
  split at h
  ·simp at h
  ·split at h
   ·rename_i h1 h2
    rcases List.mem_cons.1 h with e | e
    ·rw [e]
     exact ⟨zbus hb,(zbur (l:=l) (x:=(decF l).1) (n:=(decF l).2.1) hb (by rw [<- h2])).1⟩
    ·exact zbzd (zbul hb _) d e
   ·simp at h
theorem zbze {l:List Int} (hb:isB l): ∀d∈(allE l).1,isB d/\d.length<=1048576:=by
 unfold allE
 split
 ·exact zbzd hb
 ·simp
theorem zbzf: ∀{f:Nat} {l:List Int},isB l->l.length<f->(walkF f l).2.2=0->BB (walkF f l).1=l
 | 0,l,hb,hf,h=>by omega
 | f+1,l,hb,hf,h=>by
  simp only [walkF] at h ⊢
  split at h
  ·rename_i e;rw [if_pos e];simp [BB,e]
  ·rename_i e
   rw [if_neg e]
   split at h
   ·rename_i e2
    rw [if_pos e2]
    obtain ⟨k1,k2,k3,k4,k5⟩:=zbur (l:=l) (x:=(decF l).1) (n:=(decF l).2.1) hb (by rw [<- e2])
    have:=zbzf (f:=f) (l:=l.drop (decF l).2.1.toNat) (zbul hb _) (by rw [y13];omega) h
    simp only [zbvi,this,k5,List.take_append_drop]
   ·rename_i e2;exact absurd h e2
theorem zbzg {l:List Int} (hb:isB l) (h:(allE l).2=0):BB (allE l).1=l:=by
 unfold allE at h ⊢
 split at h
 ·rename_i e;rw [if_pos e];exact zbzf hb (by omega) e
 ·rename_i e;exact absurd h e
theorem zbzh (F:List (List Int)):frsB F=BB F:=by simp [frsB,BB,List.flatMap]
def noS:zkm:=⟨0,⟨true,[]⟩,false,0⟩
def nums:Nat->List Int->List Int×Bool×List Int
 | 0,b=>([],true,b)
 | k+1,b=>((getS b).1::(nums k (b.drop (getS b).2.toNat)).1,decide (0<(getS b).2) && (nums k (b.drop (getS b).2.toNat)).2.1,(nums k (b.drop (getS b).2.toNat)).2.2)
theorem zbzi: ∀{k:Nat} {b:List Int},isB b->(nums k b).2.1=true->b=numsB (nums k b).1++(nums k b).2.2
 | 0,b,hb,h=>by simp [nums,numsB]
 | k+1,b,hb,h=>by
  simp only [nums,y6,decide_eq_true_eq] at h ⊢
  rw [zby0,y33,<- zbzi (zbul hb _) h.2]
  exact zbzc hb h.1
theorem zbzj: ∀{k:Nat} {b:List Int},(nums k b).1.length=k
 | 0,b=>rfl
 | k+1,b=>by simp only [nums,y21,zbzj]
/-- The state that was read. -/
def stR (x y:Int) (l:List Int):zkm:=⟨x,⟨l.isEmpty,l⟩,decide (0<y),if y - 1<0 then 0 else y - 1⟩
def stD (b:List Int):zkm×Int:=
 let x:=getN b
 let b1:=b.drop x.2.toNat
 let y:=getN b1
 let b2:=b1.drop y.2.toNat
 let z:=getN b2
 let b3:=b2.drop z.2.toNat
 if 0<x.2/\0<y.2/\0<z.2/\y.1<=3/\z.1<=128 then
  if (nums z.1.toNat b3).2.1=true/\(nums z.1.toNat b3).2.2=[] then
   if mayS (stR x.1 y.1 (nums z.1.toNat b3).1)=true then (stR x.1 y.1 (nums z.1.toNat b3).1,0) else (noS,1)
  else (noS,3)
 else (noS,3)
theorem zbzk {x y:Int} {l:List Int} (hy:0<=y):sealN (stR x y l)=y:=by
 unfold sealN stR
 by_cases h:0<y
 ·simp only [h,decide_true,if_true];rw [if_neg (by omega)];omega
 ·simp only [h,decide_false,y18,if_false];omega
theorem zbzl {b:List Int} (hb:isB b) (h:(stD b).2=0):mayS (stD b).1=true/\stateB (stD b).1=b:=by
 simp only [stD] at h ⊢
 split at h
 ·rename_i c
  rw [if_pos c]
  split at h
  ·rename_i c2
   rw [if_pos c2]
   split at h
   ·rename_i c3
    rw [if_pos c3]
    refine ⟨c3,?_⟩
    have y0:=(zbue (l:=b.drop (getN b).2.toNat)).2.2.2.1
    have z0:=zbue (l:=(b.drop (getN b).2.toNat).drop (getN (b.drop (getN b).2.toNat)).2.toNat)
    have hb1:=zbul hb (getN b).2.toNat
    have hb2:=zbul hb1 (getN (b.drop (getN b).2.toNat)).2.toNat
    have hb3:=zbul hb2 (getN ((b.drop (getN b).2.toNat).drop (getN (b.drop (getN b).2.toNat)).2.toNat)).2.toNat
    have e0:=zbzb hb c.1
    have e1:=zbzb hb1 c.2.1
    have e2:=zbzb hb2 c.2.2.1
    have e3:=zbzi hb3 c2.1
    have hl:=zbzj (k:=(getN ((b.drop (getN b).2.toNat).drop (getN (b.drop (getN b).2.toNat)).2.toNat)).1.toNat) (b:=((b.drop (getN b).2.toNat).drop (getN (b.drop (getN b).2.toNat)).2.toNat).drop (getN ((b.drop (getN b).2.toNat).drop (getN (b.drop (getN b).2.toNat)).2.toNat)).2.toNat)
    rw [c2.2,List.append_nil] at e3
    simp only [stateB,zbzk y0]
    show ((put (getN b).1++put _)++put (((nums _ _).1.length:Nat):Int))++numsB (nums _ _).1=b
    rw [hl,Int.toNat_of_nonneg z0.2.2.2.1,<- e3,y33,y33,<- e2,<- e1,<- e0]
   ·cases h
  ·cases h
 ·cases h
def entD (b:List Int):zkn×Int:=
 let x:=getN b
 let b1:=b.drop x.2.toNat
 let y:=getN b1
 let b2:=b1.drop y.2.toNat
 let z:=getS b2
 (⟨x.1,y.1,z.1⟩,if x.2=0 then 0 else if y.2=0 then 0 else if z.2=0 then 0 else x.2+y.2+z.2)
theorem zbzm {b:List Int}:0<=(entD b).2/\(entD b).2<=b.length:=by
 have x:=zbue (l:=b)
 have y:=zbue (l:=b.drop (getN b).2.toNat)
 have z:=zbvn (l:=(b.drop (getN b).2.toNat).drop (getN (b.drop (getN b).2.toNat)).2.toNat)
 simp only [y13] at y z
 simp only [entD]
 split
 ·omega
 ·split
  ·omega
  ·split<;>omega
theorem drop3 (b:List Int) {i j k:Int} (h1:0<=i) (h2:0<=j) (h3:0<=k):b.drop (i+j+k).toNat=((b.drop i.toNat).drop j.toNat).drop k.toNat:=by
 rw [y50,y50];congr 1;omega
theorem zbzn {b:List Int} (hb:isB b) (h:(entD b).2≠0):b=entB (entD b).1++b.drop (entD b).2.toNat:=by
 have x:=zbue (l:=b)
 have y:=zbue (l:=b.drop (getN b).2.toNat)
 have z:=zbvn (l:=(b.drop (getN b).2.toNat).drop (getN (b.drop (getN b).2.toNat)).2.toNat)
 have hb1:=zbul hb (getN b).2.toNat
 have hb2:=zbul hb1 (getN (b.drop (getN b).2.toNat)).2.toNat
 simp only [entD] at h ⊢
 split at h
 ·exact absurd rfl h
 ·rename_i c1
  split at h
  ·exact absurd rfl h
  ·rename_i c2
   split at h
   ·exact absurd rfl h
   ·rename_i c3
    rw [if_neg c1,if_neg c2,if_neg c3]
    have e0:=zbzb hb (by omega)
    have e1:=zbzb hb1 (by omega)
    have e2:=zbzc hb2 (by omega)
    rw [drop3 b x.1 y.1 z.1]
    simp only [entB,y33]
    rw [<- e2,<- e1,<- e0]
def ents:Nat->List Int->Option (List zkn×List Int)
 | 0,b=>some ([],b)
 | k+1,b=>if (entD b).2=0 then none else match ents k (b.drop (entD b).2.toNat) with
  | none=>none
  | some t=>some ((entD b).1::t.1,t.2)
theorem zbzo: ∀{k:Nat} {b:List Int} {t:List zkn×List Int},isB b->ents k b=some t->b=tabE t.1++t.2/\t.1.length=k
 | 0,b,t,hb,h=>by simp only [ents,y4] at h;subst h;simp [tabE]
 | k+1,b,t,hb,h=>by
  simp only [ents] at h
  split at h
  ·cases h
  ·rename_i c
   cases e:ents k (b.drop (entD b).2.toNat) with
   | none=>simp [e] at h
   | some u=>
    simp only [e,y4] at h
    subst h
    obtain ⟨h1,h2⟩:=zbzo (zbul hb _) e
    refine ⟨?_,by simp [h2]⟩
    simp only [zby1,y33]
    rw [<- h1];exact zbzn hb c
def noT:zkm×List zkn:=(noS,[])
def whD (w:List Int):(zkm×List zkn)×Int:=
 if (getN w).2=0 then (noT,3) else if (w.length:Int) - (getN w).2<(getN w).1 then (noT,3) else
 if (stD ((w.take ((getN w).2+(getN w).1).toNat).drop (getN w).2.toNat)).2=3 then (noT,3) else
 if (getN (w.drop ((getN w).2+(getN w).1).toNat)).2=0 then (noT,3) else
 if ((w.drop ((getN w).2+(getN w).1).toNat).length:Int)<(getN (w.drop ((getN w).2+(getN w).1).toNat)).1 then (noT,3) else
 match ents (getN (w.drop ((getN w).2+(getN w).1).toNat)).1.toNat ((w.drop ((getN w).2+(getN w).1).toNat).drop (getN (w.drop ((getN w).2+(getN w).1).toNat)).2.toNat) with
 | none=>(noT,3)
 | some t=>if t.2=[] then (((stD ((w.take ((getN w).2+(getN w).1).toNat).drop (getN w).2.toNat)).1,t.1),(stD ((w.take ((getN w).2+(getN w).1).toNat).drop (getN w).2.toNat)).2) else (noT,3)
/-- A snapshot of its parts. -/
def mkN (i:Int) (p:zkm×List zkn):zko:=⟨i,p.1,⟨p.2.isEmpty,p.2⟩⟩
theorem zbzp {w:List Int} (hb:isB w) (h:(whD w).2=0) (i:Int):wholeB (mkN i (whD w).1)=w:=by
 have hn:=zbue (l:=w)
 unfold whD at h ⊢
 split at h
 ·cases h
 ·rename_i c1
  rw [if_neg c1]
  split at h
  ·cases h
  ·rename_i c2
   rw [if_neg c2]
   split at h
   ·cases h
   ·rename_i c3
    rw [if_neg c3]
    split at h
    ·cases h
    ·rename_i c4
     rw [if_neg c4]
     split at h
     ·cases h
     ·rename_i c5
      rw [if_neg c5]
      generalize hS:(w.take ((getN w).2+(getN w).1).toNat).drop (getN w).2.toNat=X at h ⊢
      have hbX:isB X:=by rw [<- hS];exact zbul (zbuk hb _) _
      have hm:=zbue (l:=w.drop ((getN w).2+(getN w).1).toNat)
      have hbW:=zbul hb ((getN w).2+(getN w).1).toNat
      have hXl:(X.length:Int)=(getN w).1:=by rw [<- hS,y13,y20];omega
      have hw1:w=(put (getN w).1++X)++w.drop ((getN w).2+(getN w).1).toNat:=by
       rw [<- zby9 hb c1,<- hS]
       have e:w.take (getN w).2.toNat=(w.take ((getN w).2+(getN w).1).toNat).take (getN w).2.toNat:=by rw [List.take_take];congr 1;omega
       rw [e,List.take_append_drop,List.take_append_drop]
      cases he:ents (getN (w.drop ((getN w).2+(getN w).1).toNat)).1.toNat ((w.drop ((getN w).2+(getN w).1).toNat).drop (getN (w.drop ((getN w).2+(getN w).1).toNat)).2.toNat) with
      | none=>rw [he] at h;cases h
      | some t=>
       rw [he] at h
       simp only at h ⊢
       split at h
       ·rename_i c6
        rw [if_pos c6]
        obtain ⟨h1,h2⟩:=zbzo (zbul hbW _) he
        rw [c6,List.append_nil] at h1
        obtain ⟨_,s2⟩:=zbzl hbX h
        have e2:=zbzb hbW (by omega)
        show ((put ((stateB (stD X).1).length:Int)++stateB (stD X).1)++put ((t.1.length:Nat):Int))++tabE t.1=w
        rw [s2,hXl,h2,Int.toNat_of_nonneg hm.2.2.2.1,<- h1,y33,<- e2]
        exact hw1.symm
       ·cases h
def manD (d:List Int):(Int×Int×Nat)×Int:=
 let x:=getN (d.drop 1)
 let d1:=(d.drop 1).drop x.2.toNat
 let y:=getN d1
 let d2:=d1.drop y.2.toNat
 let z:=getN d2
 let d3:=d2.drop z.2.toNat
 if d[0]? =some 115 then
  if x.2=0 then ((0,0,0),3) else if y.2=0 then ((0,0,0),3) else if z.2=0 then ((0,0,0),3) else if x.1=3 then if d3.length=4 then ((y.1,z.1,numB d3),0) else ((0,0,0),3) else ((0,0,0),6)
 else ((0,0,0),3)
theorem take4 {l:List Int} (h:l.length=4) (hb:isB l) {v:Nat} (hv:v<4294967296) (e:numB l=v):l=fix4 v:=(zbu9 hb h hv).1 e
theorem zbzq {d w:List Int} (hb:isB d) (h:(manD d).2=0) (h1:(w.length:Int)=(manD d).1.2.1) (h2:(bsum w).toNat=(manD d).1.2.2):d=manB (manD d).1.1 w/\0<=(manD d).1.1/\(manD d).1.1<4611686018427387904:=by
 have hb0:=zbul hb 1
 have hb1:=zbul hb0 (getN (d.drop 1)).2.toNat
 have hb2:=zbul hb1 (getN ((d.drop 1).drop (getN (d.drop 1)).2.toNat)).2.toNat
 have hb3:=zbul hb2 (getN (((d.drop 1).drop (getN (d.drop 1)).2.toNat).drop (getN ((d.drop 1).drop (getN (d.drop 1)).2.toNat)).2.toNat)).2.toNat
 have hy:=zbue (l:=(d.drop 1).drop (getN (d.drop 1)).2.toNat)
 have hx:=zbue (l:=d.drop 1)
 have hz:=zbue (l:=((d.drop 1).drop (getN (d.drop 1)).2.toNat).drop (getN ((d.drop 1).drop (getN (d.drop 1)).2.toNat)).2.toNat)
 simp only [manD] at h h1 h2 ⊢
 split at h
 ·rename_i c0
  rw [if_pos c0] at h1 h2 ⊢
  split at h
  ·cases h
  ·rename_i c1
   rw [if_neg c1] at h1 h2 ⊢
   split at h
   ·cases h
   ·rename_i c2
    rw [if_neg c2] at h1 h2 ⊢
    split at h
    ·cases h
    ·rename_i c3
     rw [if_neg c3] at h1 h2 ⊢
     split at h
     ·rename_i c4
      rw [if_pos c4] at h1 h2 ⊢
      split at h
      ·rename_i c5
       rw [if_pos c5] at h1 h2 ⊢
       simp only at h1 h2 ⊢
       refine ⟨?_,hy.2.2.2.1,hy.2.2.2.2⟩
       have e1:=zbzb hb0 (by omega)
       have e2:=zbzb hb1 (by omega)
       have e3:=zbzb hb2 (by omega)
       have e4:=take4 c5 hb3 (v:=(bsum w).toNat) (by have:=(bsum w).isLt;omega) h2.symm
       unfold manB
       rw [h1,<- c4,<- e4]
       simp only [y33]
       rw [<- e3,<- e2,<- e1]
       cases d with
       | nil=>simp at c0
       | cons a d=>simp only [y37,y4] at c0;rw [c0];rfl
      ·cases h
     ·cases h
 ·cases h
def cutB:List (List Int)->Bool
 | []=>true
 | [d]=>decide (1<=d.length) && decide (d.length<=64)
 | d::t=>decide (d.length=64) && cutB t
theorem zbzr {k:Nat} {l:List Int} (h:l.length=0):chks k l=[]:=by
 cases k with
 | zero=>rfl
 | succ k=>simp only [chks];rw [if_pos h]
theorem zbzs {k:Nat} {l:List Int} (h:l.length≠0):chks (k+1) l=l.take 64::chks k (l.drop 64):=by simp only [chks];rw [if_neg h]
theorem zbzt: ∀{t:List (List Int)} {k:Nat},cutB t=true->t.flatten.length<=k->chks k t.flatten=t
 | [],k,h,hk=>zbzr rfl
 | [d],k,h,hk=>by
  simp only [cutB,y6,decide_eq_true_eq] at h
  simp only [List.flatten_cons,List.flatten_nil,List.append_nil] at hk ⊢
  cases k with
  | zero=>omega
  | succ k=>rw [zbzs (by omega),List.take_of_length_le h.2,zbzr (by rw [y13];omega)]
 | d::e::t,k,h,hk=>by
  simp only [cutB,y6,decide_eq_true_eq] at h
  rw [List.flatten_cons,y10] at hk
  cases k with
  | zero=>omega
  | succ k=>
   rw [List.flatten_cons,zbzs (by rw [y10];omega),List.take_left' h.1,List.drop_left' h.1,zbzt h.2 (by omega)]
def noN:zko:=⟨0,noS,⟨true,[]⟩⟩
def snD (b:List Int):zko×Int:=
 if (allE b).2=0 then match (allE b).1 with
  | []=>(noN,16)
  | h ::t=>
   if (manD h).2=0 then
    if (t.flatten.length:Int)=(manD h).1.2.1 then
     if cutB t=true then
      if (bsum t.flatten).toNat=(manD h).1.2.2 then
       if (whD t.flatten).2=0 then
        if mayN (mkN (manD h).1.1 (whD t.flatten).1)=true then (mkN (manD h).1.1 (whD t.flatten).1,0) else (noN,1)
       else (noN,(whD t.flatten).2)
      else (noN,4)
     else (noN,3)
    else (noN,16)
   else (noN,(manD h).2)
 else (noN,(allE b).2)
theorem zbzu: ∀{t:List (List Int)},(∀d∈t,isB d)->isB t.flatten:=fun h c hc=>by
 obtain ⟨d,hd,hcd⟩:=List.mem_flatten.1 hc;exact h d hd c hcd
theorem zbzv {b:List Int} (hb:isB b) (h:(snD b).2=0):mayN (snD b).1=true/\snapB (snD b).1=b:=by
 unfold snD at h ⊢
 split at h
 ·rename_i c0
  rw [if_pos c0]
  have hf:=zbzg hb c0
  have hme:=zbze hb
  cases he:(allE b).1 with
  | nil=>rw [he] at h;cases h
  | cons d t=>
   rw [he] at h hf hme
   simp only at h ⊢
   split at h
   ·rename_i c1
    rw [if_pos c1]
    split at h
    ·rename_i c2
     rw [if_pos c2]
     split at h
     ·rename_i c3
      rw [if_pos c3]
      split at h
      ·rename_i c4
       rw [if_pos c4]
       split at h
       ·rename_i c5
        rw [if_pos c5]
        split at h
        ·rename_i c6
         rw [if_pos c6]
         have hbt:isB t.flatten:=zbzu fun x hx=>(hme x (y36 _ hx)).1
         obtain ⟨m1,m2,m3⟩:=zbzq (hme d y32).1 c1 c2 c4
         refine ⟨c6,?_⟩
         unfold snapB
         rw [zbzp hbt c5,zbzh,zbzt c3 (y14 _)]
         show encF (manB (manD d).1.1 t.flatten)++BB t=b
         rw [<- m1,<- zbvi];exact hf
        ·cases h
       ·rename_i c5;exact absurd h c5
      ·cases h
     ·cases h
    ·cases h
   ·rename_i c1;exact absurd h c1
 ·rename_i c0;exact absurd h c0
theorem zbzw: ∀(a:List Int) (c:Int),numB (a++[c])=numB a+c.toNat*256 ^ a.length
 | [],c=>by simp [numB]
 | x::a,c=>by
  simp only [List.cons_append,numB,zbzw a c,y21,Nat.pow_succ]
  rw [Nat.mul_add,Nat.mul_comm (256 ^ a.length) 256,<- Nat.mul_assoc,<- Nat.mul_assoc,Nat.mul_comm c.toNat 256];omega
theorem zbzx (z:Bool) (L:List Int) (hb:isB L) (hL:L.length<=8): ∀(k i:Nat),L.length=i+k->Ev (fun q=>zoe q z L ((numB (L.take i):Nat):Int) (L.length:Int) (i:Int)) ((numB L:Nat):Int)
 | 0,i,hk=>Ev.su (Ev.ne (Ev.ret' (by rw [List.take_of_length_le (by omega)])))
 | k+1,i,hk=>by
  have hi:i<L.length:=by omega
  have hg:L[(i:Int).toNat]? =some L[i]:=by simpa using y7 hi
  obtain ⟨b1,b2⟩:=hb L[i] (y26 hi)
  have ih:=zbzx z L hb hL k (i+1) (by omega)
  have hw:wrp .i64 (8*(i:Int))=((8*i:Nat):Int):=by rw [zbsa (by omega) (by omega)];omega
  have hlt:=zbu6 (l:=L.take i) (zbuk hb _)
  rw [y20,Nat.min_eq_left (by omega)] at hlt
  have hs:numB (L.take (i+1))=numB (L.take i)+L[i].toNat*256 ^ i:=by
   rw [<- List.take_append_getElem hi,zbzw,y20,Nat.min_eq_left (by omega)]
  have hp:2 ^ (8*i)=256 ^ i:=by rw [Nat.pow_mul]
  have hpb:256 ^ i<=256 ^ 7:=Nat.pow_le_pow_right (by omega) (by omega)
  have h6:L[i].toNat*2 ^ (8*i)<18446744073709551616:=by
   rw [hp]
   have h:L[i].toNat*256 ^ i<=255*256 ^ 7:=Nat.mul_le_mul (by omega) hpb
   simp only [Nat.reducePow] at h;omega
  have hn:numB (L.take i)<18446744073709551616:=by
   simp only [Nat.reducePow] at hpb;omega
  have key:ibits .or .u64 ((numB (L.take i):Nat):Int) (ishl .u64 (wrp .u64 L[i]) (wrp .i64 (8*(i:Int))))=((numB (L.take (i+1)):Nat):Int):=by
   rw [hw,zbsb b1 (by omega),show L[i]=((L[i].toNat:Nat):Int) by omega,ishl64 (by omega),Nat.mod_eq_of_lt (by simpa using h6),or64 hn (by simpa using h6),hs]
   congr 1
   rw [<- hp] at hlt
   have:=Nat.two_pow_add_eq_or_of_lt hlt L[i].toNat
   rw [Nat.or_comm,Nat.mul_comm,<- this,hp,Nat.mul_comm];omega
  refine Ev.su (Ev.po (Ev.po (Ev.opt hg (Ev.neg (by rw [hw];omega) ?_))))
  rw [key,zbsa (by omega) (by omega),show ((i:Int)+1)=((i+1:Nat):Int) by omega]
  exact ih
theorem zbzy (s:Sl Int) (hb:isB s.l) (hL:s.l.length<=8):Ev (fun q=>zof q s) ((numB s.l:Nat):Int):=by
 have h:=zbzx s.z s.l hb hL s.l.length 0 (by omega)
 refine Ev.succ (g:=fun q=>zoe q s.z s.l 0 (if 8<(s.l.length:Int) then 8 else (s.l.length:Int)) 0) ?_ (fun q=>rfl)
 rw [if_neg (show¬8<(s.l.length:Int) by omega)];exact h
theorem zbzz (s:Sl Int) (hb:isB s.l) (hl:s.l.length<=4294967296): ∃m,Ev (fun q=>zog q s) (m,(manD s.l).2)/\((manD s.l).2=0->m=⟨(manD s.l).1.1,(manD s.l).1.2.1,(((manD s.l).1.2.2:Nat):Int)⟩):=by
 by_cases h0:(s.l.length:Int)=0
 ·have e:s.l[0]? =none:=by rw [y51];omega
  have hm:(manD s.l).2=3:=by simp only [manD,e];rw [if_neg (by simp)]
  rw [hm]
  exact ⟨_,Ev.su (Ev.pos h0 (Ev.ret _)),fun h=>by cases h⟩
 ·obtain ⟨a,he⟩: ∃a,s.l[0]? =some a:=⟨s.l[0]'(by omega),y7 (by omega)⟩
  obtain ⟨d,hd⟩: ∃d,d=s.l.drop 1:=⟨_,rfl⟩
  have hlc:s.l.length=d.length+1:=by rw [hd,y13];omega
  have hb0:isB d:=by rw [hd];exact zbul hb 1
  have hb1:=zbul hb0 (getN d).2.toNat
  have hb2:=zbul hb1 (getN (d.drop (getN d).2.toNat)).2.toNat
  have hb3:=zbul hb2 (getN ((d.drop (getN d).2.toNat).drop (getN (d.drop (getN d).2.toNat)).2.toNat)).2.toNat
  have hx:=zbue (l:=d)
  have hy:=zbue (l:=d.drop (getN d).2.toNat)
  have hz:=zbue (l:=(d.drop (getN d).2.toNat).drop (getN (d.drop (getN d).2.toNat)).2.toNat)
  simp only [y13] at hy hz
  have hF:=zbzy ⟨s.z,((d.drop (getN d).2.toNat).drop (getN (d.drop (getN d).2.toNat)).2.toNat).drop (getN ((d.drop (getN d).2.toNat).drop (getN (d.drop (getN d).2.toNat)).2.toNat)).2.toNat⟩ hb3
  simp only [y13] at hF
  have pre: ∀{m},(a=115->Ev (fun q=>(if (getN d).2=0 then (some ((⟨(getN (d.drop (getN d).2.toNat)).1,(getN ((d.drop (getN d).2.toNat).drop (getN (d.drop (getN d).2.toNat)).2.toNat)).1,0⟩:zkt),(3:Int))) else (if (getN (d.drop (getN d).2.toNat)).2=0 then (some ((⟨(getN (d.drop (getN d).2.toNat)).1,(getN ((d.drop (getN d).2.toNat).drop (getN (d.drop (getN d).2.toNat)).2.toNat)).1,0⟩:zkt),3)) else (if (getN ((d.drop (getN d).2.toNat).drop (getN (d.drop (getN d).2.toNat)).2.toNat)).2=0 then (some ((⟨(getN (d.drop (getN d).2.toNat)).1,(getN ((d.drop (getN d).2.toNat).drop (getN (d.drop (getN d).2.toNat)).2.toNat)).1,0⟩:zkt),3)) else (if (getN d).1=3 then (if (((((s.l.length - 1) - (getN d).2.toNat) - (getN (d.drop (getN d).2.toNat)).2.toNat) - (getN ((d.drop (getN d).2.toNat).drop (getN (d.drop (getN d).2.toNat)).2.toNat)).2.toNat:Nat):Int)=4 then ((zof q ⟨s.z,((d.drop (getN d).2.toNat).drop (getN (d.drop (getN d).2.toNat)).2.toNat).drop (getN ((d.drop (getN d).2.toNat).drop (getN (d.drop (getN d).2.toNat)).2.toNat)).2.toNat⟩).bind fun r5=>(some ((⟨(getN (d.drop (getN d).2.toNat)).1,(getN ((d.drop (getN d).2.toNat).drop (getN (d.drop (getN d).2.toNat)).2.toNat)).1,r5⟩:zkt),0))) else (some ((⟨(getN (d.drop (getN d).2.toNat)).1,(getN ((d.drop (getN d).2.toNat).drop (getN (d.drop (getN d).2.toNat)).2.toNat)).1,0⟩:zkt),3))) else (some ((⟨(getN (d.drop (getN d).2.toNat)).1,(getN ((d.drop (getN d).2.toNat).drop (getN (d.drop (getN d).2.toNat)).2.toNat)).1,0⟩:zkt),6))))))) m)->a=115->Ev (fun q=>zog q s) m:=fun {m} h ha=>by
   refine Ev.su (Ev.neg h0 (Ev.opt he (Ev.pos ha (Ev.pos (by omega) ?_))))
   rw [<- hd]
   exact Ev.bind (zbud ⟨s.z,d⟩ hb0) (Ev.pos hx.1 (Ev.pos (by simp only;omega) (Ev.bind (zbud ⟨s.z,d.drop (getN d).2.toNat⟩ hb1) (Ev.pos hy.1 (Ev.pos (by simp only;omega) (Ev.bind (zbud ⟨s.z,(d.drop (getN d).2.toNat).drop (getN (d.drop (getN d).2.toNat)).2.toNat⟩ hb2) (Ev.pos hz.1 (Ev.pos (by simp only;omega) (h ha)))))))))
  by_cases ha:a=115
  ·have hm:manD s.l=(if (getN d).2=0 then ((0,0,0),3) else if (getN (d.drop (getN d).2.toNat)).2=0 then ((0,0,0),3) else if (getN ((d.drop (getN d).2.toNat).drop (getN (d.drop (getN d).2.toNat)).2.toNat)).2=0 then ((0,0,0),3) else if (getN d).1=3 then if (((d.drop (getN d).2.toNat).drop (getN (d.drop (getN d).2.toNat)).2.toNat).drop (getN ((d.drop (getN d).2.toNat).drop (getN (d.drop (getN d).2.toNat)).2.toNat)).2.toNat).length=4 then (((getN (d.drop (getN d).2.toNat)).1,(getN ((d.drop (getN d).2.toNat).drop (getN (d.drop (getN d).2.toNat)).2.toNat)).1,numB (((d.drop (getN d).2.toNat).drop (getN (d.drop (getN d).2.toNat)).2.toNat).drop (getN ((d.drop (getN d).2.toNat).drop (getN (d.drop (getN d).2.toNat)).2.toNat)).2.toNat)),0) else ((0,0,0),3) else ((0,0,0),6)):=by
    simp only [manD,<- hd];rw [if_pos (by rw [he,ha])]
   rw [hm]
   by_cases c1:(getN d).2=0
   ·rw [if_pos c1];exact ⟨_,pre (fun _=>Ev.pos c1 (Ev.ret _)) ha,fun h=>by cases h⟩
   ·rw [if_neg c1]
    by_cases c2:(getN (d.drop (getN d).2.toNat)).2=0
    ·rw [if_pos c2];exact ⟨_,pre (fun _=>Ev.neg c1 (Ev.pos c2 (Ev.ret _))) ha,fun h=>by cases h⟩
    ·rw [if_neg c2]
     by_cases c3:(getN ((d.drop (getN d).2.toNat).drop (getN (d.drop (getN d).2.toNat)).2.toNat)).2=0
     ·rw [if_pos c3];exact ⟨_,pre (fun _=>Ev.neg c1 (Ev.neg c2 (Ev.pos c3 (Ev.ret _)))) ha,fun h=>by cases h⟩
     ·rw [if_neg c3]
      by_cases c4:(getN d).1=3
      ·rw [if_pos c4]
       simp only [y13]
       by_cases c5:d.length - (getN d).2.toNat - (getN (d.drop (getN d).2.toNat)).2.toNat - (getN ((d.drop (getN d).2.toNat).drop (getN (d.drop (getN d).2.toNat)).2.toNat)).2.toNat=4
       ·rw [if_pos c5]
        exact ⟨_,pre (fun _=>Ev.neg c1 (Ev.neg c2 (Ev.neg c3 (Ev.pos c4 (Ev.pos (by rw [hlc];omega) (Ev.bind (hF (by omega)) (Ev.ret _))))))) ha,fun _=>rfl⟩
       ·rw [if_neg c5]
        exact ⟨_,pre (fun _=>Ev.neg c1 (Ev.neg c2 (Ev.neg c3 (Ev.pos c4 (Ev.neg (by rw [hlc];omega) (Ev.ret _)))))) ha,fun h=>by cases h⟩
      ·rw [if_neg c4]
       exact ⟨_,pre (fun _=>Ev.neg c1 (Ev.neg c2 (Ev.neg c3 (Ev.neg c4 (Ev.ret _))))) ha,fun h=>by cases h⟩
  ·have hm:manD s.l=((0,0,0),3):=by
    simp only [manD];rw [if_neg (by rw [he];simpa using ha)]
   rw [hm]
   exact ⟨_,Ev.su (Ev.neg h0 (Ev.opt he (Ev.neg ha (Ev.ret _)))),fun h=>by cases h⟩
theorem zbz0 {L:List (Sl Int)} {i:Nat} (hi:i<L.length):cutB ((L.map (·.l)).drop i)=(decide (1<=L[i].l.length) && (decide (L[i].l.length<=64) && ((decide (L[i].l.length=64) || decide (L.length=i+1)) && cutB ((L.map (·.l)).drop (i+1))))):=by
 rw [<- List.map_drop,<- List.map_drop,y9 hi,y34]
 by_cases h:L.length=i+1
 ·rw [y12 (show L.length<=i+1 by omega)];simp [cutB,h]
 ·have: ∃e u,L.drop (i+1)=e::u:=by
   cases hd:L.drop (i+1) with
   | nil=>have:=congrArg List.length hd;rw [y13,y25] at this;omega
   | cons e u=>exact ⟨e,u,rfl⟩
  obtain ⟨e,u,hu⟩:=this
  rw [hu,y34]
  simp only [cutB]
  rw [decide_eq_false h,Bool.or_false]
  by_cases h4:L[i].l.length=64
  ·simp [h4]
  ·simp [h4]
theorem zbz1 (z:Bool) (L:List (Sl Int)) (z2:Bool) (hL:L.length<=1000000000): ∀(k i:Nat),L.length=i+k->Ev (fun q=>zoh q z L z2 L (L.length:Int) (i:Int)) (cutB ((L.map (·.l)).drop i))
 | 0,i,hk=>by
  refine Ev.su (Ev.ne (Ev.ret' ?_))
  rw [y12 (by rw [y24];omega)];rfl
 | k+1,i,hk=>by
  have hi:i<L.length:=by omega
  have he:L[((i:Int)).toNat]? =some L[i]:=by simp [hi]
  have ih:=zbz1 z L z2 hL k (i+1) (by omega)
  rw [show ((i+1:Nat):Int)=wrp .i64 ((i:Int)+1) by rw [zbsa (by omega) (by omega)];omega] at ih
  have w:wrp .i64 ((L.length:Int) - 1)=(L.length:Int) - 1:=zbsa (by omega) (by omega)
  rw [zbz0 hi]
  refine Ev.su (Ev.po (Ev.po (Ev.opt he (Ev.ite (fun c1=>Ev.ret' ?_) fun c1=>Ev.ite (fun c2=>Ev.ret' ?_) fun c2=>Ev.ite (fun c3=>Ev.ite (fun c4=>Ev.ret' ?_) fun c4=>Ev.cast ih ?_) fun c3=>Ev.cast ih ?_))))
  ·rw [decide_eq_false (show¬1<=L[i].l.length by omega)];rfl
  ·rw [decide_eq_false (show¬L[i].l.length<=64 by omega)];simp
  ·rw [w] at c4
   rw [decide_eq_false (show¬L[i].l.length=64 by omega),decide_eq_false (show¬L.length=i+1 by omega)];simp
  ·rw [w] at c4
   rw [decide_eq_true (show 1<=L[i].l.length by omega),decide_eq_true (show L[i].l.length<=64 by omega),decide_eq_true (show L.length=i+1 by omega)];simp
  ·rw [decide_eq_true (show 1<=L[i].l.length by omega),decide_eq_true (show L[i].l.length<=64 by omega),decide_eq_true (show L[i].l.length=64 by omega)];simp
theorem zbz2 (s:Sl (Sl Int)) (hL:s.l.length<=1000000000):Ev (fun q=>zoi q s) (cutB (s.l.map (·.l))):=
 Ev.su (zbz1 s.z s.l s.z hL s.l.length 0 (by omega))
theorem zbz3 (z:Bool) {l:List Int} (hb:isB l):Ev (fun q=>zmx q ⟨z,l⟩) (getN l):=zbud ⟨z,l⟩ hb
theorem zbz4 (z:Bool) {l:List Int} (hb:isB l):Ev (fun q=>zm3 q ⟨z,l⟩) (getS l):=zbvm ⟨z,l⟩ hb
def stE (fine:Bool) (k:Nat) (b acc:List Int) (x:Int) (sl:Bool) (to:Int):zkm×Int:=
 if fine=true/\(nums k b).2.1=true/\(nums k b).2.2=[] then
  if mayS ⟨x,⟨false,acc++(nums k b).1⟩,sl,to⟩=true then (⟨x,⟨false,acc++(nums k b).1⟩,sl,to⟩,0) else (noS,1)
 else (noS,3)
theorem zbz5 (fine:Bool) (k:Nat) (b acc:List Int) (x:Int) (sl:Bool) (to:Int):stE fine (k+1) b acc x sl to=stE (fine && decide (0<(getS b).2)) k (b.drop (getS b).2.toNat) (acc++[(getS b).1]) x sl to:=by
 by_cases h:0<(getS b).2
 ·rw [decide_eq_true h,Bool.and_true]
  unfold stE
  simp only [nums,decide_eq_true h,y64,y33,List.singleton_append]
 ·rw [decide_eq_false h,Bool.and_false]
  unfold stE
  rw [if_neg (by simp [nums,h]),if_neg (by simp)]
theorem zbz6 (k:Nat) (b acc:List Int) (x:Int) (sl:Bool) (to:Int):stE false k b acc x sl to=(noS,3):=by
 unfold stE;rw [if_neg (by simp)]
theorem zbz7 (z:Bool) (x:Int) (sl:Bool) (to:Int) (m:Nat) (hm:m<=128): ∀(k i:Nat) (b:List Int) (fine:Bool) (acc:List Int),m=i+k->acc.length=i->isB b->
  Ev (fun q=>zoj q (m:Int) (i:Int) z b fine x sl to acc) (stE fine k b acc x sl to)
 | 0,i,b,fine,acc,hk,ha,hb=>by
  unfold stE
  simp only [nums,List.append_nil]
  refine Ev.su (Ev.ne (Ev.ite (fun c1=>Ev.ite (fun c2=>Ev.ret' ?_) fun c2=>Ev.bind (zbyg _ (by simp only;omega)) (Ev.ite (fun c3=>Ev.ret' ?_) fun c3=>Ev.ret' ?_)) fun c1=>Ev.ret' ?_))
  ·rw [if_neg (by rintro ⟨_,_,e⟩;rw [e] at c2;simp at c2)];rfl
  ·rw [if_pos ⟨c1,trivial,y35 (by omega)⟩,if_pos c3]
  ·rw [if_pos ⟨c1,trivial,y35 (by omega)⟩,if_neg c3];rfl
  ·rw [if_neg (fun e=>c1 e.1)];rfl
 | k+1,i,b,fine,acc,hk,ha,hb=>by
  have hs:=zbvn (l:=b)
  have ih:=fun f=>zbz7 z x sl to m hm k (i+1) (b.drop (getS b).2.toNat) f (acc++[(getS b).1]) (by omega) (by rw [y10,List.length_singleton];omega) (zbul hb _)
  rw [show ((i+1:Nat):Int)=wrp .i64 ((i:Int)+1) by rw [zbsa (by omega) (by omega)];omega] at ih
  rw [zbz5]
  refine Ev.su (Ev.po (Ev.bind (zbz4 z hb) (Ev.ite (fun c=>?_) fun c=>?_)))
  ·rw [c,y64]
   exact Ev.pos hs.1 (Ev.pos hs.2.1 (Ev.po (ih _)))
  ·have c':fine=false:=by simpa using c
   rw [c',Bool.false_and]
   exact Ev.pos hs.1 (Ev.pos hs.2.1 (Ev.po (ih _)))
theorem zbz8 (z:Bool) (x:Int) (sl:Bool) (to:Int) (m:Nat) (hm:m<=128) (b:List Int) (hb:isB b):
  Ev (fun q=>zok q (m:Int) z b true x sl to) (if (nums m b).2.1=true/\(nums m b).2.2=[] then if mayS ⟨x,⟨(nums m b).1.isEmpty,(nums m b).1⟩,sl,to⟩=true then (⟨x,⟨(nums m b).1.isEmpty,(nums m b).1⟩,sl,to⟩,0) else (noS,1) else (noS,3)):=by
 by_cases h0:m=0
 ·have hn:nums m b=([],true,b):=by rw [h0];rfl
  simp only [hn,List.isEmpty_nil]
  refine Ev.su (Ev.ne (Ev.pos rfl (Ev.ite (fun c2=>Ev.ret' ?_) fun c2=>Ev.bind (zbyg _ (by simp)) (Ev.ite (fun c3=>Ev.ret' ?_) fun c3=>Ev.ret' ?_))))
  ·rw [if_neg (by rintro ⟨_,e⟩;rw [e] at c2;simp at c2)];rfl
  ·rw [if_pos ⟨trivial,y35 (by omega)⟩,if_pos c3]
  ·rw [if_pos ⟨trivial,y35 (by omega)⟩,if_neg c3];rfl
 ·obtain ⟨k,hk⟩: ∃k,m=k+1:=⟨m - 1,by omega⟩
  have hs:=zbvn (l:=b)
  have ih:=zbz7 z x sl to m hm k 1 (b.drop (getS b).2.toNat) (decide (0<(getS b).2)) [(getS b).1] (by omega) rfl (zbul hb _)
  rw [show ((1:Nat):Int)=wrp .i64 1 by rw [zbsa (by omega) (by omega)];rfl] at ih
  refine Ev.su (Ev.po (Ev.bind (zbz4 z hb) (Ev.pos rfl (Ev.pos hs.1 (Ev.pos hs.2.1 (Ev.cast ih ?_))))))
  have e:=zbz5 true k b [] x sl to
  rw [y64,y47] at e
  rw [<- e,hk]
  unfold stE
  by_cases c:(nums (k+1) b).2.1=true/\(nums (k+1) b).2.2=[]
  ·rw [if_pos ⟨rfl,c⟩,if_pos c];rfl
  ·rw [if_neg (fun e=>c e.2),if_neg c]
theorem zbz9 (s:Sl Int) (hb:isB s.l) (hl:s.l.length<=1000000):Ev (fun q=>zol q s) (stD s.l):=by
 have hx:=zbue (l:=s.l)
 have hy:=zbue (l:=s.l.drop (getN s.l).2.toNat)
 have hz:=zbue (l:=(s.l.drop (getN s.l).2.toNat).drop (getN (s.l.drop (getN s.l).2.toNat)).2.toNat)
 simp only [y13] at hy hz
 have hb1:=zbul hb (getN s.l).2.toNat
 have hb2:=zbul hb1 (getN (s.l.drop (getN s.l).2.toNat)).2.toNat
 have hb3:=zbul hb2 (getN ((s.l.drop (getN s.l).2.toNat).drop (getN (s.l.drop (getN s.l).2.toNat)).2.toNat)).2.toNat
 have g1:=zbud s hb
 have g2:=zbz3 s.z hb1
 have g3:=zbz3 s.z hb2
 simp only [stD]
 have hl0:=zbz8 s.z (getN s.l).1 (decide (0<(getN (s.l.drop (getN s.l).2.toNat)).1)) (if (getN (s.l.drop (getN s.l).2.toNat)).1 - 1<0 then 0 else (getN (s.l.drop (getN s.l).2.toNat)).1 - 1) (getN ((s.l.drop (getN s.l).2.toNat).drop (getN (s.l.drop (getN s.l).2.toNat)).2.toNat)).1.toNat
 rw [show ((((getN ((s.l.drop (getN s.l).2.toNat).drop (getN (s.l.drop (getN s.l).2.toNat)).2.toNat)).1.toNat:Nat)):Int)=(getN ((s.l.drop (getN s.l).2.toNat).drop (getN (s.l.drop (getN s.l).2.toNat)).2.toNat)).1 by omega] at hl0
 have w:wrp .i64 ((getN (s.l.drop (getN s.l).2.toNat)).1 - 1)=(getN (s.l.drop (getN s.l).2.toNat)).1 - 1:=zbsa (by omega) (by omega)
 refine Ev.su (Ev.bind g1 (Ev.pos hx.1 (Ev.pos hx.2.1 (Ev.bind g2 (Ev.ite (fun c1=>Ev.pos hy.1 (Ev.po (Ev.bind g3 (Ev.ite (fun c2=>Ev.pos hz.1 (Ev.po (Ev.ite (fun c3=>Ev.ite (fun c4=>Ev.ret' ?_) fun c4=>Ev.ite (fun c5=>Ev.ret' ?_) fun c5=>?_) fun c3=>Ev.ret' ?_))) fun c2=>Ev.pos hz.1 (Ev.po (Ev.ret' ?_)))))) fun c1=>Ev.pos hy.1 (Ev.po (Ev.bind g3 (Ev.pos hz.1 (Ev.po (Ev.ret' ?_))))))))))
 ·rw [if_neg (by omega)];rfl
 ·rw [if_neg (by omega)];rfl
 ·rw [w,if_pos (And.intro c1 (And.intro c2 (And.intro c3 (And.intro (Int.not_lt.1 c4) (Int.not_lt.1 c5))))),decide_eq_true c3]
  exact hl0 (by omega) _ hb3
 ·rw [if_neg (by omega)];rfl
 ·rw [if_neg (by omega)];rfl
 ·rw [if_neg (by omega)];rfl
theorem zb0a (s:Sl Int) (hb:isB s.l):Ev (fun q=>zom q s) (entD s.l):=by
 have hx:=zbue (l:=s.l)
 have hy:=zbue (l:=s.l.drop (getN s.l).2.toNat)
 have hz:=zbvn (l:=(s.l.drop (getN s.l).2.toNat).drop (getN (s.l.drop (getN s.l).2.toNat)).2.toNat)
 simp only [y13] at hy
 have hb1:=zbul hb (getN s.l).2.toNat
 have hb2:=zbul hb1 (getN (s.l.drop (getN s.l).2.toNat)).2.toNat
 have g1:=zbud s hb
 have g2:=zbz3 s.z hb1
 have g3:=zbz4 s.z hb2
 simp only [entD]
 refine Ev.su (Ev.bind g1 (Ev.pos hx.1 (Ev.pos hx.2.1 (Ev.bind g2 (Ev.pos hy.1 (Ev.po (Ev.bind g3 (Ev.ite (fun c1=>Ev.ret' ?_) fun c1=>Ev.ite (fun c2=>Ev.ret' ?_) fun c2=>Ev.ite (fun c3=>Ev.ret' ?_) fun c3=>Ev.ret' ?_))))))))
 ·rw [if_pos c1]
 ·rw [if_neg c1,if_pos c2]
 ·rw [if_neg c1,if_neg c2,if_pos c3]
 ·rw [if_neg c1,if_neg c2,if_neg c3]
  rw [zbsa (x:=(getN s.l).2+_) (by omega) (by omega),zbsa (by omega) (by omega)]
/-- What becomes of a table's bytes. -/
def enE (k:Nat) (b:List Int) (e:Int):Int:=match ents k b with
 | none=>3
 | some t=>if t.2=[] then e else 3
theorem zb0b (z:Bool) (e:Int) (x:Int) (lz:Bool) (ll:List Int) (sl:Bool) (to:Int) (m:Nat) (hm:m<=1000000): ∀(k i:Nat) (b:List Int) (acc:List zkn),m=i+k->acc.length=i->isB b->b.length<=1000000->
  ∃r,Ev (fun q=>zon q z b e (m:Int) (i:Int) x lz ll sl to acc) (r,enE k b e)/\(∀t,ents k b=some t->t.2=[]->r=⟨0,⟨x,⟨lz,ll⟩,sl,to⟩,⟨false,acc++t.1⟩⟩)
 | 0,i,b,acc,hk,ha,hb,hl=>by
  unfold enE
  simp only [ents,y4]
  by_cases c:b=[]
  ·rw [if_pos c]
   refine ⟨_,Ev.su (Ev.ne (Ev.neg (by rw [c];simp) (Ev.ret _))),fun t ht _=>?_⟩
   subst ht;simp
  ·rw [if_neg c]
   have:0<b.length:=List.length_pos_iff.2 c
   refine ⟨_,Ev.su (Ev.ne (Ev.po (Ev.ret _))),fun t ht h2=>?_⟩
   subst ht;exact absurd h2 c
 | k +1,i,b,acc,hk,ha,hb,hl=>by
  have he:=zbzm (b:=b)
  obtain ⟨r,h1,h2⟩:=zb0b z e x lz ll sl to m hm k (i+1) (b.drop (entD b).2.toNat) (acc++[(entD b).1]) (by omega) (by rw [y10,List.length_singleton];omega) (zbul hb _) (by rw [y13];omega)
  rw [show ((i+1:Nat):Int)=wrp .i64 ((i:Int)+1) by rw [zbsa (by omega) (by omega)];omega] at h1
  unfold enE at h1 ⊢
  simp only [ents]
  by_cases c:(entD b).2=0
  ·rw [if_pos c]
   exact ⟨_,Ev.su (Ev.po (Ev.bind (zb0a ⟨z,b⟩ hb) (Ev.pos c (Ev.ret _)))),fun t ht=>by cases ht⟩
  ·rw [if_neg c]
   refine ⟨r,Ev.su (Ev.po (Ev.bind (zb0a ⟨z,b⟩ hb) (Ev.neg c (Ev.po (Ev.pos he.1 (Ev.pos he.2 (Ev.cast h1 ?_))))))),?_⟩
   ·cases ents k (b.drop (entD b).2.toNat)<;>rfl
   ·intro t ht h3
    cases hq:ents k (b.drop (entD b).2.toNat) with
    | none=>rw [hq] at ht;cases ht
    | some u=>
     rw [hq] at ht
     simp only [y4] at ht
     subst ht
     rw [h2 u hq h3];simp
theorem zb0c (z:Bool) (e:Int) (st:zkm) (m:Nat) (hm:m<=1000000) (b:List Int) (hb:isB b) (hl:b.length<=1000000):
  ∃r,Ev (fun q=>zoo q z b e (m:Int) st.Kind st.L.z st.L.l st.Sealed st.To) (r,enE m b e)/\(∀t,ents m b=some t->t.2=[]->r=mkN 0 (st,t.1)):=by
 by_cases h0:m=0
 ·have hn:ents m b=some ([],b):=by rw [h0];rfl
  unfold enE
  simp only [hn,y4]
  by_cases c:b=[]
  ·rw [if_pos c]
   refine ⟨_,Ev.su (Ev.ne (Ev.neg (by rw [c];simp) (Ev.ret _))),fun t ht _=>?_⟩
   subst ht;rfl
  ·rw [if_neg c]
   have:0<b.length:=List.length_pos_iff.2 c
   refine ⟨_,Ev.su (Ev.ne (Ev.po (Ev.ret _))),fun t ht h2=>?_⟩
   subst ht;exact absurd h2 c
 ·obtain ⟨k,hk⟩: ∃k,m=k+1:=⟨m - 1,by omega⟩
  have he:=zbzm (b:=b)
  obtain ⟨r,h1,h2⟩:=zb0b z e st.Kind st.L.z st.L.l st.Sealed st.To m hm k 1 (b.drop (entD b).2.toNat) [(entD b).1] (by omega) rfl (zbul hb _) (by rw [y13];omega)
  rw [show ((1:Nat):Int)=wrp .i64 1 by rw [zbsa (by omega) (by omega)];rfl] at h1
  unfold enE at h1 ⊢
  have hE:ents m b=if (entD b).2=0 then none else match ents k (b.drop (entD b).2.toNat) with | none=>none | some t=>some ((entD b).1::t.1,t.2):=by rw [hk];rfl
  rw [hE]
  by_cases c:(entD b).2=0
  ·rw [if_pos c]
   exact ⟨_,Ev.su (Ev.po (Ev.bind (zb0a ⟨z,b⟩ hb) (Ev.pos c (Ev.ret _)))),fun t ht=>by cases ht⟩
  ·rw [if_neg c]
   refine ⟨r,Ev.su (Ev.po (Ev.bind (zb0a ⟨z,b⟩ hb) (Ev.neg c (Ev.pos he.1 (Ev.pos he.2 (Ev.cast h1 ?_)))))),?_⟩
   ·cases ents k (b.drop (entD b).2.toNat)<;>rfl
   ·intro t ht h3
    cases hq:ents k (b.drop (entD b).2.toNat) with
    | none=>rw [hq] at ht;cases ht
    | some u=>
     rw [hq] at ht
     simp only [y4] at ht
     subst ht
     rw [h2 u hq h3];rfl
theorem zb0d (s:Sl Int) (hb:isB s.l) (hl:s.l.length<=1000000): ∃r,Ev (fun q=>zop q s) (r,(whD s.l).2)/\((whD s.l).2=0->r=mkN 0 (whD s.l).1):=by
 have hn:=zbue (l:=s.l)
 have g1:=zbud s hb
 unfold whD
 by_cases c1:(getN s.l).2=0
 ·rw [if_pos c1];exact ⟨_,Ev.su (Ev.bind g1 (Ev.pos c1 (Ev.ret _))),fun h=>by cases h⟩
 ·rw [if_neg c1]
  have w1:wrp .i64 ((s.l.length:Int) - (getN s.l).2)=(s.l.length:Int) - (getN s.l).2:=zbsa (by omega) (by omega)
  by_cases c2:(s.l.length:Int) - (getN s.l).2<(getN s.l).1
  ·rw [if_pos c2];exact ⟨_,Ev.su (Ev.bind g1 (Ev.neg c1 (Ev.pos (by rw [w1];exact c2) (Ev.ret _)))),fun h=>by cases h⟩
  ·rw [if_neg c2]
   have w2:wrp .i64 ((getN s.l).2+(getN s.l).1)=(getN s.l).2+(getN s.l).1:=zbsa (by omega) (by omega)
   generalize hX:(s.l.take ((getN s.l).2+(getN s.l).1).toNat).drop (getN s.l).2.toNat=X
   generalize hW:s.l.drop ((getN s.l).2+(getN s.l).1).toNat=W
   have hbX:isB X:=by rw [<- hX];exact zbul (zbuk hb _) _
   have hlX:X.length<=1000000:=by rw [<- hX,y13,y20];omega
   have hbW:isB W:=by rw [<- hW];exact zbul hb _
   have hlW:W.length=s.l.length - ((getN s.l).2+(getN s.l).1).toNat:=by rw [<- hW,y13]
   have hm:=zbue (l:=W)
   have hS:=zbz9 ⟨s.z,X⟩ hbX hlX
   have hG:=zbz3 s.z hbW
   have pre: ∀{r:zko×Int},Ev (fun q=>(zol q ⟨s.z,X⟩).bind fun r2=>(if r2.2=3 then (some ((⟨0,(⟨0,⟨true,[]⟩,false,0⟩:zkm),⟨true,[]⟩⟩:zko),r2.2)) else (if 0<=(getN s.l).2+(getN s.l).1 then (if (getN s.l).2+(getN s.l).1<=(s.l.length:Int) then ((zmx q ⟨s.z,W⟩).bind fun r3=>(if r3.2=0 then (some ((⟨0,(⟨0,⟨true,[]⟩,false,0⟩:zkm),⟨true,[]⟩⟩:zko),3)) else (if (((s.l.length - ((getN s.l).2+(getN s.l).1).toNat):Nat):Int)<r3.1 then (some ((⟨0,(⟨0,⟨true,[]⟩,false,0⟩:zkm),⟨true,[]⟩⟩:zko),3)) else (if 0<=r3.2 then (if r3.2<=(((s.l.length - ((getN s.l).2+(getN s.l).1).toNat):Nat):Int) then (zoo q s.z (List.drop r3.2.toNat W) r2.2 r3.1 r2.1.Kind r2.1.L.z r2.1.L.l r2.1.Sealed r2.1.To) else none) else none)))) else none) else none))) r->Ev (fun q=>zop q s) r:=fun {r} h=>by
    refine Ev.su (Ev.bind g1 (Ev.neg c1 (Ev.neg (by rw [w1];exact c2) (Ev.pos hn.1 (Ev.pos (by rw [w2];omega) (Ev.pos (by rw [w2];omega) ?_))))))
    rw [w2,hX,hW];exact h
   by_cases c3:(stD X).2=3
   ·rw [if_pos c3];exact ⟨_,pre (Ev.bind hS (Ev.pos c3 (Ev.ret' (by rw [c3])))),fun h=>by cases h⟩
   ·rw [if_neg c3]
    by_cases c4:(getN W).2=0
    ·rw [if_pos c4];exact ⟨_,pre (Ev.bind hS (Ev.neg c3 (Ev.po (Ev.po (Ev.bind hG (Ev.pos c4 (Ev.ret _))))))),fun h=>by cases h⟩
    ·rw [if_neg c4]
     by_cases c5:(W.length:Int)<(getN W).1
     ·rw [if_pos c5];exact ⟨_,pre (Ev.bind hS (Ev.neg c3 (Ev.po (Ev.po (Ev.bind hG (Ev.neg c4 (Ev.po (Ev.ret _)))))))),fun h=>by cases h⟩
     ·rw [if_neg c5]
      obtain ⟨r,h1,h2⟩:=zb0c s.z (stD X).2 (stD X).1 (getN W).1.toNat (by omega) (W.drop (getN W).2.toNat) (zbul hbW _) (by rw [y13];omega)
      rw [show ((((getN W).1.toNat:Nat)):Int)=(getN W).1 by omega] at h1
      refine ⟨r,pre (Ev.bind hS (Ev.neg c3 (Ev.po (Ev.po (Ev.bind hG (Ev.neg c4 (Ev.ne (Ev.pos hm.1 (Ev.po (Ev.cast h1 ?_)))))))))),?_⟩
      ·unfold enE
       cases ents (getN W).1.toNat (W.drop (getN W).2.toNat) with
       | none=>rfl
       | some t=>simp only;split<;>rfl
      ·intro h
       cases he:ents (getN W).1.toNat (W.drop (getN W).2.toNat) with
       | none=>rw [he] at h;cases h
       | some t=>
        rw [he] at h
        simp only at h ⊢
        split at h
        ·rename_i c6
         rw [if_pos c6];exact h2 t he c6
        ·cases h
theorem zb0e (l:List (Sl Int)):flat l=(l.map (·.l)).flatten:=by simp [flat,List.flatMap]
theorem zb0f: ∀D:List (List Int),D.flatten.length<=(BB D).length/\D.length<=(BB D).length
 | []=>by simp
 | d::D=>by
  have h:=zb0f D
  have e:=zby2 d
  rw [zbvi,List.flatten_cons,y10,y10,y21];omega
theorem zb0g {b:List Int} (hb:isB b):(allE b).1.flatten.length<=b.length/\(allE b).1.length<=b.length:=by
 by_cases h:(allE b).2=0
 ·have:=zb0f (allE b).1;rw [zbzg hb h] at this;exact this
 ·unfold allE at h ⊢
  split
  ·rename_i e;rw [if_pos e] at h;exact absurd rfl h
  ·simp
theorem zb0h (s:Sl Int) (hz:s.z=true->s.l=[]) (hb:isB s.l) (hl:s.l.length<=1000000):Ev (fun q=>zoq q s) (snD s.l):=by
 obtain ⟨z,X,hA,hX⟩:=zbvf s hz hb (by omega)
 have hme:=zbze hb
 have hlo:=zb0g hb
 unfold snD
 by_cases c0:(allE s.l).2=0
 ·rw [if_pos c0]
  rw [<- hX] at hme hlo ⊢
  rw [c0] at hA
  by_cases hx:X.length=0
  ·have hX0:X=[]:=y35 hx
   refine Ev.su (Ev.bind hA (Ev.pos rfl (Ev.pos (by simp only;omega) (Ev.ret' ?_))))
   rw [hX0];rfl
  ·obtain ⟨e,he⟩: ∃e,X[0]? =some e:=⟨X[0]'(by omega),y7 (by omega)⟩
   obtain ⟨T,hT⟩: ∃T,T=X.drop 1:=⟨_,rfl⟩
   have hXe:X=e::T:=by
    cases X with
    | nil=>simp at hx
    | cons a X=>simp only [y37,y4] at he;rw [hT,he];rfl
   have hml:X.map (·.l)=e.l::T.map (·.l):=by rw [hXe,y34]
   rw [hml] at hme hlo ⊢
   dsimp only
   have hbe:=hme e.l y32
   have hbt:isB (T.map (·.l)).flatten:=zbzu fun d hd=>(hme d (y36 _ hd)).1
   have hTl:T.length<=1000000:=by have:=hlo.2;rw [y21,y24] at this;omega
   have hTf:(T.map (·.l)).flatten.length<=1000000:=by have:=hlo.1;rw [List.flatten_cons,y10] at this;omega
   obtain ⟨m,hM,hm⟩:=zbzz e hbe.1 (by omega)
   obtain ⟨z',hC⟩:=zbt5 ⟨z,T⟩ (by simp only;omega) (by simp only [zb0e];omega)
   simp only [zb0e] at hC
   have hK:=zbz2 ⟨z,T⟩ (by simp only;omega)
   generalize (T.map (·.l)).flatten=w at hbt hTf hC ⊢
   have hS:=zbts ⟨z',w⟩ hbt (by simp only;omega)
   obtain ⟨r,hR,hr⟩:=zb0d ⟨z',w⟩ hbt hTf
   simp only at hS hR hr hK
   have pre: ∀{x:zko×Int},Ev (fun q=>(zog q e).bind fun r3=>(if r3.2=0 then (if 1<=X.length then ((zmp q ⟨z,T⟩).bind fun r4=>(if (r4.xs.length:Int)=r3.1.size then ((zoi q ⟨z,T⟩).bind fun r5=>(if r5=true then ((zmg q ⟨r4.n,r4.xs⟩).bind fun r6=>(if (wrp .u64 r6)=r3.1.sum then ((zop q ⟨r4.n,r4.xs⟩).bind fun r7=>(if r7.2=0 then ((zl5 q (⟨r3.1.index,r7.1.State,r7.1.Table⟩:zko)).bind fun r8=>(if r8=true then (some ((⟨r3.1.index,r7.1.State,r7.1.Table⟩:zko),0)) else (some ((⟨0,(⟨0,⟨true,[]⟩,false,0⟩:zkm),⟨true,[]⟩⟩:zko),1)))) else (some ((⟨0,(⟨0,⟨true,[]⟩,false,0⟩:zkm),⟨true,[]⟩⟩:zko),r7.2)))) else (some ((⟨0,(⟨0,⟨true,[]⟩,false,0⟩:zkm),⟨true,[]⟩⟩:zko),4)))) else (some ((⟨0,(⟨0,⟨true,[]⟩,false,0⟩:zkm),⟨true,[]⟩⟩:zko),3)))) else (some ((⟨0,(⟨0,⟨true,[]⟩,false,0⟩:zkm),⟨true,[]⟩⟩:zko),16)))) else none) else (some ((⟨0,(⟨0,⟨true,[]⟩,false,0⟩:zkm),⟨true,[]⟩⟩:zko),r3.2)))) x->Ev (fun q=>zoq q s) x:=fun {x} h=>by
    refine Ev.su (Ev.bind hA ?_)
    refine Ev.pos rfl (Ev.neg (by simp only;omega) (Ev.pos (by simp only;omega) (Ev.opt he ?_)))
    rw [hT] at h;exact h
   have hn:noN=(⟨0,(⟨0,⟨true,[]⟩,false,0⟩:zkm),⟨true,[]⟩⟩:zko):=rfl
   simp only [hn]
   refine pre (Ev.bind hM ?_)
   refine Ev.ite (fun c1=>?_) fun c1=>Ev.ret' (by simp only at c1;rw [if_neg c1])
   simp only at c1
   have hm:=hm c1
   subst hm
   rw [if_pos c1]
   refine Ev.po (Ev.bind hC (Ev.ite (fun c2=>?_) fun c2=>Ev.ret' (by simp only at c2;rw [if_neg c2])))
   simp only at c2
   rw [if_pos c2]
   refine Ev.bind hK (Ev.ite (fun c3=>?_) fun c3=>Ev.ret' (by rw [if_neg c3]))
   rw [if_pos c3]
   have hw:wrp .u64 (u (bsum w))=(((bsum w).toNat:Nat):Int):=by rw [zbsb (u_nn _) (by have:=u_lt (bsum w);omega)];rfl
   refine Ev.bind hS (Ev.ite (fun c4=>?_) fun c4=>Ev.ret' (by rw [hw] at c4;simp only at c4;rw [if_neg (fun e=>c4 (by rw [e]))]))
   rw [hw] at c4
   simp only at c4
   rw [if_pos (by omega)]
   refine Ev.bind hR (Ev.ite (fun c5=>?_) fun c5=>Ev.ret' (by simp only at c5;rw [if_neg c5]))
   simp only at c5
   have hr:=hr c5
   subst hr
   rw [if_pos c5]
   have hiv:=zbzp hbt c5 0
   have hbnd:(whD w).1.1.L.l.length<=1000000/\(whD w).1.2.length<=1000000:=by
    have hst:(stateB (whD w).1.1).length<=w.length:=by
     have:(stateB (whD w).1.1).length<=(wholeB (mkN 0 (whD w).1)).length:=by simp only [wholeB,mkN,y10];omega
     rw [hiv] at this;exact this
    have htb:(tabE (whD w).1.2).length<=w.length:=by
     have:(tabE (whD w).1.2).length<=(wholeB (mkN 0 (whD w).1)).length:=by simp only [wholeB,mkN,y10];omega
     rw [hiv] at this;exact this
    have g1: ∀l:List Int,l.length<=(numsB l).length:=fun l=>by
     induction l with
     | nil=>simp
     | cons a l ih=>have:=zby8 a;rw [zby0,y10,y21];omega
    have g2: ∀l:List zkn,l.length<=(tabE l).length:=fun l=>by
     induction l with
     | nil=>simp
     | cons e l ih=>have:=zby8 e.Resp;rw [zby1,y10,y21];simp only [entB,y10];omega
    have h1:=g1 (whD w).1.1.L.l
    have h2:=g2 (whD w).1.2
    simp only [stateB,y10] at hst
    omega
   refine Ev.bind (zbyp (mkN (manD e.l).1.1 (whD w).1) hbnd.1 hbnd.2) (Ev.ite (fun c6=>Ev.ret' ?_) fun c6=>Ev.ret' ?_)
   ·rw [if_pos c6];rfl
   ·rw [if_neg c6]
 ·rw [if_neg c0]
  exact Ev.su (Ev.bind hA (Ev.neg c0 (Ev.ret _)))
def gN (r:List Int×Bool):Int×List Int×Bool:=((getN r.1).1,r.1.drop (getN r.1).2.toNat,r.2 && decide (0<(getN r.1).2))
section
variable {R:Type}
end
def n1 (b:List Int):Int×List Int×Bool:=gN (b,true)
def n2 (b:List Int):Int×List Int×Bool:=gN (n1 b).2
def n3 (b:List Int):Int×List Int×Bool:=gN (n2 b).2
def n4 (b:List Int):Int×List Int×Bool:=gN (n3 b).2
def filP (p:Int) (T:List zkn):List zkn:=T.filter fun e=>!decide (e.Proc=p)
def insE (e:zkn):List zkn->List zkn
 | []=>[e]
 | x::l=>if e.Proc<x.Proc then e::x::l else x::insE e l
def noteL (T:List zkn) (p s x:Int):List zkn:=insE ⟨p,s,x⟩ (filP p T)
def atE (p:Int):List zkn->Nat
 | []=>0
 | x::l=>if p<x.Proc then 0 else atE p l+1
theorem atE_le (p:Int): ∀T:List zkn,atE p T<=T.length
 | []=>y14 _
 | x::l=>by simp only [atE];split<;>simp only [y21]<;>have:=atE_le p l<;>omega
theorem zb0i (e:zkn): ∀T:List zkn,insE e T=T.take (atE e.Proc T)++[e]++T.drop (atE e.Proc T)
 | []=>rfl
 | x::l=>by
  simp only [insE,atE]
  split
  ·simp
  ·rw [zb0i e l];simp
theorem zb0j (e:zkn): ∀T:List zkn,(insE e T).length=T.length+1
 | []=>rfl
 | x::l=>by simp only [insE];split<;>simp only [y21,zb0j e l]
theorem zb0k (p:Int) (T:List zkn):(filP p T).length<=T.length:=List.length_filter_le _ _
theorem zb0l (T:List zkn) (p s x:Int):(noteL T p s x).length<=T.length+1:=by
 unfold noteL;rw [zb0j];have:=zb0k p T;omega
theorem zb0m (p:Int) (O:List zkn) (j:Nat) (hj:j<O.length):filP p (O.take (j+1))=filP p (O.take j)++if O[j].Proc=p then [] else [O[j]]:=by
 unfold filP
 rw [List.take_add_one,y7 hj,List.filter_append]
 congr 1
 simp only [Option.toList_some,List.filter_cons,List.filter_nil]
 by_cases c:O[j].Proc=p<;>simp [c]
theorem zb0n {p:Int} {T:List zkn} (h: ∀e∈T,e.Proc≠p):filP p T=T:=List.filter_eq_self.2 fun e he=>by simp [h e he]
theorem zb0o (p0 p p2 p3 p4 p5 p6:Int) (z:Bool) (L:List zkn) (x:Bool) (hL:L.length<=1000000): ∀(k i:Nat),L.length=i+k->
  ∃r,Ev (fun q=>zls q (L.length:Int) (i:Int) p0 p p2 p3 p4 p5 p6 z L x) r/\((r= -1/\ ∀e∈L.drop i,e.Proc≠p)\/ ∃j:Nat,i<=j/\ ∃h:j<L.length,r=(j:Int)/\L[j].Proc=p/\ ∀e∈(L.take j).drop i,e.Proc≠p)
 | 0,i,hk=>⟨-1,Ev.su (Ev.ne (Ev.ret _)), .inl ⟨rfl,by rw [y12 (by omega)];simp⟩⟩
 | k+1,i,hk=>by
  have hi:i<L.length:=by omega
  have he:L[((i:Int)).toNat]? =some L[i]:=by simp [hi]
  by_cases c:L[i].Proc=p
  ·exact ⟨(i:Int),Ev.su (Ev.po (Ev.po (Ev.po (Ev.opt he (Ev.pos c (Ev.ret _)))))), .inr ⟨i,y14 _,hi,rfl,c,by rw [y12 (by rw [y20];omega)];simp⟩⟩
  ·obtain ⟨r,h,hr⟩:=zb0o p0 p p2 p3 p4 p5 p6 z L x hL k (i+1) (by omega)
   rw [show ((i+1:Nat):Int)=wrp .i64 ((i:Int)+1) by rw [zbsa (by omega) (by omega)];omega] at h
   refine ⟨r,Ev.su (Ev.po (Ev.po (Ev.po (Ev.opt he (Ev.neg c h))))),?_⟩
   rcases hr with ⟨h1,h2⟩ | ⟨j,h1,h2,h3,h4,h5⟩
   ·refine .inl ⟨h1,fun e hm=>?_⟩
    rw [y9 hi] at hm
    rcases List.mem_cons.1 hm with rfl | hm
    ·exact c
    ·exact h2 e hm
   ·refine .inr ⟨j,by omega,h2,h3,h4,fun e hm=>?_⟩
    have hi2:i<(L.take j).length:=by rw [y20];omega
    rw [y9 hi2] at hm
    rcases List.mem_cons.1 hm with rfl | hm
    ·rw [List.getElem_take];exact c
    ·exact h5 e hm
theorem zb0p (p0 p p2 p3 p4 p5 p6:Int) (z:Bool) (O:List zkn) (hO:O.length<=1000000): ∀(k j i:Nat) (H:List zkn),O.length=j+k->H.length=O.length->i<=j->H.take i=filP p (O.take j)->H.drop j=O.drop j->
  ∃xs,Ev (fun q=>zlu q (i:Int) (j:Int) p0 p p2 p3 p4 p5 p6 z H true) ((filP p O).length,xs,true)/\xs.take (filP p O).length=filP p O/\(filP p O).length<=xs.length
 | 0,j,i,H,hk,hl,hij,ht,hd=>by
  have hO2:O.take j=O:=List.take_of_length_le (by omega)
  rw [hO2] at ht
  have hi:(filP p O).length=i:=by rw [<- ht,y20];omega
  refine ⟨((H.take i)++(List.replicate (H.length - i) (⟨0,0,0⟩:zkn)))++(H.drop (i+(H.length - i))),?_,?_,?_⟩
  ·rw [hi]
   refine Ev.su (Ev.ne (Ev.po (Ev.po (Ev.pos rfl (Ev.po (Ev.ite (fun _=>Ev.ret' ?_) fun _=>Ev.ret' ?_))))))<;>simp only [y28]
  ·rw [hi,y33,List.take_append_of_le_length (by rw [y20];omega),List.take_take,Nat.min_self,ht]
  ·rw [hi];simp only [y10,y20,List.length_replicate];omega
 | k+1,j,i,H,hk,hl,hij,ht,hd=>by
  have hj:j<H.length:=by omega
  have hjO:j<O.length:=by omega
  have he:H[((j:Int)).toNat]? =some O[j]:=by
   have:=congrArg (fun l=>l[0]?) hd
   simp only [y40,Nat.add_zero] at this
   rw [y28,this];exact y7 hjO
  have hs:=zb0m p O j hjO
  have wj:wrp .i64 ((j:Int)+1)=((j+1:Nat):Int):=by rw [zbsa (by omega) (by omega)];omega
  have dr: ∀{A B:List zkn},A.drop j=B.drop j->A.drop (j+1)=B.drop (j+1):=fun {A B} h=>by rw [<- y50,<- y50,h]
  by_cases c:O[j].Proc=p
  ·rw [if_pos c,List.append_nil] at hs
   obtain ⟨xs,h1,h2⟩:=zb0p p0 p p2 p3 p4 p5 p6 z O hO k (j+1) i H (by omega) hl (by omega) (by rw [hs];exact ht) (dr hd)
   rw [<- wj] at h1
   exact ⟨xs,Ev.su (Ev.po (Ev.po (Ev.po (Ev.opt he (Ev.pos c h1))))),h2⟩
  ·rw [if_neg c] at hs
   have hi:i<H.length:=by omega
   have hg:H[((i:Int)).toNat]? =some H[i]:=by simp [hi]
   obtain ⟨xs,h1,h2⟩:=zb0p p0 p p2 p3 p4 p5 p6 z O hO k (j+1) (i+1) (H.set i O[j]) (by omega) (by rw [List.length_set];exact hl) (by omega) (by
    rw [hs,<- ht,List.take_add_one,List.take_set_of_le (y14 i),y23 hi];rfl) (by
    rw [List.drop_set_of_lt (by omega)];exact dr hd)
   have wi:wrp .i64 ((i:Int)+1)=((i+1:Nat):Int):=by rw [zbsa (by omega) (by omega)];omega
   rw [<- wj,<- wi] at h1
   exact ⟨xs,Ev.su (Ev.po (Ev.po (Ev.po (Ev.opt he (Ev.neg c (Ev.po (Ev.po (Ev.opt hg (Ev.pos rfl h1))))))))),h2⟩
theorem zb0q (p0 p p2 p3 p4 p5 p6:Int) (z:Bool) (O:List zkn) (hO:O.length<=1000000):
  ∃xs,Ev (fun q=>zlv q p0 p p2 p3 p4 p5 p6 z O true) ((filP p O).length,xs,true)/\xs.take (filP p O).length=filP p O/\(filP p O).length<=xs.length:=by
 obtain ⟨r,h,hr⟩:=zb0o p0 p p2 p3 p4 p5 p6 z O true hO O.length 0 (by omega)
 have h':Ev (fun q=>zlt q p0 p p2 p3 p4 p5 p6 z O true) r:=Ev.su h
 rcases hr with ⟨rfl,h2⟩ | ⟨j,_,h2,rfl,h4,h5⟩
 ·rw [y38] at h2
  rw [zb0n h2]
  exact ⟨O,Ev.su (Ev.bind h' (Ev.pos rfl (Ev.ret _))),List.take_length,y14 _⟩
 ·rw [y38] at h5
  have hs:=zb0m p O j h2
  rw [if_pos h4,List.append_nil,zb0n h5] at hs
  obtain ⟨xs,h1,h6⟩:=zb0p p0 p p2 p3 p4 p5 p6 z O hO (O.length - (j+1)) (j+1) j O (by omega) rfl (by omega) hs.symm rfl
  rw [show ((j+1:Nat):Int)=wrp .i64 ((j:Int)+1) by rw [zbsa (by omega) (by omega)];omega] at h1
  exact ⟨xs,Ev.su (Ev.bind h' (Ev.neg (by omega) h1)),h6⟩
def ixI (n k i:Nat):Int:=if n<k then ((i+n:Nat):Int) else -1
theorem zb0r (p0 p p2 p3 p4 p5 p6:Int) (z:Bool) (xs:List zkn) (x:Bool) (M:List zkn) (hM:xs.take M.length=M) (hL:M.length<=1000000): ∀(k i:Nat),M.length=i+k->
  Ev (fun q=>zlw q M.length (M.length:Int) (i:Int) p0 p p2 p3 p4 p5 p6 z xs x) (ixI (atE p (M.drop i)) k i)
 | 0,i,hk=>by
  refine Ev.su (Ev.ne (Ev.ret' ?_))
  unfold ixI;rw [if_neg (by omega)]
 | k+1,i,hk=>by
  have hi:i<M.length:=by omega
  have he:xs[((i:Int)).toNat]? =some M[i]:=by
   have:(xs.take M.length)[i]? =M[i]? :=by rw [hM]
   rw [y48,if_pos hi] at this
   rw [y28,this];exact y7 hi
  rw [y9 hi]
  have ha:atE p (M[i]::M.drop (i+1))=if p<M[i].Proc then 0 else atE p (M.drop (i+1))+1:=rfl
  by_cases c:p<M[i].Proc
  ·rw [if_pos c] at ha
   rw [ha];unfold ixI;rw [if_pos (by omega)]
   exact Ev.su (Ev.po (Ev.po (Ev.po (Ev.opt he (Ev.pos c (Ev.ret' (by omega)))))))
  ·rw [if_neg c] at ha
   rw [ha]
   have ih:=zb0r p0 p p2 p3 p4 p5 p6 z xs x M hM hL k (i+1) (by omega)
   rw [show ((i+1:Nat):Int)=wrp .i64 ((i:Int)+1) by rw [zbsa (by omega) (by omega)];omega] at ih
   refine Ev.su (Ev.po (Ev.po (Ev.po (Ev.opt he (Ev.neg c (Ev.cast ih ?_))))))
   unfold ixI
   by_cases d:atE p (M.drop (i+1))<k
   ·rw [if_pos d,if_pos (by omega)];omega
   ·rw [if_neg d,if_neg (by omega)]
theorem zb0s (z:Bool) (M:List zkn) (at_:Int) (e:zkn) (h0:0<=at_) (h1:at_<=(M.length:Int)) (hL:M.length<=1000000):Ev (fun q=>zlr q ⟨z,true,M⟩ at_ ⟨false,true,[e]⟩) ⟨false,true,M.take at_.toNat++[e]++M.drop at_.toNat⟩:=
 Ev.succ (g:=fun _=>if insOk (⟨z,true,M⟩:Ow zkn) at_ ⟨false,true,[e]⟩ then some (insR (⟨z,true,M⟩:Ow zkn) at_ ⟨false,true,[e]⟩) else none) (Ev.pos ⟨rfl,h0,h1,rfl,by simp,by simp only [List.length_singleton];omega⟩ (Ev.ret _)) (fun q=>rfl)
theorem zb0t (s:Sl zkn) (hz:s.z=true->s.l=[]) (hL:s.l.length<=1000000) (r:zkq):Ev (fun q=>zly q s r) ⟨false,true,noteL s.l r.Proc r.Seq r.Resp⟩:=by
 obtain ⟨z,hC⟩: ∃z,Ev (fun q=>zlq q s) ⟨z,true,s.l⟩:=by
  by_cases c:s.z=true
  ·exact ⟨true,Ev.su (Ev.pos c (Ev.ret' (by rw [hz c])))⟩
  ·exact ⟨false,Ev.su (Ev.neg c (Ev.po (Ev.ret _)))⟩
 obtain ⟨xs,h0,hx,hle⟩:=zb0q r.Index r.Proc r.Seq r.Op.Code r.Op.A r.Op.B r.Resp z s.l hL
 have hM:=zb0k r.Proc s.l
 have h1:=zb0r r.Index r.Proc r.Seq r.Op.Code r.Op.A r.Op.B r.Resp z xs true (filP r.Proc s.l) hx (by omega) (filP r.Proc s.l).length 0 (by omega)
 have h1':Ev (fun q=>zlx q (filP r.Proc s.l).length r.Index r.Proc r.Seq r.Op.Code r.Op.A r.Op.B r.Resp z xs true) _:=Ev.su h1
 rw [y38] at h1'
 have hat:=atE_le r.Proc (filP r.Proc s.l)
 unfold noteL
 rw [zb0i]
 refine Ev.su (Ev.bind hC (Ev.bind h0 (Ev.bind h1' ?_)))
 simp only
 rw [hx]
 unfold ixI
 by_cases d:atE r.Proc (filP r.Proc s.l)<(filP r.Proc s.l).length
 ·rw [if_pos d]
  have hI:=zb0s z (filP r.Proc s.l) ((0+atE r.Proc (filP r.Proc s.l):Nat):Int) ⟨r.Proc,r.Seq,r.Resp⟩ (by omega) (by omega) (by omega)
  refine Ev.ne (Ev.pos trivial (Ev.bind hI (Ev.ret' ?_)))
  rw [y28,y43]
 ·rw [if_neg d]
  have hI:=zb0s z (filP r.Proc s.l) ((filP r.Proc s.l).length:Int) ⟨r.Proc,r.Seq,r.Resp⟩ (by omega) (by omega) (by omega)
  refine Ev.po (Ev.pos trivial (Ev.bind hI (Ev.ret' ?_)))
  rw [y28,show atE r.Proc (filP r.Proc s.l)=(filP r.Proc s.l).length by omega]
theorem zb0u {l:List Int} {i j:Int} (h0:0<=i) (h1:i<j) (h2:j<=l.length) (hl:l.length<=1000000):Ev (fun q=>zlf q ⟨false,true,l⟩ i j) ⟨false,true,l.take i.toNat++l.drop j.toNat⟩:=by
 refine Ev.su ?_
 refine Ev.pos h0 ?_
 refine Ev.pos (by omega) ?_
 refine Ev.pos (by simp only;omega) ?_
 refine Ev.neg (by omega) ?_
 refine Ev.pos (by simp only;omega) ?_
 refine Ev.neg (by simp) ?_
 refine Ev.pos (by omega) ?_
 refine Ev.pos (by simp only;omega) ?_
 refine Ev.pos (by simp only;omega) ?_
 refine Ev.pos rfl ?_
 refine Ev.pos (by simp only;omega) ?_
 refine Ev.pos (by simp only;omega) ?_
 refine Ev.ret' ?_
 congr 1
 have hm:(l.take i.toNat++l.drop j.toNat).length=i.toNat+(l.length - j.toNat):=by simp;omega
 rw [<- hm]
 simp only [y33]
 rw [<- y33 (l.take i.toNat) (l.drop j.toNat),List.take_left',List.take_left']<;>simp
def findN (key:Int):List Int->Nat
 | a::_::l=>if a<key then findN key l+2 else 0
 | _=>0
def isL (key:Int):List Int->Bool
 | a::_::l=>if a<key then isL key l else decide (a=key)
 | _=>false
def hasL (key:Int):List Int->Int
 | a::b::l=>if a<key then hasL key l else if a=key then b else -1
 | _=> -1
def putL (key n:Int):List Int->List Int
 | a::b::l=>if a<key then a::b::putL key n l else if a=key then a::n::l else key::n::a::b::l
 | _=>[key,n]
def delL (key:Int):List Int->List Int
 | a::b::l=>if a<key then a::b::delL key l else if a=key then l else a::b::l
 | _=>[]
/-- By pairs. -/
theorem zb0v {P:List Int->Prop} (h0:P []) (h2: ∀a b l,l.length % 2=0->P l->P (a::b::l)): ∀l:List Int,l.length % 2=0->P l
 | [],_=>h0
 | [a],h=>by simp at h
 | a::b::l,h=>h2 a b l (by simp only [y21] at h;omega) (zb0v h0 h2 l (by simp only [y21] at h;omega))
theorem zb0w (key:Int): ∀l:List Int,l.length % 2=0->findN key l<=l.length/\(isL key l=true->findN key l+2<=l.length/\l[findN key l+1]? =some (hasL key l))/\(isL key l=false->hasL key l= -1):=
 zb0v (by simp [findN,isL,hasL]) fun a b l he ih=>by
  simp only [findN,isL,hasL,y21]
  split
  ·refine ⟨by omega,fun h=>⟨by have:=(ih.2.1 h).1;omega,?_⟩,ih.2.2⟩
   rw [show findN key l+2+1=(findN key l+1)+2 by omega]
   simpa using (ih.2.1 h).2
  ·split
   ·rename_i e;simp [e]
   ·rename_i e;simp [e]
theorem put_is (key n:Int): ∀l:List Int,l.length % 2=0->isL key l=true->l.set (findN key l+1) n=putL key n l:=
 zb0v (by simp [isL]) fun a b l he ih h=>by
  simp only [findN,isL,putL] at h ⊢
  split at h
  ·rename_i c;rw [if_pos c,if_pos c,<- ih h];rfl
  ·rename_i c;rw [if_neg c,if_neg c,if_pos (by simpa using h)];rfl
theorem put_no (key n:Int): ∀l:List Int,l.length % 2=0->isL key l=false->l.take (findN key l)++[key,n]++l.drop (findN key l)=putL key n l:=
 zb0v (by simp [findN,putL]) fun a b l he ih h=>by
  simp only [findN,isL,putL] at h ⊢
  split at h
  ·rename_i c;rw [if_pos c,if_pos c,<- ih h];simp
  ·rename_i c;rw [if_neg c,if_neg c,if_neg (by simpa using h)];simp
theorem del_is (key:Int): ∀l:List Int,l.length % 2=0->isL key l=true->l.take (findN key l)++l.drop (findN key l+2)=delL key l:=
 zb0v (by simp [isL]) fun a b l he ih h=>by
  simp only [findN,isL,delL] at h ⊢
  split at h
  ·rename_i c;rw [if_pos c,if_pos c,<- ih h];simp
  ·rename_i c;rw [if_neg c,if_neg c,if_pos (by simpa using h)];simp
theorem zb0x (key n:Int): ∀l:List Int,l.length % 2=0->(putL key n l).length=l.length+(if isL key l=true then 0 else 2):=
 zb0v (by simp [putL,isL]) fun a b l he ih=>by
  simp only [putL,isL]
  split
  ·simp only [y21,ih];omega
  ·split
   ·rename_i e;simp [e]
   ·rename_i e;simp [e]
theorem zb0y (z:Bool) (L:List Int) (key:Int) (hL:L.length<=1000000) (h2:L.length % 2=0): ∀(k i:Nat),L.length=i+2*k->
  Ev (fun q=>zlh q z L key (i:Int)) (((i+findN key (L.drop i):Nat):Int),isL key (L.drop i))
 | 0,i,hk=>by
  rw [y12 (by omega)]
  exact Ev.su (Ev.ne (Ev.ret _))
 | k+1,i,hk=>by
  have hi:i<L.length:=by omega
  have hi1:i+1<L.length:=by omega
  have he:L[((i:Int)).toNat]? =some L[i]:=by simp [hi]
  have hd:L.drop i=L[i]::L[i+1]::L.drop (i+2):=by rw [y9 hi,y9 hi1]
  rw [hd]
  by_cases c:L[i]<key
  ·have e1:findN key (L[i]::L[i+1]::L.drop (i+2))=findN key (L.drop (i+2))+2:=by simp only [findN,if_pos c]
   have e2:isL key (L[i]::L[i+1]::L.drop (i+2))=isL key (L.drop (i+2)):=by simp only [isL,if_pos c]
   rw [e1,e2]
   have ih:=zb0y z L key hL h2 k (i+2) (by omega)
   rw [show ((i+2:Nat):Int)=wrp .i64 ((i:Int)+2) by rw [zbsa (by omega) (by omega)];omega] at ih
   refine Ev.su (Ev.po (Ev.po (Ev.opt he (Ev.pos c (Ev.cast ih ?_)))))
   rw [show i+2+findN key (L.drop (i+2))=i+(findN key (L.drop (i+2))+2) by omega]
  ·have e1:findN key (L[i]::L[i+1]::L.drop (i+2))=0:=by simp only [findN,if_neg c]
   have e2:isL key (L[i]::L[i+1]::L.drop (i+2))=decide (L[i]=key):=by simp only [isL,if_neg c]
   rw [e1,e2]
   exact Ev.su (Ev.po (Ev.po (Ev.opt he (Ev.neg c (Ev.ret' (by simp))))))
theorem zb0z (s:Sl Int) (key:Int) (hL:s.l.length<=1000000) (h2:s.l.length % 2=0):Ev (fun q=>zli q s key) ((findN key s.l:Int),isL key s.l):=by
 have h:=zb0y s.z s.l key hL h2 (s.l.length / 2) 0 (by omega)
 rw [y38,y43] at h
 exact Ev.su h
theorem has_ev (s:Sl Int) (key:Int) (hL:s.l.length<=1000000) (h2:s.l.length % 2=0):Ev (fun q=>zlj q s key) (hasL key s.l):=by
 have hp:=zb0w key s.l h2
 refine Ev.su (Ev.bind (zb0z s key hL h2) (Ev.ite (fun c=>?_) fun c=>Ev.ret' ?_))
 ·simp only at c
  have h1:=hp.2.1 c
  have w:wrp .i64 ((findN key s.l:Int)+1)=((findN key s.l+1:Nat):Int):=by rw [zbsa (by omega) (by omega)];omega
  exact Ev.pos (by simp only;rw [w];omega) (Ev.opt (by simp only;rw [w,y28];exact h1.2) (Ev.ret _))
 ·exact (hp.2.2 (by simpa using c)).symm
def putOk (key:Int) (l:List Int):Bool:=isL key l || decide (l.length<128)
theorem put_ev (s:Sl Int) (hz:s.z=true->s.l=[]) (key n:Int) (hL:s.l.length<=1000000) (h2:s.l.length % 2=0):Ev (fun q=>zll q s key n) (if putOk key s.l=true then (⟨false,putL key n s.l⟩,true) else (s,false)):=by
 have hp:=zb0w key s.l h2
 obtain ⟨z,hC⟩:=zbys s hz (by omega)
 by_cases c:isL key s.l=true
 ·have h1:=hp.2.1 c
  have hs:s.z=false:=by
   by_cases e:s.z=true
   ·rw [hz e] at h1;simp at h1
   ·simpa using e
  have hC:=zbvs s hs (by omega)
  have w:wrp .i64 ((findN key s.l:Int)+1)=((findN key s.l+1:Nat):Int):=by rw [zbsa (by omega) (by omega)];omega
  rw [if_pos (by unfold putOk;rw [c];rfl)]
  refine Ev.su (Ev.bind (zb0z s key hL h2) (Ev.pos c (Ev.bind hC ?_)))
  simp only
  rw [w]
  refine Ev.po (Ev.po (Ev.opt (by rw [y28];exact h1.2) (Ev.pos trivial (Ev.ret' ?_))))
  rw [y28,put_is key n s.l h2 c]
 ·have c':isL key s.l=false:=by simpa using c
  by_cases d:s.l.length<128
  ·rw [if_pos (by unfold putOk;rw [decide_eq_true d];simp)]
   have hI:Ev (fun q=>zlk q ⟨z,true,s.l⟩ (findN key s.l:Int) ⟨false,true,[key,n]⟩) ⟨false,true,putL key n s.l⟩:=by
    refine Ev.succ (g:=fun _=>if insOk (⟨z,true,s.l⟩:Ow Int) (findN key s.l:Int) ⟨false,true,[key,n]⟩ then some (insR (⟨z,true,s.l⟩:Ow Int) (findN key s.l:Int) ⟨false,true,[key,n]⟩) else none) (Ev.pos ⟨rfl,by omega,by simp only;omega,rfl,by simp,by simp only [y21,y25];omega⟩ (Ev.ret' ?_)) (fun q=>rfl)
    rw [<- put_no key n s.l h2 c'];simp [insR]
   refine Ev.su (Ev.bind (zb0z s key hL h2) (Ev.neg (by simp only;rw [c'];simp) (Ev.ne (Ev.bind hC ?_))))
   exact Ev.bind hI (Ev.ret' rfl)
  ·rw [if_neg (by unfold putOk;rw [c',decide_eq_false d];simp)]
   exact Ev.su (Ev.bind (zb0z s key hL h2) (Ev.neg (by simp only;rw [c'];simp) (Ev.po (Ev.ret _))))
def numV (k:Int) (l:List Int) (o:zkp):List Int×Int:=
 if o.Code=7 then (l,l.headD 0) else if k=0/\o.Code=1 then ([cutI (wrp .i64 (l.headD 0+cutI o.A))],l.headD 0) else if k=1/\o.Code=2 then ([cutI o.A],l.headD 0) else (l,0)
def linV (k:Int) (l:List Int) (o:zkp):List Int×Int:=
 if o.Code=7 then (l,(l.length:Int)) else if o.Code=3 then (if (l.length:Int)<64 then (l++[cutI o.A],(l.length:Int)+1) else (l,-1))
 else if o.Code=4 then (if (l.length:Int)=0 then (l,-1) else if k=2 then (l.drop 1,l.headD 0) else (l.take (l.length - 1),(l[l.length - 1]?).getD 0)) else (l,0)
def stoV (l:List Int) (o:zkp):List Int×Int:=
 if o.Code=7\/o.Code=6\/o.Code=5 then (if o.A<0\/255<o.A then (l,-1) else if o.Code=6/\isL o.A l=true then (delL o.A l,hasL o.A l)
  else if o.Code=5 then (if putOk o.A l=true then (putL o.A (cutI o.B) l,hasL o.A l) else (l,-2)) else (l,hasL o.A l)) else (l,0)
def nz (n:Int):Int:=if n<0 then 0 else n
def movV (l:List Int) (o:zkp):List Int×Int:=
 if o.A<0\/65536<=o.A\/o.B<0 then (l,0) else if hasL (wrp .i64 (Int.tdiv o.A 256)) l<o.B then (l,0) else if wrp .i64 (Int.tdiv o.A 256)=Int.tmod o.A 256 then (l,1)
 else if putOk (Int.tmod o.A 256) l=true then (if 1099511627776<wrp .i64 (nz (hasL (Int.tmod o.A 256) l)+o.B) then (l,0)
  else if putOk (wrp .i64 (Int.tdiv o.A 256)) (putL (Int.tmod o.A 256) (wrp .i64 (nz (hasL (Int.tmod o.A 256) l)+o.B)) l)=true then (putL (wrp .i64 (Int.tdiv o.A 256)) (wrp .i64 (hasL (wrp .i64 (Int.tdiv o.A 256)) l - o.B)) (putL (Int.tmod o.A 256) (wrp .i64 (nz (hasL (Int.tmod o.A 256) l)+o.B)) l),1)
  else (putL (Int.tmod o.A 256) (wrp .i64 (nz (hasL (Int.tmod o.A 256) l)+o.B)) l,1)) else (l,0)
def ledV (l:List Int) (o:zkp):List Int×Int:=
 if o.Code=9 then movV l o else if o.Code=7 then (if o.A<0\/255<o.A then (l,-1) else (l,hasL o.A l))
 else if o.Code=8 then (if o.A<0\/255<o.A\/o.B<0 then (l,-1) else if putOk o.A l=true then (putL o.A (cutI (wrp .i64 (nz (hasL o.A l)+cutI o.B))) l,cutI (wrp .i64 (nz (hasL o.A l)+cutI o.B))) else (l,-2)) else (l,0)
/-- What an operation leaves, and what comes of it. -/
def stepV (s:zkm) (o:zkp):(List Int×Bool×Int)×Int:=
 if mayS s=true then (if s.Sealed=true then ((s.L.l,s.Sealed,s.To),-1125899906842624) else if o.Code=10 then ((s.L.l,true,if 0<=o.A/\o.A<3 then o.A else s.To),0)
  else if s.Kind=0\/s.Kind=1 then (((numV s.Kind s.L.l o).1,s.Sealed,s.To),(numV s.Kind s.L.l o).2)
  else if s.Kind=2\/s.Kind=3 then (((linV s.Kind s.L.l o).1,s.Sealed,s.To),(linV s.Kind s.L.l o).2)
  else if s.Kind=4 then (((stoV s.L.l o).1,s.Sealed,s.To),(stoV s.L.l o).2) else (((ledV s.L.l o).1,s.Sealed,s.To),(ledV s.L.l o).2))
 else ((s.L.l,s.Sealed,s.To),0)
def wS (s:zkm) (z:Bool) (l:List Int):zkm:=⟨s.Kind,⟨z,l⟩,s.Sealed,s.To⟩
/-- A function comes to a list and a number. -/
def Comes (f:Nat->zkm->zkp->Option (zkm×Int)) (s:zkm) (o:zkp) (r:List Int×Int):Prop:= ∃z,(z=true->r.1=[])/\Ev (fun q=>f q s o) (wS s z r.1,r.2)
theorem zb00 (s:zkm) (hz:s.L.z=true->s.L.l=[]) (h1:s.L.l.length=1) (o:zkp):Comes zld s o (numV s.Kind s.L.l o):=by
 obtain ⟨n,hn⟩: ∃n,s.L.l=[n]:=List.length_eq_one_iff.1 h1
 have hg:s.L.l[0]? =some n:=by rw [hn];rfl
 have hh:s.L.l.headD 0=n:=by rw [hn];rfl
 unfold Comes numV
 rw [hh]
 by_cases c7:o.Code=7
 ·rw [if_pos c7]
  exact ⟨s.L.z,hz,Ev.su (Ev.opt hg (Ev.pos c7 (Ev.ret _)))⟩
 ·rw [if_neg c7]
  by_cases k0:s.Kind=0
  ·by_cases c1:o.Code=1
   ·rw [if_pos ⟨k0,c1⟩]
    refine ⟨false,fun h=>(by cases h),Ev.su (Ev.opt hg (Ev.neg c7 (Ev.pos k0 (Ev.pos c1 (Ev.bind (zbsp _) ?_)))))⟩
    exact Ev.bind (zbsp (wrp .i64 (n+cutI o.A))) (Ev.ret' rfl)
   ·rw [if_neg (fun h=>c1 h.2),if_neg (fun h=>by omega)]
    exact ⟨s.L.z,hz,Ev.su (Ev.opt hg (Ev.neg c7 (Ev.pos k0 (Ev.neg c1 (Ev.ne (Ev.ret _))))))⟩
  ·rw [if_neg (fun h=>k0 h.1)]
   by_cases k1:s.Kind=1
   ·by_cases c2:o.Code=2
    ·rw [if_pos ⟨k1,c2⟩]
     refine ⟨false,fun h=>(by cases h),Ev.su (Ev.opt hg (Ev.neg c7 (Ev.neg k0 (Ev.pos k1 (Ev.pos c2 ?_)))))⟩
     exact Ev.bind (zbsp o.A) (Ev.ret' rfl)
    ·rw [if_neg (fun h=>c2 h.2)]
     exact ⟨s.L.z,hz,Ev.su (Ev.opt hg (Ev.neg c7 (Ev.neg k0 (Ev.pos k1 (Ev.neg c2 (Ev.ret _))))))⟩
   ·rw [if_neg (fun h=>k1 h.1)]
    exact ⟨s.L.z,hz,Ev.su (Ev.opt hg (Ev.neg c7 (Ev.neg k0 (Ev.neg k1 (Ev.ret _)))))⟩
theorem zb01 (s:zkm) (hz:s.L.z=true->s.L.l=[]) (hL:s.L.l.length<=1000000) (o:zkp):Comes zlg s o (linV s.Kind s.L.l o):=by
 unfold Comes linV
 by_cases c7:o.Code=7
 ·rw [if_pos c7]
  exact ⟨s.L.z,hz,Ev.su (Ev.pos c7 (Ev.ret _))⟩
 ·rw [if_neg c7]
  by_cases c3:o.Code=3
  ·rw [if_pos c3]
   by_cases d:(s.L.l.length:Int)<64
   ·rw [if_pos d]
    obtain ⟨z,hC⟩:=zbys s.L hz (by omega)
    refine ⟨false,fun h=>(by cases h),Ev.su (Ev.neg c7 (Ev.pos c3 (Ev.pos d (Ev.bind hC (Ev.bind (zbsp _) (Ev.pos (by simp only;omega) ?_))))))⟩
    exact Ev.ret' (by rw [zbsa (by omega) (by omega)];rfl)
   ·rw [if_neg d]
    exact ⟨s.L.z,hz,Ev.su (Ev.neg c7 (Ev.pos c3 (Ev.neg d (Ev.ret _))))⟩
  ·rw [if_neg c3]
   by_cases c4:o.Code=4
   ·rw [if_pos c4]
    by_cases d:(s.L.l.length:Int)=0
    ·rw [if_pos d]
     exact ⟨s.L.z,hz,Ev.su (Ev.neg c7 (Ev.neg c3 (Ev.pos c4 (Ev.pos d (Ev.ret _)))))⟩
    ·rw [if_neg d]
     have hs:s.L.z=false:=by
      by_cases e:s.L.z=true
      ·rw [hz e] at d;simp at d
      ·simpa using e
     have hC:=zbvs s.L hs (by omega)
     by_cases k2:s.Kind=2
     ·rw [if_pos k2]
      have hg:s.L.l[0]? =some (s.L.l.headD 0):=by
       cases hl:s.L.l with
       | nil=>rw [hl] at d;simp at d
       | cons a t=>rfl
      have hD:=zb0u (l:=s.L.l) (i:=0) (j:=wrp .i64 1) (by omega) (by rw [zbsa (by omega) (by omega)];omega) (by rw [zbsa (by omega) (by omega)];omega) hL
      refine ⟨false,fun h=>(by cases h),Ev.su (Ev.neg c7 (Ev.neg c3 (Ev.pos c4 (Ev.neg d (Ev.pos k2 (Ev.opt hg (Ev.bind hC ?_)))))))⟩
      exact Ev.bind hD (Ev.ret' (by rw [zbsa (by omega) (by omega)];rfl))
     ·rw [if_neg k2]
      have w1:wrp .i64 ((s.L.l.length:Int) - 1)=((s.L.l.length - 1:Nat):Int):=by rw [zbsa (by omega) (by omega)];omega
      have hg:s.L.l[s.L.l.length - 1]? =some ((s.L.l[s.L.l.length - 1]?).getD 0):=by
       rw [y7 (by omega)];rfl
      have w2:wrp .i64 (((s.L.l.length - 1:Nat):Int)+1)=(s.L.l.length:Int):=by rw [zbsa (by omega) (by omega)];omega
      have hD:=zb0u (l:=s.L.l) (i:=((s.L.l.length - 1:Nat):Int)) (j:=(s.L.l.length:Int)) (by omega) (by omega) (by omega) hL
      refine ⟨false,fun h=>(by cases h),Ev.su (Ev.neg c7 (Ev.neg c3 (Ev.pos c4 (Ev.neg d (Ev.neg k2 ?_)))))⟩
      rw [w1,w2]
      refine Ev.po (Ev.opt (by rw [y28];exact hg) (Ev.bind hC ?_))
      exact Ev.bind hD (Ev.ret' (by rw [y28,y28,List.drop_length,List.append_nil];rfl))
   ·rw [if_neg c4]
    exact ⟨s.L.z,hz,Ev.su (Ev.neg c7 (Ev.neg c3 (Ev.neg c4 (Ev.ret _))))⟩
theorem zb02 (s:zkm) (hz:s.L.z=true->s.L.l=[]) (hL:s.L.l.length<=1000000) (h2:s.L.l.length % 2=0) (o:zkp):Comes zlm s o (stoV s.L.l o):=by
 have hH:=has_ev s.L o.A hL h2
 have hF:=zb0z s.L o.A hL h2
 have hp:=zb0w o.A s.L.l h2
 have hP:=put_ev s.L hz o.A (cutI o.B) hL h2
 -- what is done where the operation is to put
 have put: ∀{K:Nat->Option (zkm×Int)},K=(fun q=>(zk4 q o.B).bind fun r5=>((zll q s.L o.A r5).bind fun r6=>(if r6.2=true then (some ((⟨s.Kind,r6.1,s.Sealed,s.To⟩:zkm),hasL o.A s.L.l)) else (some (s,(-2))))))->
   ∃z,(z=true->(if putOk o.A s.L.l=true then (putL o.A (cutI o.B) s.L.l,hasL o.A s.L.l) else (s.L.l,-2)).1=[])/\Ev K (wS s z (if putOk o.A s.L.l=true then (putL o.A (cutI o.B) s.L.l,hasL o.A s.L.l) else (s.L.l,-2)).1,(if putOk o.A s.L.l=true then (putL o.A (cutI o.B) s.L.l,hasL o.A s.L.l) else (s.L.l,-2)).2):=by
  rintro K rfl
  by_cases c:putOk o.A s.L.l=true
  ·rw [if_pos c] at hP ⊢
   refine ⟨false,fun h=>(by cases h),Ev.bind (zbsp _) (Ev.bind hP (Ev.pos rfl ?_))⟩
   exact Ev.ret' rfl
  ·rw [if_neg c] at hP ⊢
   refine ⟨s.L.z,hz,Ev.bind (zbsp _) (Ev.bind hP (Ev.neg (by simp) ?_))⟩
   exact Ev.ret' rfl
 have del:isL o.A s.L.l=true-> ∀{K:Nat->Option (zkm×Int)},K=(fun q=>(zle q s.L).bind fun r3=>((zlf q r3 (findN o.A s.L.l:Int) (wrp .i64 ((findN o.A s.L.l:Int)+2))).bind fun r4=>(some ((⟨s.Kind,⟨r4.n,r4.xs⟩,s.Sealed,s.To⟩:zkm),hasL o.A s.L.l))))->
   Ev K (wS s false (delL o.A s.L.l),hasL o.A s.L.l):=by
  intro c K hK
  subst hK
  have h1:=hp.2.1 c
  have hs:s.L.z=false:=by
   by_cases e:s.L.z=true
   ·rw [hz e] at h1;simp at h1
   ·simpa using e
  have w:wrp .i64 ((findN o.A s.L.l:Int)+2)=((findN o.A s.L.l+2:Nat):Int):=by rw [zbsa (by omega) (by omega)];omega
  have hD:=zb0u (l:=s.L.l) (i:=(findN o.A s.L.l:Int)) (j:=((findN o.A s.L.l+2:Nat):Int)) (by omega) (by omega) (by omega) hL
  rw [y28,y28,del_is o.A s.L.l h2 c] at hD
  rw [w]
  refine Ev.bind (zbvs s.L hs (by omega)) ?_
  exact Ev.bind hD (Ev.ret' rfl)
 unfold Comes stoV
 by_cases c7:o.Code=7
 ·rw [if_pos (.inl c7)]
  by_cases a0:o.A<0
  ·rw [if_pos (.inl a0)]
   exact ⟨s.L.z,hz,Ev.su (Ev.pos c7 (Ev.pos a0 (Ev.ret _)))⟩
  ·by_cases a1:255<o.A
   ·rw [if_pos (.inr a1)]
    exact ⟨s.L.z,hz,Ev.su (Ev.pos c7 (Ev.neg a0 (Ev.pos a1 (Ev.ret _))))⟩
   ·rw [if_neg (by omega),if_neg (fun h=>by omega),if_neg (by omega)]
    refine ⟨s.L.z,hz,Ev.su (Ev.pos c7 (Ev.neg a0 (Ev.neg a1 (Ev.bind hH (Ev.bind hF (Ev.ne (Ev.neg (by omega) ?_)))))))⟩
    exact Ev.ret' rfl
 ·by_cases c6:o.Code=6
  ·rw [if_pos (.inr (.inl c6))]
   by_cases a0:o.A<0
   ·rw [if_pos (.inl a0)]
    exact ⟨s.L.z,hz,Ev.su (Ev.neg c7 (Ev.pos c6 (Ev.pos a0 (Ev.ret _))))⟩
   ·by_cases a1:255<o.A
    ·rw [if_pos (.inr a1)]
     exact ⟨s.L.z,hz,Ev.su (Ev.neg c7 (Ev.pos c6 (Ev.neg a0 (Ev.pos a1 (Ev.ret _)))))⟩
    ·rw [if_neg (show¬(o.A<0\/255<o.A) by omega)]
     by_cases d:isL o.A s.L.l=true
     ·rw [if_pos ⟨c6,d⟩]
      refine ⟨false,fun h=>(by cases h),Ev.su (Ev.neg c7 (Ev.pos c6 (Ev.neg a0 (Ev.neg a1 (Ev.bind hH (Ev.bind hF (Ev.pos d ?_)))))))⟩
      exact del d rfl
     ·rw [if_neg (fun h=>d h.2),if_neg (by omega)]
      refine ⟨s.L.z,hz,Ev.su (Ev.neg c7 (Ev.pos c6 (Ev.neg a0 (Ev.neg a1 (Ev.bind hH (Ev.bind hF (Ev.neg d (Ev.neg (by omega) ?_))))))))⟩
      exact Ev.ret' rfl
  ·by_cases c5:o.Code=5
   ·rw [if_pos (.inr (.inr c5))]
    by_cases a0:o.A<0
    ·rw [if_pos (.inl a0)]
     exact ⟨s.L.z,hz,Ev.su (Ev.neg c7 (Ev.neg c6 (Ev.pos c5 (Ev.pos a0 (Ev.ret _)))))⟩
    ·by_cases a1:255<o.A
     ·rw [if_pos (.inr a1)]
      exact ⟨s.L.z,hz,Ev.su (Ev.neg c7 (Ev.neg c6 (Ev.pos c5 (Ev.neg a0 (Ev.pos a1 (Ev.ret _))))))⟩
     ·rw [if_neg (show¬(o.A<0\/255<o.A) by omega),if_neg (fun h=>by omega),if_pos c5]
      obtain ⟨z,h3,h4⟩:=put rfl
      refine ⟨z,h3,Ev.su (Ev.neg c7 (Ev.neg c6 (Ev.pos c5 (Ev.neg a0 (Ev.neg a1 (Ev.bind hH (Ev.bind hF ?_)))))))⟩
      exact h4
   ·rw [if_neg (by omega)]
    exact ⟨s.L.z,hz,Ev.su (Ev.neg c7 (Ev.neg c6 (Ev.neg c5 (Ev.ret _))))⟩
theorem zb03 (s:zkm) (hz:s.L.z=true->s.L.l=[]) (hL:s.L.l.length<=900000) (h2:s.L.l.length % 2=0) (o:zkp):Comes zln s o (movV s.L.l o):=by
 unfold Comes movV
 by_cases a0:o.A<0
 ·rw [if_pos (.inl a0)]
  exact ⟨s.L.z,hz,Ev.su (Ev.pos a0 (Ev.ret _))⟩
 by_cases a1:65536<=o.A
 ·rw [if_pos (.inr (.inl a1))]
  exact ⟨s.L.z,hz,Ev.su (Ev.neg a0 (Ev.pos a1 (Ev.ret _)))⟩
 by_cases b0:o.B<0
 ·rw [if_pos (.inr (.inr b0))]
  exact ⟨s.L.z,hz,Ev.su (Ev.neg a0 (Ev.neg a1 (Ev.pos b0 (Ev.ret _))))⟩
 rw [if_neg (show¬(o.A<0\/65536<=o.A\/o.B<0) by omega)]
 generalize hf:wrp .i64 (Int.tdiv o.A 256)=f
 generalize ht:Int.tmod o.A 256=t
 have start: ∀{r:zkm×Int},Ev (fun q=>(if hasL f s.L.l<o.B then (some (s,0)) else (if f=t then (some (s,1)) else ((zll q s.L t (wrp .i64 (nz (hasL t s.L.l)+o.B))).bind fun r3=>(if r3.2=true then (if 1099511627776<(wrp .i64 (nz (hasL t s.L.l)+o.B)) then (some (s,0)) else ((zll q r3.1 f (wrp .i64 (hasL f s.L.l - o.B))).bind fun r4=>(some ((⟨s.Kind,r4.1,s.Sealed,s.To⟩:zkm),1)))) else (some (s,0))))))) r->Ev (fun q=>zln q s o) r:=fun h=>by
  have hf':=has_ev s.L f (by omega) h2
  have ht':=has_ev s.L t (by omega) h2
  subst hf;subst ht
  refine Ev.su (Ev.neg a0 (Ev.neg a1 (Ev.neg b0 (Ev.bind hf' (Ev.bind ht' ?_)))))
  exact h
 by_cases c1:hasL f s.L.l<o.B
 ·rw [if_pos c1]
  exact ⟨s.L.z,hz,start (Ev.pos c1 (Ev.ret _))⟩
 rw [if_neg c1]
 by_cases c2:f=t
 ·rw [if_pos c2]
  exact ⟨s.L.z,hz,start (Ev.neg c1 (Ev.pos c2 (Ev.ret _)))⟩
 rw [if_neg c2]
 have hP:=put_ev s.L hz t (wrp .i64 (nz (hasL t s.L.l)+o.B)) (by omega) h2
 generalize wrp .i64 (nz (hasL t s.L.l)+o.B)=n at hP start ⊢
 by_cases c3:putOk t s.L.l=true
 ·rw [if_pos c3] at hP ⊢
  by_cases c4:1099511627776<n
  ·rw [if_pos c4]
   refine ⟨s.L.z,hz,start (Ev.neg c1 (Ev.neg c2 (Ev.bind hP (Ev.pos rfl (Ev.pos c4 ?_)))))⟩
   exact Ev.ret _
  ·rw [if_neg c4]
   have hl:=zb0x t n s.L.l h2
   have he:(putL t n s.L.l).length % 2=0:=by rw [hl];split<;>omega
   have hl2:(putL t n s.L.l).length<=1000000:=by rw [hl];split<;>omega
   have hQ:=put_ev ⟨false,putL t n s.L.l⟩ (fun h=>by cases h) f (wrp .i64 (hasL f s.L.l - o.B)) hl2 he
   simp only at hQ
   by_cases c5:putOk f (putL t n s.L.l)=true
   ·rw [if_pos c5] at hQ ⊢
    refine ⟨false,fun h=>(by cases h),start (Ev.neg c1 (Ev.neg c2 (Ev.bind hP (Ev.pos rfl (Ev.neg c4 ?_)))))⟩
    exact Ev.bind hQ (Ev.ret' rfl)
   ·rw [if_neg c5] at hQ ⊢
    refine ⟨false,fun h=>(by cases h),start (Ev.neg c1 (Ev.neg c2 (Ev.bind hP (Ev.pos rfl (Ev.neg c4 ?_)))))⟩
    exact Ev.bind hQ (Ev.ret' rfl)
 ·rw [if_neg c3] at hP ⊢
  refine ⟨s.L.z,hz,start (Ev.neg c1 (Ev.neg c2 (Ev.bind hP (Ev.neg (by simp) ?_))))⟩
  exact Ev.ret _
theorem zb04 (s:zkm) (hz:s.L.z=true->s.L.l=[]) (hL:s.L.l.length<=900000) (h2:s.L.l.length % 2=0) (o:zkp):Comes zlo s o (ledV s.L.l o):=by
 unfold ledV
 by_cases c9:o.Code=9
 ·rw [if_pos c9]
  obtain ⟨z,h1,h3⟩:=zb03 s hz hL h2 o
  refine ⟨z,h1,Ev.su (Ev.pos c9 (Ev.bind h3 ?_))⟩
  exact Ev.ret' rfl
 unfold Comes
 rw [if_neg c9]
 have hH:=has_ev s.L o.A (by omega) h2
 by_cases c7:o.Code=7
 ·rw [if_pos c7]
  by_cases a0:o.A<0
  ·rw [if_pos (.inl a0)]
   exact ⟨s.L.z,hz,Ev.su (Ev.neg c9 (Ev.pos c7 (Ev.pos a0 (Ev.ret _))))⟩
  ·by_cases a1:255<o.A
   ·rw [if_pos (.inr a1)]
    exact ⟨s.L.z,hz,Ev.su (Ev.neg c9 (Ev.pos c7 (Ev.neg a0 (Ev.pos a1 (Ev.ret _)))))⟩
   ·rw [if_neg (by omega)]
    refine ⟨s.L.z,hz,Ev.su (Ev.neg c9 (Ev.pos c7 (Ev.neg a0 (Ev.neg a1 (Ev.bind hH ?_)))))⟩
    exact Ev.ret' rfl
 ·rw [if_neg c7]
  by_cases c8:o.Code=8
  ·rw [if_pos c8]
   by_cases a0:o.A<0
   ·rw [if_pos (.inl a0)]
    exact ⟨s.L.z,hz,Ev.su (Ev.neg c9 (Ev.neg c7 (Ev.pos c8 (Ev.pos a0 (Ev.ret _)))))⟩
   ·by_cases a1:255<o.A
    ·rw [if_pos (.inr (.inl a1))]
     exact ⟨s.L.z,hz,Ev.su (Ev.neg c9 (Ev.neg c7 (Ev.pos c8 (Ev.neg a0 (Ev.pos a1 (Ev.ret _))))))⟩
    ·by_cases b0:o.B<0
     ·rw [if_pos (.inr (.inr b0))]
      exact ⟨s.L.z,hz,Ev.su (Ev.neg c9 (Ev.neg c7 (Ev.pos c8 (Ev.neg a0 (Ev.neg a1 (Ev.pos b0 (Ev.ret _)))))))⟩
     ·rw [if_neg (show¬(o.A<0\/255<o.A\/o.B<0) by omega)]
      have hP:=put_ev s.L hz o.A (cutI (wrp .i64 (nz (hasL o.A s.L.l)+cutI o.B))) (by omega) h2
      by_cases d:putOk o.A s.L.l=true
      ·rw [if_pos d] at hP ⊢
       refine ⟨false,fun h=>(by cases h),Ev.su (Ev.neg c9 (Ev.neg c7 (Ev.pos c8 (Ev.neg a0 (Ev.neg a1 (Ev.neg b0 (Ev.bind hH (Ev.bind (zbsp o.B) (Ev.bind (zbsp _) ?_)))))))))⟩
       refine Ev.bind hP (Ev.pos rfl ?_)
       exact Ev.ret' rfl
      ·rw [if_neg d] at hP ⊢
       refine ⟨s.L.z,hz,Ev.su (Ev.neg c9 (Ev.neg c7 (Ev.pos c8 (Ev.neg a0 (Ev.neg a1 (Ev.neg b0 (Ev.bind hH (Ev.bind (zbsp o.B) (Ev.bind (zbsp _) ?_)))))))))⟩
       refine Ev.bind hP (Ev.neg (by simp) ?_)
       exact Ev.ret' rfl
  ·rw [if_neg c8]
   exact ⟨s.L.z,hz,Ev.su (Ev.neg c9 (Ev.neg c7 (Ev.neg c8 (Ev.ret _))))⟩
theorem zb05 {k:Int} {l:List Int} (h:kindOk k l=true) (h0: ¬(k=0\/k=1)) (h2: ¬(k=2\/k=3)):l.length % 2=0:=by
 unfold kindOk at h
 rw [if_neg h0,if_neg h2] at h
 split at h
 ·simp only [pairsOk,y6,decide_eq_true_eq] at h;exact h.2.1
 ·split at h
  ·simp only [pairsOk,y6,decide_eq_true_eq] at h;exact h.2.1
  ·cases h
theorem zb06 {k:Int} {l:List Int} (h:kindOk k l=true) (h0:k=0\/k=1):l.length=1:=by
 unfold kindOk at h
 rw [if_pos h0,decide_eq_true_eq] at h;exact h.1
def stV (s:zkm) (z:Bool) (r:(List Int×Bool×Int)×Int):zkm×Int:=(⟨s.Kind,⟨z,r.1.1⟩,r.1.2.1,r.1.2.2⟩,r.2)
theorem zb07 (s:zkm) (hz:s.L.z=true->s.L.l=[]) (hL:s.L.l.length<=900000) (o:zkp): ∃z,(z=true->(stepV s o).1.1=[])/\Ev (fun q=>zlp q s o) (stV s z (stepV s o)):=by
 have hM:=zbyg s (by omega)
 unfold stepV stV
 by_cases m:mayS s=true
 ·rw [if_pos m]
  rw [m] at hM
  have hk:=(zbyw m).2.2.2
  by_cases hs:s.Sealed=true
  ·rw [if_pos hs]
   exact ⟨s.L.z,hz,Ev.su (Ev.bind hM (Ev.pos rfl (Ev.pos hs (Ev.ret _))))⟩
  rw [if_neg hs]
  by_cases c:o.Code=10
  ·rw [if_pos c]
   refine ⟨s.L.z,hz,Ev.su (Ev.bind hM (Ev.pos rfl (Ev.neg hs (Ev.pos c (Ev.ite (fun a0=>Ev.ite (fun a1=>Ev.ret' ?_) fun a1=>Ev.ret' ?_) fun a0=>Ev.ret' ?_)))))⟩
   ·rw [if_pos ⟨a0,a1⟩]
   ·rw [if_neg (fun h=>a1 h.2)]
   ·rw [if_neg (fun h=>a0 h.1)]
  rw [if_neg c]
  by_cases k0:s.Kind=0
  ·obtain ⟨z,h1,h3⟩:=zb00 s hz (zb06 hk (.inl k0)) o
   rw [if_pos (show s.Kind=0\/s.Kind=1 from .inl k0)]
   refine ⟨z,h1,Ev.su (Ev.bind hM (Ev.pos rfl (Ev.neg hs (Ev.neg c (Ev.pos k0 (Ev.bind h3 ?_))))))⟩
   exact Ev.ret' rfl
  by_cases k1:s.Kind=1
  ·obtain ⟨z,h1,h3⟩:=zb00 s hz (zb06 hk (.inr k1)) o
   rw [if_pos (show s.Kind=0\/s.Kind=1 from .inr k1)]
   refine ⟨z,h1,Ev.su (Ev.bind hM (Ev.pos rfl (Ev.neg hs (Ev.neg c (Ev.neg k0 (Ev.pos k1 (Ev.bind h3 ?_)))))))⟩
   exact Ev.ret' rfl
  rw [if_neg (show¬(s.Kind=0\/s.Kind=1) by omega)]
  by_cases k2:s.Kind=2
  ·obtain ⟨z,h1,h3⟩:=zb01 s hz (by omega) o
   rw [if_pos (show s.Kind=2\/s.Kind=3 from .inl k2)]
   refine ⟨z,h1,Ev.su (Ev.bind hM (Ev.pos rfl (Ev.neg hs (Ev.neg c (Ev.neg k0 (Ev.neg k1 (Ev.pos k2 (Ev.bind h3 ?_))))))))⟩
   exact Ev.ret' rfl
  by_cases k3:s.Kind=3
  ·obtain ⟨z,h1,h3⟩:=zb01 s hz (by omega) o
   rw [if_pos (show s.Kind=2\/s.Kind=3 from .inr k3)]
   refine ⟨z,h1,Ev.su (Ev.bind hM (Ev.pos rfl (Ev.neg hs (Ev.neg c (Ev.neg k0 (Ev.neg k1 (Ev.neg k2 (Ev.pos k3 (Ev.bind h3 ?_)))))))))⟩
   exact Ev.ret' rfl
  rw [if_neg (show¬(s.Kind=2\/s.Kind=3) by omega)]
  have h2:=zb05 hk (by omega) (by omega)
  by_cases k4:s.Kind=4
  ·obtain ⟨z,h1,h3⟩:=zb02 s hz (by omega) h2 o
   rw [if_pos k4]
   refine ⟨z,h1,Ev.su (Ev.bind hM (Ev.pos rfl (Ev.neg hs (Ev.neg c (Ev.neg k0 (Ev.neg k1 (Ev.neg k2 (Ev.neg k3 (Ev.pos k4 (Ev.bind h3 ?_))))))))))⟩
   exact Ev.ret' rfl
  ·obtain ⟨z,h1,h3⟩:=zb04 s hz hL h2 o
   rw [if_neg k4]
   refine ⟨z,h1,Ev.su (Ev.bind hM (Ev.pos rfl (Ev.neg hs (Ev.neg c (Ev.neg k0 (Ev.neg k1 (Ev.neg k2 (Ev.neg k3 (Ev.neg k4 (Ev.bind h3 ?_))))))))))⟩
   exact Ev.ret' rfl
 ·rw [if_neg m]
  rw [show mayS s=false by simpa using m] at hM
  exact ⟨s.L.z,hz,Ev.su (Ev.bind hM (Ev.neg (by simp) (Ev.ret _)))⟩
theorem zb08 (key n:Int): ∀l:List Int,(putL key n l).length<=l.length+2
 | []=>by simp [putL]
 | [a]=>by simp [putL]
 | a::b::l=>by
  have:=zb08 key n l
  simp only [putL]
  split
  ·simp only [y21];omega
  ·split<;>simp only [y21]<;>omega
theorem zb09 (key:Int): ∀l:List Int,(delL key l).length<=l.length
 | []=>by simp [delL]
 | [a]=>by simp [delL]
 | a::b::l=>by
  have:=zb09 key l
  simp only [delL]
  split
  ·simp only [y21];omega
  ·split<;>simp only [y21]<;>omega
theorem zb1a (k:Int) (l:List Int) (o:zkp):(numV k l o).1.length<=l.length+4:=by
 unfold numV;split<;>(try split)<;>(try split)<;>simp only [List.length_singleton]<;>omega
theorem zb1b (k:Int) (l:List Int) (o:zkp):(linV k l o).1.length<=l.length+4:=by
 unfold linV
 split
 ·simp only;omega
 ·split
  ·split<;>simp only [y10,List.length_singleton]<;>omega
  ·split
   ·split
    ·simp only;omega
    ·split<;>simp only [y13,y20]<;>omega
   ·simp only;omega
theorem zb1c (l:List Int) (o:zkp):(stoV l o).1.length<=l.length+4:=by
 have h1:=zb08 o.A (cutI o.B) l
 have h2:=zb09 o.A l
 unfold stoV
 split
 ·split
  ·simp only;omega
  ·split
   ·simp only;omega
   ·split
    ·split<;>simp only<;>omega
    ·simp only;omega
 ·simp only;omega
theorem zb1d (l:List Int) (o:zkp):(movV l o).1.length<=l.length+4:=by
 unfold movV
 generalize wrp .i64 (Int.tdiv o.A 256)=f
 generalize Int.tmod o.A 256=t
 have h1:=zb08 t (wrp .i64 (nz (hasL t l)+o.B)) l
 have h2:=zb08 f (wrp .i64 (hasL f l - o.B)) (putL t (wrp .i64 (nz (hasL t l)+o.B)) l)
 split
 ·simp only;omega
 ·split
  ·simp only;omega
  ·split
   ·simp only;omega
   ·split
    ·split
     ·simp only;omega
     ·split<;>simp only<;>omega
    ·simp only;omega
theorem zb1e (l:List Int) (o:zkp):(ledV l o).1.length<=l.length+4:=by
 have h0:=zb1d l o
 have h1:=zb08 o.A (cutI (wrp .i64 (nz (hasL o.A l)+cutI o.B))) l
 unfold ledV
 split
 ·exact h0
 ·split
  ·split<;>simp only<;>omega
  ·split
   ·split
    ·simp only;omega
    ·split<;>simp only<;>omega
   ·simp only;omega
theorem zb1f (s:zkm) (o:zkp):(stepV s o).1.1.length<=s.L.l.length+4:=by
 unfold stepV
 split
 ·split
  ·simp only;omega
  ·split
   ·simp only;omega
   ·split
    ·exact zb1a _ _ _
    ·split
     ·exact zb1b _ _ _
     ·split
      ·exact zb1c _ _
      ·exact zb1e _ _
 ·simp only;omega
def nextS (s:zkm) (o:zkp):zkm:=⟨s.Kind,⟨false,(stepV s o).1.1⟩,(stepV s o).1.2.1,(stepV s o).1.2.2⟩
def setZ (z z':Bool) (x:zko):zko:=⟨x.Index,⟨x.State.Kind,⟨z,x.State.L.l⟩,x.State.Sealed,x.State.To⟩,⟨z',x.Table.l⟩⟩
def noTN:zko:=⟨0,⟨0,⟨false,[]⟩,false,0⟩,⟨false,[]⟩⟩
def nextN (s:zko) (r:zkq):zko:=⟨wrp .i64 (s.Index+1),nextS s.State r.Op,⟨false,noteL s.Table.l r.Proc r.Seq (stepV s.State r.Op).2⟩⟩
/-- A snapshot behind records. -/
def takeV:zko->List zkq->zko×Int
 | s,[]=>(setZ false false s,0)
 | s,r::l=>if r.Index=s.Index then (if FitsR r then takeV (nextN s r) l else (noTN,1)) else (noTN,15)
theorem zb1g (z z':Bool) (s:zko) (l:List zkq):takeV (setZ z z' s) l=takeV s l:=by
 cases l<;>rfl
theorem zb1h (s:zko) (r:zkq) (l:List zkq):takeV s (r::l)=if r.Index=s.Index then (if FitsR r then takeV (nextN s r) l else (noTN,1)) else (noTN,15):=rfl
theorem zb1i {s:zko} {r:zkq} {l:List zkq} (h:(takeV s (r::l)).2=0):r.Index=s.Index/\FitsR r/\takeV s (r::l)=takeV (nextN s r) l:=by
 rw [zb1h] at h ⊢
 split at h
 ·rename_i c
  split at h
  ·rename_i d;exact ⟨c,d,by rw [if_pos c,if_pos d]⟩
  ·cases h
 ·cases h
def zOk (z z':Bool) (x:zko):Prop:=(z=true->x.State.L.l=[])/\(z'=true->x.Table.l=[])
theorem zb1j (zz:Bool) (L:List zkq) (hL:L.length<=5000): ∀(k i:Nat) (s:zko),L.length=i+k->zOk s.State.L.z s.Table.z s->s.State.L.l.length+4*k<=900000->s.Table.l.length+k<=900000->
  ∃z z',zOk z z' (takeV s (L.drop i)).1/\Ev (fun q=>zlz q zz L (L.length:Int) (i:Int) s.Index s.State.Kind s.State.L.z s.State.L.l s.State.Sealed s.State.To s.Table.z s.Table.l true) (setZ z z' (takeV s (L.drop i)).1,(takeV s (L.drop i)).2)
 | 0,i,s,hk,hz,h1,h2=>by
  rw [y12 (by omega)]
  exact ⟨s.State.L.z,s.Table.z,hz,Ev.su (Ev.ne (Ev.ret _))⟩
 | k+1,i,s,hk,hz,h1,h2=>by
  have hi:i<L.length:=by omega
  have he:L[((i:Int)).toNat]? =some L[i]:=by simp [hi]
  rw [y9 hi]
  simp only [takeV]
  have w:wrp .i64 ((i:Int)+1)=((i+1:Nat):Int):=by rw [zbsa (by omega) (by omega)];omega
  by_cases c:L[i].Index=s.Index
  ·rw [if_pos c]
   by_cases d:FitsR L[i]
   ·rw [if_pos d]
    obtain ⟨z,hz1,hS⟩:=zb07 s.State hz.1 (by omega) L[i].Op
    have hN:=zb0t s.Table hz.2 (by omega) ⟨L[i].Index,L[i].Proc,L[i].Seq,L[i].Op,(stepV s.State L[i].Op).2⟩
    have hl:=zb1f s.State L[i].Op
    have hn:=zb0l s.Table.l L[i].Proc L[i].Seq (stepV s.State L[i].Op).2
    have key:=zb1g z false (nextN s L[i]) (L.drop (i+1))
    obtain ⟨y,y',hy,ih⟩:=zb1j zz L hL k (i+1) (setZ z false (nextN s L[i])) (by omega) ⟨hz1,fun h=>by cases h⟩ (by simp only [setZ,nextN,nextS];omega) (by simp only [setZ,nextN,nextS];omega)
    rw [key] at hy ih
    rw [<- w] at ih
    refine ⟨y,y',hy,Ev.su (Ev.po (Ev.po (Ev.opt he (Ev.pos c (Ev.bind (zbsv _) (Ev.pos (by simpa using d) (Ev.bind hS (Ev.bind hN ?_))))))))⟩
    exact ih
   ·rw [if_neg d]
    refine ⟨true,true,⟨fun _=>rfl,fun _=>rfl⟩,Ev.su (Ev.po (Ev.po (Ev.opt he (Ev.pos c (Ev.bind (zbsv _) (Ev.neg (by simpa using d) ?_))))))⟩
    exact Ev.ret _
  ·rw [if_neg c]
   refine ⟨true,true,⟨fun _=>rfl,fun _=>rfl⟩,Ev.su (Ev.po (Ev.po (Ev.opt he (Ev.neg c ?_))))⟩
   exact Ev.ret _
theorem zb1k (s:zko) (r:Sl zkq) (hr:r.l.length<=5000) (hz:zOk s.State.L.z s.Table.z s) (h1:s.State.L.l.length<=800000) (h2:s.Table.l.length<=800000):
  ∃z z',zOk z z' (takeV s r.l).1/\Ev (fun q=>zl1 q s r) (setZ z z' (takeV s r.l).1,(takeV s r.l).2):=by
 suffices h: ∃z z',zOk z z' (takeV s r.l).1/\Ev (fun q=>zl0 q r.z r.l (r.l.length:Int) s.Index s.State.Kind s.State.L.z s.State.L.l s.State.Sealed s.State.To s.Table.z s.Table.l) (setZ z z' (takeV s r.l).1,(takeV s r.l).2) by
  obtain ⟨z,z',h,h3⟩:=h
  exact ⟨z,z',h,Ev.su h3⟩
 by_cases h0:r.l.length=0
 ·have hT:takeV s r.l=(setZ false false s,0):=by rw [y35 h0];rfl
  rw [hT]
  exact ⟨s.State.L.z,s.Table.z,hz,Ev.su (Ev.ne (Ev.ret _))⟩
 ·have hi:0<r.l.length:=by omega
  have he:r.l[0]? =some r.l[0]:=y7 hi
  have hd:r.l=r.l[0]::r.l.drop 1:=by
   have:=y9 hi
   rwa [y38] at this
  have hT:takeV s r.l=if r.l[0].Index=s.Index then (if FitsR r.l[0] then takeV (nextN s r.l[0]) (r.l.drop 1) else (noTN,1)) else (noTN,15):=by
   have:=congrArg (takeV s) hd
   exact this
  rw [hT]
  have w:wrp .i64 1=((1:Nat):Int):=by rw [zbsa (by omega) (by omega)];rfl
  generalize r.l[0]=e at he hT ⊢
  by_cases c:e.Index=s.Index
  ·rw [if_pos c]
   by_cases d:FitsR e
   ·rw [if_pos d]
    obtain ⟨z,hz1,hS⟩:=zb07 s.State hz.1 (by omega) e.Op
    have hN:=zb0t s.Table hz.2 (by omega) ⟨e.Index,e.Proc,e.Seq,e.Op,(stepV s.State e.Op).2⟩
    have hl:=zb1f s.State e.Op
    have hn:=zb0l s.Table.l e.Proc e.Seq (stepV s.State e.Op).2
    have key:=zb1g z false (nextN s e) (r.l.drop 1)
    obtain ⟨y,y',hy,ih⟩:=zb1j r.z r.l hr (r.l.length - 1) 1 (setZ z false (nextN s e)) (by omega) ⟨hz1,fun h=>by cases h⟩ (by simp only [setZ,nextN,nextS];omega) (by simp only [setZ,nextN,nextS];omega)
    rw [key] at hy ih
    rw [<- w] at ih
    refine ⟨y,y',hy,Ev.su (Ev.po (Ev.opt he (Ev.pos c (Ev.bind (zbsv _) (Ev.pos (by simpa using d) (Ev.bind hS (Ev.bind hN ?_)))))))⟩
    exact ih
   ·rw [if_neg d]
    refine ⟨true,true,⟨fun _=>rfl,fun _=>rfl⟩,Ev.su (Ev.po (Ev.opt he (Ev.pos c (Ev.bind (zbsv _) (Ev.neg (by simpa using d) ?_)))))⟩
    exact Ev.ret _
  ·rw [if_neg c]
   refine ⟨true,true,⟨fun _=>rfl,fun _=>rfl⟩,Ev.su (Ev.po (Ev.opt he (Ev.neg c ?_)))⟩
   exact Ev.ret _
theorem zb1l: ∀(l:List zkq) (s:zko),(takeV s l).1.State.L.l.length<=s.State.L.l.length+4*l.length/\(takeV s l).1.Table.l.length<=s.Table.l.length+l.length
 | [],s=>by simp [takeV,setZ]
 | r::l,s=>by
  rw [zb1h]
  split
  ·split
   ·have h:=zb1l l (nextN s r)
    have h1:=zb1f s.State r.Op
    have h2:=zb0l s.Table.l r.Proc r.Seq (stepV s.State r.Op).2
    simp only [nextN,nextS,y21] at h ⊢
    omega
   ·simp [noTN]
  ·simp [noTN]
def foldV:zkm->List zkp->zkm
 | s,[]=>⟨s.Kind,⟨false,s.L.l⟩,s.Sealed,s.To⟩
 | s,o::l=>foldV (nextS s o) l
theorem zb1m: ∀(l:List zkq) (s:zko),(takeV s l).2=0->(takeV s l).1.State=foldV s.State (l.map (·.Op))/\(takeV s l).1.Index=s.Index+(l.length:Int)/\(l≠[]->0<=s.Index/\s.Index<4611686018427387904)
 | [],s,h=>⟨rfl,by simp [takeV,setZ],fun e=>absurd rfl e⟩
 | r::l,s,h=>by
  obtain ⟨c,d,e⟩:=zb1i h
  rw [e] at h ⊢
  obtain ⟨h1,h2,_⟩:=zb1m l (nextN s r) h
  have hb:=d
  unfold FitsR at hb
  have hi:0<=s.Index/\s.Index<4611686018427387904:=by omega
  refine ⟨h1,?_,fun _=>hi⟩
  rw [h2,show (nextN s r).Index=wrp .i64 (s.Index+1) from rfl,zbsa (by omega) (by omega),y21];omega
theorem zb1n {u:Nat} (h:u<18446744073709551616):Ev (fun q=>zo8 q (u:Int)) (zag u):=by
 have e1:Int.tmod (u:Int) 2=((u % 2:Nat):Int):=by rw [y61 (by omega)];omega
 have e2:Int.tdiv (u:Int) 2=((u / 2:Nat):Int):=by rw [Int.tdiv_eq_ediv_of_nonneg (by omega)];omega
 have e3:wrp .i64 (wrp .u64 ((u / 2:Nat):Int))=((u / 2:Nat):Int):=by rw [zbsb (by omega) (by omega),zbsa (by omega) (by omega)]
 refine Ev.succ (g:=fun _=>if (Int.tmod (u:Int) 2)=0 then (some (wrp .i64 (wrp .u64 (Int.tdiv (u:Int) 2)))) else (some (wrp .i64 ((wrp .i64 (0 - (wrp .i64 (wrp .u64 (Int.tdiv (u:Int) 2))))) - 1)))) ?_ (fun q=>rfl)
 simp only [e1,e2,e3]
 unfold zag
 refine Ev.ite (fun h=>Ev.ret' ?_) fun h=>Ev.ret' ?_
 ·rw [if_pos (by omega)]
 ·rw [if_neg (by omega),zbsa (x:=0 - ((u / 2:Nat):Int)) (by omega) (by omega),zbsa (by omega) (by omega)];omega
theorem zb1o (s:Sl Int) (hb:isB s.l) (hL:s.l.length<=1099511627776):Ev (fun q=>zo9 q s) (getS s.l):=by
 refine Ev.su (Ev.bind (zbu4 s hb hL) ?_)
 unfold getS
 cases h:rd 0 s.l with
 | none=>exact Ev.pos (by simp [resN]) (Ev.ret _)
 | some p=>
  have h1:=rd_len h
  have h2:=rd_lt hb (by omega) h
  simp only [resN]
  exact Ev.neg (by simp;omega) (Ev.bind (zb1n (by simpa using h2)) (Ev.ret _))
theorem rGet (z:Bool) {l:List Int} (hb:isB l) (hl:l.length<=1000000):Ev (fun q=>zov q ⟨z,l⟩) (getN l):=zbu5 ⟨z,l⟩ hb (by simp only;omega)
theorem rGetS (z:Bool) {l:List Int} (hb:isB l) (hl:l.length<=1000000):Ev (fun q=>zo9 q ⟨z,l⟩) (getS l):=zb1o ⟨z,l⟩ hb (by simp only;omega)
theorem zb1p (z:Bool) (L:List (Sl Int)) (hL:L.length<=1000000000): ∀(k i:Nat),L.length=i+k->Ev (fun q=>zqt q z L (i:Int)) (cutB ((L.map (·.l)).drop i))
 | 0,i,hk=>by
  refine Ev.su (Ev.ne (Ev.ret' ?_))
  rw [y12 (by rw [y24];omega)];rfl
 | k+1,i,hk=>by
  have hi:i<L.length:=by omega
  have he:L[((i:Int)).toNat]? =some L[i]:=by simp [hi]
  have ih:=zb1p z L hL k (i+1) (by omega)
  rw [show ((i+1:Nat):Int)=wrp .i64 ((i:Int)+1) by rw [zbsa (by omega) (by omega)];omega] at ih
  have w:wrp .i64 ((L.length:Int) - 1)=(L.length:Int) - 1:=zbsa (by omega) (by omega)
  rw [zbz0 hi]
  refine Ev.su (Ev.po (Ev.po (Ev.opt he (Ev.ite (fun c1=>Ev.ret' ?_) fun c1=>Ev.ite (fun c2=>Ev.ret' ?_) fun c2=>Ev.ite (fun c3=>Ev.ite (fun c4=>Ev.ret' ?_) fun c4=>Ev.cast ih ?_) fun c3=>Ev.cast ih ?_))))
  ·rw [decide_eq_false (show¬L[i].l.length<=64 by omega)];simp
  ·rw [decide_eq_false (show¬1<=L[i].l.length by omega)];rfl
  ·rw [w] at c4
   rw [decide_eq_false (show¬L[i].l.length=64 by omega),decide_eq_false (show¬L.length=i+1 by omega)];simp
  ·rw [w] at c4
   rw [decide_eq_true (show 1<=L[i].l.length by omega),decide_eq_true (show L[i].l.length<=64 by omega),decide_eq_true (show L.length=i+1 by omega)];simp
  ·rw [decide_eq_true (show 1<=L[i].l.length by omega),decide_eq_true (show L[i].l.length<=64 by omega),decide_eq_true (show L[i].l.length=64 by omega)];simp
theorem zb1q (s:Sl (Sl Int)) (hL:s.l.length<=1000000000):Ev (fun q=>zqu q s) (cutB (s.l.map (·.l))):=
 Ev.su (zb1p s.z s.l hL s.l.length 0 (by omega))
theorem dropi (l:List Int) {i j:Int} (h1:0<=i) (h2:0<=j):l.drop (i+j).toNat=(l.drop i.toNat).drop j.toNat:=by
 rw [y50];congr 1;omega
theorem zb1r (s:Sl Int) (hb:isB s.l) (hl:s.l.length<=1000000):Ev (fun q=>zqs q s) ((manD s.l).1.1,(manD s.l).1.2.1,(((manD s.l).1.2.2:Nat):Int),(manD s.l).2):=by
 by_cases h0:(s.l.length:Int)<1
 ·have e:s.l[0]? =none:=by rw [y51];omega
  have hm:manD s.l=((0,0,0),3):=by simp only [manD,e];rw [if_neg (by simp)]
  rw [hm]
  exact Ev.su (Ev.pos h0 (Ev.ret _))
 ·obtain ⟨a,he⟩: ∃a,s.l[0]? =some a:=⟨s.l[0]'(by omega),y7 (by omega)⟩
  obtain ⟨d,hd⟩: ∃d,d=s.l.drop 1:=⟨_,rfl⟩
  have hlc:s.l.length=d.length+1:=by rw [hd,y13];omega
  have hb0:isB d:=by rw [hd];exact zbul hb 1
  have hb1:=zbul hb0 (getN d).2.toNat
  have hb2:=zbul hb1 (getN (d.drop (getN d).2.toNat)).2.toNat
  have hb3:=zbul hb2 (getN ((d.drop (getN d).2.toNat).drop (getN (d.drop (getN d).2.toNat)).2.toNat)).2.toNat
  have hx:=zbue (l:=d)
  have hy:=zbue (l:=d.drop (getN d).2.toNat)
  have hz:=zbue (l:=(d.drop (getN d).2.toNat).drop (getN (d.drop (getN d).2.toNat)).2.toNat)
  simp only [y13] at hy hz
  by_cases ha:a=115
  ·have hm:manD s.l=(if (getN d).2=0 then ((0,0,0),3) else if (getN (d.drop (getN d).2.toNat)).2=0 then ((0,0,0),3) else if (getN ((d.drop (getN d).2.toNat).drop (getN (d.drop (getN d).2.toNat)).2.toNat)).2=0 then ((0,0,0),3) else if (getN d).1=3 then if (((d.drop (getN d).2.toNat).drop (getN (d.drop (getN d).2.toNat)).2.toNat).drop (getN ((d.drop (getN d).2.toNat).drop (getN (d.drop (getN d).2.toNat)).2.toNat)).2.toNat).length=4 then (((getN (d.drop (getN d).2.toNat)).1,(getN ((d.drop (getN d).2.toNat).drop (getN (d.drop (getN d).2.toNat)).2.toNat)).1,numB (((d.drop (getN d).2.toNat).drop (getN (d.drop (getN d).2.toNat)).2.toNat).drop (getN ((d.drop (getN d).2.toNat).drop (getN (d.drop (getN d).2.toNat)).2.toNat)).2.toNat)),0) else ((0,0,0),3) else ((0,0,0),6)):=by
    simp only [manD,<- hd];rw [if_pos (by rw [he,ha])]
   rw [hm]
   refine Ev.su (Ev.neg h0 (Ev.opt he (Ev.pos ha (Ev.pos (by omega) ?_))))
   have w1:wrp .i64 (1+(getN d).2)=1+(getN d).2:=zbsa (by omega) (by omega)
   have D1:s.l.drop (1+(getN d).2).toNat=d.drop (getN d).2.toNat:=by rw [dropi _ (by omega) hx.1,hd];rfl
   have w2:wrp .i64 (1+(getN d).2+(getN (d.drop (getN d).2.toNat)).2)=1+(getN d).2+(getN (d.drop (getN d).2.toNat)).2:=zbsa (by omega) (by omega)
   have D2:s.l.drop (1+(getN d).2+(getN (d.drop (getN d).2.toNat)).2).toNat=(d.drop (getN d).2.toNat).drop (getN (d.drop (getN d).2.toNat)).2.toNat:=by rw [dropi _ (by omega) hy.1,D1]
   have w3:wrp .i64 (1+(getN d).2+(getN (d.drop (getN d).2.toNat)).2+(getN ((d.drop (getN d).2.toNat).drop (getN (d.drop (getN d).2.toNat)).2.toNat)).2)=1+(getN d).2+(getN (d.drop (getN d).2.toNat)).2+(getN ((d.drop (getN d).2.toNat).drop (getN (d.drop (getN d).2.toNat)).2.toNat)).2:=zbsa (by omega) (by omega)
   have D3:s.l.drop (1+(getN d).2+(getN (d.drop (getN d).2.toNat)).2+(getN ((d.drop (getN d).2.toNat).drop (getN (d.drop (getN d).2.toNat)).2.toNat)).2).toNat=((d.drop (getN d).2.toNat).drop (getN (d.drop (getN d).2.toNat)).2.toNat).drop (getN ((d.drop (getN d).2.toNat).drop (getN (d.drop (getN d).2.toNat)).2.toNat)).2.toNat:=by rw [dropi _ (by omega) hz.1,D2]
   rw [<- hd]
   refine Ev.bind (rGet _ hb0 (by omega)) ?_
   rw [w1,D1]
   refine Ev.po (Ev.po (Ev.bind (rGet _ hb1 (by simp only [y13];omega)) ?_))
   rw [w2,D2]
   refine Ev.po (Ev.po (Ev.bind (rGet _ hb2 (by simp only [y13];omega)) ?_))
   rw [w3,D3]
   refine Ev.ite (fun c1=>Ev.ret' (by rw [if_pos c1];rfl)) fun c1=>Ev.ite (fun c2=>Ev.ret' (by rw [if_neg c1,if_pos c2];rfl)) fun c2=>Ev.ite (fun c3=>Ev.ret' (by rw [if_neg c1,if_neg c2,if_pos c3];rfl)) fun c3=>Ev.ite (fun c4=>Ev.po (Ev.po (Ev.ite (fun c5=>?_) fun c5=>Ev.ret' ?_))) fun c4=>Ev.ret' ?_
   ·have h4:(((d.drop (getN d).2.toNat).drop (getN (d.drop (getN d).2.toNat)).2.toNat).drop (getN ((d.drop (getN d).2.toNat).drop (getN (d.drop (getN d).2.toNat)).2.toNat)).2.toNat).length=4:=by simp only [y13];omega
    rw [if_neg c1,if_neg c2,if_neg c3,if_pos c4,if_pos h4]
    have hF:=zbu8 ⟨s.z,((d.drop (getN d).2.toNat).drop (getN (d.drop (getN d).2.toNat)).2.toNat).drop (getN ((d.drop (getN d).2.toNat).drop (getN (d.drop (getN d).2.toNat)).2.toNat)).2.toNat⟩ hb3 (by simp only;omega)
    exact Ev.bind hF (Ev.ret _)
   ·have h4: ¬(((d.drop (getN d).2.toNat).drop (getN (d.drop (getN d).2.toNat)).2.toNat).drop (getN ((d.drop (getN d).2.toNat).drop (getN (d.drop (getN d).2.toNat)).2.toNat)).2.toNat).length=4:=by simp only [y13];omega
    rw [if_neg c1,if_neg c2,if_neg c3,if_pos c4,if_neg h4];rfl
   ·rw [if_neg c1,if_neg c2,if_neg c3,if_neg c4];rfl
  ·have hm:manD s.l=((0,0,0),3):=by
    simp only [manD];rw [if_neg (by rw [he];simpa using ha)]
   rw [hm]
   exact Ev.su (Ev.neg h0 (Ev.opt he (Ev.neg ha (Ev.ret _))))
theorem zb1s (z:Bool) (L:List Int) (hb:isB L) (hL:L.length<=1000000) (x:Int) (sl:Bool) (to:Int) (m:Nat) (hm:m<=128): ∀(k i p:Nat) (acc:List Int),m=i+k->acc.length=i->p<=L.length->
  Ev (fun q=>zqv q z L (m:Int) (p:Int) (i:Int) x sl to acc) (stE true k (L.drop p) acc x sl to)
 | 0,i,p,acc,hk,ha,hp=>by
  unfold stE
  simp only [nums,List.append_nil]
  refine Ev.su (Ev.ne (Ev.ite (fun c1=>Ev.bind (zbyj _ (by simp only;omega)) (Ev.ite (fun c3=>Ev.ret' ?_) fun c3=>Ev.ret' ?_)) fun c1=>Ev.ret' ?_))
  ·rw [if_pos ⟨trivial,trivial,y12 (by omega)⟩,if_pos c3]
  ·rw [if_pos ⟨trivial,trivial,y12 (by omega)⟩,if_neg c3];rfl
  ·rw [if_neg (by rintro ⟨_,_,e⟩;have:=congrArg List.length e;rw [y13,y25] at this;omega)];rfl
 | k+1,i,p,acc,hk,ha,hp=>by
  have hs:=zbvn (l:=L.drop p)
  rw [y13] at hs
  have ih:=zb1s z L hb hL x sl to m hm k (i+1) (p+(getS (L.drop p)).2.toNat) (acc++[(getS (L.drop p)).1]) (by omega) (by rw [y10,List.length_singleton];omega) (by omega)
  rw [show ((i+1:Nat):Int)=wrp .i64 ((i:Int)+1) by rw [zbsa (by omega) (by omega)];omega,show ((p+(getS (L.drop p)).2.toNat:Nat):Int)=wrp .i64 ((p:Int)+(getS (L.drop p)).2) by rw [zbsa (by omega) (by omega)];omega] at ih
  rw [zbz5]
  refine Ev.succ (Ev.po (Ev.po (Ev.po (Ev.bind (rGetS z (zbul hb p) (by rw [y13];omega)) (Ev.ite (fun c=>Ev.ret' ?_) fun c=>Ev.po (Ev.cast ih ?_)))))) (fun _=>rfl)
  ·rw [decide_eq_false (by omega),Bool.and_false,zbz6];rfl
  ·rw [decide_eq_true (by omega),Bool.and_true,y50]
theorem zb1t (z:Bool) (L:List Int) (hb:isB L) (hL:L.length<=1000000) (x:Int) (sl:Bool) (to:Int) (m:Nat) (hm:m<=128) (p:Nat) (hp:p<=L.length):
  Ev (fun q=>zqw q z L (m:Int) (p:Int) x sl to) (if (nums m (L.drop p)).2.1=true/\(nums m (L.drop p)).2.2=[] then if mayS ⟨x,⟨(nums m (L.drop p)).1.isEmpty,(nums m (L.drop p)).1⟩,sl,to⟩=true then (⟨x,⟨(nums m (L.drop p)).1.isEmpty,(nums m (L.drop p)).1⟩,sl,to⟩,0) else (noS,1) else (noS,3)):=by
 by_cases h0:m=0
 ·have hn:nums m (L.drop p)=([],true,L.drop p):=by rw [h0];rfl
  simp only [hn,List.isEmpty_nil]
  refine Ev.su (Ev.ne (Ev.ite (fun c1=>Ev.bind (zbyj _ (by simp)) (Ev.ite (fun c3=>Ev.ret' ?_) fun c3=>Ev.ret' ?_)) fun c1=>Ev.ret' ?_))
  ·rw [if_pos ⟨trivial,y12 (by omega)⟩,if_pos c3]
  ·rw [if_pos ⟨trivial,y12 (by omega)⟩,if_neg c3];rfl
  ·rw [if_neg (by rintro ⟨_,e⟩;have:=congrArg List.length e;rw [y13,y25] at this;omega)];rfl
 ·obtain ⟨k,hk⟩: ∃k,m=k+1:=⟨m - 1,by omega⟩
  have hs:=zbvn (l:=L.drop p)
  rw [y13] at hs
  have ih:=zb1s z L hb hL x sl to m hm k 1 (p+(getS (L.drop p)).2.toNat) [(getS (L.drop p)).1] (by omega) rfl (by omega)
  rw [show ((1:Nat):Int)=wrp .i64 1 by rw [zbsa (by omega) (by omega)];rfl,show ((p+(getS (L.drop p)).2.toNat:Nat):Int)=wrp .i64 ((p:Int)+(getS (L.drop p)).2) by rw [zbsa (by omega) (by omega)];omega] at ih
  have e:=zbz5 true k (L.drop p) [] x sl to
  rw [y64,y47] at e
  have goal:stE true (k+1) (L.drop p) [] x sl to=(if (nums m (L.drop p)).2.1=true/\(nums m (L.drop p)).2.2=[] then if mayS ⟨x,⟨(nums m (L.drop p)).1.isEmpty,(nums m (L.drop p)).1⟩,sl,to⟩=true then (⟨x,⟨(nums m (L.drop p)).1.isEmpty,(nums m (L.drop p)).1⟩,sl,to⟩,0) else (noS,1) else (noS,3)):=by
   rw [hk]
   unfold stE
   by_cases c:(nums (k+1) (L.drop p)).2.1=true/\(nums (k+1) (L.drop p)).2.2=[]
   ·rw [if_pos ⟨rfl,c⟩,if_pos c];rfl
   ·rw [if_neg (fun e=>c e.2),if_neg c]
  rw [<- goal,e]
  refine Ev.succ (Ev.po (Ev.po (Ev.po (Ev.bind (rGetS z (zbul hb p) (by rw [y13];omega)) (Ev.ite (fun c=>Ev.ret' ?_) fun c=>Ev.cast ih ?_))))) (fun _=>rfl)
  ·rw [decide_eq_false (by omega),zbz6];rfl
  ·rw [decide_eq_true (by omega),y50]
theorem zb1u (s:Sl Int) (hb:isB s.l) (hl:s.l.length<=1000000):Ev (fun q=>zqx q s) (stD s.l):=by
 have hx:=zbue (l:=s.l)
 have hy:=zbue (l:=s.l.drop (getN s.l).2.toNat)
 have hz:=zbue (l:=(s.l.drop (getN s.l).2.toNat).drop (getN (s.l.drop (getN s.l).2.toNat)).2.toNat)
 simp only [y13] at hy hz
 have hb1:=zbul hb (getN s.l).2.toNat
 have hb2:=zbul hb1 (getN (s.l.drop (getN s.l).2.toNat)).2.toNat
 have w1:wrp .i64 ((getN s.l).2+(getN (s.l.drop (getN s.l).2.toNat)).2)=(getN s.l).2+(getN (s.l.drop (getN s.l).2.toNat)).2:=zbsa (by omega) (by omega)
 have D1:s.l.drop ((getN s.l).2+(getN (s.l.drop (getN s.l).2.toNat)).2).toNat=(s.l.drop (getN s.l).2.toNat).drop (getN (s.l.drop (getN s.l).2.toNat)).2.toNat:=dropi _ hx.1 hy.1
 have w2:wrp .i64 ((getN s.l).2+(getN (s.l.drop (getN s.l).2.toNat)).2+(getN ((s.l.drop (getN s.l).2.toNat).drop (getN (s.l.drop (getN s.l).2.toNat)).2.toNat)).2)=(((getN s.l).2+(getN (s.l.drop (getN s.l).2.toNat)).2+(getN ((s.l.drop (getN s.l).2.toNat).drop (getN (s.l.drop (getN s.l).2.toNat)).2.toNat)).2).toNat:Int):=by rw [zbsa (by omega) (by omega)];omega
 have D2:s.l.drop ((getN s.l).2+(getN (s.l.drop (getN s.l).2.toNat)).2+(getN ((s.l.drop (getN s.l).2.toNat).drop (getN (s.l.drop (getN s.l).2.toNat)).2.toNat)).2).toNat=((s.l.drop (getN s.l).2.toNat).drop (getN (s.l.drop (getN s.l).2.toNat)).2.toNat).drop (getN ((s.l.drop (getN s.l).2.toNat).drop (getN (s.l.drop (getN s.l).2.toNat)).2.toNat)).2.toNat:=by rw [dropi _ (by omega) hz.1,D1]
 have hl0:=fun sl to hm=>zb1t s.z s.l hb hl (getN s.l).1 sl to (getN ((s.l.drop (getN s.l).2.toNat).drop (getN (s.l.drop (getN s.l).2.toNat)).2.toNat)).1.toNat hm ((getN s.l).2+(getN (s.l.drop (getN s.l).2.toNat)).2+(getN ((s.l.drop (getN s.l).2.toNat).drop (getN (s.l.drop (getN s.l).2.toNat)).2.toNat)).2).toNat (by omega)
 rw [D2,show ((((getN ((s.l.drop (getN s.l).2.toNat).drop (getN (s.l.drop (getN s.l).2.toNat)).2.toNat)).1.toNat:Nat)):Int)=(getN ((s.l.drop (getN s.l).2.toNat).drop (getN (s.l.drop (getN s.l).2.toNat)).2.toNat)).1 by omega] at hl0
 have w:wrp .i64 ((getN (s.l.drop (getN s.l).2.toNat)).1 - 1)=(getN (s.l.drop (getN s.l).2.toNat)).1 - 1:=zbsa (by omega) (by omega)
 simp only [stD]
 refine Ev.su (Ev.bind (rGet s.z hb hl) (Ev.pos hx.1 (Ev.pos hx.2.1 (Ev.bind (rGet _ hb1 (by rw [y13];omega)) ?_))))
 rw [w1,D1]
 refine Ev.po (Ev.po (Ev.bind (rGet _ hb2 (by simp only [y13];omega)) ?_))
 rw [w2,w]
 refine Ev.ite (fun c1=>Ev.ret' ?_) fun c1=>Ev.ite (fun c2=>Ev.ret' ?_) fun c2=>Ev.ite (fun c3=>Ev.ret' ?_) fun c3=>Ev.ite (fun c4=>Ev.ret' ?_) fun c4=>Ev.ite (fun c5=>Ev.ret' ?_) fun c5=>?_
 ·rw [if_neg (by omega)];rfl
 ·rw [if_neg (by omega)];rfl
 ·rw [if_neg (by omega)];rfl
 ·rw [if_neg (by omega)];rfl
 ·rw [if_neg (by omega)];rfl
 ·rw [if_pos (show 0<(getN s.l).2/\0<(getN (s.l.drop (getN s.l).2.toNat)).2/\0<(getN ((s.l.drop (getN s.l).2.toNat).drop (getN (s.l.drop (getN s.l).2.toNat)).2.toNat)).2/\(getN (s.l.drop (getN s.l).2.toNat)).1<=3/\(getN ((s.l.drop (getN s.l).2.toNat).drop (getN (s.l.drop (getN s.l).2.toNat)).2.toNat)).1<=128 by omega)]
  refine Ev.ite (fun c6=>?_) fun c6=>?_
  ·refine Ev.cast (hl0 _ _ (by omega)) ?_
   unfold stR
   rw [if_neg (show¬(getN (s.l.drop (getN s.l).2.toNat)).1 - 1<0 by omega)]
  ·refine Ev.cast (hl0 _ _ (by omega)) ?_
   unfold stR
   rw [if_pos (show (getN (s.l.drop (getN s.l).2.toNat)).1 - 1<0 by omega)]
theorem zb1v (b:List Int):(entD b).1=⟨(getN b).1,(getN (b.drop (getN b).2.toNat)).1,(getS ((b.drop (getN b).2.toNat).drop (getN (b.drop (getN b).2.toNat)).2.toNat)).1⟩/\(entD b).2=(if (getN b).2=0 then 0 else if (getN (b.drop (getN b).2.toNat)).2=0 then 0 else if (getS ((b.drop (getN b).2.toNat).drop (getN (b.drop (getN b).2.toNat)).2.toNat)).2=0 then 0 else (getN b).2+(getN (b.drop (getN b).2.toNat)).2+(getS ((b.drop (getN b).2.toNat).drop (getN (b.drop (getN b).2.toNat)).2.toNat)).2):=⟨rfl,rfl⟩
/-- What becomes of a table's bytes, with those ahead. -/
def tbR (k:Nat) (b:List Int) (acc:List zkn):Ow zkn×Bool:=match ents k b with
 | none=>(⟨true,true,[]⟩,false)
 | some t=>(⟨(acc++t.1).isEmpty,true,acc++t.1⟩,decide (t.2=[]))
theorem zb1w {k:Nat} {b:List Int} {acc:List zkn} (h:(entD b).2=0):tbR (k+1) b acc=(⟨true,true,[]⟩,false):=by
 unfold tbR ents;rw [if_pos h]
theorem zb1x {k:Nat} {b:List Int} {acc:List zkn} (h:(entD b).2≠0):tbR (k+1) b acc=tbR k (b.drop (entD b).2.toNat) (acc++[(entD b).1]):=by
 unfold tbR
 have:ents (k+1) b=match ents k (b.drop (entD b).2.toNat) with | none=>none | some t=>some ((entD b).1::t.1,t.2):=if_neg h
 rw [this]
 cases ents k (b.drop (entD b).2.toNat) with
 | none=>rfl
 | some t=>simp
theorem zb1y (z:Bool) (L:List Int) (hb:isB L) (hL:L.length<=1000000) (m:Nat) (hm:m<=1000000): ∀(k i p:Nat) (hz:Bool) (acc:List zkn),m=i+k->acc.length=i->p<=L.length->hz=acc.isEmpty->
  Ev (fun q=>zqy q z L (m:Int) (p:Int) (i:Int) hz acc) (tbR k (L.drop p) acc)
 | 0,i,p,hz,acc,hk,ha,hp,hh=>by
  refine Ev.su (Ev.ne (Ev.ret' ?_))
  unfold tbR
  simp only [ents,List.append_nil,hh]
  congr 1
  by_cases c:p=L.length
  ·rw [decide_eq_true (by omega),decide_eq_true (y12 (by omega))]
  ·rw [decide_eq_false (by omega),decide_eq_false (fun e=>by have:=congrArg List.length e;rw [y13,y25] at this;omega)]
 | k+1,i,p,hz,acc,hk,ha,hp,hh=>by
  obtain ⟨d,hd⟩: ∃d,d=L.drop p:=⟨_,rfl⟩
  have hbd:isB d:=by rw [hd];exact zbul hb p
  have hld:d.length=L.length - p:=by rw [hd,y13]
  have hx:=zbue (l:=d)
  have hy:=zbue (l:=d.drop (getN d).2.toNat)
  have hs:=zbvn (l:=(d.drop (getN d).2.toNat).drop (getN (d.drop (getN d).2.toNat)).2.toNat)
  simp only [y13] at hy hs
  have hb1:=zbul hbd (getN d).2.toNat
  have hb2:=zbul hb1 (getN (d.drop (getN d).2.toNat)).2.toNat
  obtain ⟨q1,q2⟩:=zb1v d
  have w1:wrp .i64 ((p:Int)+(getN d).2)=(p:Int)+(getN d).2:=zbsa (by omega) (by omega)
  have D1:L.drop ((p:Int)+(getN d).2).toNat=d.drop (getN d).2.toNat:=by rw [dropi _ (by omega) hx.1,hd];rfl
  have w2:wrp .i64 ((p:Int)+(getN d).2+(getN (d.drop (getN d).2.toNat)).2)=(p:Int)+(getN d).2+(getN (d.drop (getN d).2.toNat)).2:=zbsa (by omega) (by omega)
  have D2:L.drop ((p:Int)+(getN d).2+(getN (d.drop (getN d).2.toNat)).2).toNat=(d.drop (getN d).2.toNat).drop (getN (d.drop (getN d).2.toNat)).2.toNat:=by rw [dropi _ (by omega) hy.1,D1]
  refine Ev.su (Ev.po (Ev.po (Ev.pos (by omega) ?_)))
  rw [y28,<- hd]
  refine Ev.bind (rGet _ hbd (by omega)) ?_
  rw [w1,D1]
  refine Ev.po (Ev.po (Ev.bind (rGet _ hb1 (by rw [y13];omega)) ?_))
  rw [w2,D2]
  refine Ev.po (Ev.po (Ev.bind (rGetS _ hb2 (by simp only [y13];omega)) ?_))
  refine Ev.ite (fun c1=>Ev.ret' ?_) fun c1=>Ev.ite (fun c2=>Ev.ret' ?_) fun c2=>Ev.ite (fun c3=>Ev.ret' ?_) fun c3=>Ev.pos (by omega) ?_
  ·rw [zb1w (by rw [q2,if_pos c1])]
  ·rw [zb1w (by rw [q2,if_neg c1,if_pos c2])]
  ·rw [zb1w (by rw [q2,if_neg c1,if_neg c2,if_pos c3])]
  ·rw [if_neg c1,if_neg c2,if_neg c3] at q2
   rw [zb1x (by omega),q1]
   have ih:=zb1y z L hb hL m hm k (i+1) (p+(entD d).2.toNat) false (acc++[⟨(getN d).1,(getN (d.drop (getN d).2.toNat)).1,(getS ((d.drop (getN d).2.toNat).drop (getN (d.drop (getN d).2.toNat)).2.toNat)).1⟩]) (by omega) (by rw [y10,List.length_singleton];omega) (by omega) (by cases acc<;>rfl)
   rw [show ((i+1:Nat):Int)=wrp .i64 ((i:Int)+1) by rw [zbsa (by omega) (by omega)];omega,show ((p+(entD d).2.toNat:Nat):Int)=wrp .i64 ((p:Int)+(getN d).2+(getN (d.drop (getN d).2.toNat)).2+(getS ((d.drop (getN d).2.toNat).drop (getN (d.drop (getN d).2.toNat)).2.toNat)).2) by rw [zbsa (by omega) (by omega)];omega] at ih
   have e2: ∀n,d.drop n=L.drop (p+n):=fun n=>by rw [hd,y50]
   refine Ev.cast ih ?_
   rw [e2 (entD d).2.toNat]
theorem zb1z (s:Sl Int) (hb:isB s.l) (hl:s.l.length<=1000000):Ev (fun q=>zqz q s) (if (getN s.l).2=0 then (⟨true,true,[]⟩,false) else if (s.l.length:Int)<(getN s.l).1 then (⟨true,true,[]⟩,false) else tbR (getN s.l).1.toNat (s.l.drop (getN s.l).2.toNat) []):=by
 have hx:=zbue (l:=s.l)
 refine Ev.su (Ev.bind (rGet s.z hb hl) (Ev.ite (fun c1=>Ev.ret' ?_) fun c1=>Ev.ite (fun c2=>Ev.ret' ?_) fun c2=>?_))
 ·rw [if_pos c1]
 ·rw [if_neg c1,if_pos c2]
 ·rw [if_neg c1,if_neg c2]
  have:=zb1y s.z s.l hb hl (getN s.l).1.toNat (by omega) (getN s.l).1.toNat 0 (getN s.l).2.toNat true [] (by omega) rfl (by omega) rfl
  rw [show ((((getN s.l).1.toNat:Nat)):Int)=(getN s.l).1 by omega,show ((((getN s.l).2.toNat:Nat)):Int)=(getN s.l).2 by omega] at this
  exact this
theorem zb10 (s:Sl Int) (hb:isB s.l) (hl:s.l.length<=1000000): ∃r,Ev (fun q=>zq0 q s) (r,(whD s.l).2)/\((whD s.l).2=0->r=mkN 0 (whD s.l).1):=by
 have hn:=zbue (l:=s.l)
 have g1:=rGet s.z hb hl
 unfold whD
 by_cases c1:(getN s.l).2=0
 ·rw [if_pos c1];exact ⟨_,Ev.su (Ev.bind g1 (Ev.pos c1 (Ev.ret _))),fun h=>by cases h⟩
 ·rw [if_neg c1]
  have w1:wrp .i64 ((s.l.length:Int) - (getN s.l).2)=(s.l.length:Int) - (getN s.l).2:=zbsa (by omega) (by omega)
  by_cases c2:(s.l.length:Int) - (getN s.l).2<(getN s.l).1
  ·rw [if_pos c2];exact ⟨_,Ev.su (Ev.bind g1 (Ev.neg c1 (Ev.pos (by rw [w1];exact c2) (Ev.ret _)))),fun h=>by cases h⟩
  ·rw [if_neg c2]
   have w2:wrp .i64 ((getN s.l).2+(getN s.l).1)=(getN s.l).2+(getN s.l).1:=zbsa (by omega) (by omega)
   generalize hX:(s.l.take ((getN s.l).2+(getN s.l).1).toNat).drop (getN s.l).2.toNat=X
   generalize hW:s.l.drop ((getN s.l).2+(getN s.l).1).toNat=W
   have hbX:isB X:=by rw [<- hX];exact zbul (zbuk hb _) _
   have hlX:X.length<=1000000:=by rw [<- hX,y13,y20];omega
   have hbW:isB W:=by rw [<- hW];exact zbul hb _
   have hlW:W.length=s.l.length - ((getN s.l).2+(getN s.l).1).toNat:=by rw [<- hW,y13]
   have hS:=zb1u ⟨s.z,X⟩ hbX hlX
   have hT:=zb1z ⟨s.z,W⟩ hbW (by simp only;omega)
   simp only at hS hT
   have pre: ∀{r:zko×Int} {t:Ow zkn×Bool},Ev (fun q=>zqz q ⟨s.z,W⟩) t->r=(if (stD X).2=3 then ((⟨0,(⟨0,⟨true,[]⟩,false,0⟩:zkm),⟨true,[]⟩⟩:zko),3) else if t.2=true then ((⟨0,(stD X).1,⟨t.1.n,t.1.xs⟩⟩:zko),(stD X).2) else ((⟨0,(⟨0,⟨true,[]⟩,false,0⟩:zkm),⟨true,[]⟩⟩:zko),3))->Ev (fun q=>zq0 q s) r:=fun {r t} ht hr=>by
    refine Ev.su (Ev.bind g1 (Ev.neg c1 (Ev.neg (by rw [w1];exact c2) (Ev.pos hn.1 (Ev.pos (by rw [w2];omega) (Ev.pos (by rw [w2];omega) ?_))))))
    rw [w2,hX,hW]
    refine Ev.bind hS (Ev.po (Ev.po (Ev.bind ht (Ev.ite (fun d1=>Ev.ret' ?_) fun d1=>Ev.ite (fun d2=>Ev.ret' ?_) fun d2=>Ev.ret' ?_))))
    ·rw [hr,if_pos d1]
    ·rw [hr,if_neg d1,if_pos d2]
    ·rw [hr,if_neg d1,if_neg d2]
   by_cases c3:(stD X).2=3
   ·rw [if_pos c3];exact ⟨_,pre hT (by rw [if_pos c3]),fun h=>by cases h⟩
   ·rw [if_neg c3]
    by_cases c4:(getN W).2=0
    ·rw [if_pos c4] at hT ⊢;exact ⟨_,pre hT (by rw [if_neg c3,if_neg (by simp)]),fun h=>by cases h⟩
    ·rw [if_neg c4] at hT ⊢
     by_cases c5:(W.length:Int)<(getN W).1
     ·rw [if_pos c5] at hT ⊢;exact ⟨_,pre hT (by rw [if_neg c3,if_neg (by simp)]),fun h=>by cases h⟩
     ·rw [if_neg c5] at hT ⊢
      cases he:ents (getN W).1.toNat (W.drop (getN W).2.toNat) with
      | none=>
       have:tbR (getN W).1.toNat (W.drop (getN W).2.toNat) []=(⟨true,true,[]⟩,false):=by unfold tbR;rw [he]
       rw [this] at hT
       exact ⟨_,pre hT (by rw [if_neg c3,if_neg (by simp)]),fun h=>by cases h⟩
      | some t=>
       have:tbR (getN W).1.toNat (W.drop (getN W).2.toNat) []=(⟨t.1.isEmpty,true,t.1⟩,decide (t.2=[])):=by unfold tbR;rw [he];rfl
       rw [this] at hT
       simp only
       by_cases c6:t.2=[]
       ·rw [if_pos c6]
        exact ⟨mkN 0 ((stD X).1,t.1),pre hT (by rw [if_neg c3,if_pos (by simpa using c6)];rfl),fun h=>rfl⟩
       ·rw [if_neg c6]
        exact ⟨noN,pre hT (by rw [if_neg c3,if_neg (by simpa using c6)];rfl),fun h=>by cases h⟩
/-- What the loop of Decode goes on with. -/
def refTail (q:Nat) (v7 v8 v9:Int) (h2z:Bool) (h2l:List (Sl Int)) (h3z:Bool) (h3l:List Int):Option (zko×Int):=
 (if (h3l.length:Int)=v8 then (if 1<=h2l.length then ((zqu q ⟨h2z,(List.drop 1 h2l)⟩).bind fun r5=>(if r5=true then ((zo0 q ⟨h3z,h3l⟩).bind fun r6=>(if (wrp .u64 r6)=v9 then ((zq0 q ⟨h3z,h3l⟩).bind fun r7=>(if r7.2=0 then ((zk3 q (⟨v7,r7.1.State,r7.1.Table⟩:zko)).bind fun r8=>(if r8=true then (some ((⟨v7,r7.1.State,r7.1.Table⟩:zko),0)) else (some ((⟨0,(⟨0,⟨true,[]⟩,false,0⟩:zkm),⟨true,[]⟩⟩:zko),1)))) else (some ((⟨0,(⟨0,⟨true,[]⟩,false,0⟩:zkm),⟨true,[]⟩⟩:zko),r7.2)))) else (some ((⟨0,(⟨0,⟨true,[]⟩,false,0⟩:zkm),⟨true,[]⟩⟩:zko),4)))) else (some ((⟨0,(⟨0,⟨true,[]⟩,false,0⟩:zkm),⟨true,[]⟩⟩:zko),3)))) else none) else (some ((⟨0,(⟨0,⟨true,[]⟩,false,0⟩:zkm),⟨true,[]⟩⟩:zko),16)))
theorem zb11 (v7 v8 v9:Int) (z:Bool) (X:List (Sl Int)) (x:Bool) (hL:X.length<=1000000): ∀(k i:Nat) (hz:Bool) (acc:List Int),X.length=i+k->acc.length+(flat (X.drop i)).length<=4294967296->
  ∃z',∀{r},Ev (fun q=>refTail q v7 v8 v9 z X z' (acc++flat (X.drop i))) r->Ev (fun q=>zq1 q v7 v8 v9 (i:Int) z X x hz acc) r
 | 0,i,hz,acc,hk,hl=>by
  refine ⟨hz,fun {r} h=>Ev.su (Ev.neg (by omega) ?_)⟩
  rw [y12 (by omega)] at h
  simp only [flat,List.flatMap_nil,List.append_nil] at h
  exact h
 | k+1,i,hz,acc,hk,hl=>by
  have hi:i<X.length:=by omega
  have hg:X[(i:Int).toNat]? =some X[i]:=by simpa using y7 hi
  rw [y9 hi,zbt1,y10] at hl
  obtain ⟨z',ih⟩:=zb11 v7 v8 v9 z X x hL k (i+1) (hz && (decide (X[i].l.length=0))) (acc++X[i].l) (by omega) (by rw [y10];omega)
  refine ⟨z',fun {r} h=>Ev.su (Ev.po (Ev.po (Ev.po (Ev.opt hg (Ev.pos (by omega) ?_)))))⟩
  rw [zbsa (by omega) (by omega),show ((i:Int)+1)=((i+1:Nat):Int) by omega]
  refine ih ?_
  rw [y33,<- zbt1,<- y9 hi];exact h
theorem zb12 {w:List Int} (hb:isB w) (hl:w.length<=1000000) (h:(whD w).2=0):(whD w).1.1.L.l.length<=1000000/\(whD w).1.2.length<=1000000:=by
 have hiv:=zbzp hb h 0
 have hst:(stateB (whD w).1.1).length<=w.length:=by
  have:(stateB (whD w).1.1).length<=(wholeB (mkN 0 (whD w).1)).length:=by simp only [wholeB,mkN,y10];omega
  rw [hiv] at this;exact this
 have htb:(tabE (whD w).1.2).length<=w.length:=by
  have:(tabE (whD w).1.2).length<=(wholeB (mkN 0 (whD w).1)).length:=by simp only [wholeB,mkN,y10];omega
  rw [hiv] at this;exact this
 have g1: ∀l:List Int,l.length<=(numsB l).length:=fun l=>by
  induction l with
  | nil=>simp
  | cons a l ih=>have:=zby8 a;rw [zby0,y10,y21];omega
 have g2: ∀l:List zkn,l.length<=(tabE l).length:=fun l=>by
  induction l with
  | nil=>simp
  | cons e l ih=>have:=zby8 e.Resp;rw [zby1,y10,y21];simp only [entB,y10];omega
 have h1:=g1 (whD w).1.1.L.l
 have h2:=g2 (whD w).1.2
 simp only [stateB,y10] at hst
 omega
theorem zb13 (s:Sl Int) (hb:isB s.l) (hl:s.l.length<=1000000):Ev (fun q=>zq2 q s) (snD s.l):=by
 obtain ⟨z,X,hA,hX⟩:=zbvg s hb (by omega)
 have hme:=zbze hb
 have hlo:=zb0g hb
 unfold snD
 by_cases c0:(allE s.l).2=0
 ·rw [if_pos c0]
  rw [<- hX] at hme hlo ⊢
  rw [c0] at hA
  by_cases hx:X.length=0
  ·have hX0:X=[]:=y35 hx
   refine Ev.su (Ev.bind hA (Ev.pos rfl (Ev.pos (by simp only;omega) (Ev.ret' ?_))))
   rw [hX0];rfl
  ·obtain ⟨e,he⟩: ∃e,X[0]? =some e:=⟨X[0]'(by omega),y7 (by omega)⟩
   obtain ⟨T,hT⟩: ∃T,T=X.drop 1:=⟨_,rfl⟩
   have hXe:X=e::T:=by
    cases X with
    | nil=>simp at hx
    | cons a X=>simp only [y37,y4] at he;rw [hT,he];rfl
   have hml:X.map (·.l)=e.l::T.map (·.l):=by rw [hXe,y34]
   rw [hml] at hme hlo ⊢
   dsimp only
   have hbe:=hme e.l y32
   have hbt:isB (T.map (·.l)).flatten:=zbzu fun d hd=>(hme d (y36 _ hd)).1
   have hTl:T.length+1<=1000000:=by have:=hlo.2;rw [y21,y24] at this;omega
   have hTf:(T.map (·.l)).flatten.length<=1000000:=by have:=hlo.1;rw [List.flatten_cons,y10] at this;omega
   have hel:e.l.length<=1000000:=by have:=hlo.1;rw [List.flatten_cons,y10] at this;omega
   have hM:=zb1r e hbe.1 hel
   have hXl:X.length=T.length+1:=by rw [hXe,y21]
   have hfl:flat (X.drop 1)=(T.map (·.l)).flatten:=by rw [<- hT,zb0e]
   obtain ⟨z',hloop⟩:=zb11 (manD e.l).1.1 (manD e.l).1.2.1 (((manD e.l).1.2.2:Nat):Int) z X true (by omega) T.length 1 true [] (by omega) (by rw [hfl,y25];omega)
   rw [hfl,y47] at hloop
   have hK:=zb1q ⟨z,T⟩ (by simp only;omega)
   generalize (T.map (·.l)).flatten=w at hbt hTf hloop ⊢
   have hS:=zbux ⟨z',w⟩ hbt (by simp only;omega)
   obtain ⟨r,hR,hr⟩:=zb10 ⟨z',w⟩ hbt hTf
   simp only at hS hR hr hK
   have hn:noN=(⟨0,(⟨0,⟨true,[]⟩,false,0⟩:zkm),⟨true,[]⟩⟩:zko):=rfl
   simp only [hn]
   refine Ev.su (Ev.bind hA ?_)
   refine Ev.pos rfl (Ev.neg (by simp only;omega) (Ev.pos (by simp only;omega) (Ev.opt he (Ev.bind hM ?_))))
   refine Ev.ite (fun c1=>?_) fun c1=>Ev.ret' (by simp only at c1;rw [if_neg c1])
   simp only at c1
   rw [if_pos c1]
   refine hloop ?_
   unfold refTail
   rw [<- hT]
   refine Ev.ite (fun c2=>?_) fun c2=>Ev.ret' (by rw [if_neg c2])
   rw [if_pos c2]
   refine Ev.po (Ev.bind hK (Ev.ite (fun c3=>?_) fun c3=>Ev.ret' (by rw [if_neg c3])))
   rw [if_pos c3]
   have hw:wrp .u64 (u (bsum w))=(((bsum w).toNat:Nat):Int):=by rw [zbsb (u_nn _) (by have:=u_lt (bsum w);omega)];rfl
   refine Ev.bind hS (Ev.ite (fun c4=>?_) fun c4=>Ev.ret' (by rw [hw] at c4;rw [if_neg (fun e=>c4 (by rw [e]))]))
   rw [hw] at c4
   rw [if_pos (by omega)]
   refine Ev.bind hR (Ev.ite (fun c5=>?_) fun c5=>Ev.ret' (by simp only at c5;rw [if_neg c5]))
   simp only at c5
   have hr:=hr c5
   subst hr
   rw [if_pos c5]
   have hbnd:=zb12 hbt hTf c5
   refine Ev.bind (zbyq (mkN (manD e.l).1.1 (whD w).1) hbnd.1 hbnd.2) (Ev.ite (fun c6=>Ev.ret' ?_) fun c6=>Ev.ret' ?_)
   ·rw [if_pos c6];rfl
   ·rw [if_neg c6]
 ·rw [if_neg c0]
  exact Ev.su (Ev.bind hA (Ev.neg c0 (Ev.ret _)))
def srt2:Int->List Int->Prop
 | last,a::_::l=>last<a/\srt2 a l
 | _,_=>True
theorem zb14: ∀{l:List Int} {least last:Int},prs least last l=true->srt2 last l
 | [],_,_,_=>trivial
 | [a],_,_,_=>trivial
 | a::b::l,least,last,h=>by
  simp only [prs,y6,decide_eq_true_eq] at h
  exact ⟨h.1,zb14 h.2.2.2.2⟩
theorem isL_no: ∀{l:List Int} {last key:Int},srt2 last l->key<=last->isL key l=false
 | [],_,_,_,_=>rfl
 | [_],_,_,_,_=>rfl
 | a::b::l,last,key,h,hk=>by
  have:=h.1
  simp only [isL]
  rw [if_neg (by omega),decide_eq_false (by omega)]
theorem zb15: ∀{l:List Int} {key:Int},l.length % 2=0->isL key l=false->delL key l=l
 | [],_,_,_=>rfl
 | [a],_,h,_=>by simp at h
 | a::b::l,key,he,h=>by
  simp only [isL,delL] at h ⊢
  split at h
  ·rename_i c;rw [if_pos c,zb15 (by simp only [y21] at he;omega) h]
  ·rename_i c;rw [if_neg c,if_neg (by simpa using h)]
theorem zb16 {key n:Int}: ∀{l:List Int} {last:Int},srt2 last l->last<key->srt2 last (putL key n l)
 | [],_,_,h=>⟨h,trivial⟩
 | [a],_,_,h=>⟨h,trivial⟩
 | a::b::l,last,h,hk=>by
  simp only [putL]
  split
  ·rename_i c;exact ⟨h.1,zb16 h.2 c⟩
  ·split
   ·exact h
   ·exact ⟨hk,by have:=h.1;omega,h.2⟩
theorem zb17 {f t y:Int} (hne:f≠t): ∀{l:List Int},isL f l=true->isL f (putL t y l)=true
 | [],h=>by simp [isL] at h
 | [a],h=>by simp [isL] at h
 | a::b::l,h=>by
  simp only [isL] at h
  simp only [putL]
  split at h
  ·rename_i c
   split
   ·simp only [isL];rw [if_pos c];exact zb17 hne h
   ·split
    ·simp only [isL];rw [if_pos c];exact h
    ·simp only [isL];rw [if_pos (by omega),if_pos c];exact h
  ·rename_i c
   have e:a=f:=by simpa using h
   split
   ·simp only [isL];rw [if_neg c];exact h
   ·split
    ·omega
    ·simp only [isL];rw [if_pos (by omega),if_neg c];exact h
theorem zb18 {f t x y:Int} (hne:f≠t): ∀{l:List Int},isL f l=true->putL f x (putL t y l)=putL t y (putL f x l)
 | [],h=>by simp [isL] at h
 | [a],h=>by simp [isL] at h
 | a ::b::l,h=>by
  simp only [isL] at h
  split at h
  ·rename_i c
   have e1: ∀v w:Int,∀m,putL f x (a::w::m)=a::w::putL f x m:=fun v w m=>by simp only [putL];rw [if_pos c]
   rw [e1 0 b l]
   simp only [putL]
   by_cases d:a<t
   ·rw [if_pos d,if_pos d,e1 0,zb18 hne h]
   ·rw [if_neg d,if_neg d]
    by_cases e:a=t
    ·rw [if_pos e,if_pos e,e1 0]
    ·rw [if_neg e,if_neg e]
     have e2:putL f x (t::y::a::b::l)=t::y::putL f x (a::b::l):=by
      rw [putL];rw [if_pos (by omega)]
     rw [e2,e1 0]
  ·rename_i c
   have e:a=f:=by simpa using h
   subst e
   have e1: ∀w:Int,∀m,putL a x (a::w::m)=a::x::m:=fun w m=>by simp only [putL];rw [if_neg (by omega)];simp
   rw [e1]
   simp only [putL]
   by_cases d:a<t
   ·rw [if_pos d,if_pos d,e1]
   ·rw [if_neg d,if_neg d,if_neg hne,if_neg hne]
    have e2:putL a x (t::y::a::b::l)=t::y::putL a x (a::b::l):=by
     rw [putL];rw [if_pos (by omega)]
    rw [e2,e1]
def fdR (key:Int) (i:Nat) (l:List Int):Int:=if isL key l=true then ((i+findN key l:Nat):Int) else -1
theorem two_at {L:List Int} {i:Nat} (hi1:i+1<L.length):L.drop i=L[i]::L[i+1]::L.drop (i+2):=by rw [y9 (by omega),y9 hi1]
theorem zb19 (z:Bool) (L:List Int) (key:Int) (hL:L.length<=1000000): ∀(k i:Nat) (last:Int),L.length=i+2*k->srt2 last (L.drop i)->
  Ev (fun q=>zqd q z L key (i:Int)) (fdR key i (L.drop i))
 | 0,i,last,hk,hs=>by
  rw [y12 (by omega)]
  exact Ev.su (Ev.ne (Ev.ret' rfl))
 | k+1,i,last,hk,hs=>by
  have hi:i<L.length:=by omega
  have he:L[((i:Int)).toNat]? =some L[i]:=by simp [hi]
  rw [two_at (by omega)] at hs ⊢
  have ih:=zb19 z L key hL k (i+2) L[i] (by omega) hs.2
  rw [show ((i+2:Nat):Int)=wrp .i64 ((i:Int)+2) by rw [zbsa (by omega) (by omega)];omega] at ih
  by_cases c:L[i]=key
  ·refine Ev.su (Ev.po (Ev.po (Ev.opt he (Ev.pos c (Ev.ret' ?_)))))
   unfold fdR
   have e1:isL key (L[i]::L[i+1]::L.drop (i+2))=true:=by simp only [isL];rw [if_neg (by omega),decide_eq_true c]
   have e2:findN key (L[i]::L[i+1]::L.drop (i+2))=0:=by simp only [findN];rw [if_neg (by omega)]
   rw [if_pos e1,e2];omega
  ·refine Ev.su (Ev.po (Ev.po (Ev.opt he (Ev.neg c (Ev.cast ih ?_)))))
   unfold fdR
   by_cases d:L[i]<key
   ·have e1:isL key (L[i]::L[i+1]::L.drop (i+2))=isL key (L.drop (i+2)):=by simp only [isL];rw [if_pos d]
    have e2:findN key (L[i]::L[i+1]::L.drop (i+2))=findN key (L.drop (i+2))+2:=by simp only [findN];rw [if_pos d]
    rw [e1,e2,show i+2+findN key (L.drop (i+2))=i+(findN key (L.drop (i+2))+2) by omega]
   ·have e1:isL key (L[i]::L[i+1]::L.drop (i+2))=false:=by simp only [isL];rw [if_neg d,decide_eq_false c]
    rw [isL_no hs.2 (by omega),e1];simp
theorem zb2a (s:Sl Int) (key:Int) (hL:s.l.length<=1000000) (h2:s.l.length % 2=0) {last:Int} (hs:srt2 last s.l):Ev (fun q=>zqe q s key) (fdR key 0 s.l):=by
 have h:=zb19 s.z s.l key hL (s.l.length / 2) 0 last (by omega) (by rw [y38];exact hs)
 rw [y38] at h
 exact Ev.su h
theorem zb2b (z:Bool) (L:List Int) (key n:Int) (hL:L.length<=1000000): ∀(k i:Nat) (last:Int) (y:Bool) (acc:List Int),L.length=i+2*k->srt2 last (L.drop i)->key<=last->acc.length<=i+2->acc≠[]->y=false->
  Ev (fun q=>zqh q z L key n true (i:Int) y acc) ⟨false,true,acc++L.drop i⟩
 | 0,i,last,y,acc,hk,hs,hl,ha,hn,hy=>by
  rw [y12 (by omega),List.append_nil,hy]
  exact Ev.su (Ev.ne (Ev.pos rfl (Ev.ret _)))
 | k+1,i,last,y,acc,hk,hs,hl,ha,hn,hy=>by
  have hi:i<L.length:=by omega
  have he:L[((i:Int)).toNat]? =some L[i]:=by simp [hi]
  have hi1:i+1<L.length:=by omega
  have he1:L[(wrp .i64 ((i:Int)+1)).toNat]? =some L[i+1]:=by
   rw [show wrp .i64 ((i:Int)+1)=((i+1:Nat):Int) by rw [zbsa (by omega) (by omega)];omega,y28];exact y7 hi1
  rw [two_at hi1] at hs ⊢
  have ih:=zb2b z L key n hL k (i+2) L[i] false ((acc++[L[i]])++[L[i+1]]) (by omega) hs.2 (by have:=hs.1;omega) (by simp only [y10,List.length_singleton];omega) (by simp) rfl
  rw [show ((i+2:Nat):Int)=wrp .i64 ((i:Int)+2) by rw [zbsa (by omega) (by omega)];omega] at ih
  refine Ev.su (Ev.po (Ev.pos rfl (Ev.po (Ev.opt he (Ev.neg (by have:=hs.1;omega) (Ev.po (Ev.pos (by rw [zbsa (by omega) (by omega)];omega) (Ev.opt he1 (Ev.po (Ev.cast ih ?_))))))))))
  simp
theorem zb2c (z:Bool) (L:List Int) (key n:Int) (hL:L.length<=1000000): ∀(k i:Nat) (last:Int) (y:Bool) (acc:List Int),L.length=i+2*k->srt2 last (L.drop i)->acc.length<=i->
  Ev (fun q=>zqh q z L key n false (i:Int) y acc) ⟨false,true,acc++putL key n (L.drop i)⟩
 | 0,i,last,y,acc,hk,hs,ha=>by
  rw [y12 (by omega)]
  refine Ev.su (Ev.ne (Ev.neg (by simp) (Ev.po (Ev.po (Ev.ret' ?_)))))
  simp [putL]
 | k+1,i,last,y,acc,hk,hs,ha=>by
  have hi:i<L.length:=by omega
  have he:L[((i:Int)).toNat]? =some L[i]:=by simp [hi]
  have hi1:i+1<L.length:=by omega
  have he1:L[(wrp .i64 ((i:Int)+1)).toNat]? =some L[i+1]:=by
   rw [show wrp .i64 ((i:Int)+1)=((i+1:Nat):Int) by rw [zbsa (by omega) (by omega)];omega,y28];exact y7 hi1
  have w1:0<=wrp .i64 ((i:Int)+1):=by rw [zbsa (by omega) (by omega)];omega
  have w2:((i+2:Nat):Int)=wrp .i64 ((i:Int)+2):=by rw [zbsa (by omega) (by omega)];omega
  rw [two_at hi1] at hs ⊢
  by_cases c:key<=L[i]
  ·by_cases d:L[i]=key
   ·have h:=zb2b z L key n hL k (i+2) L[i] false ((acc++[key])++[n]) (by omega) hs.2 c (by simp only [y10,List.length_singleton];omega) (by simp) rfl
    rw [w2] at h
    refine Ev.su (Ev.po (Ev.neg (by simp) (Ev.po (Ev.opt he (Ev.pos c (Ev.po (Ev.po (Ev.pos d (Ev.cast h ?_)))))))))
    simp only [putL];rw [if_neg (by omega),if_pos d,<- d];simp
   ·have h:=zb2b z L key n hL k (i+2) L[i] false ((((acc++[key])++[n])++[L[i]])++[L[i+1]]) (by omega) hs.2 c (by simp only [y10,List.length_singleton];omega) (by simp) rfl
    rw [w2] at h
    refine Ev.su (Ev.po (Ev.neg (by simp) (Ev.po (Ev.opt he (Ev.pos c (Ev.po (Ev.po (Ev.neg d (Ev.po (Ev.pos w1 (Ev.opt he1 (Ev.po (Ev.cast h ?_)))))))))))))
    simp only [putL];rw [if_neg (by omega),if_neg d];simp
  ·have h:=zb2c z L key n hL k (i+2) L[i] false ((acc++[L[i]])++[L[i+1]]) (by omega) hs.2 (by simp only [y10,List.length_singleton];omega)
   rw [w2] at h
   refine Ev.su (Ev.po (Ev.neg (by simp) (Ev.po (Ev.opt he (Ev.neg c (Ev.ne (Ev.po (Ev.pos w1 (Ev.opt he1 (Ev.po (Ev.cast h ?_)))))))))))
   simp only [putL];rw [if_pos (by omega)];simp
theorem zb2d (s:Sl Int) (key n:Int) (hL:s.l.length<=1000000) (h2:s.l.length % 2=0) {last:Int} (hs:srt2 last s.l):Ev (fun q=>zqi q s key n) ⟨false,true,putL key n s.l⟩:=by
 have h:=zb2c s.z s.l key n hL (s.l.length / 2) 0 last true [] (by omega) (by rw [y38];exact hs) (by simp)
 rw [y38,y47] at h
 exact Ev.su h
theorem zb2e (z:Bool) (L:List Int) (key:Int) (hL:L.length<=1000000): ∀(k i:Nat) (last:Int) (y:Bool) (acc:List Int),L.length=i+2*k->srt2 last (L.drop i)->acc.length<=i->(y=true->acc=[])->
  ∃x,(x=true->acc++delL key (L.drop i)=[])/\Ev (fun q=>zqf q z L key (i:Int) y acc) ⟨x,true,acc++delL key (L.drop i)⟩
 | 0,i,last,y,acc,hk,hs,ha,hy=>by
  rw [y12 (by omega)]
  have e:acc++delL key []=acc:=by simp [delL]
  rw [e]
  exact ⟨y,hy,Ev.su (Ev.ne (Ev.ret _))⟩
 | k +1,i,last,y,acc,hk,hs,ha,hy=>by
  have hi:i<L.length:=by omega
  have he:L[((i:Int)).toNat]? =some L[i]:=by simp [hi]
  have hi1:i+1<L.length:=by omega
  have he1:L[(wrp .i64 ((i:Int)+1)).toNat]? =some L[i+1]:=by
   rw [show wrp .i64 ((i:Int)+1)=((i+1:Nat):Int) by rw [zbsa (by omega) (by omega)];omega,y28];exact y7 hi1
  have w1:0<=wrp .i64 ((i:Int)+1):=by rw [zbsa (by omega) (by omega)];omega
  have w2:((i+2:Nat):Int)=wrp .i64 ((i:Int)+2):=by rw [zbsa (by omega) (by omega)];omega
  have hev:(L.drop (i+2)).length % 2=0:=by rw [y13];omega
  rw [two_at hi1] at hs ⊢
  by_cases c:L[i]=key
  ·obtain ⟨x,hx,h⟩:=zb2e z L key hL k (i+2) L[i] y acc (by omega) hs.2 (by omega) hy
   rw [w2] at h
   have e:delL key (L[i]::L[i+1]::L.drop (i+2))=delL key (L.drop (i+2)):=by
    rw [zb15 hev (isL_no hs.2 (by omega))]
    simp only [delL];rw [if_neg (by omega),if_pos c]
   rw [e]
   exact ⟨x,hx,Ev.su (Ev.po (Ev.po (Ev.opt he (Ev.pos c h))))⟩
  ·obtain ⟨x,hx,h⟩:=zb2e z L key hL k (i+2) L[i] false ((acc++[L[i]])++[L[i+1]]) (by omega) hs.2 (by simp only [y10,List.length_singleton];omega) (fun h=>by cases h)
   rw [w2] at h
   have e:acc++delL key (L[i]::L[i+1]::L.drop (i+2))=((acc++[L[i]])++[L[i+1]])++delL key (L.drop (i+2)):=by
    by_cases d:L[i]<key
    ·simp only [delL];rw [if_pos d];simp
    ·rw [zb15 hev (isL_no hs.2 (by omega))]
     simp only [delL];rw [if_neg d,if_neg c];simp
   rw [e]
   exact ⟨x,hx,Ev.su (Ev.po (Ev.po (Ev.opt he (Ev.neg c (Ev.po (Ev.pos w1 (Ev.opt he1 (Ev.pos (by omega) h))))))))⟩
theorem zb2f (s:Sl Int) (key:Int) (hL:s.l.length<=1000000) (h2:s.l.length % 2=0) {last:Int} (hs:srt2 last s.l): ∃x,(x=true->delL key s.l=[])/\Ev (fun q=>zqg q s key) ⟨x,true,delL key s.l⟩:=by
 obtain ⟨x,hx,h⟩:=zb2e s.z s.l key hL (s.l.length / 2) 0 last true [] (by omega) (by rw [y38];exact hs) (by simp) (fun _=>rfl)
 rw [y38,y47] at hx h
 exact ⟨x,hx,Ev.su h⟩
theorem fd_is {key:Int} {l:List Int} (h2:l.length % 2=0) (hL:l.length<=1000000) (h:isL key l=true):0<=fdR key 0 l/\0<=wrp .i64 (fdR key 0 l+1)/\l[(wrp .i64 (fdR key 0 l+1)).toNat]? =some (hasL key l):=by
 have hp:=(zb0w key l h2).2.1 h
 have e:fdR key 0 l=(findN key l:Int):=by unfold fdR;rw [if_pos h,y43]
 have w:wrp .i64 (fdR key 0 l+1)=((findN key l+1:Nat):Int):=by rw [e,zbsa (by omega) (by omega)];omega
 rw [w,e,y28]
 exact ⟨by omega,by omega,hp.2⟩
theorem fd_no {key:Int} {l:List Int} (h2:l.length % 2=0) (h: ¬isL key l=true):fdR key 0 l= -1/\hasL key l= -1:=by
 have hp:=(zb0w key l h2).2.2 (by simpa using h)
 exact ⟨by unfold fdR;rw [if_neg h],hp⟩
theorem zb2g (s:zkm) (hz:s.L.z=true->s.L.l=[]) (h1:s.L.l.length=1) (o:zkp):Comes zqb s o (numV s.Kind s.L.l o):=by
 obtain ⟨n,hn⟩: ∃n,s.L.l=[n]:=List.length_eq_one_iff.1 h1
 have hg:s.L.l[0]? =some n:=by rw [hn];rfl
 have hh:s.L.l.headD 0=n:=by rw [hn];rfl
 unfold Comes numV
 rw [hh]
 by_cases k0:s.Kind=0
 ·by_cases c1:o.Code=1
  ·rw [if_neg (by omega),if_pos ⟨k0,c1⟩]
   refine ⟨false,fun h=>(by cases h),Ev.su (Ev.opt hg (Ev.pos k0 (Ev.pos c1 (Ev.bind (zbsq _) ?_))))⟩
   exact Ev.bind (zbsq (wrp .i64 (n+cutI o.A))) (Ev.ret' rfl)
  ·by_cases c7:o.Code=7
   ·rw [if_pos c7]
    exact ⟨s.L.z,hz,Ev.su (Ev.opt hg (Ev.pos k0 (Ev.neg c1 (Ev.ne (Ev.pos c7 (Ev.ret _))))))⟩
   ·rw [if_neg c7,if_neg (fun h=>c1 h.2),if_neg (fun h=>by omega)]
    exact ⟨s.L.z,hz,Ev.su (Ev.opt hg (Ev.pos k0 (Ev.neg c1 (Ev.ne (Ev.neg c7 (Ev.ret _))))))⟩
 ·by_cases k1:s.Kind=1
  ·by_cases c2:o.Code=2
   ·rw [if_neg (by omega),if_neg (fun h=>k0 h.1),if_pos ⟨k1,c2⟩]
    refine ⟨false,fun h=>(by cases h),Ev.su (Ev.opt hg (Ev.neg k0 (Ev.pos k1 (Ev.pos c2 ?_))))⟩
    exact Ev.bind (zbsq o.A) (Ev.ret' rfl)
   ·by_cases c7:o.Code=7
    ·rw [if_pos c7]
     exact ⟨s.L.z,hz,Ev.su (Ev.opt hg (Ev.neg k0 (Ev.pos k1 (Ev.neg c2 (Ev.pos c7 (Ev.ret _))))))⟩
    ·rw [if_neg c7,if_neg (fun h=>k0 h.1),if_neg (fun h=>c2 h.2)]
     exact ⟨s.L.z,hz,Ev.su (Ev.opt hg (Ev.neg k0 (Ev.pos k1 (Ev.neg c2 (Ev.neg c7 (Ev.ret _))))))⟩
  ·by_cases c7:o.Code=7
   ·rw [if_pos c7]
    exact ⟨s.L.z,hz,Ev.su (Ev.opt hg (Ev.neg k0 (Ev.neg k1 (Ev.pos c7 (Ev.ret _)))))⟩
   ·rw [if_neg c7,if_neg (fun h=>k0 h.1),if_neg (fun h=>k1 h.1)]
    exact ⟨s.L.z,hz,Ev.su (Ev.opt hg (Ev.neg k0 (Ev.neg k1 (Ev.neg c7 (Ev.ret _)))))⟩
theorem zb2h (s:zkm) (hz:s.L.z=true->s.L.l=[]) (hL:s.L.l.length<=64) (o:zkp):Comes zqc s o (linV s.Kind s.L.l o):=by
 unfold Comes linV
 by_cases c3:o.Code=3
 ·rw [if_neg (by omega),if_pos c3]
  by_cases d:(s.L.l.length:Int)=64
  ·rw [if_neg (by omega)]
   exact ⟨s.L.z,hz,Ev.su (Ev.pos c3 (Ev.pos d (Ev.ret _)))⟩
  ·rw [if_pos (by omega)]
   refine ⟨false,fun h=>(by cases h),Ev.su (Ev.pos c3 (Ev.neg d (Ev.po (Ev.bind (zbsq _) (Ev.pos (by omega) ?_)))))⟩
   exact Ev.ret' (by rw [zbsa (by omega) (by omega)];rfl)
 ·by_cases c4:o.Code=4
  ·rw [if_neg (by omega),if_neg c3,if_pos c4]
   by_cases d:(s.L.l.length:Int)=0
   ·rw [if_pos d]
    exact ⟨s.L.z,hz,Ev.su (Ev.neg c3 (Ev.pos c4 (Ev.pos d (Ev.ret _))))⟩
   ·rw [if_neg d]
    have hdz:decide (s.L.l.length=0)=false:=by rw [decide_eq_false_iff_not];omega
    by_cases k2:s.Kind=2
    ·rw [if_pos k2]
     have hg:s.L.l[0]? =some (s.L.l.headD 0):=by
      cases hl:s.L.l with
      | nil=>rw [hl] at d;simp at d
      | cons a t=>rfl
     refine ⟨false,fun h=>(by cases h),Ev.su (Ev.neg c3 (Ev.pos c4 (Ev.neg d (Ev.po (Ev.pos k2 (Ev.po (Ev.po (Ev.opt hg ?_))))))))⟩
     exact Ev.ret' (by rw [hdz];rfl)
    ·rw [if_neg k2]
     have w1:wrp .i64 ((s.L.l.length:Int) - 1)=((s.L.l.length - 1:Nat):Int):=by rw [zbsa (by omega) (by omega)];omega
     have hg:s.L.l[s.L.l.length - 1]? =some ((s.L.l[s.L.l.length - 1]?).getD 0):=by
      rw [y7 (by omega)];rfl
     refine ⟨false,fun h=>(by cases h),Ev.su (Ev.neg c3 (Ev.pos c4 (Ev.neg d (Ev.po (Ev.neg k2 ?_)))))⟩
     rw [w1]
     refine Ev.po (Ev.po (Ev.ne (Ev.po (Ev.opt (by rw [y28];exact hg) ?_))))
     exact Ev.ret' (by rw [y28,hdz];rfl)
  ·by_cases c7:o.Code=7
   ·rw [if_pos c7]
    exact ⟨s.L.z,hz,Ev.su (Ev.neg c3 (Ev.neg c4 (Ev.pos c7 (Ev.ret _))))⟩
   ·rw [if_neg c7,if_neg c3,if_neg c4]
    exact ⟨s.L.z,hz,Ev.su (Ev.neg c3 (Ev.neg c4 (Ev.neg c7 (Ev.ret _))))⟩
theorem zb2i (s:zkm) (hz:s.L.z=true->s.L.l=[]) (hL:s.L.l.length<=128) (h2:s.L.l.length % 2=0) (hs:srt2 (-1) s.L.l) (o:zkp):Comes zqj s o (stoV s.L.l o):=by
 have hF:=zb2a s.L o.A (by omega) h2 hs
 have hW:=zb2d s.L o.A (cutI o.B) (by omega) h2 hs
 obtain ⟨x,hx,hO⟩:=zb2f s.L o.A (by omega) h2 hs
 unfold Comes stoV
 by_cases c7:o.Code=7
 ·rw [if_pos (.inl c7)]
  by_cases a0:o.A<0
  ·rw [if_pos (.inl a0)]
   exact ⟨s.L.z,hz,Ev.su (Ev.pos c7 (Ev.pos a0 (Ev.ret _)))⟩
  ·by_cases a1:255<o.A
   ·rw [if_pos (.inr a1)]
    exact ⟨s.L.z,hz,Ev.su (Ev.pos c7 (Ev.neg a0 (Ev.pos a1 (Ev.ret _))))⟩
   ·rw [if_neg (by omega),if_neg (fun h=>by omega),if_neg (by omega)]
    by_cases d:isL o.A s.L.l=true
    ·obtain ⟨f1,f2,f3⟩:=fd_is h2 (by omega) d
     refine ⟨s.L.z,hz,Ev.su (Ev.pos c7 (Ev.neg a0 (Ev.neg a1 (Ev.bind hF (Ev.pos f1 (Ev.pos f2 (Ev.opt f3 (Ev.ne (Ev.neg (by omega) ?_)))))))))⟩
     exact Ev.ret' rfl
    ·obtain ⟨f1,f2⟩:=fd_no h2 d
     refine ⟨s.L.z,hz,Ev.su (Ev.pos c7 (Ev.neg a0 (Ev.neg a1 (Ev.bind hF (Ev.neg (by rw [f1];omega) (Ev.ne (Ev.neg (by omega) ?_)))))))⟩
     exact Ev.ret' (by rw [f2];rfl)
 ·by_cases c6:o.Code=6
  ·rw [if_pos (.inr (.inl c6))]
   by_cases a0:o.A<0
   ·rw [if_pos (.inl a0)]
    exact ⟨s.L.z,hz,Ev.su (Ev.neg c7 (Ev.pos c6 (Ev.pos a0 (Ev.ret _))))⟩
   ·by_cases a1:255<o.A
    ·rw [if_pos (.inr a1)]
     exact ⟨s.L.z,hz,Ev.su (Ev.neg c7 (Ev.pos c6 (Ev.neg a0 (Ev.pos a1 (Ev.ret _)))))⟩
    ·rw [if_neg (show¬(o.A<0\/255<o.A) by omega)]
     by_cases d:isL o.A s.L.l=true
     ·rw [if_pos ⟨c6,d⟩]
      obtain ⟨f1,f2,f3⟩:=fd_is h2 (by omega) d
      refine ⟨x,hx,Ev.su (Ev.neg c7 (Ev.pos c6 (Ev.neg a0 (Ev.neg a1 (Ev.bind hF (Ev.pos f1 (Ev.pos f2 (Ev.opt f3 (Ev.bind hO (Ev.neg (by omega) ?_))))))))))⟩
      exact Ev.ret' rfl
     ·rw [if_neg (fun h=>d h.2),if_neg (by omega)]
      obtain ⟨f1,f2⟩:=fd_no h2 d
      have hdn:=zb15 h2 (show isL o.A s.L.l=false by simpa using d)
      rw [hdn] at hx hO
      refine ⟨x,hx,Ev.su (Ev.neg c7 (Ev.pos c6 (Ev.neg a0 (Ev.neg a1 (Ev.bind hF (Ev.neg (by rw [f1];omega) (Ev.bind hO (Ev.neg (by omega) ?_))))))))⟩
      exact Ev.ret' (by rw [f2];rfl)
  ·by_cases c5:o.Code=5
   ·rw [if_pos (.inr (.inr c5))]
    by_cases a0:o.A<0
    ·rw [if_pos (.inl a0)]
     exact ⟨s.L.z,hz,Ev.su (Ev.neg c7 (Ev.neg c6 (Ev.pos c5 (Ev.pos a0 (Ev.ret _)))))⟩
    ·by_cases a1:255<o.A
     ·rw [if_pos (.inr a1)]
      exact ⟨s.L.z,hz,Ev.su (Ev.neg c7 (Ev.neg c6 (Ev.pos c5 (Ev.neg a0 (Ev.pos a1 (Ev.ret _))))))⟩
     ·rw [if_neg (show¬(o.A<0\/255<o.A) by omega),if_neg (fun h=>by omega),if_pos c5]
      by_cases d:isL o.A s.L.l=true
      ·rw [if_pos (show putOk o.A s.L.l=true by unfold putOk;rw [d];rfl)]
       obtain ⟨f1,f2,f3⟩:=fd_is h2 (by omega) d
       refine ⟨false,fun h=>(by cases h),Ev.su (Ev.neg c7 (Ev.neg c6 (Ev.pos c5 (Ev.neg a0 (Ev.neg a1 (Ev.bind hF (Ev.pos f1 (Ev.pos f2 (Ev.opt f3 (Ev.ne (Ev.bind (zbsq _) ?_)))))))))))⟩
       exact Ev.bind hW (Ev.ret' rfl)
      ·obtain ⟨f1,f2⟩:=fd_no h2 d
       have hpo:putOk o.A s.L.l=decide (s.L.l.length<128):=by unfold putOk;rw [show isL o.A s.L.l=false by simpa using d];rfl
       by_cases e:(s.L.l.length:Int)=128
       ·rw [if_neg (by rw [hpo,decide_eq_true_eq];omega)]
        refine ⟨s.L.z,hz,Ev.su (Ev.neg c7 (Ev.neg c6 (Ev.pos c5 (Ev.neg a0 (Ev.neg a1 (Ev.bind hF (Ev.neg (by rw [f1];omega) (Ev.pos (by rw [f1];omega) (Ev.pos e ?_)))))))))⟩
        exact Ev.ret _
       ·rw [if_pos (by rw [hpo,decide_eq_true_eq];omega)]
        refine ⟨false,fun h=>(by cases h),Ev.su (Ev.neg c7 (Ev.neg c6 (Ev.pos c5 (Ev.neg a0 (Ev.neg a1 (Ev.bind hF (Ev.neg (by rw [f1];omega) (Ev.pos (by rw [f1];omega) (Ev.neg e (Ev.bind (zbsq _) ?_))))))))))⟩
        exact Ev.bind hW (Ev.ret' (by rw [f2];rfl))
   ·rw [if_neg (by omega)]
    exact ⟨s.L.z,hz,Ev.su (Ev.neg c7 (Ev.neg c6 (Ev.neg c5 (Ev.ret _))))⟩
theorem zb2j {key:Int}: ∀{l:List Int} {last:Int},prs 0 last l=true->isL key l=true->0<=hasL key l
 | [],_,_,h=>by simp [isL] at h
 | [a],_,_,h=>by simp [isL] at h
 | a::b::l,last,hp,h=>by
  simp only [prs,y6,decide_eq_true_eq] at hp
  simp only [isL,hasL] at h ⊢
  split at h
  ·rename_i c;rw [if_pos c];exact zb2j hp.2.2.2.2 h
  ·rename_i c;rw [if_neg c,if_pos (by simpa using h)];exact hp.2.2.1
theorem zb2k (s:zkm) (hz:s.L.z=true->s.L.l=[]) (hL:s.L.l.length<=128) (h2:s.L.l.length % 2=0) (hp:prs 0 (-1) s.L.l=true) (o:zkp):Comes zqk s o (movV s.L.l o):=by
 have hs:=zb14 hp
 unfold Comes movV
 by_cases a0:o.A<0
 ·rw [if_pos (.inl a0)]
  exact ⟨s.L.z,hz,Ev.su (Ev.pos a0 (Ev.ret _))⟩
 by_cases a1:65535<o.A
 ·rw [if_pos (.inr (.inl (by omega)))]
  exact ⟨s.L.z,hz,Ev.su (Ev.neg a0 (Ev.pos a1 (Ev.ret _)))⟩
 by_cases b0:o.B<0
 ·rw [if_pos (.inr (.inr b0))]
  exact ⟨s.L.z,hz,Ev.su (Ev.neg a0 (Ev.neg a1 (Ev.pos b0 (Ev.ret _))))⟩
 rw [if_neg (show¬(o.A<0\/65536<=o.A\/o.B<0) by omega)]
 have hf0:0<=wrp .i64 (Int.tdiv o.A 256):=by
  have:Int.tdiv o.A 256=o.A / 256:=Int.tdiv_eq_ediv_of_nonneg (by omega)
  rw [this,zbsa (by omega) (by omega)];omega
 have ht0:0<=Int.tmod o.A 256:=by
  rw [y61 (by omega)];omega
 have hFf:=zb2a s.L (wrp .i64 (Int.tdiv o.A 256)) (by omega) h2 hs
 have hFt:=zb2a s.L (Int.tmod o.A 256) (by omega) h2 hs
 generalize hf:wrp .i64 (Int.tdiv o.A 256)=f at hf0 hFf ⊢
 generalize ht:Int.tmod o.A 256=t at ht0 hFt ⊢
 have start: ∀{r:zkm×Int} {g:Nat->Option (zkm×Int)},(∀q,((zqe q s.L f).bind fun r1=>((zqe q s.L t).bind fun r2=>(if r1<0 then (some (s,0)) else (if 0<=(wrp .i64 (r1+1)) then ((s.L.l[(wrp .i64 (r1+1)).toNat]?).bind fun e3=>(if e3<o.B then (some (s,0)) else (if f=t then (some (s,1)) else (if 0<=r2 then (if 0<=(wrp .i64 (r2+1)) then ((s.L.l[(wrp .i64 (r2+1)).toNat]?).bind fun e4=>(if r2<0 then (if (s.L.l.length:Int)=128 then (some (s,0)) else (if 1099511627776<(wrp .i64 (e4+o.B)) then (some (s,0)) else ((zqi q s.L f (wrp .i64 (e3 - o.B))).bind fun r5=>((zqi q ⟨r5.n,r5.xs⟩ t (wrp .i64 (e4+o.B))).bind fun r6=>(some ((⟨s.Kind,⟨r6.n,r6.xs⟩,s.Sealed,s.To⟩:zkm),1)))))) else (if 1099511627776<(wrp .i64 (e4+o.B)) then (some (s,0)) else ((zqi q s.L f (wrp .i64 (e3 - o.B))).bind fun r7=>((zqi q ⟨r7.n,r7.xs⟩ t (wrp .i64 (e4+o.B))).bind fun r8=>(some ((⟨s.Kind,⟨r8.n,r8.xs⟩,s.Sealed,s.To⟩:zkm),1))))))) else none) else (if r2<0 then (if (s.L.l.length:Int)=128 then (some (s,0)) else (if 1099511627776<(wrp .i64 (0+o.B)) then (some (s,0)) else ((zqi q s.L f (wrp .i64 (e3 - o.B))).bind fun r9=>((zqi q ⟨r9.n,r9.xs⟩ t (wrp .i64 (0+o.B))).bind fun r10=>(some ((⟨s.Kind,⟨r10.n,r10.xs⟩,s.Sealed,s.To⟩:zkm),1)))))) else (if 1099511627776<(wrp .i64 (0+o.B)) then (some (s,0)) else ((zqi q s.L f (wrp .i64 (e3 - o.B))).bind fun r11=>((zqi q ⟨r11.n,r11.xs⟩ t (wrp .i64 (0+o.B))).bind fun r12=>(some ((⟨s.Kind,⟨r12.n,r12.xs⟩,s.Sealed,s.To⟩:zkm),1)))))))))) else none))))=g q)->Ev g r->Ev (fun q=>zqk q s o) r:=fun hg h=>by
  refine Ev.succ (g:=fun q=>if o.A<0 then (some (s,0)) else (if 65535<o.A then (some (s,0)) else (if o.B<0 then (some (s,0)) else _))) (Ev.neg a0 (Ev.neg a1 (Ev.neg b0 h))) (fun q=>?_)
  rw [<- hg q,<- hf,<- ht];rfl
 by_cases df:isL f s.L.l=true
 ·obtain ⟨f1,f2,f3⟩:=fd_is h2 (by omega) df
  by_cases c1:hasL f s.L.l<o.B
  ·rw [if_pos c1]
   refine ⟨s.L.z,hz,start (fun q=>rfl) (Ev.bind hFf (Ev.bind hFt (Ev.ne (Ev.pos f2 (Ev.opt f3 (Ev.pos c1 ?_))))))⟩
   exact Ev.ret _
  rw [if_neg c1]
  by_cases c2:f=t
  ·rw [if_pos c2]
   refine ⟨s.L.z,hz,start (fun q=>rfl) (Ev.bind hFf (Ev.bind hFt (Ev.ne (Ev.pos f2 (Ev.opt f3 (Ev.neg c1 (Ev.pos c2 ?_)))))))⟩
   exact Ev.ret _
  rw [if_neg c2]
  have hW1:=zb2d s.L f (wrp .i64 (hasL f s.L.l - o.B)) (by omega) h2 hs
  have hlen:=zb0x f (wrp .i64 (hasL f s.L.l - o.B)) s.L.l h2
  rw [if_pos df,Nat.add_zero] at hlen
  have hs1:=zb16 (n:=wrp .i64 (hasL f s.L.l - o.B)) hs (show (-1:Int)<f by omega)
  have hW2:=fun y=>zb2d ⟨false,putL f (wrp .i64 (hasL f s.L.l - o.B)) s.L.l⟩ t y (by simp only;omega) (by simp only;omega) hs1
  simp only at hW2
  have fin: ∀y,putOk f (putL t y s.L.l)=true:=fun y=>by unfold putOk;rw [zb17 c2 df];rfl
  by_cases dt:isL t s.L.l=true
  ·obtain ⟨g1,g2,g3⟩:=fd_is h2 (by omega) dt
   have hnz:nz (hasL t s.L.l)=hasL t s.L.l:=by
    have:=zb2j hp dt
    unfold nz;rw [if_neg (by omega)]
   rw [if_pos (show putOk t s.L.l=true by unfold putOk;rw [dt];rfl),hnz]
   by_cases c4:1099511627776<wrp .i64 (hasL t s.L.l+o.B)
   ·rw [if_pos c4]
    refine ⟨s.L.z,hz,start (fun q=>rfl) (Ev.bind hFf (Ev.bind hFt (Ev.ne (Ev.pos f2 (Ev.opt f3 (Ev.neg c1 (Ev.neg c2 (Ev.pos g1 (Ev.pos g2 (Ev.opt g3 (Ev.ne (Ev.pos c4 ?_))))))))))))⟩
    exact Ev.ret _
   ·rw [if_neg c4,if_pos (fin _),zb18 c2 df]
    refine ⟨false,fun h=>(by cases h),start (fun q=>rfl) (Ev.bind hFf (Ev.bind hFt (Ev.ne (Ev.pos f2 (Ev.opt f3 (Ev.neg c1 (Ev.neg c2 (Ev.pos g1 (Ev.pos g2 (Ev.opt g3 (Ev.ne (Ev.neg c4 (Ev.bind hW1 ?_)))))))))))))⟩
    exact Ev.bind (hW2 _) (Ev.ret' rfl)
  ·obtain ⟨g1,g2⟩:=fd_no h2 dt
   have hnz:nz (hasL t s.L.l)=0:=by rw [g2];rfl
   have hpo:putOk t s.L.l=decide (s.L.l.length<128):=by unfold putOk;rw [show isL t s.L.l=false by simpa using dt];rfl
   rw [hnz]
   by_cases e:(s.L.l.length:Int)=128
   ·rw [if_neg (by rw [hpo,decide_eq_true_eq];omega)]
    refine ⟨s.L.z,hz,start (fun q=>rfl) (Ev.bind hFf (Ev.bind hFt (Ev.ne (Ev.pos f2 (Ev.opt f3 (Ev.neg c1 (Ev.neg c2 (Ev.neg (by rw [g1];omega) (Ev.pos (by rw [g1];omega) (Ev.pos e ?_))))))))))⟩
    exact Ev.ret _
   ·rw [if_pos (by rw [hpo,decide_eq_true_eq];omega)]
    by_cases c4:1099511627776<wrp .i64 (0+o.B)
    ·rw [if_pos c4]
     refine ⟨s.L.z,hz,start (fun q=>rfl) (Ev.bind hFf (Ev.bind hFt (Ev.ne (Ev.pos f2 (Ev.opt f3 (Ev.neg c1 (Ev.neg c2 (Ev.neg (by rw [g1];omega) (Ev.pos (by rw [g1];omega) (Ev.neg e (Ev.pos c4 ?_)))))))))))⟩
     exact Ev.ret _
    ·rw [if_neg c4,if_pos (fin _),zb18 c2 df]
     refine ⟨false,fun h=>(by cases h),start (fun q=>rfl) (Ev.bind hFf (Ev.bind hFt (Ev.ne (Ev.pos f2 (Ev.opt f3 (Ev.neg c1 (Ev.neg c2 (Ev.neg (by rw [g1];omega) (Ev.pos (by rw [g1];omega) (Ev.neg e (Ev.neg c4 (Ev.bind hW1 ?_))))))))))))⟩
     exact Ev.bind (hW2 _) (Ev.ret' rfl)
 ·obtain ⟨f1,f2⟩:=fd_no h2 df
  rw [if_pos (by rw [f2];omega)]
  refine ⟨s.L.z,hz,start (fun q=>rfl) (Ev.bind hFf (Ev.bind hFt (Ev.pos (by rw [f1];omega) ?_)))⟩
  exact Ev.ret _
theorem zb2l (s:zkm) (hz:s.L.z=true->s.L.l=[]) (hL:s.L.l.length<=128) (h2:s.L.l.length % 2=0) (hp:prs 0 (-1) s.L.l=true) (o:zkp):Comes zql s o (ledV s.L.l o):=by
 have hs:=zb14 hp
 unfold ledV
 by_cases c9:o.Code=9
 ·rw [if_pos c9]
  obtain ⟨z,h1,h3⟩:=zb2k s hz hL h2 hp o
  refine ⟨z,h1,Ev.su (Ev.pos c9 (Ev.bind h3 ?_))⟩
  exact Ev.ret' rfl
 unfold Comes
 rw [if_neg c9]
 have hF:=zb2a s.L o.A (by omega) h2 hs
 by_cases c7:o.Code=7
 ·rw [if_pos c7]
  by_cases a0:o.A<0
  ·rw [if_pos (.inl a0)]
   exact ⟨s.L.z,hz,Ev.su (Ev.neg c9 (Ev.pos c7 (Ev.pos a0 (Ev.ret _))))⟩
  ·by_cases a1:255<o.A
   ·rw [if_pos (.inr a1)]
    exact ⟨s.L.z,hz,Ev.su (Ev.neg c9 (Ev.pos c7 (Ev.neg a0 (Ev.pos a1 (Ev.ret _)))))⟩
   ·rw [if_neg (by omega)]
    by_cases d:isL o.A s.L.l=true
    ·obtain ⟨f1,f2,f3⟩:=fd_is h2 (by omega) d
     refine ⟨s.L.z,hz,Ev.su (Ev.neg c9 (Ev.pos c7 (Ev.neg a0 (Ev.neg a1 (Ev.bind hF (Ev.pos f1 (Ev.pos f2 (Ev.opt f3 ?_))))))))⟩
     exact Ev.ret' rfl
    ·obtain ⟨f1,f2⟩:=fd_no h2 d
     refine ⟨s.L.z,hz,Ev.su (Ev.neg c9 (Ev.pos c7 (Ev.neg a0 (Ev.neg a1 (Ev.bind hF (Ev.neg (by rw [f1];omega) ?_))))))⟩
     exact Ev.ret' (by rw [f2];rfl)
 ·rw [if_neg c7]
  by_cases c8:o.Code=8
  ·rw [if_pos c8]
   by_cases a0:o.A<0
   ·rw [if_pos (.inl a0)]
    exact ⟨s.L.z,hz,Ev.su (Ev.neg c9 (Ev.neg c7 (Ev.pos c8 (Ev.pos a0 (Ev.ret _)))))⟩
   ·by_cases a1:255<o.A
    ·rw [if_pos (.inr (.inl a1))]
     exact ⟨s.L.z,hz,Ev.su (Ev.neg c9 (Ev.neg c7 (Ev.pos c8 (Ev.neg a0 (Ev.pos a1 (Ev.ret _))))))⟩
    ·have hW:=fun n=>zb2d s.L o.A n (by omega) h2 hs
     by_cases d:isL o.A s.L.l=true
     ·obtain ⟨f1,f2,f3⟩:=fd_is h2 (by omega) d
      by_cases b0:o.B<0
      ·rw [if_pos (.inr (.inr b0))]
       refine ⟨s.L.z,hz,Ev.su (Ev.neg c9 (Ev.neg c7 (Ev.pos c8 (Ev.neg a0 (Ev.neg a1 (Ev.bind hF (Ev.pos f1 (Ev.pos f2 (Ev.opt f3 (Ev.pos b0 ?_))))))))))⟩
       exact Ev.ret _
      ·rw [if_neg (show¬(o.A<0\/255<o.A\/o.B<0) by omega),if_pos (show putOk o.A s.L.l=true by unfold putOk;rw [d];rfl)]
       have hh:=zb2j hp d
       have hnz:nz (hasL o.A s.L.l)=hasL o.A s.L.l:=by unfold nz;rw [if_neg (by omega)]
       rw [hnz]
       refine ⟨false,fun h=>(by cases h),Ev.su (Ev.neg c9 (Ev.neg c7 (Ev.pos c8 (Ev.neg a0 (Ev.neg a1 (Ev.bind hF (Ev.pos f1 (Ev.pos f2 (Ev.opt f3 (Ev.neg b0 (Ev.ne (Ev.ne (Ev.bind (zbsq o.B) (Ev.bind (zbsq _) ?_))))))))))))))⟩
       exact Ev.bind (hW _) (Ev.ret' rfl)
     ·obtain ⟨f1,f2⟩:=fd_no h2 d
      by_cases b0:o.B<0
      ·rw [if_pos (.inr (.inr b0))]
       refine ⟨s.L.z,hz,Ev.su (Ev.neg c9 (Ev.neg c7 (Ev.pos c8 (Ev.neg a0 (Ev.neg a1 (Ev.bind hF (Ev.neg (by rw [f1];omega) (Ev.pos b0 ?_))))))))⟩
       exact Ev.ret _
      ·rw [if_neg (show¬(o.A<0\/255<o.A\/o.B<0) by omega)]
       have hpo:putOk o.A s.L.l=decide (s.L.l.length<128):=by unfold putOk;rw [show isL o.A s.L.l=false by simpa using d];rfl
       by_cases e:(s.L.l.length:Int)=128
       ·rw [if_neg (by rw [hpo,decide_eq_true_eq];omega)]
        refine ⟨s.L.z,hz,Ev.su (Ev.neg c9 (Ev.neg c7 (Ev.pos c8 (Ev.neg a0 (Ev.neg a1 (Ev.bind hF (Ev.neg (by rw [f1];omega) (Ev.neg b0 (Ev.pos (by rw [f1];omega) (Ev.pos e ?_))))))))))⟩
        exact Ev.ret _
       ·rw [if_pos (by rw [hpo,decide_eq_true_eq];omega)]
        have hnz:nz (hasL o.A s.L.l)=0:=by rw [f2];rfl
        rw [hnz]
        refine ⟨false,fun h=>(by cases h),Ev.su (Ev.neg c9 (Ev.neg c7 (Ev.pos c8 (Ev.neg a0 (Ev.neg a1 (Ev.bind hF (Ev.neg (by rw [f1];omega) (Ev.neg b0 (Ev.pos (by rw [f1];omega) (Ev.neg e (Ev.bind (zbsq o.B) (Ev.bind (zbsq _) ?_))))))))))))⟩
        exact Ev.bind (hW _) (Ev.ret' rfl)
  ·rw [if_neg c8]
   exact ⟨s.L.z,hz,Ev.su (Ev.neg c9 (Ev.neg c7 (Ev.neg c8 (Ev.ret _))))⟩
theorem zb2m {k:Int} {l:List Int} (h:kindOk k l=true) (h0: ¬(k=0\/k=1)) (h2:k=2\/k=3):l.length<=64:=by
 unfold kindOk at h
 rw [if_neg h0,if_pos h2,decide_eq_true_eq] at h;exact h.1
theorem zb2n {k:Int} {l:List Int} (h:kindOk k l=true) (h4:k=4):prs (-1099511627776) (-1) l=true:=by
 unfold kindOk at h
 rw [if_neg (by omega),if_neg (by omega),if_pos h4] at h
 simp only [pairsOk,y6] at h;exact h.1
theorem zb2o {k:Int} {l:List Int} (h:kindOk k l=true) (h5:k=5):prs 0 (-1) l=true:=by
 unfold kindOk at h
 rw [if_neg (by omega),if_neg (by omega),if_neg (by omega),if_pos h5] at h
 simp only [pairsOk,y6] at h;exact h.1
theorem zb2p (s:zkm) (hz:s.L.z=true->s.L.l=[]) (hL:s.L.l.length<=900000) (o:zkp): ∃z,(z=true->(stepV s o).1.1=[])/\Ev (fun q=>zqm q s o) (stV s z (stepV s o)):=by
 have hM:=zbyj s (by omega)
 unfold stepV stV
 by_cases m:mayS s=true
 ·rw [if_pos m]
  rw [m] at hM
  have hk:=(zbyw m).2.2.2
  have hko:=zbyv hk
  by_cases hs:s.Sealed=true
  ·rw [if_pos hs]
   exact ⟨s.L.z,hz,Ev.su (Ev.bind hM (Ev.pos rfl (Ev.pos hs (Ev.ret _))))⟩
  rw [if_neg hs]
  by_cases c:o.Code=10
  ·rw [if_pos c]
   refine ⟨s.L.z,hz,Ev.su (Ev.bind hM (Ev.pos rfl (Ev.neg hs (Ev.pos c (Ev.ite (fun a0=>Ev.ite (fun a1=>Ev.ret' ?_) fun a1=>Ev.ret' ?_) fun a0=>Ev.ret' ?_)))))⟩
   ·rw [if_pos ⟨a0,by omega⟩]
   ·rw [if_neg (fun h=>a1 (by omega))]
   ·rw [if_neg (fun h=>a0 h.1)]
  rw [if_neg c]
  by_cases k0:s.Kind=0
  ·obtain ⟨z,h1,h3⟩:=zb2g s hz (zb06 hk (.inl k0)) o
   rw [if_pos (show s.Kind=0\/s.Kind=1 from .inl k0)]
   refine ⟨z,h1,Ev.su (Ev.bind hM (Ev.pos rfl (Ev.neg hs (Ev.neg c (Ev.pos k0 (Ev.bind h3 ?_))))))⟩
   exact Ev.ret' rfl
  by_cases k1:s.Kind=1
  ·obtain ⟨z,h1,h3⟩:=zb2g s hz (zb06 hk (.inr k1)) o
   rw [if_pos (show s.Kind=0\/s.Kind=1 from .inr k1)]
   refine ⟨z,h1,Ev.su (Ev.bind hM (Ev.pos rfl (Ev.neg hs (Ev.neg c (Ev.neg k0 (Ev.pos k1 (Ev.bind h3 ?_)))))))⟩
   exact Ev.ret' rfl
  rw [if_neg (show¬(s.Kind=0\/s.Kind=1) by omega)]
  by_cases k2:s.Kind=2
  ·obtain ⟨z,h1,h3⟩:=zb2h s hz (zb2m hk (by omega) (.inl k2)) o
   rw [if_pos (show s.Kind=2\/s.Kind=3 from .inl k2)]
   refine ⟨z,h1,Ev.su (Ev.bind hM (Ev.pos rfl (Ev.neg hs (Ev.neg c (Ev.neg k0 (Ev.neg k1 (Ev.pos k2 (Ev.bind h3 ?_))))))))⟩
   exact Ev.ret' rfl
  by_cases k3:s.Kind=3
  ·obtain ⟨z,h1,h3⟩:=zb2h s hz (zb2m hk (by omega) (.inr k3)) o
   rw [if_pos (show s.Kind=2\/s.Kind=3 from .inr k3)]
   refine ⟨z,h1,Ev.su (Ev.bind hM (Ev.pos rfl (Ev.neg hs (Ev.neg c (Ev.neg k0 (Ev.neg k1 (Ev.neg k2 (Ev.pos k3 (Ev.bind h3 ?_)))))))))⟩
   exact Ev.ret' rfl
  rw [if_neg (show¬(s.Kind=2\/s.Kind=3) by omega)]
  have h2:=zb05 hk (by omega) (by omega)
  by_cases k4:s.Kind=4
  ·obtain ⟨z,h1,h3⟩:=zb2i s hz hko.2.2.1 h2 (zb14 (zb2n hk k4)) o
   rw [if_pos k4]
   refine ⟨z,h1,Ev.su (Ev.bind hM (Ev.pos rfl (Ev.neg hs (Ev.neg c (Ev.neg k0 (Ev.neg k1 (Ev.neg k2 (Ev.neg k3 (Ev.pos k4 (Ev.bind h3 ?_))))))))))⟩
   exact Ev.ret' rfl
  ·have k5:s.Kind=5:=by omega
   obtain ⟨z,h1,h3⟩:=zb2l s hz hko.2.2.1 h2 (zb2o hk k5) o
   rw [if_neg k4]
   refine ⟨z,h1,Ev.su (Ev.bind hM (Ev.pos rfl (Ev.neg hs (Ev.neg c (Ev.neg k0 (Ev.neg k1 (Ev.neg k2 (Ev.neg k3 (Ev.neg k4 (Ev.pos k5 (Ev.bind h3 ?_)))))))))))⟩
   exact Ev.ret' rfl
 ·rw [if_neg m]
  rw [show mayS s=false by simpa using m] at hM
  exact ⟨s.L.z,hz,Ev.su (Ev.bind hM (Ev.neg (by simp) (Ev.ret _)))⟩
/-- The document's table. -/
theorem zb2q (p:Int) (e:zkn) (l:List zkn):filP p (e::l)=if e.Proc=p then filP p l else e::filP p l:=by
 unfold filP;rw [List.filter_cons];by_cases c:e.Proc=p<;>simp [c]
theorem zb2r (z:Bool) (L:List zkn) (hL:L.length<=1000000) (p0 p s0 p3 p4 p5 x:Int): ∀(k i:Nat) (d:Bool) (y:Bool) (acc:List zkn),L.length=i+k->acc.length<=i+1->(¬d=true->acc.length<=i)->(d=true->y=false)->
  Ev (fun q=>zqn q z L d (i:Int) p0 p s0 p3 p4 p5 x y acc) ⟨false,true,acc++(if d=true then filP p (L.drop i) else insE ⟨p,s0,x⟩ (filP p (L.drop i)))⟩
 | 0,i,d,y,acc,hk,ha,ha2,hd=>by
  rw [y12 (by omega)]
  by_cases c:d=true
  ·rw [if_pos c]
   refine Ev.su (Ev.ne (Ev.pos c (Ev.ret' ?_)))
   rw [hd c];simp [filP]
  ·rw [if_neg c]
   exact Ev.su (Ev.ne (Ev.neg c (Ev.po (Ev.ret' (by simp [filP,insE])))))
 | k +1,i,d,y,acc,hk,ha,ha2,hd=>by
  have hi:i<L.length:=by omega
  have he:L[((i:Int)).toNat]? =some L[i]:=by simp [hi]
  have w:((i+1:Nat):Int)=wrp .i64 ((i:Int)+1):=by rw [zbsa (by omega) (by omega)];omega
  rw [y9 hi,zb2q]
  by_cases c:d=true
  ·rw [if_pos c]
   by_cases e:L[i].Proc=p
   ·rw [if_pos e]
    have ih:=zb2r z L hL p0 p s0 p3 p4 p5 x k (i+1) d y acc (by omega) (by omega) (fun h=>by have:=ha2 h;omega) hd
    rw [w,if_pos c] at ih
    exact Ev.su (Ev.po (Ev.pos c (Ev.po (Ev.opt he (Ev.pos e ih)))))
   ·rw [if_neg e]
    have ih:=zb2r z L hL p0 p s0 p3 p4 p5 x k (i+1) d false (acc++[L[i]]) (by omega) (by rw [y10,List.length_singleton];omega) (fun h=>by have:=ha2 h;rw [y10,List.length_singleton];omega) (fun _=>rfl)
    rw [w,if_pos c] at ih
    exact Ev.su (Ev.po (Ev.pos c (Ev.po (Ev.opt he (Ev.neg e (Ev.po (Ev.cast ih (by simp))))))))
  ·rw [if_neg c]
   by_cases g:p<L[i].Proc
   ·rw [if_neg (show¬L[i].Proc=p by omega)]
    have ih:=zb2r z L hL p0 p s0 p3 p4 p5 x k (i+1) true false ((acc++[⟨p,s0,x⟩])++[L[i]]) (by omega) (by have:=ha2 c;simp only [y10,List.length_singleton];omega) (fun h=>absurd rfl h) (fun _=>rfl)
    rw [w,if_pos rfl] at ih
    have e1:insE ⟨p,s0,x⟩ (L[i]::filP p (L.drop (i+1)))=⟨p,s0,x⟩::L[i]::filP p (L.drop (i+1)):=by simp only [insE];rw [if_pos g]
    rw [e1]
    exact Ev.su (Ev.po (Ev.neg c (Ev.po (Ev.opt he (Ev.pos g (Ev.po (Ev.ne (Ev.po (Ev.cast ih (by simp))))))))))
   ·by_cases e:L[i].Proc=p
    ·rw [if_pos e]
     have ih:=zb2r z L hL p0 p s0 p3 p4 p5 x k (i+1) d y acc (by omega) (by omega) (fun h=>by have:=ha2 h;omega) hd
     rw [w,if_neg c] at ih
     exact Ev.su (Ev.po (Ev.neg c (Ev.po (Ev.opt he (Ev.neg g (Ev.pos e ih))))))
    ·rw [if_neg e]
     have ih:=zb2r z L hL p0 p s0 p3 p4 p5 x k (i+1) d false (acc++[L[i]]) (by omega) (by rw [y10,List.length_singleton];omega) (fun h=>by have:=ha2 h;rw [y10,List.length_singleton];omega) (fun _=>rfl)
     rw [w,if_neg c] at ih
     have e1:insE ⟨p,s0,x⟩ (L[i]::filP p (L.drop (i+1)))=L[i]::insE ⟨p,s0,x⟩ (filP p (L.drop (i+1))):=by simp only [insE];rw [if_neg g]
     rw [e1]
     exact Ev.su (Ev.po (Ev.neg c (Ev.po (Ev.opt he (Ev.neg g (Ev.neg e (Ev.po (Ev.cast ih (by simp)))))))))
theorem zb2s (s:Sl zkn) (hL:s.l.length<=1000000) (r:zkq):Ev (fun q=>zqo q s r) ⟨false,true,noteL s.l r.Proc r.Seq r.Resp⟩:=by
 have h:=zb2r s.z s.l hL r.Index r.Proc r.Seq r.Op.Code r.Op.A r.Op.B r.Resp s.l.length 0 false true [] (by omega) (by simp) (fun _=>by simp) (fun h=>by cases h)
 rw [y38] at h
 exact Ev.su (Ev.cast h (by simp [noteL]))
theorem zb2t (zz:Bool) (L:List zkq) (hL:L.length<=5000): ∀(k i:Nat) (s:zko),L.length=i+k->zOk s.State.L.z s.Table.z s->s.State.L.l.length+4*k<=900000->s.Table.l.length+k<=900000->
  ∃z z',zOk z z' (takeV s (L.drop i)).1/\Ev (fun q=>zqp q zz L (i:Int) s.Index s.State.Kind s.State.L.z s.State.L.l s.State.Sealed s.State.To s.Table.z s.Table.l true) (setZ z z' (takeV s (L.drop i)).1,(takeV s (L.drop i)).2)
 | 0,i,s,hk,hz,h1,h2=>by
  rw [y12 (by omega)]
  exact ⟨s.State.L.z,s.Table.z,hz,Ev.su (Ev.ne (Ev.ret _))⟩
 | k+1,i,s,hk,hz,h1,h2=>by
  have hi:i<L.length:=by omega
  have he:L[((i:Int)).toNat]? =some L[i]:=by simp [hi]
  rw [y9 hi]
  simp only [takeV]
  have w:wrp .i64 ((i:Int)+1)=((i+1:Nat):Int):=by rw [zbsa (by omega) (by omega)];omega
  by_cases c:L[i].Index=s.Index
  ·rw [if_pos c]
   by_cases d:FitsR L[i]
   ·rw [if_pos d]
    obtain ⟨z,hz1,hS⟩:=zb2p s.State hz.1 (by omega) L[i].Op
    have hN:=zb2s s.Table (by omega) ⟨L[i].Index,L[i].Proc,L[i].Seq,L[i].Op,(stepV s.State L[i].Op).2⟩
    have hl:=zb1f s.State L[i].Op
    have hn:=zb0l s.Table.l L[i].Proc L[i].Seq (stepV s.State L[i].Op).2
    have key:=zb1g z false (nextN s L[i]) (L.drop (i+1))
    obtain ⟨y,y',hy,ih⟩:=zb2t zz L hL k (i+1) (setZ z false (nextN s L[i])) (by omega) ⟨hz1,fun h=>by cases h⟩ (by simp only [setZ,nextN,nextS];omega) (by simp only [setZ,nextN,nextS];omega)
    rw [key] at hy ih
    rw [<- w] at ih
    refine ⟨y,y',hy,Ev.su (Ev.po (Ev.po (Ev.opt he (Ev.pos c (Ev.bind (zbsw _) (Ev.pos (by simpa using d) (Ev.bind hS (Ev.bind hN ?_))))))))⟩
    exact ih
   ·rw [if_neg d]
    refine ⟨true,true,⟨fun _=>rfl,fun _=>rfl⟩,Ev.su (Ev.po (Ev.po (Ev.opt he (Ev.pos c (Ev.bind (zbsw _) (Ev.neg (by simpa using d) ?_))))))⟩
    exact Ev.ret _
  ·rw [if_neg c]
   refine ⟨true,true,⟨fun _=>rfl,fun _=>rfl⟩,Ev.su (Ev.po (Ev.po (Ev.opt he (Ev.neg c ?_))))⟩
   exact Ev.ret _
theorem zb2u (s:zko) (r:Sl zkq) (hr:r.l.length<=5000) (hz:zOk s.State.L.z s.Table.z s) (h1:s.State.L.l.length<=800000) (h2:s.Table.l.length<=800000):
  ∃z z',zOk z z' (takeV s r.l).1/\Ev (fun q=>zqr q s r) (setZ z z' (takeV s r.l).1,(takeV s r.l).2):=by
 suffices h: ∃z z',zOk z z' (takeV s r.l).1/\Ev (fun q=>zqq q r.z r.l s.Index s.State.Kind s.State.L.z s.State.L.l s.State.Sealed s.State.To s.Table.z s.Table.l) (setZ z z' (takeV s r.l).1,(takeV s r.l).2) by
  obtain ⟨z,z',h,h3⟩:=h
  exact ⟨z,z',h,Ev.su h3⟩
 by_cases h0:r.l.length=0
 ·have hT:takeV s r.l=(setZ false false s,0):=by rw [y35 h0];rfl
  rw [hT]
  exact ⟨s.State.L.z,s.Table.z,hz,Ev.su (Ev.ne (Ev.ret _))⟩
 ·have hi:0<r.l.length:=by omega
  have he:r.l[0]? =some r.l[0]:=y7 hi
  have hd:r.l=r.l[0]::r.l.drop 1:=by
   have:=y9 hi
   rwa [y38] at this
  have hT:takeV s r.l=if r.l[0].Index=s.Index then (if FitsR r.l[0] then takeV (nextN s r.l[0]) (r.l.drop 1) else (noTN,1)) else (noTN,15):=by
   have:=congrArg (takeV s) hd
   exact this
  rw [hT]
  have w:wrp .i64 1=((1:Nat):Int):=by rw [zbsa (by omega) (by omega)];rfl
  generalize r.l[0]=e at he hT ⊢
  by_cases c:e.Index=s.Index
  ·rw [if_pos c]
   by_cases d:FitsR e
   ·rw [if_pos d]
    obtain ⟨z,hz1,hS⟩:=zb2p s.State hz.1 (by omega) e.Op
    have hN:=zb2s s.Table (by omega) ⟨e.Index,e.Proc,e.Seq,e.Op,(stepV s.State e.Op).2⟩
    have hl:=zb1f s.State e.Op
    have hn:=zb0l s.Table.l e.Proc e.Seq (stepV s.State e.Op).2
    have key:=zb1g z false (nextN s e) (r.l.drop 1)
    obtain ⟨y,y',hy,ih⟩:=zb2t r.z r.l hr (r.l.length - 1) 1 (setZ z false (nextN s e)) (by omega) ⟨hz1,fun h=>by cases h⟩ (by simp only [setZ,nextN,nextS];omega) (by simp only [setZ,nextN,nextS];omega)
    rw [key] at hy ih
    rw [<- w] at ih
    refine ⟨y,y',hy,Ev.su (Ev.po (Ev.opt he (Ev.pos c (Ev.bind (zbsw _) (Ev.pos (by simpa using d) (Ev.bind hS (Ev.bind hN ?_)))))))⟩
    exact ih
   ·rw [if_neg d]
    refine ⟨true,true,⟨fun _=>rfl,fun _=>rfl⟩,Ev.su (Ev.po (Ev.opt he (Ev.pos c (Ev.bind (zbsw _) (Ev.neg (by simpa using d) ?_)))))⟩
    exact Ev.ret _
  ·rw [if_neg c]
   refine ⟨true,true,⟨fun _=>rfl,fun _=>rfl⟩,Ev.su (Ev.po (Ev.opt he (Ev.neg c ?_)))⟩
   exact Ev.ret _
theorem zb2v (s:Sl zkn) (hz:s.z=true->s.l=[]) (hl:s.l.length<=4294967296): ∃z,(z=true->s.l=[])/\Ev (fun q=>zlq q s) ⟨z,true,s.l⟩:=by
 by_cases c:s.z=true
 ·exact ⟨true,fun _=>hz c,Ev.su (Ev.pos c (Ev.ret' (by rw [hz c])))⟩
 ·exact ⟨false,(fun h=>by cases h),Ev.su (Ev.neg c (Ev.pos hl (Ev.ret _)))⟩
theorem zb2w (s:Sl Int) (hz:s.z=true->s.l=[]) (hl:s.l.length<=4294967296): ∃z,(z=true->s.l=[])/\Ev (fun q=>zle q s) ⟨z,true,s.l⟩:=by
 by_cases c:s.z=true
 ·exact ⟨true,fun _=>hz c,Ev.su (Ev.pos c (Ev.ret' (by rw [hz c])))⟩
 ·exact ⟨false,(fun h=>by cases h),Ev.su (Ev.neg c (Ev.pos hl (Ev.ret _)))⟩
theorem zb2x {v f:Int}: ∀{D:List (List Int)} {i:Nat} {acc:List zkq} {full:Bool},acc.length<=4096->(walkS v f D i acc full).2.2.1.length<=4096
 | [],i,acc,full,ha=>ha
 | d::D,i,acc,full,ha=>by
  simp only [walkS]
  split
  ·exact ha
  ·rename_i l _
   split
   ·rename_i h0
    have:=zbxc h0
    exact zb2x (by rw [y10];omega)
   ·exact ha
/-- What is decoded is small. -/
theorem zb2y {b:List Int} (h:(segD b).2.2=0):0<=(segD b).1.2.1/\(segD b).1.2.1<4611686018427387904/\(segD b).1.2.2.length<=4096:=by
 have key: ∀M:List (List Int),(walkA M).2.1=0->0<=(walkA M).2.2.2.2.1/\(walkA M).2.2.2.2.1<4611686018427387904/\(walkA M).2.2.2.2.2.length<=4096:=fun M hM=>by
  cases M with
  | nil=>simp [walkA]
  | cons d D=>
   simp only [walkA] at hM ⊢
   by_cases c:(headR d).1=0
   ·rw [if_pos c]
    have:=zbxd c
    exact ⟨this.2.2.2.2.1,this.2.2.2.2.2.1,zb2x (by simp)⟩
   ·rw [if_neg c] at hM;exact absurd hM c
 unfold segD at h ⊢
 by_cases c:(allE b).2=0
 ·rw [if_pos c] at h ⊢
  by_cases c2:(allE b).1.length<2
  ·rw [if_pos c2];simp
  ·rw [if_neg c2] at h ⊢
   by_cases c3:(walkA ((allE b).1.take ((allE b).1.length - 1))).2.1=0
   ·rw [if_pos c3] at h ⊢
    split
    ·exact key _ c3
    ·simp
   ·rw [if_neg c3];simp
 ·rw [if_neg c];simp
theorem snD_z (b:List Int):zOk (snD b).1.State.L.z (snD b).1.Table.z (snD b).1:=by
 have hn:zOk noN.State.L.z noN.Table.z noN:=⟨fun _=>rfl,fun _=>rfl⟩
 have hst: ∀w,(stD w).1.L.z=true->(stD w).1.L.l=[]:=fun w=>by
  simp only [stD]
  repeat' split
  all_goals first | (intro _;rfl) | skip
  all_goals (intro h;simpa [stR] using h)
 have hw: ∀w,(whD w).1.1.L.z=true->(whD w).1.1.L.l=[]:=fun w=>by
  unfold whD
  repeat' split
  all_goals first | exact fun _=>rfl | exact hst _
 unfold snD
 repeat' split
 all_goals first | exact hn | skip
 refine ⟨hw _,fun h=>?_⟩
 simpa [mkN] using h
theorem zb2z: ∀(l:List zkq) (s:zko),(takeV s l).2=0->s.Index<=4611686018427387904->(takeV s l).1.Index<=4611686018427387904
 | [],s,h,hi=>hi
 | r::l,s,h,hi=>by
  obtain ⟨c,d,e⟩:=zb1i h
  rw [e] at h ⊢
  have h1:=d.1
  have h2:=d.2.1
  have w:(nextN s r).Index=s.Index+1:=by
   show wrp .i64 (s.Index+1)=_
   rw [zbsa (by omega) (by omega)]
  exact zb2z l (nextN s r) h (by rw [w];omega)
theorem zb20:Ev (fun q=>zm4 q) true:=⟨30000,fun q hq=>if_pos (by omega)⟩
def msgOk (m:zku):Prop:=(m.B.z=true->m.B.l=[])/\isB m.B.l
theorem zb21 (s:zkm) (o:zkp):(stepV s o).1.1.length<=max s.L.l.length 132:=by
 by_cases h:mayS s=true
 ·have h1:=zb1f s o
  have h2:=(zbyv (zbyw h).2.2.2).2.2.1
  omega
 ·unfold stepV;rw [if_neg h];simp only;omega
theorem zb22: ∀(l:List zkq) (s:zko),(takeV s l).1.State.L.l.length<=max s.State.L.l.length 132
 | [],s=>by show s.State.L.l.length<=_;omega
 | r::l,s=>by
  rw [zb1h]
  by_cases c:r.Index=s.Index
  ·rw [if_pos c]
   by_cases d:FitsR r
   ·rw [if_pos d]
    have h1:=zb22 l (nextN s r)
    have h2:=zb21 s.State r.Op
    have h3:(nextN s r).State.L.l.length=(stepV s.State r.Op).1.1.length:=rfl
    omega
   ·rw [if_neg d];simp [noTN]
  ·rw [if_neg c];simp [noTN]
/-- What a follower knows behind so many messages. -/
def Fol (n:Nat) (s:zko):Prop:=0<=s.Index/\s.Index<=4611686018427387904/\s.State.L.l.length<=200/\s.Table.l.length<=200+4096*n
theorem Fol.suc {n:Nat} {s:zko} (h:Fol n s):Fol (n+1) s:=⟨h.1,h.2.1,h.2.2.1,by have:=h.2.2.2;omega⟩
def zAt (a b:Bool) (s:zko):Prop:=(a=true->s.State.L.l=[])/\(b=true->s.Table.l=[])
def dataV (kd:Int) (s:zko) (b:List Int):zko×Int:=
 if (segD b).2.2=0 then (if (segD b).1.1=kd then (if s.Index<(segD b).1.2.1 then (s,15)
  else (if (takeV s ((segD b).1.2.2.drop (s.Index - (segD b).1.2.1).toNat)).2=0 then ((takeV s ((segD b).1.2.2.drop (s.Index - (segD b).1.2.1).toNat)).1,0) else (s,(takeV s ((segD b).1.2.2.drop (s.Index - (segD b).1.2.1).toNat)).2)))
  else (s,1)) else (s,(segD b).2.2)
def snapV (kd:Int) (s:zko) (b:List Int):zko×Int:=
 if (snD b).2=0 then (if (snD b).1.State.Kind=kd then (if s.Index<(snD b).1.Index then ((snD b).1,0) else (s,0)) else (s,1)) else (s,(snD b).2)
/-- What a follower knows behind a message, and what it answers. -/
def folV (kd:Int) (s:zko) (m:zku):zko×Int:=
 if m.Kind=0 then dataV kd s m.B.l else if m.Kind=2 then snapV kd s m.B.l else (s,1)
def outV (z z':Bool) (t:zko×Int):Int×Int×Int×Int×Bool×(List Int)×Bool×Int×Bool×(List zkn):=
 (t.1.Index,t.2,t.1.Index,t.1.State.Kind,z,t.1.State.L.l,t.1.State.Sealed,t.1.State.To,z',t.1.Table.l)
def outD (z z':Bool) (t:zko×Int):Int×Int×Int×Bool×(List Int)×Bool×Int×Bool×(List zkn):=
 (t.2,t.1.Index,t.1.State.Kind,z,t.1.State.L.l,t.1.State.Sealed,t.1.State.To,z',t.1.Table.l)
theorem zb23 {kd:Int} {s:zko} {b:List Int} {n:Nat} (h:Fol n s):Fol (n+1) (dataV kd s b).1:=by
 unfold dataV
 by_cases c:(segD b).2.2=0
 ·rw [if_pos c]
  obtain ⟨f0,f1,f2⟩:=zb2y c
  split
  ·split
   ·exact (Fol.suc h)
   ·split
    ·rename_i c4
     have h1:=zb1m _ _ c4
     have h2:=zb2z _ _ c4 h.2.1
     have h3:=(zb1l ((segD b).1.2.2.drop (s.Index - (segD b).1.2.1).toNat) s).2
     have h4:=zb22 ((segD b).1.2.2.drop (s.Index - (segD b).1.2.1).toNat) s
     have h5:((segD b).1.2.2.drop (s.Index - (segD b).1.2.1).toNat).length<=4096:=by rw [y13];omega
     obtain ⟨a1,a2,a3,a4⟩:=h
     exact ⟨by simp only;omega,h2,by simp only;omega,by simp only;omega⟩
    ·exact (Fol.suc h)
  ·exact (Fol.suc h)
 ·rw [if_neg c];exact (Fol.suc h)
theorem zb24 {kd:Int} {s:zko} {b:List Int} (hb:isB b) {n:Nat} (h:Fol n s):Fol (n+1) (snapV kd s b).1:=by
 unfold snapV
 by_cases c:(snD b).2=0
 ·rw [if_pos c]
  split
  ·split
   ·have hm:=(zbzv hb c).1
    have hm2:=zbyy hm
    have hk:=zbyv (zbyw hm2.2.2.1).2.2.2
    have ht:=zbyz hm2.2.2.2 (by omega)
    exact ⟨hm2.1,by simp only;omega,by simp only;omega,by simp only;rcases ht with h | h;omega;rw [h];simp⟩
   ·exact (Fol.suc h)
  ·exact (Fol.suc h)
 ·rw [if_neg c];exact (Fol.suc h)
theorem zb25 {kd:Int} {s:zko} {m:zku} (hb:isB m.B.l) {n:Nat} (h:Fol n s):Fol (n+1) (folV kd s m).1:=by
 unfold folV
 split
 ·exact zb23 h
 ·split
  ·exact zb24 hb h
  ·exact (Fol.suc h)
theorem zb26 {α:Type} (L:List α) (d:Int) (hd:0<=d):L.drop (if (L.length:Int)<d then (L.length:Int) else d).toNat=L.drop d.toNat:=by
 split
 ·rw [y12 (by omega),y12 (by omega)]
 ·rfl
theorem zb27 {a b:Bool} {s:zko} (hz:zAt a b s) (sz:Bool) (L:List zkq) (hL:L.length<=4096) {n:Nat} (hn:n<=61) (hi:Fol n s):
  ∃z z',zAt z z' (takeV s L).1/\Ev (fun q=>zl1 q ⟨s.Index,⟨s.State.Kind,⟨a,s.State.L.l⟩,s.State.Sealed,s.State.To⟩,⟨b,s.Table.l⟩⟩ ⟨sz,L⟩) (setZ z z' (takeV s L).1,(takeV s L).2):=by
 obtain ⟨i1,i2,i3,i4⟩:=hi
 obtain ⟨z,z',h1,h2⟩:=zb1k (setZ a b s) ⟨sz,L⟩ (by simp only;omega) hz (by simp only [setZ];omega) (by simp only [setZ];omega)
 simp only [zb1g] at h1 h2
 exact ⟨z,z',h1,h2⟩
theorem zb28 {a b:Bool} {s:zko} (hz:zAt a b s) (sz:Bool) (L:List zkq) (hL:L.length<=4096) {n:Nat} (hn:n<=61) (hi:Fol n s):
  ∃z z',zAt z z' (takeV s L).1/\Ev (fun q=>zqr q ⟨s.Index,⟨s.State.Kind,⟨a,s.State.L.l⟩,s.State.Sealed,s.State.To⟩,⟨b,s.Table.l⟩⟩ ⟨sz,L⟩) (setZ z z' (takeV s L).1,(takeV s L).2):=by
 obtain ⟨i1,i2,i3,i4⟩:=hi
 obtain ⟨z,z',h1,h2⟩:=zb2u (setZ a b s) ⟨sz,L⟩ (by simp only;omega) hz (by simp only [setZ];omega) (by simp only [setZ];omega)
 simp only [zb1g] at h1 h2
 exact ⟨z,z',h1,h2⟩
theorem zb29 {a b:Bool} {s:zko} (hz:zAt a b s) {n:Nat} (hn:n<=60) (hi:Fol n s) (kd:Int) (B:Sl Int) (hb:isB B.l) (hl:B.l.length<=3000) (id:Int)
  (c0 c1 c2 c3:Int) (c4:Bool) (c5:List Int) (c6:Bool) (c7:Int) (c8:Bool) (c9:List zkn) (d0 d1 d2 e0 e1 e2 e3:Int) (e4:Bool) (e5:List Int):
  ∃z z',zAt z z' (dataV kd s B.l).1/\Ev (fun q=>zq9 q B.z B.l c0 c1 c2 c3 c4 c5 c6 c7 c8 c9 id kd s.Index s.State.Kind a s.State.L.l s.State.Sealed s.State.To b s.Table.l d0 d1 d2 e0 e1 e2 e3 e4 e5) (outD z z' (dataV kd s B.l)):=by
 obtain ⟨sz,hD⟩:=zbx7 B hb (by omega)
 unfold dataV
 by_cases k0:(segD B.l).2.2=0
 ·rw [if_pos k0]
  obtain ⟨f0,f1,f2⟩:=zb2y k0
  have ⟨i1,i2,i3,i4⟩:=hi
  by_cases k1:(segD B.l).1.1=kd
  ·rw [if_pos k1]
   by_cases k2:s.Index<(segD B.l).1.2.1
   ·rw [if_pos k2]
    exact ⟨a,b,hz,Ev.su (Ev.bind hD (Ev.pos k0 (Ev.pos k1 (Ev.pos k2 (Ev.ret _)))))⟩
   ·rw [if_neg k2]
    have w:wrp .i64 (s.Index - (segD B.l).1.2.1)=s.Index - (segD B.l).1.2.1:=zbsa (by omega) (by omega)
    by_cases k3:((segD B.l).1.2.2.length:Int)<=s.Index - (segD B.l).1.2.1
    ·have e:(segD B.l).1.2.2.drop (s.Index - (segD B.l).1.2.1).toNat=[]:=y12 (by omega)
     rw [e]
     refine ⟨a,b,hz,Ev.su (Ev.bind hD (Ev.pos k0 (Ev.pos k1 (Ev.neg k2 (Ev.pos (by rw [w];exact k3) (Ev.ret _))))))⟩
    ·obtain ⟨z,z',h1,hT⟩:=zb28 hz sz ((segD B.l).1.2.2.drop (s.Index - (segD B.l).1.2.1).toNat) (by rw [y13];omega) (by omega) hi
     rw [<- w] at hT
     have key: ∀res,Ev (fun q=>(zqr q ⟨s.Index,⟨s.State.Kind,⟨a,s.State.L.l⟩,s.State.Sealed,s.State.To⟩,⟨b,s.Table.l⟩⟩ ⟨sz,(segD B.l).1.2.2.drop (wrp .i64 (s.Index - (segD B.l).1.2.1)).toNat⟩).bind fun r2=>(if r2.2=0 then (some (r2.2,r2.1.Index,r2.1.State.Kind,r2.1.State.L.z,r2.1.State.L.l,r2.1.State.Sealed,r2.1.State.To,r2.1.Table.z,r2.1.Table.l)) else (some (r2.2,s.Index,s.State.Kind,a,s.State.L.l,s.State.Sealed,s.State.To,b,s.Table.l)))) res->
       Ev (fun q=>zq9 q B.z B.l c0 c1 c2 c3 c4 c5 c6 c7 c8 c9 id kd s.Index s.State.Kind a s.State.L.l s.State.Sealed s.State.To b s.Table.l d0 d1 d2 e0 e1 e2 e3 e4 e5) res:=fun res h=>
      Ev.su (Ev.bind hD (Ev.pos k0 (Ev.pos k1 (Ev.neg k2 (Ev.neg (by rw [w];exact k3) (Ev.pos (by rw [w];omega) (Ev.pos (by rw [w];simp only;omega) h)))))))
     rw [w] at hT key
     by_cases k4:(takeV s ((segD B.l).1.2.2.drop (s.Index - (segD B.l).1.2.1).toNat)).2=0
     ·rw [if_pos k4]
      exact ⟨z,z',h1,key _ (Ev.bind hT (Ev.pos k4 (Ev.ret' (by rw [k4];rfl))))⟩
     ·rw [if_neg k4]
      exact ⟨a,b,hz,key _ (Ev.bind hT (Ev.neg k4 (Ev.ret _)))⟩
  ·rw [if_neg k1]
   exact ⟨a,b,hz,Ev.su (Ev.bind hD (Ev.pos k0 (Ev.neg k1 (Ev.ret _))))⟩
 ·rw [if_neg k0]
  exact ⟨a,b,hz,Ev.su (Ev.bind hD (Ev.neg k0 (Ev.ret _)))⟩
theorem s1_ev {a b:Bool} {s:zko} (hz:zAt a b s) {n:Nat} (hn:n<=60) (hi:Fol n s) (kd:Int) (m:zku) (hb:isB m.B.l) (hl:m.B.l.length<=3000) (id:Int)
  (c0 c1 c2 c3:Int) (c4:Bool) (c5:List Int) (c6:Bool) (c7:Int) (c8:Bool) (c9:List zkn) (d0 d1 d2:Int):
  ∃z z',zAt z z' (folV kd s m).1/\Ev (fun q=>zra q m.From m.To m.Kind m.Index m.B.z m.B.l c0 c1 c2 c3 c4 c5 c6 c7 c8 c9 id kd s.Index s.State.Kind a s.State.L.l s.State.Sealed s.State.To b s.Table.l d0 d1 d2) (outV z z' (folV kd s m)):=by
 unfold folV
 by_cases k0:m.Kind=0
 ·rw [if_pos k0]
  obtain ⟨z,z',h1,h2⟩:=zb29 hz hn hi kd m.B hb hl id c0 c1 c2 c3 c4 c5 c6 c7 c8 c9 d0 d1 d2 m.From m.To m.Kind m.Index m.B.z m.B.l
  exact ⟨z,z',h1,Ev.su (Ev.pos k0 (Ev.bind h2 (Ev.ne (Ev.ret _))))⟩
 ·rw [if_neg k0]
  by_cases k2:m.Kind=2
  ·rw [if_pos k2]
   have hD:=zb13 m.B hb (by omega)
   unfold snapV
   by_cases k3:(snD m.B.l).2=0
   ·rw [if_pos k3]
    by_cases k4:(snD m.B.l).1.State.Kind=kd
    ·rw [if_pos k4]
     by_cases k5:s.Index<(snD m.B.l).1.Index
     ·rw [if_pos k5]
      exact ⟨_,_,snD_z _,Ev.su (Ev.neg k0 (Ev.pos k2 (Ev.bind hD (Ev.pos k3 (Ev.pos k4 (Ev.pos k5 (Ev.ret _)))))))⟩
     ·rw [if_neg k5]
      exact ⟨a,b,hz,Ev.su (Ev.neg k0 (Ev.pos k2 (Ev.bind hD (Ev.pos k3 (Ev.pos k4 (Ev.neg k5 (Ev.ret _)))))))⟩
    ·rw [if_neg k4]
     exact ⟨a,b,hz,Ev.su (Ev.neg k0 (Ev.pos k2 (Ev.bind hD (Ev.pos k3 (Ev.neg k4 (Ev.ret _))))))⟩
   ·rw [if_neg k3]
    exact ⟨a,b,hz,Ev.su (Ev.neg k0 (Ev.pos k2 (Ev.bind hD (Ev.neg k3 (Ev.ret _)))))⟩
  ·rw [if_neg k2]
   exact ⟨a,b,hz,Ev.su (Ev.neg k0 (Ev.neg k2 (Ev.ret _)))⟩
theorem s0_ev {a b:Bool} {s:zko} (hz:zAt a b s) {n:Nat} (hn:n<=60) (hi:Fol n s) (kd:Int) (m:zku) (hm:msgOk m) (hl:m.B.l.length<=3000) (id:Int)
  (c0 c1 c2 c3:Int) (c4:Bool) (c5:List Int) (c6:Bool) (c7:Int) (c8:Bool) (c9:List zkn):
  ∃z z',zAt z z' (folV kd s m).1/\Ev (fun q=>zq8 q m.From m.To m.Kind m.Index m.B.z m.B.l id kd s.Index s.State.Kind a s.State.L.l s.State.Sealed s.State.To b s.Table.l c0 c1 c2 c3 c4 c5 c6 c7 c8 c9) (outV z z' (folV kd s m)):=by
 obtain ⟨hbz,hb⟩:=hm
 unfold folV
 by_cases k0:m.Kind=0
 ·rw [if_pos k0]
  obtain ⟨sz,hD⟩:=zbxr m.B hbz hb (by omega)
  unfold dataV
  by_cases k1:(segD m.B.l).2.2=0
  ·rw [if_pos k1]
   obtain ⟨f0,f1,f2⟩:=zb2y k1
   have ⟨i1,i2,i3,i4⟩:=hi
   by_cases k2:(segD m.B.l).1.1=kd
   ·rw [if_pos k2]
    by_cases k3:s.Index<(segD m.B.l).1.2.1
    ·rw [if_pos k3]
     exact ⟨a,b,hz,Ev.su (Ev.pos k0 (Ev.bind hD (Ev.pos k1 (Ev.pos k2 (Ev.pos k3 (Ev.ret _))))))⟩
    ·rw [if_neg k3]
     have w:wrp .i64 (s.Index - (segD m.B.l).1.2.1)=s.Index - (segD m.B.l).1.2.1:=zbsa (by omega) (by omega)
     obtain ⟨z,z',h1,hT⟩:=zb27 hz sz ((segD m.B.l).1.2.2.drop (s.Index - (segD m.B.l).1.2.1).toNat) (by rw [y13];omega) (by omega) hi
     rw [<- zb26 _ _ (by omega)] at hT
     have key: ∀res,Ev (fun q=>(zl1 q ⟨s.Index,⟨s.State.Kind,⟨a,s.State.L.l⟩,s.State.Sealed,s.State.To⟩,⟨b,s.Table.l⟩⟩ ⟨sz,(segD m.B.l).1.2.2.drop (if ((segD m.B.l).1.2.2.length:Int)<wrp .i64 (s.Index - (segD m.B.l).1.2.1) then ((segD m.B.l).1.2.2.length:Int) else wrp .i64 (s.Index - (segD m.B.l).1.2.1)).toNat⟩).bind fun r2=>(if r2.2=0 then (some (r2.1.Index,r2.2,r2.1.Index,r2.1.State.Kind,r2.1.State.L.z,r2.1.State.L.l,r2.1.State.Sealed,r2.1.State.To,r2.1.Table.z,r2.1.Table.l)) else (some (s.Index,r2.2,s.Index,s.State.Kind,a,s.State.L.l,s.State.Sealed,s.State.To,b,s.Table.l)))) res->
       Ev (fun q=>zq8 q m.From m.To m.Kind m.Index m.B.z m.B.l id kd s.Index s.State.Kind a s.State.L.l s.State.Sealed s.State.To b s.Table.l c0 c1 c2 c3 c4 c5 c6 c7 c8 c9) res:=fun res h=>
      Ev.su (Ev.pos k0 (Ev.bind hD (Ev.pos k1 (Ev.pos k2 (Ev.neg k3 (Ev.pos (by rw [w];simp only;split<;>omega) (Ev.pos (by rw [w];simp only;split<;>omega) h)))))))
     rw [w] at key
     by_cases k4:(takeV s ((segD m.B.l).1.2.2.drop (s.Index - (segD m.B.l).1.2.1).toNat)).2=0
     ·rw [if_pos k4]
      refine ⟨z,z',h1,key _ (Ev.bind hT ?_)⟩
      rw [zb26 _ _ (by omega)]
      exact Ev.pos k4 (Ev.ret' (by rw [k4];rfl))
     ·rw [if_neg k4]
      refine ⟨a,b,hz,key _ (Ev.bind hT ?_)⟩
      rw [zb26 _ _ (by omega)]
      exact Ev.neg k4 (Ev.ret _)
   ·rw [if_neg k2]
    exact ⟨a,b,hz,Ev.su (Ev.pos k0 (Ev.bind hD (Ev.pos k1 (Ev.neg k2 (Ev.ret _)))))⟩
  ·rw [if_neg k1]
   exact ⟨a,b,hz,Ev.su (Ev.pos k0 (Ev.bind hD (Ev.neg k1 (Ev.ret _))))⟩
 ·rw [if_neg k0]
  by_cases k2:m.Kind=2
  ·rw [if_pos k2]
   have hD:=zb0h m.B hbz hb (by omega)
   unfold snapV
   by_cases k3:(snD m.B.l).2=0
   ·rw [if_pos k3]
    by_cases k4:(snD m.B.l).1.State.Kind=kd
    ·rw [if_pos k4]
     by_cases k5:s.Index<(snD m.B.l).1.Index
     ·rw [if_pos k5]
      exact ⟨_,_,snD_z _,Ev.su (Ev.neg k0 (Ev.pos k2 (Ev.bind hD (Ev.pos k3 (Ev.pos k4 (Ev.pos k5 (Ev.ret _)))))))⟩
     ·rw [if_neg k5]
      exact ⟨a,b,hz,Ev.su (Ev.neg k0 (Ev.pos k2 (Ev.bind hD (Ev.pos k3 (Ev.pos k4 (Ev.neg k5 (Ev.ret _)))))))⟩
    ·rw [if_neg k4]
     exact ⟨a,b,hz,Ev.su (Ev.neg k0 (Ev.pos k2 (Ev.bind hD (Ev.pos k3 (Ev.neg k4 (Ev.ret _))))))⟩
   ·rw [if_neg k3]
    exact ⟨a,b,hz,Ev.su (Ev.neg k0 (Ev.pos k2 (Ev.bind hD (Ev.neg k3 (Ev.ret _)))))⟩
  ·rw [if_neg k2]
   exact ⟨a,b,hz,Ev.su (Ev.neg k0 (Ev.neg k2 (Ev.ret _)))⟩
theorem zb3a (x y:zku) (h:x=y):Ev (fun q=>zq3 q x y) true:=by
 subst h
 exact Ev.su (Ev.pos rfl (Ev.pos rfl (Ev.pos rfl (Ev.pos rfl (Ev.ret' (decide_eq_true rfl))))))
theorem zb3b (id kd:Int) (z:Bool) (L:List zku) (hL:L.length<=60) (hm: ∀e∈L,msgOk e): ∀(k i:Nat) (s:zko) (a b c d:Bool),L.length=i+k->Fol i s->zAt a b s->zAt c d s->
  Ev (fun q=>zrc q z L (i:Int) id kd s.Index s.State.Kind a s.State.L.l s.State.Sealed s.State.To b s.Table.l id kd s.Index s.State.Kind c s.State.L.l s.State.Sealed s.State.To d s.Table.l) true
 | 0,i,s,a,b,c,d,hk,hi,h1,h2=>Ev.su (Ev.ne (Ev.ret _))
 | k+1,i,s,a,b,c,d,hk,hi,h1,h2=>by
  have hlt:i<L.length:=by omega
  have he:L[((i:Int)).toNat]? =some L[i]:=by simp [hlt]
  have hme:=hm L[i] (y26 hlt)
  have w1:wrp .i64 ((i:Int)+1)=((i+1:Nat):Int):=by rw [zbsa (by omega) (by omega)];omega
  by_cases h3:3000<(L[i].B.l.length:Int)
  ·exact Ev.su (Ev.po (Ev.po (Ev.opt he (Ev.pos h3 (Ev.ret _)))))
  obtain ⟨x,x',hx,hX⟩:=s0_ev h1 (by omega) hi kd L[i] hme (by omega) id id kd s.Index s.State.Kind c s.State.L.l s.State.Sealed s.State.To d s.Table.l
  have hf:=zb25 (kd:=kd) hme.2 hi
  obtain ⟨y,y',hy,hY⟩:=s1_ev h2 (by omega) hi kd L[i] hme.2 (by omega) id id kd (folV kd s L[i]).1.Index (folV kd s L[i]).1.State.Kind x (folV kd s L[i]).1.State.L.l (folV kd s L[i]).1.State.Sealed (folV kd s L[i]).1.State.To x' (folV kd s L[i]).1.Table.l id L[i].From (folV kd s L[i]).1.Index
  generalize folV kd s L[i]=t at hx hX hf hy hY
  have ⟨i1,i2,i3,i4⟩:=hf
  obtain ⟨p,hp,hP⟩:=zb2w ⟨x,t.1.State.L.l⟩ hx.1 (by simp only;omega)
  obtain ⟨p',hp',hP'⟩:=zb2v ⟨x',t.1.Table.l⟩ hx.2 (by simp only;omega)
  have hS:=zby6 ⟨t.1.Index,⟨t.1.State.Kind,⟨p,t.1.State.L.l⟩,t.1.State.Sealed,t.1.State.To⟩,⟨p',t.1.Table.l⟩⟩ ⟨t.1.Index,⟨t.1.State.Kind,⟨y,t.1.State.L.l⟩,t.1.State.Sealed,t.1.State.To⟩,⟨y',t.1.Table.l⟩⟩ (by simp only;omega) (by simp only;omega)
  rw [show sameN ⟨t.1.Index,⟨t.1.State.Kind,⟨p,t.1.State.L.l⟩,t.1.State.Sealed,t.1.State.To⟩,⟨p',t.1.Table.l⟩⟩ ⟨t.1.Index,⟨t.1.State.Kind,⟨y,t.1.State.L.l⟩,t.1.State.Sealed,t.1.State.To⟩,⟨y',t.1.Table.l⟩⟩=sameN t.1 t.1 from rfl,zby7] at hS
  have ih:=zb3b id kd z L hL hm k (i+1) t.1 x x' y y' (by omega) hf hx hy
  rw [<- w1] at ih
  refine Ev.su (Ev.po (Ev.po (Ev.opt he (Ev.neg h3 (Ev.bind hX (Ev.bind hY (Ev.bind (zb3a _ _ rfl) (Ev.bind hP (Ev.bind hP' (Ev.bind hS (Ev.pos rfl (Ev.pos rfl (Ev.pos rfl ?_)))))))))))))
  exact ih
theorem zb3c (k:Int) (h0: ¬k<0) (h6: ¬6<=k): ∃s:zko,∃a b:Bool,Fol 0 s/\s.Index=0/\s.Table.l=[]/\zAt a true s/\zAt b true s/\
  Ev (fun q=>zm5 q k) ⟨s.State.Kind,⟨a,s.State.L.l⟩,s.State.Sealed,s.State.To⟩/\Ev (fun q=>zm6 q k) ⟨s.State.Kind,⟨b,s.State.L.l⟩,s.State.Sealed,s.State.To⟩:=by
 by_cases c:k=0\/k=1
 ·refine ⟨⟨0,⟨k,⟨false,[0]⟩,false,0⟩,⟨true,[]⟩⟩,false,false,⟨by simp,by simp,by simp,by simp⟩,rfl,rfl,⟨(fun h=>by cases h),fun _=>rfl⟩,⟨(fun h=>by cases h),fun _=>rfl⟩,?_,?_⟩
  ·by_cases c0:k=0
   ·exact Ev.su (Ev.pos c0 (Ev.ret _))
   ·exact Ev.su (Ev.neg c0 (Ev.po (Ev.ret _)))
  ·by_cases c0:k=0
   ·exact Ev.su (Ev.neg h0 (Ev.neg h6 (Ev.pos c0 (Ev.ret _))))
   ·exact Ev.su (Ev.neg h0 (Ev.neg h6 (Ev.neg c0 (Ev.po (Ev.ret _)))))
 ·refine ⟨⟨0,⟨k,⟨true,[]⟩,false,0⟩,⟨true,[]⟩⟩,true,true,⟨by simp,by simp,by simp,by simp⟩,rfl,rfl,⟨fun _=>rfl,fun _=>rfl⟩,⟨fun _=>rfl,fun _=>rfl⟩,?_,?_⟩
  ·have c0: ¬k=0:=by omega
   have c1: ¬k=1:=by omega
   by_cases c2:k=2
   ·exact Ev.su (Ev.neg c0 (Ev.neg c1 (Ev.pos c2 (Ev.ret _))))
   by_cases c3:k=3
   ·exact Ev.su (Ev.neg c0 (Ev.neg c1 (Ev.neg c2 (Ev.pos c3 (Ev.ret _)))))
   by_cases c4:k=4
   ·exact Ev.su (Ev.neg c0 (Ev.neg c1 (Ev.neg c2 (Ev.neg c3 (Ev.pos c4 (Ev.ret _))))))
   ·exact Ev.su (Ev.neg c0 (Ev.neg c1 (Ev.neg c2 (Ev.neg c3 (Ev.neg c4 (Ev.po (Ev.ret _)))))))
  ·exact Ev.su (Ev.neg h0 (Ev.neg h6 (Ev.ne (Ev.ne (Ev.ret _)))))
theorem zb3d: ∀(a0:Int) (a1:Int) (a2:(Sl zku)),inR .i64 a0->inR .i64 a1->okSl (fun x=>zku.ok x) a2-> ∃q,zrd q a0 a1 a2=some true:=by
 intro id kd l _ _ hl
 have ok: ∀e,zku.ok e->msgOk e:=fun e h=>⟨h.2.2.2.2.1,isB_of h.2.2.2.2⟩
 have none: ∀z L,Ev (fun q=>zrb q z L) true:=fun z L=>Ev.su (Ev.ite (fun _=>Ev.ret _) fun _=>Ev.ret _)
 by_cases h0:kd<0
 ·exact Ev.get (Ev.su (Ev.bind zb20 (Ev.pos h0 (Ev.pos rfl (Ev.ite (fun h=>Ev.ret' (decide_eq_true h)) fun _=>none _ _)))))
 by_cases h6:6<=kd
 ·exact Ev.get (Ev.su (Ev.bind zb20 (Ev.neg h0 (Ev.pos h6 (Ev.pos rfl (Ev.ite (fun h=>Ev.ret' (decide_eq_true h)) fun _=>none _ _))))))
 obtain ⟨s,a,b,hF,hI,hT,ha,hb,hS,hR⟩:=zb3c kd h0 h6
 refine Ev.get (Ev.su (Ev.bind zb20 (Ev.neg h0 (Ev.neg h6 (Ev.bind hS (Ev.bind hR (Ev.pos rfl (Ev.ite (fun h=>Ev.ret' (decide_eq_true h)) fun h=>?_))))))))
 have:=zb3b id kd l.z l.l (by omega) (fun e he=>ok e (hl.2.2 e he)) l.l.length 0 s a true b true (by omega) hF ha hb
 rw [hI,hT] at this
 exact this
end Go.Dvm.I
