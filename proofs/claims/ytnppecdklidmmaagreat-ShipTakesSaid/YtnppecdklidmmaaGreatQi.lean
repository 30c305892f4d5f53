/- The functions of the law, as they answer, over typed data. -/
import Derived.Test.YtnppecdklidmmaaGreatQv2
set_option linter.all false
set_option maxRecDepth 100000
set_option maxHeartbeats 4000000
namespace Go.Dvm.I
open Go Go.Dvm
structure zkm where
 Kind:Int
 L:(Sl Int)
 Sealed:Bool
 To:Int
def zkm.enc (r:zkm):V:= .agg [V.int .i64 r.Kind,(Sl.enc (V.int .i64)) r.L,V.bool r.Sealed,V.int .i64 r.To]
structure zkn where
 Proc:Int
 Seq:Int
 Resp:Int
def zkn.enc (r:zkn):V:= .agg [V.int .i64 r.Proc,V.int .i64 r.Seq,V.int .i64 r.Resp]
structure zko where
 Index:Int
 State:zkm
 Table:(Sl zkn)
def zko.enc (r:zko):V:= .agg [V.int .i64 r.Index,V.int .i64 r.State.Kind,(Sl.enc (V.int .i64)) r.State.L,V.bool r.State.Sealed,V.int .i64 r.State.To,(Sl.enc zkn.enc) r.Table]
structure zkp where
 Code:Int
 A:Int
 B:Int
def zkp.enc (r:zkp):V:= .agg [V.int .i64 r.Code,V.int .i64 r.A,V.int .i64 r.B]
structure zkq where
 Index:Int
 Proc:Int
 Seq:Int
 Op:zkp
 Resp:Int
def zkq.enc (r:zkq):V:= .agg [V.int .i64 r.Index,V.int .i64 r.Proc,V.int .i64 r.Seq,V.int .i64 r.Op.Code,V.int .i64 r.Op.A,V.int .i64 r.Op.B,V.int .i64 r.Resp]
structure zkr where
 From:Int
 To:Int
 Ahead:Int
 Behind:Int
 Mid:(Sl Int)
 Sealed:Bool
 Engine:Int
 Table:(Sl zkn)
def zkr.enc (r:zkr):V:= .agg [V.int .i64 r.From,V.int .i64 r.To,V.int .i64 r.Ahead,V.int .i64 r.Behind,(Sl.enc (V.int .i64)) r.Mid,V.bool r.Sealed,V.int .i64 r.Engine,(Sl.enc zkn.enc) r.Table]
structure zks where
 Kind:Int
 First:Int
 Records:(Sl zkq)
def zks.enc (r:zks):V:= .agg [V.int .i64 r.Kind,V.int .i64 r.First,(Sl.enc zkq.enc) r.Records]
structure zkt where
 index:Int
 size:Int
 sum:Int
def zkt.enc (r:zkt):V:= .agg [V.int .i64 r.index,V.int .i64 r.size,V.int .u64 r.sum]
structure zku where
 From:Int
 To:Int
 Kind:Int
 Index:Int
 B:(Sl Int)
def zku.enc (r:zku):V:= .agg [V.int .i64 r.From,V.int .i64 r.To,V.int .i64 r.Kind,V.int .i64 r.Index,(Sl.enc (V.int .u8)) r.B]
structure zkv where
 name:Int
 first:Int
 many:Int
def zkv.enc (r:zkv):V:= .agg [V.int .i64 r.name,V.int .i64 r.first,V.int .i64 r.many]
def okSl {α:Type} (ok:α->Prop) (s:Sl α):Prop:=(s.z=true->s.l=[])/\s.l.length<=maxLen/\ ∀a∈s.l,ok a
def zkm.ok (r:zkm):Prop:=inR .i64 r.Kind/\okSl (fun x=>inR .i64 x) r.L/\True/\inR .i64 r.To
def zkn.ok (r:zkn):Prop:=inR .i64 r.Proc/\inR .i64 r.Seq/\inR .i64 r.Resp
def zko.ok (r:zko):Prop:=inR .i64 r.Index/\zkm.ok r.State/\okSl (fun x=>zkn.ok x) r.Table
def zkp.ok (r:zkp):Prop:=inR .i64 r.Code/\inR .i64 r.A/\inR .i64 r.B
def zkq.ok (r:zkq):Prop:=inR .i64 r.Index/\inR .i64 r.Proc/\inR .i64 r.Seq/\zkp.ok r.Op/\inR .i64 r.Resp
def zkr.ok (r:zkr):Prop:=inR .i64 r.From/\inR .i64 r.To/\inR .i64 r.Ahead/\inR .i64 r.Behind/\okSl (fun x=>inR .i64 x) r.Mid/\True/\inR .i64 r.Engine/\okSl (fun x=>zkn.ok x) r.Table
def zks.ok (r:zks):Prop:=inR .i64 r.Kind/\inR .i64 r.First/\okSl (fun x=>zkq.ok x) r.Records
def zkt.ok (r:zkt):Prop:=inR .i64 r.index/\inR .i64 r.size/\inR .u64 r.sum
def zku.ok (r:zku):Prop:=inR .i64 r.From/\inR .i64 r.To/\inR .i64 r.Kind/\inR .i64 r.Index/\okSl (fun x=>inR .u8 x) r.B
def zkv.ok (r:zkv):Prop:=inR .i64 r.name/\inR .i64 r.first/\inR .i64 r.many
def zkw:Nat->Bool->(List Int)->Int->Int->Option (Bool)
 | 0,_,_,_,_=>none
 | q+1,v0z,v0l,v1,v5=>(if v5<(v0l.length:Int) then (if 0<=v5 then ((v0l[v5.toNat]?).bind fun e1=>(if e1<0 then (some false) else (if 255<e1 then (some false) else (if 0<v5 then (if 0<=(wrp .i64 (v5 - 2)) then ((v0l[(wrp .i64 (v5 - 2)).toNat]?).bind fun e2=>(if e1<=e2 then (some false) else (if 0<=(wrp .i64 (v5+1)) then ((v0l[(wrp .i64 (v5+1)).toNat]?).bind fun e3=>(if e3<v1 then (some false) else (if 1099511627776<e3 then (some false) else (zkw q v0z v0l v1 (wrp .i64 (v5+2)))))) else none))) else none) else (if 0<=(wrp .i64 (v5+1)) then ((v0l[(wrp .i64 (v5+1)).toNat]?).bind fun e4=>(if e4<v1 then (some false) else (if 1099511627776<e4 then (some false) else (zkw q v0z v0l v1 (wrp .i64 (v5+2)))))) else none))))) else none) else (some true))
def zkx:Nat->(Sl Int)->Int->Option (Bool)
 | 0,_,_=>none
 | q+1,a0,a1=>(if (Int.tmod (a0.l.length:Int) 2)=0 then (if 128<(a0.l.length:Int) then (some false) else (zkw q a0.z a0.l a1 0)) else (some false))
def zky:Nat->Int->Option (Int)
 | 0,_=>none
 | q+1,a0=>(if a0<(-1099511627776) then (some (-1099511627776)) else (if 1099511627776<a0 then (some 1099511627776) else (some a0)))
def zkz:Nat->Int->Int->Bool->(List Int)->Bool->Int->Option (Bool)
 | 0,_,_,_,_,_,_=>none
 | q+1,v3,h0_0,h0_1z,h0_1l,h0_2,h0_3=>(if v3<(h0_1l.length:Int) then (if 0<=v3 then ((h0_1l[v3.toNat]?).bind fun e5=>((zky q e5).bind fun r6=>(if e5=r6 then (zkz q (wrp .i64 (v3+1)) h0_0 h0_1z h0_1l h0_2 h0_3) else (some false)))) else none) else (some true))
def zk0:Nat->zkm->Option (Bool)
 | 0,_=>none
 | q+1,a0=>(if a0.To<0 then (some false) else (if 2<a0.To then (some false) else (if a0.Sealed=true then (if a0.Kind<0 then (some false) else (if 6<=a0.Kind then (some false) else (if a0.Kind=4 then ((zkx q a0.L (-1099511627776)).bind fun r1=>(some r1)) else (if a0.Kind=5 then ((zkx q a0.L 0).bind fun r2=>(some r2)) else (if 64<(a0.L.l.length:Int) then (some false) else (if (a0.L.l.length:Int)=1 then (zkz q 0 a0.Kind a0.L.z a0.L.l a0.Sealed a0.To) else (if a0.Kind<=1 then (some false) else (zkz q 0 a0.Kind a0.L.z a0.L.l a0.Sealed a0.To)))))))) else (if a0.To=0 then (if a0.Kind<0 then (some false) else (if 6<=a0.Kind then (some false) else (if a0.Kind=4 then ((zkx q a0.L (-1099511627776)).bind fun r3=>(some r3)) else (if a0.Kind=5 then ((zkx q a0.L 0).bind fun r4=>(some r4)) else (if 64<(a0.L.l.length:Int) then (some false) else (if (a0.L.l.length:Int)=1 then (zkz q 0 a0.Kind a0.L.z a0.L.l a0.Sealed a0.To) else (if a0.Kind<=1 then (some false) else (zkz q 0 a0.Kind a0.L.z a0.L.l a0.Sealed a0.To)))))))) else (some false)))))
def zk1:Nat->Bool->(List zkn)->Int->Option (Bool)
 | 0,_,_,_=>none
 | q+1,v0z,v0l,v3=>(if v3<(v0l.length:Int) then (if 0<=v3 then ((v0l[v3.toNat]?).bind fun e1=>(if e1.Proc<0 then (some false) else (if 64<e1.Proc then (some false) else (if e1.Seq<0 then (some false) else (if 4611686018427387904<=e1.Seq then (some false) else (if e1.Resp<(-1125899906842624) then (some false) else (if 1125899906842624<e1.Resp then (some false) else (if 0<v3 then (if 0<=(wrp .i64 (v3 - 1)) then ((v0l[(wrp .i64 (v3 - 1)).toNat]?).bind fun e2=>(if e1.Proc<=e2.Proc then (some false) else (zk1 q v0z v0l (wrp .i64 (v3+1))))) else none) else (zk1 q v0z v0l (wrp .i64 (v3+1))))))))))) else none) else (some true))
def zk2:Nat->(Sl zkn)->Option (Bool)
 | 0,_=>none
 | q+1,a0=>(zk1 q a0.z a0.l 0)
def zk3:Nat->zko->Option (Bool)
 | 0,_=>none
 | q+1,a0=>((zk0 q a0.State).bind fun r1=>((zk2 q a0.Table).bind fun r2=>(if r1=true then (if r2=true then (if 0<=a0.Index then (some (decide (a0.Index<4611686018427387904))) else (some false)) else (some false)) else (some false))))
def zk4:Nat->Int->Option (Int)
 | 0,_=>none
 | q+1,a0=>(some (if (-1099511627776)<(if 1099511627776<a0 then 1099511627776 else a0) then (if 1099511627776<a0 then 1099511627776 else a0) else (-1099511627776)))
def zk5:Nat->zkp->Option (Bool)
 | 0,_=>none
 | q+1,a0=>(if 0<=a0.Code then (if a0.Code<=10 then ((zk4 q a0.A).bind fun r1=>(if a0.A=r1 then ((zk4 q a0.B).bind fun r2=>(some (decide (a0.B=r2)))) else (some false))) else (some false)) else (some false))
def zk6:Nat->zkq->Option (Bool)
 | 0,_=>none
 | q+1,a0=>(if 0<=a0.Index then (if a0.Index<4611686018427387904 then (if 0<=a0.Proc then (if a0.Proc<=64 then (if 0<=a0.Seq then (if a0.Seq<4611686018427387904 then ((zk5 q a0.Op).bind fun r1=>(if r1=true then (if (-1125899906842624)<=a0.Resp then (some (decide (a0.Resp<=1125899906842624))) else (some false)) else (some false))) else (some false)) else (some false)) else (some false)) else (some false)) else (some false)) else (some false))
def zk7:Nat->Int->Option (Bool)
 | 0,_=>none
 | q+1,a0=>((zk4 q a0).bind fun r1=>(some (!(decide (a0=r1)))))
def zk8:Nat->Bool->(List Int)->Int->Int->Int->Option (Bool)
 | 0,_,_,_,_,_=>none
 | q+1,v0z,v0l,v1,v5,v6=>(if (wrp .i64 (v6+1))<(v0l.length:Int) then (if 0<=v6 then ((v0l[v6.toNat]?).bind fun e1=>(if e1<=v5 then (some false) else (if 255<e1 then (some false) else (if 0<=(wrp .i64 (v6+1)) then ((v0l[(wrp .i64 (v6+1)).toNat]?).bind fun e2=>(if e2<v1 then (some false) else (if 1099511627776<e2 then (some false) else (zk8 q v0z v0l v1 e1 (wrp .i64 (v6+2)))))) else none)))) else none) else (if (Int.tmod (v0l.length:Int) 2)=0 then (some (decide ((v0l.length:Int)<=128))) else (some false)))
def zk9:Nat->(Sl Int)->Int->Option (Bool)
 | 0,_,_=>none
 | q+1,a0,a1=>(zk8 q a0.z a0.l a1 (-1) 0)
def zla:Nat->Bool->(List Int)->Int->Int->Int->Bool->(List Int)->Bool->Int->Option (Int)
 | 0,_,_,_,_,_,_,_,_,_=>none
 | q+1,v0z,v0l,v7,v8,h0_0,h0_1z,h0_1l,h0_2,h0_3=>(if v8<v7 then (if 0<=v8 then ((v0l[v8.toNat]?).bind fun e1=>((zk7 q e1).bind fun r2=>(if r2=true then (some v8) else (zla q v0z v0l v7 (wrp .i64 (v8+1)) h0_0 h0_1z h0_1l h0_2 h0_3)))) else none) else (some (-1)))
def zlb:Nat->Bool->(List Int)->Int->Bool->(List Int)->Bool->Int->Option (Int)
 | 0,_,_,_,_,_,_,_=>none
 | q+1,v0z,v0l,h0_0,h0_1z,h0_1l,h0_2,h0_3=>(zla q v0z v0l (v0l.length:Int) 0 h0_0 h0_1z h0_1l h0_2 h0_3)
def zlc:Nat->zkm->Option (Bool)
 | 0,_=>none
 | q+1,a0=>(if a0.To<0 then (some false) else (if 3<=a0.To then (some false) else (if a0.Sealed=true then ((zlb q a0.L.z a0.L.l a0.Kind a0.L.z a0.L.l a0.Sealed a0.To).bind fun r1=>(if a0.Kind=0 then (if (a0.L.l.length:Int)=1 then (some (!(decide (0<=r1)))) else (some false)) else (if a0.Kind=1 then (if (a0.L.l.length:Int)=1 then (some (!(decide (0<=r1)))) else (some false)) else (if a0.Kind=2 then (if (a0.L.l.length:Int)<=64 then (some (!(decide (0<=r1)))) else (some false)) else (if a0.Kind=3 then (if (a0.L.l.length:Int)<=64 then (some (!(decide (0<=r1)))) else (some false)) else (if a0.Kind=4 then ((zk9 q a0.L (-1099511627776)).bind fun r2=>(some r2)) else (if a0.Kind=5 then ((zk9 q a0.L 0).bind fun r3=>(some r3)) else (some false)))))))) else (if a0.To=0 then ((zlb q a0.L.z a0.L.l a0.Kind a0.L.z a0.L.l a0.Sealed a0.To).bind fun r4=>(if a0.Kind=0 then (if (a0.L.l.length:Int)=1 then (some (!(decide (0<=r4)))) else (some false)) else (if a0.Kind=1 then (if (a0.L.l.length:Int)=1 then (some (!(decide (0<=r4)))) else (some false)) else (if a0.Kind=2 then (if (a0.L.l.length:Int)<=64 then (some (!(decide (0<=r4)))) else (some false)) else (if a0.Kind=3 then (if (a0.L.l.length:Int)<=64 then (some (!(decide (0<=r4)))) else (some false)) else (if a0.Kind=4 then ((zk9 q a0.L (-1099511627776)).bind fun r5=>(some r5)) else (if a0.Kind=5 then ((zk9 q a0.L 0).bind fun r6=>(some r6)) else (some false)))))))) else (some false)))))
def zld:Nat->zkm->zkp->Option (zkm×Int)
 | 0,_,_=>none
 | q+1,a0,a1=>((a0.L.l[0]?).bind fun e1=>(if a1.Code=7 then (some (a0,e1)) else (if a0.Kind=0 then (if a1.Code=1 then ((zk4 q a1.A).bind fun r2=>((zk4 q (wrp .i64 (e1+r2))).bind fun r3=>(some ((⟨a0.Kind,⟨false,[r3]⟩,a0.Sealed,a0.To⟩:zkm),e1)))) else (if a0.Kind=1 then (if a1.Code=2 then ((zk4 q a1.A).bind fun r4=>(some ((⟨a0.Kind,⟨false,[r4]⟩,a0.Sealed,a0.To⟩:zkm),e1))) else (some (a0,0))) else (some (a0,0)))) else (if a0.Kind=1 then (if a1.Code=2 then ((zk4 q a1.A).bind fun r5=>(some ((⟨a0.Kind,⟨false,[r5]⟩,a0.Sealed,a0.To⟩:zkm),e1))) else (some (a0,0))) else (some (a0,0))))))
def zle:Nat->(Sl Int)->Option ((Ow Int))
 | 0,_=>none
 | q+1,a0=>(if a0.z=true then (some ⟨true,true,[]⟩) else (if a0.l.length<=4294967296 then (some ⟨false,true,a0.l⟩) else none))
def zlf:Nat->(Ow Int)->Int->Int->Option ((Ow Int))
 | 0,_,_,_=>none
 | q+1,a0,a1,a2=>(if 0<=a1 then (if a1<=a2 then (if a2<=(a0.xs.length:Int) then (if a1=a2 then (some a0) else (if a1.toNat<=a0.xs.length then (if a0.n=true then (if 0<=a2 then (if a2.toNat<=a0.xs.length then (if (a0.xs.length+(a0.xs.length - a2.toNat))<=4294967296 then (if (((a0.xs.length+(a0.xs.length - a2.toNat)):Nat):Int)<=(a0.xs.length:Int) then (if a0.xs.length<=(a0.xs.length+(a0.xs.length - a2.toNat)) then (if (a0.xs.length - a2.toNat)=0 then none else (if a0.x=true then (some ⟨(a0.n && (decide ((a0.xs.length - a2.toNat)=0))),true,(((List.take (a0.xs.length+(a0.xs.length - a2.toNat)) (a0.xs++(List.drop a2.toNat a0.xs)))++(List.replicate (a0.xs.length - (a0.xs.length+(a0.xs.length - a2.toNat))) 0))++(List.drop ((a0.xs.length+(a0.xs.length - a2.toNat))+(a0.xs.length - (a0.xs.length+(a0.xs.length - a2.toNat)))) (a0.xs++(List.drop a2.toNat a0.xs))))⟩) else none)) else none) else none) else none) else none) else none) else (if 0<=a2 then (if a2.toNat<=a0.xs.length then (if (a1.toNat+(a0.xs.length - a2.toNat))<=a0.xs.length then (if a0.x=true then (if (((a1.toNat+(a0.xs.length - a2.toNat)):Nat):Int)<=(a0.xs.length:Int) then (if a0.xs.length<=(((min a1.toNat a0.xs.length)+(a0.xs.length - a2.toNat))+(a0.xs.length - (a1.toNat+(a0.xs.length - a2.toNat)))) then (some ⟨a0.n,true,(List.take (a1.toNat+(a0.xs.length - a2.toNat)) (((List.take (a1.toNat+(a0.xs.length - a2.toNat)) (((List.take a1.toNat a0.xs)++(List.drop a2.toNat a0.xs))++(List.drop (a1.toNat+(a0.xs.length - a2.toNat)) a0.xs)))++(List.replicate (a0.xs.length - (a1.toNat+(a0.xs.length - a2.toNat))) 0))++(List.drop ((a1.toNat+(a0.xs.length - a2.toNat))+(a0.xs.length - (a1.toNat+(a0.xs.length - a2.toNat)))) (((List.take a1.toNat a0.xs)++(List.drop a2.toNat a0.xs))++(List.drop (a1.toNat+(a0.xs.length - a2.toNat)) a0.xs)))))⟩) else none) else none) else none) else none) else none) else none)) else none)) else none) else none) else none)
def zlg:Nat->zkm->zkp->Option (zkm×Int)
 | 0,_,_=>none
 | q+1,a0,a1=>(if a1.Code=7 then (some (a0,(a0.L.l.length:Int))) else (if a1.Code=3 then (if (a0.L.l.length:Int)<64 then ((zle q a0.L).bind fun r1=>((zk4 q a1.A).bind fun r2=>(if (r1.xs.length+1)<=4294967296 then (some ((⟨a0.Kind,⟨false,(r1.xs++[r2])⟩,a0.Sealed,a0.To⟩:zkm),(wrp .i64 ((a0.L.l.length:Int)+1)))) else none))) else (some (a0,(-1)))) else (if a1.Code=4 then (if (a0.L.l.length:Int)=0 then (some (a0,(-1))) else (if a0.Kind=2 then ((a0.L.l[0]?).bind fun e3=>((zle q a0.L).bind fun r4=>((zlf q r4 0 (wrp .i64 1)).bind fun r5=>(some ((⟨a0.Kind,⟨r5.n,r5.xs⟩,a0.Sealed,a0.To⟩:zkm),e3))))) else (if 0<=(wrp .i64 ((a0.L.l.length:Int) - 1)) then ((a0.L.l[(wrp .i64 ((a0.L.l.length:Int) - 1)).toNat]?).bind fun e6=>((zle q a0.L).bind fun r7=>((zlf q r7 (wrp .i64 ((a0.L.l.length:Int) - 1)) (wrp .i64 ((wrp .i64 ((a0.L.l.length:Int) - 1))+1))).bind fun r8=>(some ((⟨a0.Kind,⟨r8.n,r8.xs⟩,a0.Sealed,a0.To⟩:zkm),e6))))) else none))) else (some (a0,0)))))
def zlh:Nat->Bool->(List Int)->Int->Int->Option (Int×Bool)
 | 0,_,_,_,_=>none
 | q+1,v0z,v0l,v1,v6=>(if v6<(v0l.length:Int) then (if 0<=v6 then ((v0l[v6.toNat]?).bind fun e1=>(if e1<v1 then (zlh q v0z v0l v1 (wrp .i64 (v6+2))) else (some (v6,(decide (e1=v1)))))) else none) else (some (v6,false)))
def zli:Nat->(Sl Int)->Int->Option (Int×Bool)
 | 0,_,_=>none
 | q+1,a0,a1=>(zlh q a0.z a0.l a1 0)
def zlj:Nat->(Sl Int)->Int->Option (Int)
 | 0,_,_=>none
 | q+1,a0,a1=>((zli q a0 a1).bind fun r1=>(if r1.2=true then (if 0<=(wrp .i64 (r1.1+1)) then ((a0.l[(wrp .i64 (r1.1+1)).toNat]?).bind fun e2=>(some e2)) else none) else (some (-1))))
def zlk:Nat->(Ow Int)->Int->(Ow Int)->Option (Ow Int)
 | 0,_,_,_=>none
 | q+1,a0,a1,a2=>(if insOk a0 a1 a2 then (some (insR a0 a1 a2)) else none)
def zll:Nat->(Sl Int)->Int->Int->Option ((Sl Int)×Bool)
 | 0,_,_,_=>none
 | q+1,a0,a1,a2=>((zli q a0 a1).bind fun r1=>(if r1.2=true then ((zle q a0).bind fun r2=>(if 0<=(wrp .i64 (r1.1+1)) then (if (wrp .i64 (r1.1+1)).toNat<r2.xs.length then ((r2.xs[(wrp .i64 (r1.1+1)).toNat]?).bind fun e3=>(if r2.x=true then (some (⟨r2.n,(List.set r2.xs ((wrp .i64 (r1.1+1)).toNat) a2)⟩,true)) else none)) else none) else none)) else (if 128<=(a0.l.length:Int) then (some (a0,false)) else ((zle q a0).bind fun r4=>((zlk q r4 r1.1 ⟨false,true,[a1,a2]⟩).bind fun r5=>(some (⟨r5.n,r5.xs⟩,true)))))))
def zlm:Nat->zkm->zkp->Option (zkm×Int)
 | 0,_,_=>none
 | q+1,a0,a1=>(if a1.Code=7 then (if a1.A<0 then (some (a0,(-1))) else (if 255<a1.A then (some (a0,(-1))) else ((zlj q a0.L a1.A).bind fun r1=>((zli q a0.L a1.A).bind fun r2=>(if a1.Code=6 then (if r2.2=true then ((zle q a0.L).bind fun r3=>((zlf q r3 r2.1 (wrp .i64 (r2.1+2))).bind fun r4=>(some ((⟨a0.Kind,⟨r4.n,r4.xs⟩,a0.Sealed,a0.To⟩:zkm),r1)))) else (if a1.Code=5 then ((zk4 q a1.B).bind fun r5=>((zll q a0.L a1.A r5).bind fun r6=>(if r6.2=true then (some ((⟨a0.Kind,r6.1,a0.Sealed,a0.To⟩:zkm),r1)) else (some (a0,(-2)))))) else (some (a0,r1)))) else (if a1.Code=5 then ((zk4 q a1.B).bind fun r7=>((zll q a0.L a1.A r7).bind fun r8=>(if r8.2=true then (some ((⟨a0.Kind,r8.1,a0.Sealed,a0.To⟩:zkm),r1)) else (some (a0,(-2)))))) else (some (a0,r1)))))))) else (if a1.Code=6 then (if a1.A<0 then (some (a0,(-1))) else (if 255<a1.A then (some (a0,(-1))) else ((zlj q a0.L a1.A).bind fun r9=>((zli q a0.L a1.A).bind fun r10=>(if r10.2=true then ((zle q a0.L).bind fun r11=>((zlf q r11 r10.1 (wrp .i64 (r10.1+2))).bind fun r12=>(some ((⟨a0.Kind,⟨r12.n,r12.xs⟩,a0.Sealed,a0.To⟩:zkm),r9)))) else (if a1.Code=5 then ((zk4 q a1.B).bind fun r13=>((zll q a0.L a1.A r13).bind fun r14=>(if r14.2=true then (some ((⟨a0.Kind,r14.1,a0.Sealed,a0.To⟩:zkm),r9)) else (some (a0,(-2)))))) else (some (a0,r9)))))))) else (if a1.Code=5 then (if a1.A<0 then (some (a0,(-1))) else (if 255<a1.A then (some (a0,(-1))) else ((zlj q a0.L a1.A).bind fun r15=>((zli q a0.L a1.A).bind fun r16=>((zk4 q a1.B).bind fun r17=>((zll q a0.L a1.A r17).bind fun r18=>(if r18.2=true then (some ((⟨a0.Kind,r18.1,a0.Sealed,a0.To⟩:zkm),r15)) else (some (a0,(-2)))))))))) else (some (a0,0)))))
def zln:Nat->zkm->zkp->Option (zkm×Int)
 | 0,_,_=>none
 | q+1,a0,a1=>(if a1.A<0 then (some (a0,0)) else (if 65536<=a1.A then (some (a0,0)) else (if a1.B<0 then (some (a0,0)) else ((zlj q a0.L (wrp .i64 (Int.tdiv a1.A 256))).bind fun r1=>((zlj q a0.L (Int.tmod a1.A 256)).bind fun r2=>(if r1<a1.B then (some (a0,0)) else (if (wrp .i64 (Int.tdiv a1.A 256))=(Int.tmod a1.A 256) then (some (a0,1)) else ((zll q a0.L (Int.tmod a1.A 256) (wrp .i64 ((if r2<0 then 0 else r2)+a1.B))).bind fun r3=>(if r3.2=true then (if 1099511627776<(wrp .i64 ((if r2<0 then 0 else r2)+a1.B)) then (some (a0,0)) else ((zll q r3.1 (wrp .i64 (Int.tdiv a1.A 256)) (wrp .i64 (r1 - a1.B))).bind fun r4=>(some ((⟨a0.Kind,r4.1,a0.Sealed,a0.To⟩:zkm),1)))) else (some (a0,0)))))))))))
def zlo:Nat->zkm->zkp->Option (zkm×Int)
 | 0,_,_=>none
 | q+1,a0,a1=>(if a1.Code=9 then ((zln q a0 a1).bind fun r1=>(some (r1.1,r1.2))) else (if a1.Code=7 then (if a1.A<0 then (some (a0,(-1))) else (if 255<a1.A then (some (a0,(-1))) else ((zlj q a0.L a1.A).bind fun r2=>(some (a0,r2))))) else (if a1.Code=8 then (if a1.A<0 then (some (a0,(-1))) else (if 255<a1.A then (some (a0,(-1))) else (if a1.B<0 then (some (a0,(-1))) else ((zlj q a0.L a1.A).bind fun r3=>((zk4 q a1.B).bind fun r4=>((zk4 q (wrp .i64 ((if r3<0 then 0 else r3)+r4))).bind fun r5=>((zll q a0.L a1.A r5).bind fun r6=>(if r6.2=true then (some ((⟨a0.Kind,r6.1,a0.Sealed,a0.To⟩:zkm),r5)) else (some (a0,(-2))))))))))) else (some (a0,0)))))
def zlp:Nat->zkm->zkp->Option (zkm×Int)
 | 0,_,_=>none
 | q+1,a0,a1=>((zlc q a0).bind fun r1=>(if r1=true then (if a0.Sealed=true then (some (a0,(-1125899906842624))) else (if a1.Code=10 then (if 0<=a1.A then (if a1.A<3 then (some ((⟨a0.Kind,a0.L,true,a1.A⟩:zkm),0)) else (some ((⟨a0.Kind,a0.L,true,a0.To⟩:zkm),0))) else (some ((⟨a0.Kind,a0.L,true,a0.To⟩:zkm),0))) else (if a0.Kind=0 then ((zld q a0 a1).bind fun r2=>(some (r2.1,r2.2))) else (if a0.Kind=1 then ((zld q a0 a1).bind fun r3=>(some (r3.1,r3.2))) else (if a0.Kind=2 then ((zlg q a0 a1).bind fun r4=>(some (r4.1,r4.2))) else (if a0.Kind=3 then ((zlg q a0 a1).bind fun r5=>(some (r5.1,r5.2))) else (if a0.Kind=4 then ((zlm q a0 a1).bind fun r6=>(some (r6.1,r6.2))) else ((zlo q a0 a1).bind fun r7=>(some (r7.1,r7.2)))))))))) else (some (a0,0))))
def zlq:Nat->(Sl zkn)->Option ((Ow zkn))
 | 0,_=>none
 | q+1,a0=>(if a0.z=true then (some ⟨true,true,[]⟩) else (if a0.l.length<=4294967296 then (some ⟨false,true,a0.l⟩) else none))
def zlr:Nat->(Ow zkn)->Int->(Ow zkn)->Option (Ow zkn)
 | 0,_,_,_=>none
 | q+1,a0,a1,a2=>(if insOk a0 a1 a2 then (some (insR a0 a1 a2)) else none)
def zls:Nat->Int->Int->Int->Int->Int->Int->Int->Int->Int->Bool->(List zkn)->Bool->Option (Int)
 | 0,_,_,_,_,_,_,_,_,_,_,_,_=>none
 | q+1,v7,v8,h0_0,h0_1,h0_2,h0_3,h0_4,h0_5,h0_6,h1z,h1l,h1x=>(if v8<v7 then (if 0<=v8 then (if v8.toNat<h1l.length then ((h1l[v8.toNat]?).bind fun e1=>(if e1.Proc=h0_1 then (some v8) else (zls q v7 (wrp .i64 (v8+1)) h0_0 h0_1 h0_2 h0_3 h0_4 h0_5 h0_6 h1z h1l h1x))) else none) else none) else (some (-1)))
def zlt:Nat->Int->Int->Int->Int->Int->Int->Int->Bool->(List zkn)->Bool->Option (Int)
 | 0,_,_,_,_,_,_,_,_,_,_=>none
 | q+1,h0_0,h0_1,h0_2,h0_3,h0_4,h0_5,h0_6,h1z,h1l,h1x=>(zls q (h1l.length:Int) 0 h0_0 h0_1 h0_2 h0_3 h0_4 h0_5 h0_6 h1z h1l h1x)
def zlu:Nat->Int->Int->Int->Int->Int->Int->Int->Int->Int->Bool->(List zkn)->Bool->Option (Nat×(List zkn)×Bool)
 | 0,_,_,_,_,_,_,_,_,_,_,_,_=>none
 | q+1,v5,v6,h0_0,h0_1,h0_2,h0_3,h0_4,h0_5,h0_6,h1z,h1l,h1x=>(if v6<(h1l.length:Int) then (if 0<=v6 then (if v6.toNat<h1l.length then ((h1l[v6.toNat]?).bind fun e2=>(if e2.Proc=h0_1 then (zlu q v5 (wrp .i64 (v6+1)) h0_0 h0_1 h0_2 h0_3 h0_4 h0_5 h0_6 h1z h1l h1x) else (if 0<=v5 then (if v5.toNat<h1l.length then ((h1l[v5.toNat]?).bind fun e3=>(if h1x=true then (zlu q (wrp .i64 (v5+1)) (wrp .i64 (v6+1)) h0_0 h0_1 h0_2 h0_3 h0_4 h0_5 h0_6 h1z (List.set h1l v5.toNat e2) true) else none)) else none) else none))) else none) else none) else (if 0<=v5 then (if v5.toNat<=h1l.length then (if h1x=true then (if v5.toNat<=(((min v5.toNat h1l.length)+(h1l.length - v5.toNat))+(h1l.length - (v5.toNat+(h1l.length - v5.toNat)))) then (if h1z=true then (some (v5.toNat,(((List.take v5.toNat h1l)++(List.replicate (h1l.length - v5.toNat) (⟨0,0,0⟩:zkn)))++(List.drop (v5.toNat+(h1l.length - v5.toNat)) h1l)),true)) else (some (v5.toNat,(((List.take v5.toNat h1l)++(List.replicate (h1l.length - v5.toNat) (⟨0,0,0⟩:zkn)))++(List.drop (v5.toNat+(h1l.length - v5.toNat)) h1l)),true))) else none) else none) else none) else none))
def zlv:Nat->Int->Int->Int->Int->Int->Int->Int->Bool->(List zkn)->Bool->Option (Nat×(List zkn)×Bool)
 | 0,_,_,_,_,_,_,_,_,_,_=>none
 | q+1,h0_0,h0_1,h0_2,h0_3,h0_4,h0_5,h0_6,h1z,h1l,h1x=>((zlt q h0_0 h0_1 h0_2 h0_3 h0_4 h0_5 h0_6 h1z h1l h1x).bind fun r1=>(if r1=(-1) then (some (h1l.length,h1l,h1x)) else (zlu q r1 (wrp .i64 (r1+1)) h0_0 h0_1 h0_2 h0_3 h0_4 h0_5 h0_6 h1z h1l h1x)))
def zlw:Nat->Nat->Int->Int->Int->Int->Int->Int->Int->Int->Int->Bool->(List zkn)->Bool->Option (Int)
 | 0,_,_,_,_,_,_,_,_,_,_,_,_,_=>none
 | q+1,v0len,v7,v8,h0_0,h0_1,h0_2,h0_3,h0_4,h0_5,h0_6,h1z,h1l,h1x=>(if v8<v7 then (if 0<=v8 then (if v8.toNat<v0len then ((h1l[v8.toNat]?).bind fun e1=>(if h0_1<e1.Proc then (some v8) else (zlw q v0len v7 (wrp .i64 (v8+1)) h0_0 h0_1 h0_2 h0_3 h0_4 h0_5 h0_6 h1z h1l h1x))) else none) else none) else (some (-1)))
def zlx:Nat->Nat->Int->Int->Int->Int->Int->Int->Int->Bool->(List zkn)->Bool->Option (Int)
 | 0,_,_,_,_,_,_,_,_,_,_,_=>none
 | q+1,v0len,h0_0,h0_1,h0_2,h0_3,h0_4,h0_5,h0_6,h1z,h1l,h1x=>(zlw q v0len (v0len:Int) 0 h0_0 h0_1 h0_2 h0_3 h0_4 h0_5 h0_6 h1z h1l h1x)
def zly:Nat->(Sl zkn)->zkq->Option ((Ow zkn))
 | 0,_,_=>none
 | q+1,a0,a1=>((zlq q a0).bind fun r1=>((zlv q a1.Index a1.Proc a1.Seq a1.Op.Code a1.Op.A a1.Op.B a1.Resp r1.n r1.xs r1.x).bind fun r2=>((zlx q r2.1 a1.Index a1.Proc a1.Seq a1.Op.Code a1.Op.A a1.Op.B a1.Resp r1.n r2.2.1 r2.2.2).bind fun r3=>(if r3<0 then (if r2.2.2=true then ((zlr q ⟨r1.n,r2.2.2,(List.take r2.1 r2.2.1)⟩ (r2.1:Int) ⟨false,true,[(⟨a1.Proc,a1.Seq,a1.Resp⟩:zkn)]⟩).bind fun r4=>(some r4)) else none) else (if r2.2.2=true then ((zlr q ⟨r1.n,r2.2.2,(List.take r2.1 r2.2.1)⟩ r3 ⟨false,true,[(⟨a1.Proc,a1.Seq,a1.Resp⟩:zkn)]⟩).bind fun r5=>(some r5)) else none)))))
def zlz:Nat->Bool->(List zkq)->Int->Int->Int->Int->Bool->(List Int)->Bool->Int->Bool->(List zkn)->Bool->Option (zko×Int)
 | 0,_,_,_,_,_,_,_,_,_,_,_,_,_=>none
 | q+1,v8z,v8l,v9,v10,h0_0,h0_1,h0_2z,h0_2l,h0_3,h0_4,h2z,h2l,h2x=>(if v10<v9 then (if 0<=v10 then ((v8l[v10.toNat]?).bind fun e5=>(if e5.Index=h0_0 then ((zk6 q e5).bind fun r6=>(if r6=true then ((zlp q (⟨h0_1,⟨h0_2z,h0_2l⟩,h0_3,h0_4⟩:zkm) e5.Op).bind fun r7=>((zly q ⟨h2z,h2l⟩ (⟨e5.Index,e5.Proc,e5.Seq,e5.Op,r7.2⟩:zkq)).bind fun r8=>(zlz q v8z v8l v9 (wrp .i64 (v10+1)) (wrp .i64 (h0_0+1)) r7.1.Kind r7.1.L.z r7.1.L.l r7.1.Sealed r7.1.To r8.n r8.xs r8.x))) else (some ((⟨0,(⟨0,⟨true,[]⟩,false,0⟩:zkm),⟨true,[]⟩⟩:zko),1)))) else (some ((⟨0,(⟨0,⟨true,[]⟩,false,0⟩:zkm),⟨true,[]⟩⟩:zko),15)))) else none) else (some ((⟨h0_0,(⟨h0_1,⟨h0_2z,h0_2l⟩,h0_3,h0_4⟩:zkm),⟨h2z,h2l⟩⟩:zko),0)))
def zl0:Nat->Bool->(List zkq)->Int->Int->Int->Bool->(List Int)->Bool->Int->Bool->(List zkn)->Option (zko×Int)
 | 0,_,_,_,_,_,_,_,_,_,_,_=>none
 | q+1,v8z,v8l,v9,h0_0,h0_1,h0_2z,h0_2l,h0_3,h0_4,h0_5z,h0_5l=>(if 0<v9 then ((v8l[0]?).bind fun e1=>(if e1.Index=h0_0 then ((zk6 q e1).bind fun r2=>(if r2=true then ((zlp q (⟨h0_1,⟨h0_2z,h0_2l⟩,h0_3,h0_4⟩:zkm) e1.Op).bind fun r3=>((zly q ⟨h0_5z,h0_5l⟩ (⟨e1.Index,e1.Proc,e1.Seq,e1.Op,r3.2⟩:zkq)).bind fun r4=>(zlz q v8z v8l v9 (wrp .i64 1) (wrp .i64 (h0_0+1)) r3.1.Kind r3.1.L.z r3.1.L.l r3.1.Sealed r3.1.To r4.n r4.xs r4.x))) else (some ((⟨0,(⟨0,⟨true,[]⟩,false,0⟩:zkm),⟨true,[]⟩⟩:zko),1)))) else (some ((⟨0,(⟨0,⟨true,[]⟩,false,0⟩:zkm),⟨true,[]⟩⟩:zko),15)))) else (some ((⟨h0_0,(⟨h0_1,⟨h0_2z,h0_2l⟩,h0_3,h0_4⟩:zkm),⟨h0_5z,h0_5l⟩⟩:zko),0)))
def zl1:Nat->zko->(Sl zkq)->Option (zko×Int)
 | 0,_,_=>none
 | q+1,a0,a1=>(zl0 q a1.z a1.l (a1.l.length:Int) a0.Index a0.State.Kind a0.State.L.z a0.State.L.l a0.State.Sealed a0.State.To a0.Table.z a0.Table.l)
def zl2:Nat->zkn->Option (Bool)
 | 0,_=>none
 | q+1,a0=>(if 0<=a0.Proc then (if a0.Proc<=64 then (if 0<=a0.Seq then (if a0.Seq<4611686018427387904 then (if (-1125899906842624)<=a0.Resp then (some (decide (a0.Resp<=1125899906842624))) else (some false)) else (some false)) else (some false)) else (some false)) else (some false))
def zl3:Nat->Bool->(List zkn)->Bool->(List zkn)->Int->Int->Option (Bool)
 | 0,_,_,_,_,_,_=>none
 | q+1,v0z,v0l,v5z,v5l,v6,v7=>(if v7<v6 then (if 0<=v7 then ((v5l[v7.toNat]?).bind fun e1=>((zl2 q e1).bind fun r2=>(if r2=true then (if 0<v7 then (if 0<=(wrp .i64 (v7 - 1)) then ((v0l[(wrp .i64 (v7 - 1)).toNat]?).bind fun e3=>(if e1.Proc<=e3.Proc then (some false) else (zl3 q v0z v0l v5z v5l v6 (wrp .i64 (v7+1))))) else none) else (zl3 q v0z v0l v5z v5l v6 (wrp .i64 (v7+1)))) else (some false)))) else none) else (some true))
def zl4:Nat->(Sl zkn)->Option (Bool)
 | 0,_=>none
 | q+1,a0=>(zl3 q a0.z a0.l a0.z a0.l (a0.l.length:Int) 0)
def zl5:Nat->zko->Option (Bool)
 | 0,_=>none
 | q+1,a0=>(if 0<=a0.Index then (if a0.Index<4611686018427387904 then ((zlc q a0.State).bind fun r1=>(if r1=true then ((zl4 q a0.Table).bind fun r2=>(some r2)) else (some false))) else (some false)) else (some false))
def zl6:Nat->Int->Bool->(List Int)->Bool->Option ((Ow Int))
 | 0,_,_,_,_=>none
 | q+1,v1,h0z,h0l,h0x=>(if 128<=v1 then (if (h0l.length+1)<=4294967296 then (zl6 q (ishr .u64 v1 7) false (h0l++[(ibits .or .u8 (wrp .u8 v1) 128)]) h0x) else none) else (if (h0l.length+1)<=4294967296 then (some ⟨false,h0x,(h0l++[(wrp .u8 v1)])⟩) else none))
def zl7:Nat->(Ow Int)->Int->Option ((Ow Int))
 | 0,_,_=>none
 | q+1,a0,a1=>(zl6 q a1 a0.n a0.xs a0.x)
def zl8:Nat->(Ow Int)->Int->Option ((Ow Int))
 | 0,_,_=>none
 | q+1,a0,a1=>(if a1<0 then (some a0) else (if 4611686018427387904<=a1 then (some a0) else ((zl7 q a0 (wrp .u64 a1)).bind fun r1=>(some r1))))
def zl9:Nat->Int->Option (Int)
 | 0,_=>none
 | q+1,a0=>(some (ibits .xor .u64 (ishl .u64 (wrp .u64 a0) 1) (wrp .u64 (ishr .i64 a0 63))))
def zma:Nat->(Ow Int)->Int->Option ((Ow Int))
 | 0,_,_=>none
 | q+1,a0,a1=>((zl9 q a1).bind fun r1=>((zl7 q a0 r1).bind fun r2=>(some r2)))
mutual
def zmb:Nat->Int->(List Int)->(List Int)->Option ((List Int))
 | 0,_,_,_=>none
 | q+1,v5,h0_0,h1_0=>(if v5<256 then (zmc q v5 (wrp .u32 v5) v5 0 h0_0 h1_0) else (if 256<=h1_0.length then (if (min 256 h1_0.length)=256 then (if 256<=h0_0.length then (if 256<=(256+(h0_0.length - 256)) then (some (List.take 256 ((List.take 256 h1_0)++(List.drop 256 h0_0)))) else none) else none) else none) else none))
def zmc:Nat->Int->Int->Int->Int->(List Int)->(List Int)->Option ((List Int))
 | 0,_,_,_,_,_,_=>none
 | q+1,v2,v3,v5,v10,h0_0,h1_0=>(if v10<8 then (zmc q v2 (ibits .xor .u32 (ishr .u32 v3 1) (ibits .and .u32 2197175160 (wrp .u32 (0 - (ibits .and .u32 v3 1))))) v5 (wrp .i64 (v10+1)) h0_0 h1_0) else (if 0<=v2 then (if v2.toNat<256 then (if (v2.toNat+1)<=h1_0.length then (zmb q (wrp .i64 (v5+1)) h0_0 (List.set h1_0 v2.toNat v3)) else none) else none) else none))
end
def zmd:Nat->Option ((List Int))
 | 0=>none
 | q+1=>(zmb q 0 (List.replicate 256 0) (List.replicate 256 0))
def zme:Nat->Int->Bool->(List Int)->Int->Int->(List Int)->Option (Int)
 | 0,_,_,_,_,_,_=>none
 | q+1,v6,v12z,v12l,v13,v14,h0_0=>(if v14<v13 then (if 0<=v14 then ((v12l[v14.toNat]?).bind fun e2=>(if 0<=(ibits .xor .u8 (wrp .u8 v6) e2) then (if (ibits .xor .u8 (wrp .u8 v6) e2).toNat<256 then ((h0_0[(ibits .xor .u8 (wrp .u8 v6) e2).toNat]?).bind fun e3=>(zme q (ibits .xor .u32 e3 (ishr .u32 v6 8)) v12z v12l v13 (wrp .i64 (v14+1)) h0_0)) else none) else none)) else none) else (some (ibits .xor .u32 4294967295 v6)))
def zmf:Nat->Int->(Sl Int)->Option (Int)
 | 0,_,_=>none
 | q+1,a0,a1=>((zmd q).bind fun r1=>(if r1.length=256 then (zme q (ibits .xor .u32 4294967295 a0) a1.z a1.l (a1.l.length:Int) 0 r1) else none))
def zmg:Nat->(Sl Int)->Option (Int)
 | 0,_=>none
 | q+1,a0=>((zmf q 0 a0).bind fun r1=>(some r1))
def zmh:Nat->Int->Int->Int->Bool->(List Int)->Option ((Ow Int))
 | 0,_,_,_,_,_=>none
 | q+1,v0,v7,v8,h0z,h0l=>(if v8<v7 then (if (wrp .i64 (8*v8))<0 then none else (if (h0l.length+1)<=4294967296 then (zmh q v0 v7 (wrp .i64 (v8+1)) false (h0l++[(wrp .u8 (ishr .u64 v0 (wrp .i64 (8*v8))))])) else none)) else (some ⟨h0z,true,h0l⟩))
def zmi:Nat->Int->Int->Option ((Ow Int))
 | 0,_,_=>none
 | q+1,a0,a1=>(zmh q a0 a1 0 true [])
def zmj:Nat->Int->Option ((Ow Int))
 | 0,_=>none
 | q+1,a0=>((zmi q (wrp .u64 a0) 4).bind fun r1=>(some r1))
def zmk:Nat->(Sl Int)->(Sl Int)->Option ((Ow Int))
 | 0,_,_=>none
 | q+1,a0,a1=>((zmg q a0).bind fun r1=>((zmf q r1 a1).bind fun r2=>((zmj q r2).bind fun r3=>(some r3))))
def zml:Nat->Nat->Bool->(List (Sl Int))->Int->Int->Bool->(List Int)->Option ((Ow Int))
 | 0,_,_,_,_,_,_,_=>none
 | q+1,v6len,v25z,v25l,v26,v27,h0z,h0l=>(if v27<v26 then (if 0<=v27 then ((v25l[v27.toNat]?).bind fun e2=>(if (v6len+e2.l.length)<=h0l.length then (zml q (v6len+e2.l.length) v25z v25l v26 (wrp .i64 (v27+1)) h0z (((List.take v6len h0l)++e2.l)++(List.drop (v6len+e2.l.length) h0l))) else none)) else none) else (some ⟨h0z,true,(List.take v6len h0l)⟩))
def zmm:Nat->Bool->(List (Sl Int))->Int->Int->Bool->(List Int)->Option ((Ow Int))
 | 0,_,_,_,_,_,_=>none
 | q+1,v25z,v25l,v26,v27,h0z,h0l=>(if v27<v26 then (if 0<=v27 then ((v25l[v27.toNat]?).bind fun e4=>(if (h0l.length+e4.l.length)<=4294967296 then (zmm q v25z v25l v26 (wrp .i64 (v27+1)) (h0z && (decide (e4.l.length=0))) (h0l++e4.l)) else none)) else none) else (some ⟨h0z,true,h0l⟩))
def zmn:Nat->Bool->(List (Sl Int))->Int->Option ((Ow Int))
 | 0,_,_,_=>none
 | q+1,v25z,v25l,v26=>(if 0<v26 then ((v25l[0]?).bind fun e3=>(if e3.l.length<=4294967296 then (zmm q v25z v25l v26 (wrp .i64 1) (decide (e3.l.length=0)) e3.l) else none)) else (some ⟨true,true,[]⟩))
def zmo:Nat->Bool->(List (Sl Int))->Int->Bool->(List (Sl Int))->Int->Int->Option ((Ow Int))
 | 0,_,_,_,_,_,_,_=>none
 | q+1,v0z,v0l,v3,v9z,v9l,v10,v11=>(if v11<v10 then (if 0<=v11 then ((v9l[v11.toNat]?).bind fun e1=>(if (wrp .i64 (v3+(e1.l.length:Int)))<0 then none else (zmo q v0z v0l (wrp .i64 (v3+(e1.l.length:Int))) v9z v9l v10 (wrp .i64 (v11+1))))) else none) else (if v3<0 then none else (if 0<(wrp .i64 (v3 - (wrp .i64 0))) then (if 0<=(wrp .i64 (v3 - (wrp .i64 0))) then (if (wrp .i64 (v3 - (wrp .i64 0))).toNat<=4294967296 then (if (wrp .i64 (v3 - (wrp .i64 0)))=0 then none else (zml q 0 v0z v0l (v0l.length:Int) 0 (decide ((wrp .i64 (v3 - (wrp .i64 0)))=0)) (List.replicate ((wrp .i64 (v3 - (wrp .i64 0))).toNat) 0))) else none) else none) else (zmn q v0z v0l (v0l.length:Int)))))
def zmp:Nat->(Sl (Sl Int))->Option ((Ow Int))
 | 0,_=>none
 | q+1,a0=>(zmo q a0.z a0.l 0 a0.z a0.l (a0.l.length:Int) 0)
def zmq:Nat->(Sl Int)->Option ((Ow Int)×Int)
 | 0,_=>none
 | q+1,a0=>(if 1048576<(a0.l.length:Int) then (some (⟨true,true,[]⟩,5)) else ((zl8 q ⟨true,true,[]⟩ (a0.l.length:Int)).bind fun r1=>((zmk q ⟨r1.n,r1.xs⟩ a0).bind fun r2=>((zmp q ⟨false,[⟨r1.n,r1.xs⟩,a0,⟨r2.n,r2.xs⟩]⟩).bind fun r3=>(some (r3,0))))))
def zmr:Nat->Int->Option (Bool)
 | 0,_=>none
 | q+1,a0=>(some (decide (a0<128)))
def zms:Nat->Bool->(List Int)->Int->Int->Option (Int)
 | 0,_,_,_,_=>none
 | q+1,v0z,v0l,v7,v8=>(if v8<v7 then (if 0<=v8 then ((v0l[v8.toNat]?).bind fun e1=>((zmr q e1).bind fun r2=>(if r2=true then (some v8) else (zms q v0z v0l v7 (wrp .i64 (v8+1)))))) else none) else (some (-1)))
def zmt:Nat->Bool->(List Int)->Option (Int)
 | 0,_,_=>none
 | q+1,v0z,v0l=>(zms q v0z v0l (v0l.length:Int) 0)
def zmu:Nat->(Sl Int)->Option (Bool)
 | 0,_=>none
 | q+1,a0=>(if (a0.l.length:Int)<10 then ((zmt q a0.z a0.l).bind fun r1=>(some (!(decide (0<=r1))))) else (some false))
def zmv:Nat->Bool->(List Int)->Int->Int->Int->Option (Int×Int)
 | 0,_,_,_,_,_=>none
 | q+1,v0z,v0l,v4,v9,v10=>(if v10<v9 then (if 0<=v10 then ((v0l[v10.toNat]?).bind fun e1=>(if (wrp .i64 (7*v10))<0 then none else (if v10=9 then (if 1<e1 then (some (0,0)) else (if e1=0 then (if 0<v10 then (some (0,0)) else (if e1<128 then (some ((ibits .or .u64 v4 (ishl .u64 (wrp .u64 (ibits .and .u8 e1 127)) (wrp .i64 (7*v10)))),(wrp .i64 (v10+1)))) else (zmv q v0z v0l (ibits .or .u64 v4 (ishl .u64 (wrp .u64 (ibits .and .u8 e1 127)) (wrp .i64 (7*v10)))) v9 (wrp .i64 (v10+1))))) else (if e1<128 then (some ((ibits .or .u64 v4 (ishl .u64 (wrp .u64 (ibits .and .u8 e1 127)) (wrp .i64 (7*v10)))),(wrp .i64 (v10+1)))) else (zmv q v0z v0l (ibits .or .u64 v4 (ishl .u64 (wrp .u64 (ibits .and .u8 e1 127)) (wrp .i64 (7*v10)))) v9 (wrp .i64 (v10+1)))))) else (if e1=0 then (if 0<v10 then (some (0,0)) else (if e1<128 then (some ((ibits .or .u64 v4 (ishl .u64 (wrp .u64 (ibits .and .u8 e1 127)) (wrp .i64 (7*v10)))),(wrp .i64 (v10+1)))) else (zmv q v0z v0l (ibits .or .u64 v4 (ishl .u64 (wrp .u64 (ibits .and .u8 e1 127)) (wrp .i64 (7*v10)))) v9 (wrp .i64 (v10+1))))) else (if e1<128 then (some ((ibits .or .u64 v4 (ishl .u64 (wrp .u64 (ibits .and .u8 e1 127)) (wrp .i64 (7*v10)))),(wrp .i64 (v10+1)))) else (zmv q v0z v0l (ibits .or .u64 v4 (ishl .u64 (wrp .u64 (ibits .and .u8 e1 127)) (wrp .i64 (7*v10)))) v9 (wrp .i64 (v10+1)))))))) else none) else (some (0,0)))
def zmw:Nat->(Sl Int)->Option (Int×Int)
 | 0,_=>none
 | q+1,a0=>(zmv q a0.z a0.l 0 (if 10<(a0.l.length:Int) then 10 else (a0.l.length:Int)) 0)
def zmx:Nat->(Sl Int)->Option (Int×Int)
 | 0,_=>none
 | q+1,a0=>((zmw q a0).bind fun r1=>(if 4611686018427387904<=r1.1 then (some (0,0)) else (some ((wrp .i64 r1.1),r1.2))))
def zmy:Nat->Bool->(List Int)->Bool->(List Int)->Int->Int->Option (Bool)
 | 0,_,_,_,_,_,_=>none
 | q+1,v0z,v0l,v1z,v1l,v12,v13=>(if v13<v12 then (if 0<=v13 then ((v0l[v13.toNat]?).bind fun e1=>((v1l[v13.toNat]?).bind fun e2=>(if e1=e2 then (zmy q v0z v0l v1z v1l v12 (wrp .i64 (v13+1))) else (some false)))) else none) else (some true))
def zmz:Nat->(Sl Int)->(Sl Int)->Option (Bool)
 | 0,_,_=>none
 | q+1,a0,a1=>(if (a0.l.length:Int)=(a1.l.length:Int) then (zmy q a0.z a0.l a1.z a1.l (a0.l.length:Int) 0) else (some false))
def zm0:Nat->(Sl Int)->Option ((Ow Int))
 | 0,_=>none
 | q+1,a0=>(if a0.z=true then (some ⟨true,true,[]⟩) else (if a0.l.length<=4294967296 then (some ⟨false,true,a0.l⟩) else none))
def zm1:Nat->(Sl Int)->Option ((Ow Int)×Int×Int)
 | 0,_=>none
 | q+1,a0=>((zmu q a0).bind fun r1=>(if r1=true then (some (⟨true,true,[]⟩,0,2)) else ((zmx q a0).bind fun r2=>(if r2.2=0 then (some (⟨true,true,[]⟩,0,3)) else (if 1048576<r2.1 then (some (⟨true,true,[]⟩,0,5)) else (if (a0.l.length:Int)<(wrp .i64 ((wrp .i64 (r2.2+4))+r2.1)) then (some (⟨true,true,[]⟩,0,2)) else (if 0<=r2.2 then (if r2.2<=r2.2 then (if r2.2.toNat<=a0.l.length then (if 0<=(wrp .i64 (r2.2+r2.1)) then (if (wrp .i64 (r2.2+r2.1))<=(wrp .i64 (r2.2+r2.1)) then (if (wrp .i64 (r2.2+r2.1)).toNat<=a0.l.length then (if r2.2<=(wrp .i64 (r2.2+r2.1)) then (if (wrp .i64 (r2.2+r2.1))<=(wrp .i64 ((wrp .i64 (r2.2+r2.1))+4)) then (if (wrp .i64 ((wrp .i64 (r2.2+r2.1))+4)).toNat<=a0.l.length then ((zmk q ⟨a0.z,(List.take r2.2.toNat a0.l)⟩ ⟨a0.z,(List.drop r2.2.toNat (List.take ((wrp .i64 (r2.2+r2.1)).toNat) a0.l))⟩).bind fun r3=>((zmz q ⟨a0.z,(List.drop ((wrp .i64 (r2.2+r2.1)).toNat) (List.take ((wrp .i64 ((wrp .i64 (r2.2+r2.1))+4)).toNat) a0.l))⟩ ⟨r3.n,r3.xs⟩).bind fun r4=>(if r4=true then ((zm0 q ⟨a0.z,(List.drop r2.2.toNat (List.take ((wrp .i64 (r2.2+r2.1)).toNat) a0.l))⟩).bind fun r5=>(some (r5,(wrp .i64 ((wrp .i64 (r2.2+r2.1))+4)),0))) else (some (⟨true,true,[]⟩,0,4))))) else none) else none) else none) else none) else none) else none) else none) else none) else none)))))))
def zm2:Nat->Int->Option (Int)
 | 0,_=>none
 | q+1,a0=>(some (ibits .xor .i64 (wrp .i64 (ishr .u64 a0 1)) (wrp .i64 (0 - (wrp .i64 (ibits .and .u64 a0 1))))))
def zm3:Nat->(Sl Int)->Option (Int×Int)
 | 0,_=>none
 | q+1,a0=>((zmw q a0).bind fun r1=>(if r1.2=0 then (some (0,0)) else ((zm2 q r1.1).bind fun r2=>(some (r2,r1.2)))))
def zm4 (q:Nat):Option Bool:=if 21360<=8*q then some true else none
def zm5:Nat->Int->Option (zkm)
 | 0,_=>none
 | q+1,a0=>(if a0=0 then (some (⟨a0,⟨false,[0]⟩,false,0⟩:zkm)) else (if a0=1 then (some (⟨a0,⟨false,[0]⟩,false,0⟩:zkm)) else (if a0=2 then (some (⟨a0,⟨true,[]⟩,false,0⟩:zkm)) else (if a0=3 then (some (⟨a0,⟨true,[]⟩,false,0⟩:zkm)) else (if a0=4 then (some (⟨a0,⟨true,[]⟩,false,0⟩:zkm)) else (if a0=5 then (some (⟨a0,⟨true,[]⟩,false,0⟩:zkm)) else (some (⟨0,⟨true,[]⟩,false,0⟩:zkm))))))))
def zm6:Nat->Int->Option (zkm)
 | 0,_=>none
 | q+1,a0=>(if a0<0 then (some (⟨0,⟨true,[]⟩,false,0⟩:zkm)) else (if 6<=a0 then (some (⟨0,⟨true,[]⟩,false,0⟩:zkm)) else (if a0=0 then (some (⟨a0,⟨false,[0]⟩,false,0⟩:zkm)) else (if a0=1 then (some (⟨a0,⟨false,[0]⟩,false,0⟩:zkm)) else (some (⟨a0,⟨true,[]⟩,false,0⟩:zkm))))))
def zm7:Nat->Bool->(List Int)->Int->Bool->(List (Sl Int))->Option ((Ow (Sl Int))×Int×Int)
 | 0,_,_,_,_,_=>none
 | q+1,v0z,v0l,v3,h0z,h0l=>(if v3<(v0l.length:Int) then (if 0<=v3 then (if v3<=(v0l.length:Int) then ((zm1 q ⟨v0z,(List.drop v3.toNat v0l)⟩).bind fun r1=>(if r1.2.2=0 then (if (h0l.length+1)<=4294967296 then (zm7 q v0z v0l (wrp .i64 (v3+r1.2.1)) false (h0l++[⟨r1.1.n,r1.1.xs⟩])) else none) else (some (⟨h0z,true,h0l⟩,v3,r1.2.2)))) else none) else none) else (some (⟨h0z,true,h0l⟩,v3,0)))
def zm8:Nat->(Sl Int)->Option ((Ow (Sl Int))×Int×Int)
 | 0,_=>none
 | q+1,a0=>(zm7 q a0.z a0.l 0 true [])
def zm9:Nat->(Sl Int)->Option ((Ow (Sl Int))×Int)
 | 0,_=>none
 | q+1,a0=>((zm8 q a0).bind fun r1=>(if r1.2.2=0 then (some (r1.1,0)) else (some (⟨true,true,[]⟩,r1.2.2))))
def zna:Nat->Int->Option (Bool)
 | 0,_=>none
 | q+1,a0=>(if 1<=a0 then (some (decide (a0<=3))) else (some false))
def znb:Nat->(Sl Int)->Option (zkp×Int)
 | 0,_=>none
 | q+1,a0=>((zmx q a0).bind fun r1=>(if 0<=r1.2 then (if r1.2<=(a0.l.length:Int) then ((zm3 q ⟨a0.z,(List.drop r1.2.toNat a0.l)⟩).bind fun r2=>(if 0<r1.2 then (if 0<=r2.2 then (if r2.2<=(((a0.l.length - r1.2.toNat):Nat):Int) then ((zm3 q ⟨a0.z,(List.drop r2.2.toNat (List.drop r1.2.toNat a0.l))⟩).bind fun r3=>(if 0<r2.2 then (if 0<=r3.2 then (if r3.2<=((((a0.l.length - r1.2.toNat) - r2.2.toNat):Nat):Int) then (if 0<r3.2 then ((zk5 q (⟨r1.1,r2.1,r3.1⟩:zkp)).bind fun r4=>(if r4=true then (some ((⟨r1.1,r2.1,r3.1⟩:zkp),(wrp .i64 ((a0.l.length:Int) - (((((a0.l.length - r1.2.toNat) - r2.2.toNat) - r3.2.toNat):Nat):Int))))) else (some ((⟨0,0,0⟩:zkp),0)))) else (some ((⟨0,0,0⟩:zkp),0))) else none) else none) else (if 0<=r3.2 then (if r3.2<=((((a0.l.length - r1.2.toNat) - r2.2.toNat):Nat):Int) then (some ((⟨0,0,0⟩:zkp),0)) else none) else none))) else none) else none) else (if 0<=r2.2 then (if r2.2<=(((a0.l.length - r1.2.toNat):Nat):Int) then ((zm3 q ⟨a0.z,(List.drop r2.2.toNat (List.drop r1.2.toNat a0.l))⟩).bind fun r5=>(if 0<=r5.2 then (if r5.2<=((((a0.l.length - r1.2.toNat) - r2.2.toNat):Nat):Int) then (some ((⟨0,0,0⟩:zkp),0)) else none) else none)) else none) else none))) else none) else none))
def znc:Nat->Int->Int->Int->Int->Int->Int->Int->Int->Int->Int->Int->Int->Option (zkq×Int)
 | 0,_,_,_,_,_,_,_,_,_,_,_,_=>none
 | q+1,v3,v47_0,v47_1,v47_2,v47_3,v48,h0_1,h0_2,h0_3,h0_4,h0_5,h0_6=>(if v48<4 then (if 0<=v48 then (if v48.toNat<4 then (if v48.toNat=0 then (if v47_0=0 then (some ((⟨0,0,0,(⟨0,0,0⟩:zkp),0⟩:zkq),0)) else (znc q (wrp .i64 (v3+v47_0)) v47_0 v47_1 v47_2 v47_3 (wrp .i64 (v48+1)) h0_1 h0_2 h0_3 h0_4 h0_5 h0_6)) else (if v48.toNat=1 then (if v47_1=0 then (some ((⟨0,0,0,(⟨0,0,0⟩:zkp),0⟩:zkq),0)) else (znc q (wrp .i64 (v3+v47_1)) v47_0 v47_1 v47_2 v47_3 (wrp .i64 (v48+1)) h0_1 h0_2 h0_3 h0_4 h0_5 h0_6)) else (if v48.toNat=2 then (if v47_2=0 then (some ((⟨0,0,0,(⟨0,0,0⟩:zkp),0⟩:zkq),0)) else (znc q (wrp .i64 (v3+v47_2)) v47_0 v47_1 v47_2 v47_3 (wrp .i64 (v48+1)) h0_1 h0_2 h0_3 h0_4 h0_5 h0_6)) else (if v48.toNat=3 then (if v47_3=0 then (some ((⟨0,0,0,(⟨0,0,0⟩:zkp),0⟩:zkq),0)) else (znc q (wrp .i64 (v3+v47_3)) v47_0 v47_1 v47_2 v47_3 (wrp .i64 (v48+1)) h0_1 h0_2 h0_3 h0_4 h0_5 h0_6)) else none)))) else none) else none) else (some ((⟨0,h0_1,h0_2,(⟨h0_3,h0_4,h0_5⟩:zkp),h0_6⟩:zkq),v3)))
def znd:Nat->(Sl Int)->Option (zkq×Int)
 | 0,_=>none
 | q+1,a0=>((zmx q a0).bind fun r1=>(if 0<=r1.2 then (if r1.2<=(a0.l.length:Int) then ((zm3 q ⟨a0.z,(List.drop r1.2.toNat a0.l)⟩).bind fun r2=>(if 0<=r2.2 then (if r2.2<=(((a0.l.length - r1.2.toNat):Nat):Int) then ((znb q ⟨a0.z,(List.drop r2.2.toNat (List.drop r1.2.toNat a0.l))⟩).bind fun r3=>(if 0<=r3.2 then (if r3.2<=((((a0.l.length - r1.2.toNat) - r2.2.toNat):Nat):Int) then ((zm3 q ⟨a0.z,(List.drop r3.2.toNat (List.drop r2.2.toNat (List.drop r1.2.toNat a0.l)))⟩).bind fun r4=>(znc q 0 r1.2 r2.2 r3.2 r4.2 0 r1.1 r2.1 r3.1.Code r3.1.A r3.1.B r4.1)) else none) else none)) else none) else none)) else none) else none))
def zne:Nat->Bool->(List zkq)->Bool->(List zkq)->Int->Int->Option (Bool)
 | 0,_,_,_,_,_,_=>none
 | q+1,v0z,v0l,v5z,v5l,v6,v7=>(if v7<v6 then (if 0<=v7 then ((v5l[v7.toNat]?).bind fun e1=>((zk6 q e1).bind fun r2=>(if r2=true then ((v0l[0]?).bind fun e3=>(if e1.Index=(wrp .i64 (e3.Index+v7)) then (zne q v0z v0l v5z v5l v6 (wrp .i64 (v7+1))) else (some false))) else (some false)))) else none) else (if 0<(v0l.length:Int) then (some (decide ((v0l.length:Int)<=256))) else (some false)))
def znf:Nat->(Sl zkq)->Option (Bool)
 | 0,_=>none
 | q+1,a0=>(zne q a0.z a0.l a0.z a0.l (a0.l.length:Int) 0)
def zng:Nat->(Ow Int)->zkp->Option ((Ow Int)×Int)
 | 0,_,_=>none
 | q+1,a0,a1=>((zk5 q a1).bind fun r1=>(if r1=true then ((zl8 q a0 a1.Code).bind fun r2=>((zma q r2 a1.A).bind fun r3=>((zma q r3 a1.B).bind fun r4=>(some (r4,0))))) else (some (a0,1))))
def znh:Nat->Bool->(List zkq)->Int->Int->(List (Int×Int))->Bool->(List Int)->Bool->Option ((Ow Int)×Int)
 | 0,_,_,_,_,_,_,_,_=>none
 | q+1,v20z,v20l,v21,v22,h0m,h1z,h1l,h1x=>(if v22<v21 then (if 0<=v22 then ((v20l[v22.toNat]?).bind fun e5=>((zl8 q ⟨h1z,h1x,h1l⟩ e5.Proc).bind fun r6=>((zma q r6 (wrp .i64 (e5.Seq - (mget h0m e5.Proc)))).bind fun r7=>((zng q r7 e5.Op).bind fun r8=>((zma q r8.1 e5.Resp).bind fun r9=>(znh q v20z v20l v21 (wrp .i64 (v22+1)) (mset h0m e5.Proc e5.Seq) r9.n r9.xs r9.x)))))) else none) else (some (⟨h1z,h1x,h1l⟩,0)))
def zni:Nat->(Sl zkq)->Option ((Ow Int)×Int)
 | 0,_=>none
 | q+1,a0=>((znf q a0).bind fun r1=>(if r1=true then ((a0.l[0]?).bind fun e2=>((zl8 q ⟨true,true,[]⟩ e2.Index).bind fun r3=>((zl8 q r3 (a0.l.length:Int)).bind fun r4=>(znh q a0.z a0.l (a0.l.length:Int) 0 [] r4.n r4.xs r4.x)))) else (some (⟨true,true,[]⟩,1))))
def znj:Nat->(Sl Int)->(Sl Int)->Option (Bool)
 | 0,_,_=>none
 | q+1,a0,a1=>(some (decide (a0.l=a1.l)))
def znk:Nat->Bool->(List Int)->Int->Bool->(List Int)->Int->Int->(List (Int×Int))->Bool->(List zkq)->Option ((Ow zkq)×Int)
 | 0,_,_,_,_,_,_,_,_,_,_=>none
 | q+1,v0z,v0l,v4,v10z,v10l,v44,v45,h0m,h1z,h1l=>(if v45<v44 then ((znd q ⟨v10z,v10l⟩).bind fun r3=>(if r3.2=0 then (some (⟨true,true,[]⟩,3)) else (if (h1l.length+1)<=4294967296 then (if 0<=r3.2 then (if r3.2<=(v10l.length:Int) then (znk q v0z v0l v4 v10z (List.drop r3.2.toNat v10l) v44 (wrp .i64 (v45+1)) (mset h0m r3.1.Proc (wrp .i64 (r3.1.Seq+(mget h0m r3.1.Proc)))) false (h1l++[(⟨(wrp .i64 (v4+v45)),r3.1.Proc,(wrp .i64 (r3.1.Seq+(mget h0m r3.1.Proc))),r3.1.Op,r3.1.Resp⟩:zkq)])) else none) else none) else none))) else ((zni q ⟨h1z,h1l⟩).bind fun r4=>(if r4.2=0 then ((znj q ⟨r4.1.n,r4.1.xs⟩ ⟨v0z,v0l⟩).bind fun r5=>(if r5=true then (some (⟨h1z,false,h1l⟩,0)) else (some (⟨true,true,[]⟩,3)))) else (some (⟨true,true,[]⟩,3)))))
def znl:Nat->(Sl Int)->Option ((Ow zkq)×Int)
 | 0,_=>none
 | q+1,a0=>((zmx q a0).bind fun r1=>(if 0<=r1.2 then (if r1.2<=(a0.l.length:Int) then ((zmx q ⟨a0.z,(List.drop r1.2.toNat a0.l)⟩).bind fun r2=>(if r1.2=0 then (some (⟨true,true,[]⟩,3)) else (if r2.2=0 then (some (⟨true,true,[]⟩,3)) else (if 256<r2.1 then (some (⟨true,true,[]⟩,3)) else (if 0<=(wrp .i64 (r1.2+r2.2)) then (if (wrp .i64 (r1.2+r2.2))<=(a0.l.length:Int) then (znk q a0.z a0.l r1.1 a0.z (List.drop ((wrp .i64 (r1.2+r2.2)).toNat) a0.l) r2.1 0 [] true []) else none) else none))))) else none) else none))
def znm:Nat->Bool->(List zkq)->Int->Bool->(List zkq)->Int->Int->Option (Bool)
 | 0,_,_,_,_,_,_,_=>none
 | q+1,v0z,v0l,v1,v7z,v7l,v8,v9=>(if v9<v8 then (if 0<=v9 then ((v7l[v9.toNat]?).bind fun e1=>((zk6 q e1).bind fun r2=>(if r2=true then (if e1.Index=(wrp .i64 (v1+v9)) then (znm q v0z v0l v1 v7z v7l v8 (wrp .i64 (v9+1))) else (some false)) else (some false)))) else none) else (some (decide ((v0l.length:Int)<=4096))))
def znn:Nat->(Sl zkq)->Int->Option (Bool)
 | 0,_,_=>none
 | q+1,a0,a1=>(znm q a0.z a0.l a1 a0.z a0.l (a0.l.length:Int) 0)
def zno:Nat->Int->Option ((Ow Int))
 | 0,_=>none
 | q+1,a0=>(if a0<1 then (some ⟨true,true,[]⟩) else (if 4<=a0 then (some ⟨true,true,[]⟩) else (if 0<=a0 then (if a0.toNat<4 then (if a0.toNat=0 then (some ⟨false,true,[]⟩) else (if a0.toNat=1 then (some ⟨false,true,[1,2,4]⟩) else (if a0.toNat=2 then (some ⟨false,true,[1,2,3,4]⟩) else (if a0.toNat=3 then (some ⟨false,true,[1,2,3,4,5]⟩) else none)))) else none) else none)))
def znp:Nat->Bool->(List Int)->Int->Int->Int->Option (Int)
 | 0,_,_,_,_,_=>none
 | q+1,v0z,v0l,v1,v7,v8=>(if v8<v7 then (if 0<=v8 then ((v0l[v8.toNat]?).bind fun e1=>(if v1=e1 then (some v8) else (znp q v0z v0l v1 v7 (wrp .i64 (v8+1))))) else none) else (some (-1)))
def znq:Nat->(Sl Int)->Int->Option (Int)
 | 0,_,_=>none
 | q+1,a0,a1=>(znp q a0.z a0.l a1 (a0.l.length:Int) 0)
def znr:Nat->(Sl Int)->Option (Int)
 | 0,_=>none
 | q+1,a0=>((zmx q a0).bind fun r1=>(if r1.2=0 then (some 0) else (if (wrp .i64 ((a0.l.length:Int) - r1.2))<r1.1 then (some 0) else (some (wrp .i64 (r1.2+r1.1))))))
def zns:Nat->Int->Bool->(List Int)->Int->Int->Int->Int->Int->Int->Int->Int->Bool->(List Int)->Bool->Option (zkq×Int)
 | 0,_,_,_,_,_,_,_,_,_,_,_,_,_,_=>none
 | q+1,v0,v1z,v1l,v7,h0_0,h0_1,h0_2,h0_3,h0_4,h0_5,h0_6,h1z,h1l,h1x=>(if 0<(v1l.length:Int) then ((zmx q ⟨v1z,v1l⟩).bind fun r3=>(if r3.2=0 then (some ((⟨h0_0,h0_1,h0_2,(⟨h0_3,h0_4,h0_5⟩:zkp),h0_6⟩:zkq),3)) else (if r3.1<=v7 then (some ((⟨h0_0,h0_1,h0_2,(⟨h0_3,h0_4,h0_5⟩:zkp),h0_6⟩:zkq),3)) else (if 0<=r3.2 then (if r3.2<=(v1l.length:Int) then ((znq q ⟨h1z,h1l⟩ r3.1).bind fun r4=>(if 0<=r4 then ((zlf q ⟨h1z,h1x,h1l⟩ r4 (wrp .i64 (r4+1))).bind fun r5=>(if r3.1=1 then ((zmx q ⟨v1z,(List.drop r3.2.toNat v1l)⟩).bind fun r6=>(if r6.2=0 then (some ((⟨r6.1,h0_1,h0_2,(⟨h0_3,h0_4,h0_5⟩:zkp),h0_6⟩:zkq),3)) else (if 0<=r6.2 then (if r6.2<=(((v1l.length - r3.2.toNat):Nat):Int) then (zns q v0 v1z (List.drop r6.2.toNat (List.drop r3.2.toNat v1l)) r3.1 r6.1 h0_1 h0_2 h0_3 h0_4 h0_5 h0_6 r5.n r5.xs r5.x) else none) else none))) else (if r3.1=2 then ((zmx q ⟨v1z,(List.drop r3.2.toNat v1l)⟩).bind fun r7=>(if r7.2=0 then (some ((⟨h0_0,r7.1,h0_2,(⟨h0_3,h0_4,h0_5⟩:zkp),h0_6⟩:zkq),3)) else (if 0<=r7.2 then (if r7.2<=(((v1l.length - r3.2.toNat):Nat):Int) then (zns q v0 v1z (List.drop r7.2.toNat (List.drop r3.2.toNat v1l)) r3.1 h0_0 r7.1 h0_2 h0_3 h0_4 h0_5 h0_6 r5.n r5.xs r5.x) else none) else none))) else (if r3.1=3 then ((zmx q ⟨v1z,(List.drop r3.2.toNat v1l)⟩).bind fun r8=>(if r8.2=0 then (some ((⟨h0_0,h0_1,r8.1,(⟨h0_3,h0_4,h0_5⟩:zkp),h0_6⟩:zkq),3)) else (if 0<=r8.2 then (if r8.2<=(((v1l.length - r3.2.toNat):Nat):Int) then (zns q v0 v1z (List.drop r8.2.toNat (List.drop r3.2.toNat v1l)) r3.1 h0_0 h0_1 r8.1 h0_3 h0_4 h0_5 h0_6 r5.n r5.xs r5.x) else none) else none))) else (if r3.1=4 then ((znb q ⟨v1z,(List.drop r3.2.toNat v1l)⟩).bind fun r9=>(if r9.2=0 then (some ((⟨h0_0,h0_1,h0_2,r9.1,h0_6⟩:zkq),3)) else (if 0<=r9.2 then (if r9.2<=(((v1l.length - r3.2.toNat):Nat):Int) then (zns q v0 v1z (List.drop r9.2.toNat (List.drop r3.2.toNat v1l)) r3.1 h0_0 h0_1 h0_2 r9.1.Code r9.1.A r9.1.B h0_6 r5.n r5.xs r5.x) else none) else none))) else (if r3.1=5 then ((zm3 q ⟨v1z,(List.drop r3.2.toNat v1l)⟩).bind fun r10=>(if r10.2=0 then (some ((⟨h0_0,h0_1,h0_2,(⟨h0_3,h0_4,h0_5⟩:zkp),r10.1⟩:zkq),3)) else (if 0<=r10.2 then (if r10.2<=(((v1l.length - r3.2.toNat):Nat):Int) then (zns q v0 v1z (List.drop r10.2.toNat (List.drop r3.2.toNat v1l)) r3.1 h0_0 h0_1 h0_2 h0_3 h0_4 h0_5 r10.1 r5.n r5.xs r5.x) else none) else none))) else (some ((⟨h0_0,h0_1,h0_2,(⟨h0_3,h0_4,h0_5⟩:zkp),h0_6⟩:zkq),3)))))))) else (if r3.1<16 then (some ((⟨h0_0,h0_1,h0_2,(⟨h0_3,h0_4,h0_5⟩:zkp),h0_6⟩:zkq),7)) else (if v0=3 then (some ((⟨h0_0,h0_1,h0_2,(⟨h0_3,h0_4,h0_5⟩:zkp),h0_6⟩:zkq),7)) else ((znr q ⟨v1z,(List.drop r3.2.toNat v1l)⟩).bind fun r11=>(if r11=0 then (some ((⟨h0_0,h0_1,h0_2,(⟨h0_3,h0_4,h0_5⟩:zkp),h0_6⟩:zkq),3)) else (if 0<=r11 then (if r11<=(((v1l.length - r3.2.toNat):Nat):Int) then (zns q v0 v1z (List.drop r11.toNat (List.drop r3.2.toNat v1l)) r3.1 h0_0 h0_1 h0_2 h0_3 h0_4 h0_5 h0_6 h1z h1l h1x) else none) else none))))))) else none) else none)))) else (if 0<(h1l.length:Int) then (some ((⟨h0_0,h0_1,h0_2,(⟨h0_3,h0_4,h0_5⟩:zkp),h0_6⟩:zkq),7)) else ((zk6 q (⟨h0_0,h0_1,h0_2,(⟨h0_3,h0_4,h0_5⟩:zkp),h0_6⟩:zkq)).bind fun r12=>(if r12=true then (some ((⟨h0_0,h0_1,h0_2,(⟨h0_3,h0_4,h0_5⟩:zkp),h0_6⟩:zkq),0)) else (some ((⟨h0_0,h0_1,h0_2,(⟨h0_3,h0_4,h0_5⟩:zkp),h0_6⟩:zkq),1))))))
def znt:Nat->Int->(Sl Int)->Option (zkq×Int)
 | 0,_,_=>none
 | q+1,a0,a1=>((zno q a0).bind fun r1=>((zle q ⟨r1.n,r1.xs⟩).bind fun r2=>(zns q a0 a1.z a1.l (-1) 0 0 0 0 0 0 0 r2.n r2.xs r2.x)))
def znu:Nat->(Sl Int)->Option (zkq×Int)
 | 0,_=>none
 | q+1,a0=>(if (a0.l.length:Int)=0 then (some ((⟨0,0,0,(⟨0,0,0⟩:zkp),0⟩:zkq),2)) else ((zmx q a0).bind fun r1=>(if r1.2=0 then (some ((⟨0,0,0,(⟨0,0,0⟩:zkp),0⟩:zkq),3)) else ((zno q r1.1).bind fun r2=>(if r2.n=true then (some ((⟨0,0,0,(⟨0,0,0⟩:zkp),0⟩:zkq),6)) else (if 0<=r1.2 then (if r1.2<=(a0.l.length:Int) then ((znt q r1.1 ⟨a0.z,(List.drop r1.2.toNat a0.l)⟩).bind fun r3=>(if r3.2=0 then (some (r3.1,0)) else (some ((⟨0,0,0,(⟨0,0,0⟩:zkp),0⟩:zkq),r3.2)))) else none) else none))))))
def znv:Nat->Int->Bool->(List Int)->Bool->(List zkq)->Option ((Ow zkq)×Bool)
 | 0,_,_,_,_,_=>none
 | q+1,v0,v1z,v1l,h0z,h0l=>(if 0<(v1l.length:Int) then ((zmx q ⟨v1z,v1l⟩).bind fun r1=>(if r1.2=0 then (some (⟨true,true,[]⟩,false)) else (if r1.1=0 then (some (⟨true,true,[]⟩,false)) else (if (wrp .i64 ((v1l.length:Int) - r1.2))<r1.1 then (some (⟨true,true,[]⟩,false)) else (if 0<=r1.2 then ((v1l[r1.2.toNat]?).bind fun e2=>(if e2=(wrp .u8 v0) then (if r1.2<=(wrp .i64 (r1.2+r1.1)) then (if (wrp .i64 (r1.2+r1.1)).toNat<=v1l.length then ((znu q ⟨v1z,(List.drop r1.2.toNat (List.take ((wrp .i64 (r1.2+r1.1)).toNat) v1l))⟩).bind fun r3=>(if r3.2=0 then (if (h0l.length+1)<=4294967296 then (if 0<=(wrp .i64 (r1.2+r1.1)) then (if (wrp .i64 (r1.2+r1.1))<=(v1l.length:Int) then (znv q v0 v1z (List.drop ((wrp .i64 (r1.2+r1.1)).toNat) v1l) false (h0l++[r3.1])) else none) else none) else none) else (some (⟨true,true,[]⟩,false)))) else none) else none) else (some (⟨true,true,[]⟩,false)))) else none))))) else (some (⟨h0z,true,h0l⟩,true)))
def znw:Nat->Int->(Sl Int)->Option ((Ow zkq)×Bool)
 | 0,_,_=>none
 | q+1,a0,a1=>(znv q a0 a1.z a1.l true [])
def znx:Nat->(Sl Int)->Option ((Ow Int))
 | 0,_=>none
 | q+1,a0=>((zmq q a0).bind fun r1=>(some r1.1))
def zny:Nat->Bool->(List (Sl Int))->Int->Int->Bool->(List (Sl Int))->Option ((Ow (Sl Int)))
 | 0,_,_,_,_,_,_=>none
 | q+1,v6z,v6l,v7,v8,h0z,h0l=>(if v8<v7 then (if 0<=v8 then ((v6l[v8.toNat]?).bind fun e1=>((znx q e1).bind fun r2=>(if (h0l.length+1)<=4294967296 then (zny q v6z v6l v7 (wrp .i64 (v8+1)) false (h0l++[⟨r2.n,r2.xs⟩])) else none))) else none) else (some ⟨h0z,true,h0l⟩))
def znz:Nat->(Sl (Sl Int))->Option ((Ow (Sl Int)))
 | 0,_=>none
 | q+1,a0=>(zny q a0.z a0.l (a0.l.length:Int) 0 true [])
def zn0:Nat->Bool->(List (Sl Int))->Int->Int->Bool->(List Int)->Bool->Option ((Ow Int))
 | 0,_,_,_,_,_,_,_=>none
 | q+1,v14z,v14l,v15,v16,h0z,h0l,h0x=>(if v16<v15 then (if 0<=v16 then ((v14l[v16.toNat]?).bind fun e2=>((zl8 q ⟨h0z,h0x,h0l⟩ (e2.l.length:Int)).bind fun r3=>(zn0 q v14z v14l v15 (wrp .i64 (v16+1)) r3.n r3.xs r3.x))) else none) else ((znx q ⟨h0z,h0l⟩).bind fun r4=>(some r4)))
def zn1:Nat->(Sl (Sl Int))->Option ((Ow Int))
 | 0,_=>none
 | q+1,a0=>((zl8 q ⟨true,true,[]⟩ (wrp .i64 ((a0.l.length:Int) - 1))).bind fun r1=>(if 0<=(wrp .i64 ((a0.l.length:Int) - 1)) then (if (wrp .i64 ((a0.l.length:Int) - 1)).toNat<=a0.l.length then (zn0 q a0.z (List.take ((wrp .i64 ((a0.l.length:Int) - 1)).toNat) a0.l) (((min ((wrp .i64 ((a0.l.length:Int) - 1)).toNat) a0.l.length):Nat):Int) 0 r1.n r1.xs r1.x) else none) else none))
def zn2:Nat->Bool->(List Int)->Int->Bool->(List (Sl Int))->Bool->Int->Int->Int->Option (Int×Int×Int×Int×Bool)
 | 0,_,_,_,_,_,_,_,_,_=>none
 | q+1,v1z,v1l,v19,h1z,h1l,h1x,h3_0,h3_1,h3_2=>(if v19<3 then ((zmx q ⟨v1z,v1l⟩).bind fun r2=>(if 0<=v19 then (if v19.toNat<3 then (if v19.toNat=0 then (if r2.2=0 then (some (3,0,0,0,false)) else (if 0<=r2.2 then (if r2.2<=(v1l.length:Int) then (zn2 q v1z (List.drop r2.2.toNat v1l) (wrp .i64 (v19+1)) h1z h1l h1x r2.1 h3_1 h3_2) else none) else none)) else (if v19.toNat=1 then (if r2.2=0 then (some (3,0,0,0,false)) else (if 0<=r2.2 then (if r2.2<=(v1l.length:Int) then (zn2 q v1z (List.drop r2.2.toNat v1l) (wrp .i64 (v19+1)) h1z h1l h1x h3_0 r2.1 h3_2) else none) else none)) else (if v19.toNat=2 then (if r2.2=0 then (some (3,0,0,0,false)) else (if 0<=r2.2 then (if r2.2<=(v1l.length:Int) then (zn2 q v1z (List.drop r2.2.toNat v1l) (wrp .i64 (v19+1)) h1z h1l h1x h3_0 h3_1 r2.1) else none) else none)) else none))) else none) else none)) else (if 0<(v1l.length:Int) then (some (3,0,0,0,false)) else ((zna q h3_0).bind fun r3=>(if r3=true then (if 6<=h3_1 then (some (1,0,0,0,false)) else (some (0,h3_0,h3_1,h3_2,true))) else (some (6,0,0,0,false))))))
def zn3:Nat->Bool->(List Int)->Bool->(List (Sl Int))->Bool->Option (Int×Int×Int×Int×Bool)
 | 0,_,_,_,_,_=>none
 | q+1,v1z,v1l,h1z,h1l,h1x=>(if (v1l.length:Int)=0 then (some (3,0,0,0,false)) else ((v1l[0]?).bind fun e1=>(if e1=108 then (if 1<=(v1l.length:Int) then (zn2 q v1z (List.drop 1 v1l) 0 h1z h1l h1x 0 0 0) else none) else (some (3,0,0,0,false)))))
def zn4:Nat->Nat->Nat->Int->Int->Bool->(List (Sl Int))->Bool->Int->Int->Int->Bool->Bool->(List zkq)->Option (Nat×Int×Int×Int×Int×Int×Bool×Int×Int×Int×Int×Int×Nat×Bool×Bool×(List zkq))
 | 0,_,_,_,_,_,_,_,_,_,_,_,_,_=>none
 | q+1,v1len,v19len,v20,v21,h1z,h1l,h1x,h2_0,h2_1,h2_2,h2_4,h3z,h3l=>(if v21<v20 then (if 0<=v21 then (if v21.toNat<v19len then ((h1l[(1+v21.toNat)]?).bind fun e8=>(if h2_0=3 then ((znl q e8).bind fun r9=>(if r9.2=0 then (if h2_4=true then (if (r9.1.xs.length:Int)=0 then (some (1,0,0,0,0,0,false,(wrp .i64 (v21+1)),3,h2_0,h2_1,h2_2,h3l.length,h2_4,h3z,h3l)) else (if 16<(r9.1.xs.length:Int) then (some (1,0,0,0,0,0,false,(wrp .i64 (v21+1)),3,h2_0,h2_1,h2_2,h3l.length,h2_4,h3z,h3l)) else ((znn q ⟨r9.1.n,r9.1.xs⟩ (wrp .i64 (h2_2+(h3l.length:Int)))).bind fun r10=>(if r10=true then (if 4096<(wrp .i64 ((h3l.length:Int)+(r9.1.xs.length:Int))) then (some (1,0,0,0,0,0,false,(wrp .i64 (v21+1)),5,h2_0,h2_1,h2_2,h3l.length,h2_4,h3z,h3l)) else (if (h3l.length+r9.1.xs.length)<=4294967296 then (zn4 q v1len v19len v20 (wrp .i64 (v21+1)) h1z h1l h1x h2_0 h2_1 h2_2 (decide ((r9.1.xs.length:Int)=16)) (h3z && (decide (r9.1.xs.length=0))) (h3l++r9.1.xs)) else none)) else (some (1,0,0,0,0,0,false,(wrp .i64 (v21+1)),3,h2_0,h2_1,h2_2,h3l.length,h2_4,h3z,h3l)))))) else (some (1,0,0,0,0,0,false,(wrp .i64 (v21+1)),3,h2_0,h2_1,h2_2,h3l.length,h2_4,h3z,h3l))) else (some (1,0,0,0,0,0,false,(wrp .i64 (v21+1)),3,h2_0,h2_1,h2_2,h3l.length,h2_4,h3z,h3l)))) else ((znw q h2_0 e8).bind fun r11=>(if r11.2=true then (if h2_4=true then (if (r11.1.xs.length:Int)=0 then (some (1,0,0,0,0,0,false,(wrp .i64 (v21+1)),3,h2_0,h2_1,h2_2,h3l.length,h2_4,h3z,h3l)) else (if 16<(r11.1.xs.length:Int) then (some (1,0,0,0,0,0,false,(wrp .i64 (v21+1)),3,h2_0,h2_1,h2_2,h3l.length,h2_4,h3z,h3l)) else ((znn q ⟨r11.1.n,r11.1.xs⟩ (wrp .i64 (h2_2+(h3l.length:Int)))).bind fun r12=>(if r12=true then (if 4096<(wrp .i64 ((h3l.length:Int)+(r11.1.xs.length:Int))) then (some (1,0,0,0,0,0,false,(wrp .i64 (v21+1)),5,h2_0,h2_1,h2_2,h3l.length,h2_4,h3z,h3l)) else (if (h3l.length+r11.1.xs.length)<=4294967296 then (zn4 q v1len v19len v20 (wrp .i64 (v21+1)) h1z h1l h1x h2_0 h2_1 h2_2 (decide ((r11.1.xs.length:Int)=16)) (h3z && (decide (r11.1.xs.length=0))) (h3l++r11.1.xs)) else none)) else (some (1,0,0,0,0,0,false,(wrp .i64 (v21+1)),3,h2_0,h2_1,h2_2,h3l.length,h2_4,h3z,h3l)))))) else (some (1,0,0,0,0,0,false,(wrp .i64 (v21+1)),3,h2_0,h2_1,h2_2,h3l.length,h2_4,h3z,h3l))) else (some (1,0,0,0,0,0,false,(wrp .i64 (v21+1)),3,h2_0,h2_1,h2_2,h3l.length,h2_4,h3z,h3l)))))) else none) else none) else (some (1,0,0,0,0,0,false,(v1len:Int),0,h2_0,h2_1,h2_2,h3l.length,h2_4,h3z,h3l)))
def zn5:Nat->Nat->Nat->Int->Bool->(List (Sl Int))->Bool->Int->Int->Int->Bool->Option (Nat×Int×Int×Int×Int×Int×Bool×Int×Int×Int×Int×Int×Nat×Bool×Bool×(List zkq))
 | 0,_,_,_,_,_,_,_,_,_,_=>none
 | q+1,v1len,v19len,v20,h1z,h1l,h1x,h2_0,h2_1,h2_2,h2_4=>(if 0<v20 then (if 0<v19len then ((h1l[1]?).bind fun e3=>(if h2_0=3 then ((znl q e3).bind fun r4=>(if r4.2=0 then (if h2_4=true then (if (r4.1.xs.length:Int)=0 then (some (0,(wrp .i64 1),3,h2_0,h2_1,h2_2,h2_4,0,0,0,0,0,0,false,false,[])) else (if 16<(r4.1.xs.length:Int) then (some (0,(wrp .i64 1),3,h2_0,h2_1,h2_2,h2_4,0,0,0,0,0,0,false,false,[])) else ((znn q ⟨r4.1.n,r4.1.xs⟩ (wrp .i64 (h2_2+0))).bind fun r5=>(if r5=true then (if 4096<(wrp .i64 (0+(r4.1.xs.length:Int))) then (some (0,(wrp .i64 1),5,h2_0,h2_1,h2_2,h2_4,0,0,0,0,0,0,false,false,[])) else (if r4.1.xs.length<=4294967296 then (zn4 q v1len v19len v20 (wrp .i64 1) h1z h1l h1x h2_0 h2_1 h2_2 (decide ((r4.1.xs.length:Int)=16)) (decide (r4.1.xs.length=0)) r4.1.xs) else none)) else (some (0,(wrp .i64 1),3,h2_0,h2_1,h2_2,h2_4,0,0,0,0,0,0,false,false,[])))))) else (some (0,(wrp .i64 1),3,h2_0,h2_1,h2_2,h2_4,0,0,0,0,0,0,false,false,[]))) else (some (0,(wrp .i64 1),3,h2_0,h2_1,h2_2,h2_4,0,0,0,0,0,0,false,false,[])))) else ((znw q h2_0 e3).bind fun r6=>(if r6.2=true then (if h2_4=true then (if (r6.1.xs.length:Int)=0 then (some (0,(wrp .i64 1),3,h2_0,h2_1,h2_2,h2_4,0,0,0,0,0,0,false,false,[])) else (if 16<(r6.1.xs.length:Int) then (some (0,(wrp .i64 1),3,h2_0,h2_1,h2_2,h2_4,0,0,0,0,0,0,false,false,[])) else ((znn q ⟨r6.1.n,r6.1.xs⟩ (wrp .i64 (h2_2+0))).bind fun r7=>(if r7=true then (if 4096<(wrp .i64 (0+(r6.1.xs.length:Int))) then (some (0,(wrp .i64 1),5,h2_0,h2_1,h2_2,h2_4,0,0,0,0,0,0,false,false,[])) else (if r6.1.xs.length<=4294967296 then (zn4 q v1len v19len v20 (wrp .i64 1) h1z h1l h1x h2_0 h2_1 h2_2 (decide ((r6.1.xs.length:Int)=16)) (decide (r6.1.xs.length=0)) r6.1.xs) else none)) else (some (0,(wrp .i64 1),3,h2_0,h2_1,h2_2,h2_4,0,0,0,0,0,0,false,false,[])))))) else (some (0,(wrp .i64 1),3,h2_0,h2_1,h2_2,h2_4,0,0,0,0,0,0,false,false,[]))) else (some (0,(wrp .i64 1),3,h2_0,h2_1,h2_2,h2_4,0,0,0,0,0,0,false,false,[])))))) else none) else (some (0,(v1len:Int),0,h2_0,h2_1,h2_2,h2_4,0,0,0,0,0,0,false,false,[])))
def zn6:Nat->Nat->Bool->(List (Sl Int))->Bool->Option (Nat×Int×Int×Int×Int×Int×Bool×Int×Int×Int×Int×Int×Nat×Bool×Bool×(List zkq))
 | 0,_,_,_,_=>none
 | q+1,v1len,h1z,h1l,h1x=>(if 0<v1len then ((h1l[0]?).bind fun e1=>((zn3 q e1.z e1.l h1z h1l h1x).bind fun r2=>(if r2.1=0 then (if 1<=v1len then (zn5 q v1len (v1len - 1) (((v1len - 1):Nat):Int) h1z h1l h1x r2.2.1 r2.2.2.1 r2.2.2.2.1 r2.2.2.2.2) else none) else (some (0,0,r2.1,r2.2.1,r2.2.2.1,r2.2.2.2.1,r2.2.2.2.2,0,0,0,0,0,0,false,false,[]))))) else none)
def zn7:Nat->Bool->(List Int)->Int->Bool->(List (Sl Int))->Bool->Int->Int->Int->Option (Int×Int×Int×Int×Bool)
 | 0,_,_,_,_,_,_,_,_,_=>none
 | q+1,v1z,v1l,v19,h1z,h1l,h1x,h3_0,h3_1,h3_2=>(if v19<3 then ((zmx q ⟨v1z,v1l⟩).bind fun r2=>(if 0<=v19 then (if v19.toNat<3 then (if v19.toNat=0 then (if r2.2=0 then (some (3,0,0,0,false)) else (if 0<=r2.2 then (if r2.2<=(v1l.length:Int) then (zn7 q v1z (List.drop r2.2.toNat v1l) (wrp .i64 (v19+1)) h1z h1l h1x r2.1 h3_1 h3_2) else none) else none)) else (if v19.toNat=1 then (if r2.2=0 then (some (3,0,0,0,false)) else (if 0<=r2.2 then (if r2.2<=(v1l.length:Int) then (zn7 q v1z (List.drop r2.2.toNat v1l) (wrp .i64 (v19+1)) h1z h1l h1x h3_0 r2.1 h3_2) else none) else none)) else (if v19.toNat=2 then (if r2.2=0 then (some (3,0,0,0,false)) else (if 0<=r2.2 then (if r2.2<=(v1l.length:Int) then (zn7 q v1z (List.drop r2.2.toNat v1l) (wrp .i64 (v19+1)) h1z h1l h1x h3_0 h3_1 r2.1) else none) else none)) else none))) else none) else none)) else (if 0<(v1l.length:Int) then (some (3,0,0,0,false)) else ((zna q h3_0).bind fun r3=>(if r3=true then (if 6<=h3_1 then (some (1,0,0,0,false)) else (some (0,h3_0,h3_1,h3_2,true))) else (some (6,0,0,0,false))))))
def zn8:Nat->Bool->(List Int)->Bool->(List (Sl Int))->Bool->Option (Int×Int×Int×Int×Bool)
 | 0,_,_,_,_,_=>none
 | q+1,v1z,v1l,h1z,h1l,h1x=>(if (v1l.length:Int)=0 then (some (3,0,0,0,false)) else ((v1l[0]?).bind fun e1=>(if e1=108 then (if 1<=(v1l.length:Int) then (zn7 q v1z (List.drop 1 v1l) 0 h1z h1l h1x 0 0 0) else none) else (some (3,0,0,0,false)))))
def zn9:Nat->Nat->Nat->Int->Int->Bool->(List (Sl Int))->Bool->Int->Int->Int->Bool->Bool->(List zkq)->Option (Nat×Int×Int×Int×Int×Int×Bool×Int×Int×Int×Int×Int×Nat×Bool×Bool×(List zkq))
 | 0,_,_,_,_,_,_,_,_,_,_,_,_,_=>none
 | q+1,v1len,v19len,v20,v21,h1z,h1l,h1x,h2_0,h2_1,h2_2,h2_4,h3z,h3l=>(if v21<v20 then (if 0<=v21 then (if v21.toNat<v19len then ((h1l[(1+v21.toNat)]?).bind fun e8=>(if h2_0=3 then ((znl q e8).bind fun r9=>(if r9.2=0 then (if h2_4=true then (if (r9.1.xs.length:Int)=0 then (some (1,0,0,0,0,0,false,(wrp .i64 (v21+1)),3,h2_0,h2_1,h2_2,h3l.length,h2_4,h3z,h3l)) else (if 16<(r9.1.xs.length:Int) then (some (1,0,0,0,0,0,false,(wrp .i64 (v21+1)),3,h2_0,h2_1,h2_2,h3l.length,h2_4,h3z,h3l)) else ((znn q ⟨r9.1.n,r9.1.xs⟩ (wrp .i64 (h2_2+(h3l.length:Int)))).bind fun r10=>(if r10=true then (if 4096<(wrp .i64 ((h3l.length:Int)+(r9.1.xs.length:Int))) then (some (1,0,0,0,0,0,false,(wrp .i64 (v21+1)),5,h2_0,h2_1,h2_2,h3l.length,h2_4,h3z,h3l)) else (if (h3l.length+r9.1.xs.length)<=4294967296 then (zn9 q v1len v19len v20 (wrp .i64 (v21+1)) h1z h1l h1x h2_0 h2_1 h2_2 (decide ((r9.1.xs.length:Int)=16)) (h3z && (decide (r9.1.xs.length=0))) (h3l++r9.1.xs)) else none)) else (some (1,0,0,0,0,0,false,(wrp .i64 (v21+1)),3,h2_0,h2_1,h2_2,h3l.length,h2_4,h3z,h3l)))))) else (some (1,0,0,0,0,0,false,(wrp .i64 (v21+1)),3,h2_0,h2_1,h2_2,h3l.length,h2_4,h3z,h3l))) else (some (1,0,0,0,0,0,false,(wrp .i64 (v21+1)),3,h2_0,h2_1,h2_2,h3l.length,h2_4,h3z,h3l)))) else ((znw q h2_0 e8).bind fun r11=>(if r11.2=true then (if h2_4=true then (if (r11.1.xs.length:Int)=0 then (some (1,0,0,0,0,0,false,(wrp .i64 (v21+1)),3,h2_0,h2_1,h2_2,h3l.length,h2_4,h3z,h3l)) else (if 16<(r11.1.xs.length:Int) then (some (1,0,0,0,0,0,false,(wrp .i64 (v21+1)),3,h2_0,h2_1,h2_2,h3l.length,h2_4,h3z,h3l)) else ((znn q ⟨r11.1.n,r11.1.xs⟩ (wrp .i64 (h2_2+(h3l.length:Int)))).bind fun r12=>(if r12=true then (if 4096<(wrp .i64 ((h3l.length:Int)+(r11.1.xs.length:Int))) then (some (1,0,0,0,0,0,false,(wrp .i64 (v21+1)),5,h2_0,h2_1,h2_2,h3l.length,h2_4,h3z,h3l)) else (if (h3l.length+r11.1.xs.length)<=4294967296 then (zn9 q v1len v19len v20 (wrp .i64 (v21+1)) h1z h1l h1x h2_0 h2_1 h2_2 (decide ((r11.1.xs.length:Int)=16)) (h3z && (decide (r11.1.xs.length=0))) (h3l++r11.1.xs)) else none)) else (some (1,0,0,0,0,0,false,(wrp .i64 (v21+1)),3,h2_0,h2_1,h2_2,h3l.length,h2_4,h3z,h3l)))))) else (some (1,0,0,0,0,0,false,(wrp .i64 (v21+1)),3,h2_0,h2_1,h2_2,h3l.length,h2_4,h3z,h3l))) else (some (1,0,0,0,0,0,false,(wrp .i64 (v21+1)),3,h2_0,h2_1,h2_2,h3l.length,h2_4,h3z,h3l)))))) else none) else none) else (some (1,0,0,0,0,0,false,(v1len:Int),0,h2_0,h2_1,h2_2,h3l.length,h2_4,h3z,h3l)))
def zoa:Nat->Nat->Nat->Int->Bool->(List (Sl Int))->Bool->Int->Int->Int->Bool->Option (Nat×Int×Int×Int×Int×Int×Bool×Int×Int×Int×Int×Int×Nat×Bool×Bool×(List zkq))
 | 0,_,_,_,_,_,_,_,_,_,_=>none
 | q+1,v1len,v19len,v20,h1z,h1l,h1x,h2_0,h2_1,h2_2,h2_4=>(if 0<v20 then (if 0<v19len then ((h1l[1]?).bind fun e3=>(if h2_0=3 then ((znl q e3).bind fun r4=>(if r4.2=0 then (if h2_4=true then (if (r4.1.xs.length:Int)=0 then (some (0,(wrp .i64 1),3,h2_0,h2_1,h2_2,h2_4,0,0,0,0,0,0,false,false,[])) else (if 16<(r4.1.xs.length:Int) then (some (0,(wrp .i64 1),3,h2_0,h2_1,h2_2,h2_4,0,0,0,0,0,0,false,false,[])) else ((znn q ⟨r4.1.n,r4.1.xs⟩ (wrp .i64 (h2_2+0))).bind fun r5=>(if r5=true then (if 4096<(wrp .i64 (0+(r4.1.xs.length:Int))) then (some (0,(wrp .i64 1),5,h2_0,h2_1,h2_2,h2_4,0,0,0,0,0,0,false,false,[])) else (if r4.1.xs.length<=4294967296 then (zn9 q v1len v19len v20 (wrp .i64 1) h1z h1l h1x h2_0 h2_1 h2_2 (decide ((r4.1.xs.length:Int)=16)) (decide (r4.1.xs.length=0)) r4.1.xs) else none)) else (some (0,(wrp .i64 1),3,h2_0,h2_1,h2_2,h2_4,0,0,0,0,0,0,false,false,[])))))) else (some (0,(wrp .i64 1),3,h2_0,h2_1,h2_2,h2_4,0,0,0,0,0,0,false,false,[]))) else (some (0,(wrp .i64 1),3,h2_0,h2_1,h2_2,h2_4,0,0,0,0,0,0,false,false,[])))) else ((znw q h2_0 e3).bind fun r6=>(if r6.2=true then (if h2_4=true then (if (r6.1.xs.length:Int)=0 then (some (0,(wrp .i64 1),3,h2_0,h2_1,h2_2,h2_4,0,0,0,0,0,0,false,false,[])) else (if 16<(r6.1.xs.length:Int) then (some (0,(wrp .i64 1),3,h2_0,h2_1,h2_2,h2_4,0,0,0,0,0,0,false,false,[])) else ((znn q ⟨r6.1.n,r6.1.xs⟩ (wrp .i64 (h2_2+0))).bind fun r7=>(if r7=true then (if 4096<(wrp .i64 (0+(r6.1.xs.length:Int))) then (some (0,(wrp .i64 1),5,h2_0,h2_1,h2_2,h2_4,0,0,0,0,0,0,false,false,[])) else (if r6.1.xs.length<=4294967296 then (zn9 q v1len v19len v20 (wrp .i64 1) h1z h1l h1x h2_0 h2_1 h2_2 (decide ((r6.1.xs.length:Int)=16)) (decide (r6.1.xs.length=0)) r6.1.xs) else none)) else (some (0,(wrp .i64 1),3,h2_0,h2_1,h2_2,h2_4,0,0,0,0,0,0,false,false,[])))))) else (some (0,(wrp .i64 1),3,h2_0,h2_1,h2_2,h2_4,0,0,0,0,0,0,false,false,[]))) else (some (0,(wrp .i64 1),3,h2_0,h2_1,h2_2,h2_4,0,0,0,0,0,0,false,false,[])))))) else none) else (some (0,(v1len:Int),0,h2_0,h2_1,h2_2,h2_4,0,0,0,0,0,0,false,false,[])))
def zob:Nat->Nat->Bool->(List (Sl Int))->Bool->Option (Nat×Int×Int×Int×Int×Int×Bool×Int×Int×Int×Int×Int×Nat×Bool×Bool×(List zkq))
 | 0,_,_,_,_=>none
 | q+1,v1len,h1z,h1l,h1x=>(if 0<v1len then ((h1l[0]?).bind fun e1=>((zn8 q e1.z e1.l h1z h1l h1x).bind fun r2=>(if r2.1=0 then (if 1<=v1len then (zoa q v1len (v1len - 1) (((v1len - 1):Nat):Int) h1z h1l h1x r2.2.1 r2.2.2.1 r2.2.2.2.1 r2.2.2.2.2) else none) else (some (0,0,r2.1,r2.2.1,r2.2.2.1,r2.2.2.2.1,r2.2.2.2.2,0,0,0,0,0,0,false,false,[]))))) else none)
def zoc:Nat->(Sl Int)->Option (zks×(Ow (Sl Int))×Int)
 | 0,_=>none
 | q+1,a0=>((zm9 q a0).bind fun r1=>(if r1.2=0 then (if (r1.1.xs.length:Int)<2 then (some ((⟨0,0,⟨true,[]⟩⟩:zks),⟨true,true,[]⟩,16)) else (if 0<=(wrp .i64 ((r1.1.xs.length:Int) - 1)) then (if (wrp .i64 ((r1.1.xs.length:Int) - 1)).toNat<=r1.1.xs.length then (if r1.1.n=true then ((zn6 q ((wrp .i64 ((r1.1.xs.length:Int) - 1)).toNat) r1.1.n r1.1.xs r1.1.x).bind fun r2=>(if r2.1=0 then (if r2.2.2.1=0 then ((znz q ⟨r1.1.n,r1.1.xs⟩).bind fun r3=>((zn1 q ⟨r3.n,r3.xs⟩).bind fun r4=>(if (wrp .i64 ((r1.1.xs.length:Int) - 1)).toNat<r1.1.xs.length then ((r1.1.xs[(wrp .i64 ((r1.1.xs.length:Int) - 1)).toNat]?).bind fun e5=>((znx q e5).bind fun r6=>((znj q ⟨r4.n,r4.xs⟩ ⟨r6.n,r6.xs⟩).bind fun r7=>(if r7=true then (some ((⟨r2.2.2.2.2.1,r2.2.2.2.2.2.1,⟨true,[]⟩⟩:zks),⟨r3.n,false,r3.xs⟩,0)) else (some ((⟨0,0,⟨true,[]⟩⟩:zks),⟨true,true,[]⟩,16)))))) else none))) else (some ((⟨0,0,⟨true,[]⟩⟩:zks),⟨true,true,[]⟩,r2.2.2.1))) else (if r2.2.2.2.2.2.2.2.2.1=0 then ((znz q ⟨r1.1.n,r1.1.xs⟩).bind fun r8=>((zn1 q ⟨r8.n,r8.xs⟩).bind fun r9=>(if (wrp .i64 ((r1.1.xs.length:Int) - 1)).toNat<r1.1.xs.length then ((r1.1.xs[(wrp .i64 ((r1.1.xs.length:Int) - 1)).toNat]?).bind fun e10=>((znx q e10).bind fun r11=>((znj q ⟨r9.n,r9.xs⟩ ⟨r11.n,r11.xs⟩).bind fun r12=>(if r12=true then (some ((⟨r2.2.2.2.2.2.2.2.2.2.2.1,r2.2.2.2.2.2.2.2.2.2.2.2.1,⟨r2.2.2.2.2.2.2.2.2.2.2.2.2.2.2.1,r2.2.2.2.2.2.2.2.2.2.2.2.2.2.2.2⟩⟩:zks),⟨r8.n,false,r8.xs⟩,0)) else (some ((⟨0,0,⟨true,[]⟩⟩:zks),⟨true,true,[]⟩,16)))))) else none))) else (some ((⟨0,0,⟨true,[]⟩⟩:zks),⟨true,true,[]⟩,r2.2.2.2.2.2.2.2.2.1))))) else ((zob q ((wrp .i64 ((r1.1.xs.length:Int) - 1)).toNat) r1.1.n r1.1.xs r1.1.x).bind fun r13=>(if r13.1=0 then (if r13.2.2.1=0 then ((znz q ⟨r1.1.n,(List.take ((wrp .i64 ((r1.1.xs.length:Int) - 1)).toNat) r1.1.xs)⟩).bind fun r14=>((zn1 q ⟨r14.n,r14.xs⟩).bind fun r15=>(if (wrp .i64 ((r1.1.xs.length:Int) - 1)).toNat<r1.1.xs.length then ((r1.1.xs[(wrp .i64 ((r1.1.xs.length:Int) - 1)).toNat]?).bind fun e16=>((znx q e16).bind fun r17=>((znj q ⟨r15.n,r15.xs⟩ ⟨r17.n,r17.xs⟩).bind fun r18=>(if r18=true then (some ((⟨r13.2.2.2.2.1,r13.2.2.2.2.2.1,⟨true,[]⟩⟩:zks),⟨r14.n,false,r14.xs⟩,0)) else (some ((⟨0,0,⟨true,[]⟩⟩:zks),⟨true,true,[]⟩,16)))))) else none))) else (some ((⟨0,0,⟨true,[]⟩⟩:zks),⟨true,true,[]⟩,r13.2.2.1))) else (if r13.2.2.2.2.2.2.2.2.1=0 then ((znz q ⟨r1.1.n,(List.take ((wrp .i64 ((r1.1.xs.length:Int) - 1)).toNat) r1.1.xs)⟩).bind fun r19=>((zn1 q ⟨r19.n,r19.xs⟩).bind fun r20=>(if (wrp .i64 ((r1.1.xs.length:Int) - 1)).toNat<r1.1.xs.length then ((r1.1.xs[(wrp .i64 ((r1.1.xs.length:Int) - 1)).toNat]?).bind fun e21=>((znx q e21).bind fun r22=>((znj q ⟨r20.n,r20.xs⟩ ⟨r22.n,r22.xs⟩).bind fun r23=>(if r23=true then (some ((⟨r13.2.2.2.2.2.2.2.2.2.2.1,r13.2.2.2.2.2.2.2.2.2.2.2.1,⟨r13.2.2.2.2.2.2.2.2.2.2.2.2.2.2.1,r13.2.2.2.2.2.2.2.2.2.2.2.2.2.2.2⟩⟩:zks),⟨r19.n,false,r19.xs⟩,0)) else (some ((⟨0,0,⟨true,[]⟩⟩:zks),⟨true,true,[]⟩,16)))))) else none))) else (some ((⟨0,0,⟨true,[]⟩⟩:zks),⟨true,true,[]⟩,r13.2.2.2.2.2.2.2.2.1)))))) else none) else none)) else (some ((⟨0,0,⟨true,[]⟩⟩:zks),⟨true,true,[]⟩,r1.2))))
def zod:Nat->(Sl Int)->Option (zks×Int)
 | 0,_=>none
 | q+1,a0=>((zoc q a0).bind fun r1=>(some (r1.1,r1.2.2)))
def zoe:Nat->Bool->(List Int)->Int->Int->Int->Option (Int)
 | 0,_,_,_,_,_=>none
 | q+1,v0z,v0l,v3,v7,v8=>(if v8<v7 then (if 0<=v8 then ((v0l[v8.toNat]?).bind fun e1=>(if (wrp .i64 (8*v8))<0 then none else (zoe q v0z v0l (ibits .or .u64 v3 (ishl .u64 (wrp .u64 e1) (wrp .i64 (8*v8)))) v7 (wrp .i64 (v8+1))))) else none) else (some v3))
def zof:Nat->(Sl Int)->Option (Int)
 | 0,_=>none
 | q+1,a0=>(zoe q a0.z a0.l 0 (if 8<(a0.l.length:Int) then 8 else (a0.l.length:Int)) 0)
def zog:Nat->(Sl Int)->Option (zkt×Int)
 | 0,_=>none
 | q+1,a0=>(if (a0.l.length:Int)=0 then (some ((⟨0,0,0⟩:zkt),3)) else ((a0.l[0]?).bind fun e1=>(if e1=115 then (if 1<=(a0.l.length:Int) then ((zmx q ⟨a0.z,(List.drop 1 a0.l)⟩).bind fun r2=>(if 0<=r2.2 then (if r2.2<=(((a0.l.length - 1):Nat):Int) then ((zmx q ⟨a0.z,(List.drop r2.2.toNat (List.drop 1 a0.l))⟩).bind fun r3=>(if 0<=r3.2 then (if r3.2<=((((a0.l.length - 1) - r2.2.toNat):Nat):Int) then ((zmx q ⟨a0.z,(List.drop r3.2.toNat (List.drop r2.2.toNat (List.drop 1 a0.l)))⟩).bind fun r4=>(if 0<=r4.2 then (if r4.2<=(((((a0.l.length - 1) - r2.2.toNat) - r3.2.toNat):Nat):Int) then (if r2.2=0 then (some ((⟨r3.1,r4.1,0⟩:zkt),3)) else (if r3.2=0 then (some ((⟨r3.1,r4.1,0⟩:zkt),3)) else (if r4.2=0 then (some ((⟨r3.1,r4.1,0⟩:zkt),3)) else (if r2.1=3 then (if ((((((a0.l.length - 1) - r2.2.toNat) - r3.2.toNat) - r4.2.toNat):Nat):Int)=4 then ((zof q ⟨a0.z,(List.drop r4.2.toNat (List.drop r3.2.toNat (List.drop r2.2.toNat (List.drop 1 a0.l))))⟩).bind fun r5=>(some ((⟨r3.1,r4.1,r5⟩:zkt),0))) else (some ((⟨r3.1,r4.1,0⟩:zkt),3))) else (some ((⟨r3.1,r4.1,0⟩:zkt),6)))))) else none) else none)) else none) else none)) else none) else none)) else none) else (some ((⟨0,0,0⟩:zkt),3)))))
def zoh:Nat->Bool->(List (Sl Int))->Bool->(List (Sl Int))->Int->Int->Option (Bool)
 | 0,_,_,_,_,_,_=>none
 | q+1,v0z,v0l,v5z,v5l,v6,v7=>(if v7<v6 then (if 0<=v7 then ((v5l[v7.toNat]?).bind fun e1=>(if (e1.l.length:Int)=0 then (some false) else (if 64<(e1.l.length:Int) then (some false) else (if (e1.l.length:Int)<64 then (if v7<(wrp .i64 ((v0l.length:Int) - 1)) then (some false) else (zoh q v0z v0l v5z v5l v6 (wrp .i64 (v7+1)))) else (zoh q v0z v0l v5z v5l v6 (wrp .i64 (v7+1))))))) else none) else (some true))
def zoi:Nat->(Sl (Sl Int))->Option (Bool)
 | 0,_=>none
 | q+1,a0=>(zoh q a0.z a0.l a0.z a0.l (a0.l.length:Int) 0)
def zoj:Nat->Int->Int->Bool->(List Int)->Bool->Int->Bool->Int->(List Int)->Option (zkm×Int)
 | 0,_,_,_,_,_,_,_,_,_=>none
 | q+1,v42,v43,h1_0z,h1_0l,h2_0,h3_0,h3_2,h3_3,h4l=>(if v43<v42 then ((zm3 q ⟨h1_0z,h1_0l⟩).bind fun r7=>(if h2_0=true then (if 0<=r7.2 then (if r7.2<=(h1_0l.length:Int) then (if (h4l.length+1)<=4294967296 then (zoj q v42 (wrp .i64 (v43+1)) h1_0z (List.drop r7.2.toNat h1_0l) (decide (0<r7.2)) h3_0 h3_2 h3_3 (h4l++[r7.1])) else none) else none) else none) else (if 0<=r7.2 then (if r7.2<=(h1_0l.length:Int) then (if (h4l.length+1)<=4294967296 then (zoj q v42 (wrp .i64 (v43+1)) h1_0z (List.drop r7.2.toNat h1_0l) false h3_0 h3_2 h3_3 (h4l++[r7.1])) else none) else none) else none))) else (if h2_0=true then (if 0<(h1_0l.length:Int) then (some ((⟨0,⟨true,[]⟩,false,0⟩:zkm),3)) else ((zlc q (⟨h3_0,⟨false,h4l⟩,h3_2,h3_3⟩:zkm)).bind fun r8=>(if r8=true then (some ((⟨h3_0,⟨false,h4l⟩,h3_2,h3_3⟩:zkm),0)) else (some ((⟨0,⟨true,[]⟩,false,0⟩:zkm),1))))) else (some ((⟨0,⟨true,[]⟩,false,0⟩:zkm),3))))
def zok:Nat->Int->Bool->(List Int)->Bool->Int->Bool->Int->Option (zkm×Int)
 | 0,_,_,_,_,_,_,_=>none
 | q+1,v42,h1_0z,h1_0l,h2_0,h3_0,h3_2,h3_3=>(if 0<v42 then ((zm3 q ⟨h1_0z,h1_0l⟩).bind fun r5=>(if h2_0=true then (if 0<=r5.2 then (if r5.2<=(h1_0l.length:Int) then (zoj q v42 (wrp .i64 1) h1_0z (List.drop r5.2.toNat h1_0l) (decide (0<r5.2)) h3_0 h3_2 h3_3 [r5.1]) else none) else none) else (if 0<=r5.2 then (if r5.2<=(h1_0l.length:Int) then (zoj q v42 (wrp .i64 1) h1_0z (List.drop r5.2.toNat h1_0l) false h3_0 h3_2 h3_3 [r5.1]) else none) else none))) else (if h2_0=true then (if 0<(h1_0l.length:Int) then (some ((⟨0,⟨true,[]⟩,false,0⟩:zkm),3)) else ((zlc q (⟨h3_0,⟨true,[]⟩,h3_2,h3_3⟩:zkm)).bind fun r6=>(if r6=true then (some ((⟨h3_0,⟨true,[]⟩,h3_2,h3_3⟩:zkm),0)) else (some ((⟨0,⟨true,[]⟩,false,0⟩:zkm),1))))) else (some ((⟨0,⟨true,[]⟩,false,0⟩:zkm),3))))
def zol:Nat->(Sl Int)->Option (zkm×Int)
 | 0,_=>none
 | q+1,a0=>((zmx q a0).bind fun r1=>(if 0<=r1.2 then (if r1.2<=(a0.l.length:Int) then ((zmx q ⟨a0.z,(List.drop r1.2.toNat a0.l)⟩).bind fun r2=>(if 0<r1.2 then (if 0<=r2.2 then (if r2.2<=(((a0.l.length - r1.2.toNat):Nat):Int) then ((zmx q ⟨a0.z,(List.drop r2.2.toNat (List.drop r1.2.toNat a0.l))⟩).bind fun r3=>(if 0<r2.2 then (if 0<=r3.2 then (if r3.2<=((((a0.l.length - r1.2.toNat) - r2.2.toNat):Nat):Int) then (if 0<r3.2 then (if 3<r2.1 then (some ((⟨0,⟨true,[]⟩,false,0⟩:zkm),3)) else (if 128<r3.1 then (some ((⟨0,⟨true,[]⟩,false,0⟩:zkm),3)) else (zok q r3.1 a0.z (List.drop r3.2.toNat (List.drop r2.2.toNat (List.drop r1.2.toNat a0.l))) (decide (0<r3.2)) r1.1 (decide (0<r2.1)) (if (wrp .i64 (r2.1 - 1))<0 then 0 else (wrp .i64 (r2.1 - 1)))))) else (some ((⟨0,⟨true,[]⟩,false,0⟩:zkm),3))) else none) else none) else (if 0<=r3.2 then (if r3.2<=((((a0.l.length - r1.2.toNat) - r2.2.toNat):Nat):Int) then (some ((⟨0,⟨true,[]⟩,false,0⟩:zkm),3)) else none) else none))) else none) else none) else (if 0<=r2.2 then (if r2.2<=(((a0.l.length - r1.2.toNat):Nat):Int) then ((zmx q ⟨a0.z,(List.drop r2.2.toNat (List.drop r1.2.toNat a0.l))⟩).bind fun r4=>(if 0<=r4.2 then (if r4.2<=((((a0.l.length - r1.2.toNat) - r2.2.toNat):Nat):Int) then (some ((⟨0,⟨true,[]⟩,false,0⟩:zkm),3)) else none) else none)) else none) else none))) else none) else none))
def zom:Nat->(Sl Int)->Option (zkn×Int)
 | 0,_=>none
 | q+1,a0=>((zmx q a0).bind fun r1=>(if 0<=r1.2 then (if r1.2<=(a0.l.length:Int) then ((zmx q ⟨a0.z,(List.drop r1.2.toNat a0.l)⟩).bind fun r2=>(if 0<=r2.2 then (if r2.2<=(((a0.l.length - r1.2.toNat):Nat):Int) then ((zm3 q ⟨a0.z,(List.drop r2.2.toNat (List.drop r1.2.toNat a0.l))⟩).bind fun r3=>(if r1.2=0 then (some ((⟨r1.1,r2.1,r3.1⟩:zkn),0)) else (if r2.2=0 then (some ((⟨r1.1,r2.1,r3.1⟩:zkn),0)) else (if r3.2=0 then (some ((⟨r1.1,r2.1,r3.1⟩:zkn),0)) else (some ((⟨r1.1,r2.1,r3.1⟩:zkn),(wrp .i64 ((wrp .i64 (r1.2+r2.2))+r3.2)))))))) else none) else none)) else none) else none))
def zon:Nat->Bool->(List Int)->Int->Int->Int->Int->Bool->(List Int)->Bool->Int->(List zkn)->Option (zko×Int)
 | 0,_,_,_,_,_,_,_,_,_,_,_=>none
 | q+1,v0z,v0l,v3,v62,v63,h1_0,h1_1z,h1_1l,h1_2,h1_3,h2l=>(if v63<v62 then ((zom q ⟨v0z,v0l⟩).bind fun r5=>(if r5.2=0 then (some ((⟨0,(⟨0,⟨true,[]⟩,false,0⟩:zkm),⟨false,h2l⟩⟩:zko),3)) else (if (h2l.length+1)<=4294967296 then (if 0<=r5.2 then (if r5.2<=(v0l.length:Int) then (zon q v0z (List.drop r5.2.toNat v0l) v3 v62 (wrp .i64 (v63+1)) h1_0 h1_1z h1_1l h1_2 h1_3 (h2l++[r5.1])) else none) else none) else none))) else (if 0<(v0l.length:Int) then (some ((⟨0,(⟨0,⟨true,[]⟩,false,0⟩:zkm),⟨false,h2l⟩⟩:zko),3)) else (some ((⟨0,(⟨h1_0,⟨h1_1z,h1_1l⟩,h1_2,h1_3⟩:zkm),⟨false,h2l⟩⟩:zko),v3))))
def zoo:Nat->Bool->(List Int)->Int->Int->Int->Bool->(List Int)->Bool->Int->Option (zko×Int)
 | 0,_,_,_,_,_,_,_,_,_=>none
 | q+1,v0z,v0l,v3,v62,h1_0,h1_1z,h1_1l,h1_2,h1_3=>(if 0<v62 then ((zom q ⟨v0z,v0l⟩).bind fun r4=>(if r4.2=0 then (some ((⟨0,(⟨0,⟨true,[]⟩,false,0⟩:zkm),⟨true,[]⟩⟩:zko),3)) else (if 0<=r4.2 then (if r4.2<=(v0l.length:Int) then (zon q v0z (List.drop r4.2.toNat v0l) v3 v62 (wrp .i64 1) h1_0 h1_1z h1_1l h1_2 h1_3 [r4.1]) else none) else none))) else (if 0<(v0l.length:Int) then (some ((⟨0,(⟨0,⟨true,[]⟩,false,0⟩:zkm),⟨true,[]⟩⟩:zko),3)) else (some ((⟨0,(⟨h1_0,⟨h1_1z,h1_1l⟩,h1_2,h1_3⟩:zkm),⟨true,[]⟩⟩:zko),v3))))
def zop:Nat->(Sl Int)->Option (zko×Int)
 | 0,_=>none
 | q+1,a0=>((zmx q a0).bind fun r1=>(if r1.2=0 then (some ((⟨0,(⟨0,⟨true,[]⟩,false,0⟩:zkm),⟨true,[]⟩⟩:zko),3)) else (if (wrp .i64 ((a0.l.length:Int) - r1.2))<r1.1 then (some ((⟨0,(⟨0,⟨true,[]⟩,false,0⟩:zkm),⟨true,[]⟩⟩:zko),3)) else (if 0<=r1.2 then (if r1.2<=(wrp .i64 (r1.2+r1.1)) then (if (wrp .i64 (r1.2+r1.1)).toNat<=a0.l.length then ((zol q ⟨a0.z,(List.drop r1.2.toNat (List.take ((wrp .i64 (r1.2+r1.1)).toNat) a0.l))⟩).bind fun r2=>(if r2.2=3 then (some ((⟨0,(⟨0,⟨true,[]⟩,false,0⟩:zkm),⟨true,[]⟩⟩:zko),r2.2)) else (if 0<=(wrp .i64 (r1.2+r1.1)) then (if (wrp .i64 (r1.2+r1.1))<=(a0.l.length:Int) then ((zmx q ⟨a0.z,(List.drop ((wrp .i64 (r1.2+r1.1)).toNat) a0.l)⟩).bind fun r3=>(if r3.2=0 then (some ((⟨0,(⟨0,⟨true,[]⟩,false,0⟩:zkm),⟨true,[]⟩⟩:zko),3)) else (if (((a0.l.length - (wrp .i64 (r1.2+r1.1)).toNat):Nat):Int)<r3.1 then (some ((⟨0,(⟨0,⟨true,[]⟩,false,0⟩:zkm),⟨true,[]⟩⟩:zko),3)) else (if 0<=r3.2 then (if r3.2<=(((a0.l.length - (wrp .i64 (r1.2+r1.1)).toNat):Nat):Int) then (zoo q a0.z (List.drop r3.2.toNat (List.drop ((wrp .i64 (r1.2+r1.1)).toNat) a0.l)) r2.2 r3.1 r2.1.Kind r2.1.L.z r2.1.L.l r2.1.Sealed r2.1.To) else none) else none)))) else none) else none))) else none) else none) else none))))
def zoq:Nat->(Sl Int)->Option (zko×Int)
 | 0,_=>none
 | q+1,a0=>((zm9 q a0).bind fun r1=>(if r1.2=0 then (if (r1.1.xs.length:Int)=0 then (some ((⟨0,(⟨0,⟨true,[]⟩,false,0⟩:zkm),⟨true,[]⟩⟩:zko),16)) else (if 0<r1.1.xs.length then ((r1.1.xs[0]?).bind fun e2=>((zog q e2).bind fun r3=>(if r3.2=0 then (if 1<=r1.1.xs.length then ((zmp q ⟨r1.1.n,(List.drop 1 r1.1.xs)⟩).bind fun r4=>(if (r4.xs.length:Int)=r3.1.size then ((zoi q ⟨r1.1.n,(List.drop 1 r1.1.xs)⟩).bind fun r5=>(if r5=true then ((zmg q ⟨r4.n,r4.xs⟩).bind fun r6=>(if (wrp .u64 r6)=r3.1.sum then ((zop q ⟨r4.n,r4.xs⟩).bind fun r7=>(if r7.2=0 then ((zl5 q (⟨r3.1.index,r7.1.State,r7.1.Table⟩:zko)).bind fun r8=>(if r8=true then (some ((⟨r3.1.index,r7.1.State,r7.1.Table⟩:zko),0)) else (some ((⟨0,(⟨0,⟨true,[]⟩,false,0⟩:zkm),⟨true,[]⟩⟩:zko),1)))) else (some ((⟨0,(⟨0,⟨true,[]⟩,false,0⟩:zkm),⟨true,[]⟩⟩:zko),r7.2)))) else (some ((⟨0,(⟨0,⟨true,[]⟩,false,0⟩:zkm),⟨true,[]⟩⟩:zko),4)))) else (some ((⟨0,(⟨0,⟨true,[]⟩,false,0⟩:zkm),⟨true,[]⟩⟩:zko),3)))) else (some ((⟨0,(⟨0,⟨true,[]⟩,false,0⟩:zkm),⟨true,[]⟩⟩:zko),16)))) else none) else (some ((⟨0,(⟨0,⟨true,[]⟩,false,0⟩:zkm),⟨true,[]⟩⟩:zko),r3.2))))) else none)) else (some ((⟨0,(⟨0,⟨true,[]⟩,false,0⟩:zkm),⟨true,[]⟩⟩:zko),r1.2))))
def zor:Nat->Bool->(List Int)->Int->Option (Bool)
 | 0,_,_,_=>none
 | q+1,v0z,v0l,v3=>(if v3<(v0l.length:Int) then (if 0<=v3 then ((v0l[v3.toNat]?).bind fun e1=>(if e1<128 then (some false) else (zor q v0z v0l (wrp .i64 (v3+1))))) else none) else (some (decide ((v0l.length:Int)<10))))
def zos:Nat->(Sl Int)->Option (Bool)
 | 0,_=>none
 | q+1,a0=>(zor q a0.z a0.l 0)
def zot:Nat->Bool->(List Int)->Int->Int->Int->Option (Int×Int)
 | 0,_,_,_,_,_=>none
 | q+1,v0z,v0l,v4,v5,v6=>(if v6<(v0l.length:Int) then (if v6<10 then (if 0<=v6 then ((v0l[v6.toNat]?).bind fun e1=>(if v6=9 then (if 1<(wrp .u64 (Int.tmod e1 128)) then (some (0,0)) else (if e1<128 then (if 0<v6 then (if (wrp .u64 (Int.tmod e1 128))=0 then (some (0,0)) else (some ((wrp .u64 (v4+(wrp .u64 ((wrp .u64 (Int.tmod e1 128))*v5)))),(wrp .i64 (v6+1))))) else (some ((wrp .u64 (v4+(wrp .u64 ((wrp .u64 (Int.tmod e1 128))*v5)))),(wrp .i64 (v6+1))))) else (zot q v0z v0l (wrp .u64 (v4+(wrp .u64 ((wrp .u64 (Int.tmod e1 128))*v5)))) (wrp .u64 (v5*128)) (wrp .i64 (v6+1))))) else (if e1<128 then (if 0<v6 then (if (wrp .u64 (Int.tmod e1 128))=0 then (some (0,0)) else (some ((wrp .u64 (v4+(wrp .u64 ((wrp .u64 (Int.tmod e1 128))*v5)))),(wrp .i64 (v6+1))))) else (some ((wrp .u64 (v4+(wrp .u64 ((wrp .u64 (Int.tmod e1 128))*v5)))),(wrp .i64 (v6+1))))) else (zot q v0z v0l (wrp .u64 (v4+(wrp .u64 ((wrp .u64 (Int.tmod e1 128))*v5)))) (wrp .u64 (v5*128)) (wrp .i64 (v6+1)))))) else none) else (some (0,0))) else (some (0,0)))
def zou:Nat->(Sl Int)->Option (Int×Int)
 | 0,_=>none
 | q+1,a0=>(zot q a0.z a0.l 0 1 0)
def zov:Nat->(Sl Int)->Option (Int×Int)
 | 0,_=>none
 | q+1,a0=>((zou q a0).bind fun r1=>(if r1.2=0 then (some (0,0)) else (if 4611686018427387904<=r1.1 then (some (0,0)) else (some ((wrp .i64 r1.1),r1.2)))))
def zow:Nat->Int->Int->Option (Int)
 | 0,_,_=>none
 | q+1,v3,v4=>(if v4<8 then (if (Int.tmod v3 2)=1 then (zow q (ibits .xor .u32 (wrp .u32 (Int.tdiv v3 2)) 2197175160) (wrp .i64 (v4+1))) else (zow q (wrp .u32 (Int.tdiv v3 2)) (wrp .i64 (v4+1)))) else (some v3))
def zox:Nat->Int->Option (Int)
 | 0,_=>none
 | q+1,a0=>(zow q (wrp .u32 a0) 0)
def zoy:Nat->Bool->(List Int)->Int->Int->Option (Int)
 | 0,_,_,_,_=>none
 | q+1,v1z,v1l,v5,v6=>(if v6<(v1l.length:Int) then (if 0<=v6 then ((v1l[v6.toNat]?).bind fun e1=>((zox q (ibits .xor .u8 (wrp .u8 v5) e1)).bind fun r2=>(zoy q v1z v1l (ibits .xor .u32 r2 (wrp .u32 (Int.tdiv v5 256))) (wrp .i64 (v6+1))))) else none) else (some (ibits .xor .u32 4294967295 v5)))
def zoz:Nat->Int->(Sl Int)->Option (Int)
 | 0,_,_=>none
 | q+1,a0,a1=>(zoy q a1.z a1.l (ibits .xor .u32 4294967295 a0) 0)
def zo0:Nat->(Sl Int)->Option (Int)
 | 0,_=>none
 | q+1,a0=>((zoz q 0 a0).bind fun r1=>(some r1))
def zo1:Nat->Bool->(List Int)->Int->Int->Option (Int)
 | 0,_,_,_,_=>none
 | q+1,v0z,v0l,v3,v4=>(if 0<=v4 then (if v4<(v0l.length:Int) then ((v0l[v4.toNat]?).bind fun e1=>(zo1 q v0z v0l (wrp .u64 ((wrp .u64 (v3*256))+(wrp .u64 e1))) (wrp .i64 (v4 - 1)))) else (zo1 q v0z v0l v3 (wrp .i64 (v4 - 1)))) else (some v3))
def zo2:Nat->(Sl Int)->Option (Int)
 | 0,_=>none
 | q+1,a0=>(zo1 q a0.z a0.l 0 7)
def zo3:Nat->(Sl Int)->Option ((Ow Int)×Int×Int)
 | 0,_=>none
 | q+1,a0=>((zos q a0).bind fun r1=>(if r1=true then (some (⟨true,true,[]⟩,0,2)) else ((zov q a0).bind fun r2=>(if r2.2=0 then (some (⟨true,true,[]⟩,0,3)) else (if 1048576<r2.1 then (some (⟨true,true,[]⟩,0,5)) else (if (a0.l.length:Int)<(wrp .i64 ((wrp .i64 (r2.2+4))+r2.1)) then (some (⟨true,true,[]⟩,0,2)) else (if 0<=r2.2 then (if r2.2<=(wrp .i64 (r2.2+r2.1)) then (if (wrp .i64 (r2.2+r2.1)).toNat<=a0.l.length then (if 0<=(wrp .i64 (r2.2+r2.1)) then ((zo0 q ⟨a0.z,(List.take ((wrp .i64 (r2.2+r2.1)).toNat) a0.l)⟩).bind fun r3=>(if (wrp .i64 (r2.2+r2.1))<=(wrp .i64 ((wrp .i64 (r2.2+r2.1))+4)) then (if (wrp .i64 ((wrp .i64 (r2.2+r2.1))+4)).toNat<=a0.l.length then ((zo2 q ⟨a0.z,(List.drop ((wrp .i64 (r2.2+r2.1)).toNat) (List.take ((wrp .i64 ((wrp .i64 (r2.2+r2.1))+4)).toNat) a0.l))⟩).bind fun r4=>(if r4=(wrp .u64 r3) then (if ((min ((wrp .i64 (r2.2+r2.1)).toNat) a0.l.length) - r2.2.toNat)<=4294967296 then (some (⟨(decide (((min ((wrp .i64 (r2.2+r2.1)).toNat) a0.l.length) - r2.2.toNat)=0)),true,(List.drop r2.2.toNat (List.take ((wrp .i64 (r2.2+r2.1)).toNat) a0.l))⟩,(wrp .i64 ((wrp .i64 (r2.2+4))+r2.1)),0)) else none) else (some (⟨true,true,[]⟩,0,4)))) else none) else none)) else none) else none) else none) else none)))))))
def zo4:Nat->Bool->(List Int)->Int->Bool->(List (Sl Int))->Option ((Ow (Sl Int))×Int×Int)
 | 0,_,_,_,_,_=>none
 | q+1,v0z,v0l,v6,h0z,h0l=>(if v6<(v0l.length:Int) then (if 0<=v6 then (if v6<=(v0l.length:Int) then ((zo3 q ⟨v0z,(List.drop v6.toNat v0l)⟩).bind fun r1=>(if r1.2.2=0 then (if (h0l.length+1)<=4294967296 then (zo4 q v0z v0l (wrp .i64 (v6+r1.2.1)) false (h0l++[⟨r1.1.n,r1.1.xs⟩])) else none) else (some (⟨h0z,true,h0l⟩,v6,r1.2.2)))) else none) else none) else (some (⟨h0z,true,h0l⟩,v6,0)))
def zo5:Nat->(Sl Int)->Option ((Ow (Sl Int))×Int×Int)
 | 0,_=>none
 | q+1,a0=>(zo4 q a0.z a0.l 0 true [])
def zo6:Nat->(Sl Int)->Option ((Ow (Sl Int))×Int)
 | 0,_=>none
 | q+1,a0=>((zo5 q a0).bind fun r1=>(if r1.2.2=0 then (some (r1.1,0)) else (some (⟨true,true,[]⟩,r1.2.2))))
def zo7:Nat->Int->Int->Option (Bool)
 | 0,_,_=>none
 | q+1,a0,a1=>(if a1=1 then (some true) else (if a1=2 then (some true) else (if a1=4 then (some true) else (if a1=3 then (if 2<=a0 then (some true) else (if a1=5 then (some (decide (a0=3))) else (some false))) else (if a1=5 then (some (decide (a0=3))) else (some false))))))
def zo8:Nat->Int->Option (Int)
 | 0,_=>none
 | q+1,a0=>(if (Int.tmod a0 2)=0 then (some (wrp .i64 (wrp .u64 (Int.tdiv a0 2)))) else (some (wrp .i64 ((wrp .i64 (0 - (wrp .i64 (wrp .u64 (Int.tdiv a0 2))))) - 1))))
def zo9:Nat->(Sl Int)->Option (Int×Int)
 | 0,_=>none
 | q+1,a0=>((zou q a0).bind fun r1=>(if r1.2=0 then (some (0,0)) else ((zo8 q r1.1).bind fun r2=>(some (r2,r1.2)))))
def zpa:Nat->zkp->Option (Bool)
 | 0,_=>none
 | q+1,a0=>(if 0<=a0.Code then (if a0.Code<=10 then ((zky q a0.A).bind fun r1=>(if a0.A=r1 then ((zky q a0.B).bind fun r2=>(some (decide (a0.B=r2)))) else (some false))) else (some false)) else (some false))
def zpb:Nat->(Sl Int)->Option (zkp×Int)
 | 0,_=>none
 | q+1,a0=>((zov q a0).bind fun r1=>(if 0<=r1.2 then (if r1.2<=(a0.l.length:Int) then ((zo9 q ⟨a0.z,(List.drop r1.2.toNat a0.l)⟩).bind fun r2=>(if 0<=(wrp .i64 (r1.2+r2.2)) then (if (wrp .i64 (r1.2+r2.2))<=(a0.l.length:Int) then ((zo9 q ⟨a0.z,(List.drop ((wrp .i64 (r1.2+r2.2)).toNat) a0.l)⟩).bind fun r3=>((zpa q (⟨r1.1,r2.1,r3.1⟩:zkp)).bind fun r4=>(if r1.2=0 then (some ((⟨0,0,0⟩:zkp),0)) else (if r2.2=0 then (some ((⟨0,0,0⟩:zkp),0)) else (if r3.2=0 then (some ((⟨0,0,0⟩:zkp),0)) else (if r4=true then (some ((⟨r1.1,r2.1,r3.1⟩:zkp),(wrp .i64 ((wrp .i64 (r1.2+r2.2))+r3.2)))) else (some ((⟨0,0,0⟩:zkp),0)))))))) else none) else none)) else none) else none))
def zpc:Nat->zkq->Int->(Sl Int)->Option (zkq×Int)
 | 0,_,_,_=>none
 | q+1,a0,a1,a2=>((zov q a2).bind fun r1=>(if a1=1 then (some ((⟨r1.1,a0.Proc,a0.Seq,a0.Op,a0.Resp⟩:zkq),r1.2)) else (if a1=2 then (some ((⟨a0.Index,r1.1,a0.Seq,a0.Op,a0.Resp⟩:zkq),r1.2)) else (if a1=3 then (some ((⟨a0.Index,a0.Proc,r1.1,a0.Op,a0.Resp⟩:zkq),r1.2)) else (if a1=4 then ((zpb q a2).bind fun r2=>(some ((⟨a0.Index,a0.Proc,a0.Seq,r2.1,a0.Resp⟩:zkq),r2.2))) else (if a1=5 then ((zo9 q a2).bind fun r3=>(some ((⟨a0.Index,a0.Proc,a0.Seq,a0.Op,r3.1⟩:zkq),r3.2))) else (some (a0,r1.2))))))))
def zpd:Nat->zkq->Option (Bool)
 | 0,_=>none
 | q+1,a0=>((zpa q a0.Op).bind fun r1=>(if r1=true then (if 0<=a0.Index then (if a0.Index<4611686018427387904 then (if 0<=a0.Seq then (if a0.Seq<4611686018427387904 then (if 0<=a0.Proc then (if a0.Proc<=64 then (if (-1125899906842624)<=a0.Resp then (some (decide (a0.Resp<=1125899906842624))) else (some false)) else (some false)) else (some false)) else (some false)) else (some false)) else (some false)) else (some false)) else (some false)))
def zpe:Nat->Bool->(List Int)->Int->Int->Int->Int->Int->Int->Int->Int->Int->Int->Int->Option (zkq×Int)
 | 0,_,_,_,_,_,_,_,_,_,_,_,_,_=>none
 | q+1,v0z,v0l,v5,v6,v8,v9,h2_0,h2_1,h2_2,h2_3,h2_4,h2_5,h2_6=>(if v6<(v0l.length:Int) then (if 0<=v6 then (if v6<=(v0l.length:Int) then ((zov q ⟨v0z,(List.drop v6.toNat v0l)⟩).bind fun r2=>(if r2.2=0 then (some ((⟨0,0,0,(⟨0,0,0⟩:zkp),0⟩:zkq),3)) else (if r2.1<=v8 then (some ((⟨0,0,0,(⟨0,0,0⟩:zkp),0⟩:zkq),3)) else ((zo7 q v5 r2.1).bind fun r3=>(if r3=true then (if 0<=(wrp .i64 (v6+r2.2)) then (if (wrp .i64 (v6+r2.2))<=(v0l.length:Int) then ((zpc q (⟨h2_0,h2_1,h2_2,(⟨h2_3,h2_4,h2_5⟩:zkp),h2_6⟩:zkq) r2.1 ⟨v0z,(List.drop ((wrp .i64 (v6+r2.2)).toNat) v0l)⟩).bind fun r4=>(if r4.2=0 then (some ((⟨0,0,0,(⟨0,0,0⟩:zkp),0⟩:zkq),3)) else (zpe q v0z v0l v5 (wrp .i64 ((wrp .i64 (v6+r2.2))+r4.2)) r2.1 (wrp .i64 (v9+1)) r4.1.Index r4.1.Proc r4.1.Seq r4.1.Op.Code r4.1.Op.A r4.1.Op.B r4.1.Resp))) else none) else none) else (if r2.1<16 then (some ((⟨0,0,0,(⟨0,0,0⟩:zkp),0⟩:zkq),7)) else (if v5=3 then (some ((⟨0,0,0,(⟨0,0,0⟩:zkp),0⟩:zkq),7)) else (if 0<=(wrp .i64 (v6+r2.2)) then (if (wrp .i64 (v6+r2.2))<=(v0l.length:Int) then ((zov q ⟨v0z,(List.drop ((wrp .i64 (v6+r2.2)).toNat) v0l)⟩).bind fun r5=>(if r5.2=0 then (some ((⟨0,0,0,(⟨0,0,0⟩:zkp),0⟩:zkq),3)) else (if (wrp .i64 ((wrp .i64 ((v0l.length:Int) - (wrp .i64 (v6+r2.2)))) - r5.2))<r5.1 then (some ((⟨0,0,0,(⟨0,0,0⟩:zkp),0⟩:zkq),3)) else (zpe q v0z v0l v5 (wrp .i64 ((wrp .i64 ((wrp .i64 (v6+r2.2))+r5.2))+r5.1)) r2.1 v9 h2_0 h2_1 h2_2 h2_3 h2_4 h2_5 h2_6)))) else none) else none)))))))) else none) else none) else (if v9=(wrp .i64 (v5+2)) then ((zpd q (⟨h2_0,h2_1,h2_2,(⟨h2_3,h2_4,h2_5⟩:zkp),h2_6⟩:zkq)).bind fun r6=>(if r6=true then (some ((⟨h2_0,h2_1,h2_2,(⟨h2_3,h2_4,h2_5⟩:zkp),h2_6⟩:zkq),0)) else (some ((⟨0,0,0,(⟨0,0,0⟩:zkp),0⟩:zkq),1)))) else (some ((⟨0,0,0,(⟨0,0,0⟩:zkp),0⟩:zkq),7))))
def zpf:Nat->(Sl Int)->Option (zkq×Int)
 | 0,_=>none
 | q+1,a0=>(if (a0.l.length:Int)=0 then (some ((⟨0,0,0,(⟨0,0,0⟩:zkp),0⟩:zkq),2)) else ((zov q a0).bind fun r1=>(if r1.2=0 then (some ((⟨0,0,0,(⟨0,0,0⟩:zkp),0⟩:zkq),3)) else (if r1.1<1 then (some ((⟨0,0,0,(⟨0,0,0⟩:zkp),0⟩:zkq),6)) else (if 3<r1.1 then (some ((⟨0,0,0,(⟨0,0,0⟩:zkp),0⟩:zkq),6)) else (zpe q a0.z a0.l r1.1 r1.2 (-1) 0 0 0 0 0 0 0 0))))))
def zpg:Nat->Int->Bool->(List Int)->Bool->(List zkq)->Option ((Ow zkq)×Bool)
 | 0,_,_,_,_,_=>none
 | q+1,v0,v1z,v1l,h0z,h0l=>(if 0<(v1l.length:Int) then ((zov q ⟨v1z,v1l⟩).bind fun r1=>(if r1.2=0 then (some (⟨true,true,[]⟩,false)) else (if (wrp .i64 ((v1l.length:Int) - r1.2))<r1.1 then (some (⟨true,true,[]⟩,false)) else (if r1.1<1 then (some (⟨true,true,[]⟩,false)) else (if 0<=r1.2 then ((v1l[r1.2.toNat]?).bind fun e2=>(if e2=(wrp .u8 v0) then (if r1.2<=(wrp .i64 (r1.2+r1.1)) then (if (wrp .i64 (r1.2+r1.1)).toNat<=v1l.length then ((zpf q ⟨v1z,(List.drop r1.2.toNat (List.take ((wrp .i64 (r1.2+r1.1)).toNat) v1l))⟩).bind fun r3=>(if r3.2=0 then (if (h0l.length+1)<=4294967296 then (if 0<=(wrp .i64 (r1.2+r1.1)) then (if (wrp .i64 (r1.2+r1.1))<=(v1l.length:Int) then (zpg q v0 v1z (List.drop ((wrp .i64 (r1.2+r1.1)).toNat) v1l) false (h0l++[r3.1])) else none) else none) else none) else (some (⟨true,true,[]⟩,false)))) else none) else none) else (some (⟨true,true,[]⟩,false)))) else none))))) else (some (⟨h0z,true,h0l⟩,true)))
def zph:Nat->Int->(Sl Int)->Option ((Ow zkq)×Bool)
 | 0,_,_=>none
 | q+1,a0,a1=>(zpg q a0 a1.z a1.l true [])
def zpi:Nat->Bool->(List zkq)->Int->Int->Option (Bool)
 | 0,_,_,_,_=>none
 | q+1,v0z,v0l,v1,v5=>(if v5<(v0l.length:Int) then (if 0<=v5 then ((v0l[v5.toNat]?).bind fun e1=>((zpd q e1).bind fun r2=>(if r2=true then (if e1.Index=(wrp .i64 (v1+v5)) then (zpi q v0z v0l v1 (wrp .i64 (v5+1))) else (some false)) else (some false)))) else none) else (some true))
def zpj:Nat->(Sl zkq)->Int->Option (Bool)
 | 0,_,_=>none
 | q+1,a0,a1=>(if 4096<(a0.l.length:Int) then (some false) else (zpi q a0.z a0.l a1 0))
def zpk:Nat->Bool->(List zkq)->Int->Int->Option (Int)
 | 0,_,_,_,_=>none
 | q+1,v0z,v0l,v1,v5=>(if 0<=v5 then ((v0l[v5.toNat]?).bind fun e1=>(if e1.Proc=v1 then (some e1.Seq) else (zpk q v0z v0l v1 (wrp .i64 (v5 - 1))))) else (some 0))
def zpl:Nat->(Sl zkq)->Int->Option (Int)
 | 0,_,_=>none
 | q+1,a0,a1=>(zpk q a0.z a0.l a1 (wrp .i64 ((a0.l.length:Int) - 1)))
def zpm:Nat->(Sl zkq)->(Sl Int)->Option (zkq×Int)
 | 0,_,_=>none
 | q+1,a0,a1=>((zov q a1).bind fun r1=>(if 0<=r1.2 then (if r1.2<=(a1.l.length:Int) then ((zo9 q ⟨a1.z,(List.drop r1.2.toNat a1.l)⟩).bind fun r2=>(if 0<=(wrp .i64 (r1.2+r2.2)) then (if (wrp .i64 (r1.2+r2.2))<=(a1.l.length:Int) then ((zpb q ⟨a1.z,(List.drop ((wrp .i64 (r1.2+r2.2)).toNat) a1.l)⟩).bind fun r3=>(if 0<=(wrp .i64 ((wrp .i64 (r1.2+r2.2))+r3.2)) then (if (wrp .i64 ((wrp .i64 (r1.2+r2.2))+r3.2))<=(a1.l.length:Int) then ((zo9 q ⟨a1.z,(List.drop ((wrp .i64 ((wrp .i64 (r1.2+r2.2))+r3.2)).toNat) a1.l)⟩).bind fun r4=>(if r1.2=0 then (some ((⟨0,0,0,(⟨0,0,0⟩:zkp),0⟩:zkq),0)) else (if r2.2=0 then (some ((⟨0,0,0,(⟨0,0,0⟩:zkp),0⟩:zkq),0)) else (if r3.2=0 then (some ((⟨0,0,0,(⟨0,0,0⟩:zkp),0⟩:zkq),0)) else (if r4.2=0 then (some ((⟨0,0,0,(⟨0,0,0⟩:zkp),0⟩:zkq),0)) else ((zpl q a0 r1.1).bind fun r5=>(some ((⟨0,r1.1,(wrp .i64 (r5+r2.1)),r3.1,r4.1⟩:zkq),(wrp .i64 ((wrp .i64 ((wrp .i64 (r1.2+r2.2))+r3.2))+r4.2)))))))))) else none) else none)) else none) else none)) else none) else none))
def zpn:Nat->Bool->(List zkq)->Int->Option (Bool)
 | 0,_,_,_=>none
 | q+1,v0z,v0l,v3=>(if v3<(v0l.length:Int) then (if 0<=v3 then ((v0l[v3.toNat]?).bind fun e1=>((zpd q e1).bind fun r2=>(if r2=true then (if 0<v3 then (if 0<=(wrp .i64 (v3 - 1)) then ((v0l[(wrp .i64 (v3 - 1)).toNat]?).bind fun e3=>(if e1.Index=(wrp .i64 (e3.Index+1)) then (zpn q v0z v0l (wrp .i64 (v3+1))) else (some false))) else none) else (zpn q v0z v0l (wrp .i64 (v3+1)))) else (some false)))) else none) else (some true))
def zpo:Nat->(Sl zkq)->Option (Bool)
 | 0,_=>none
 | q+1,a0=>(if (a0.l.length:Int)<1 then (some false) else (if 256<(a0.l.length:Int) then (some false) else (zpn q a0.z a0.l 0)))
def zpp:Nat->Int->Bool->(List Int)->Option ((Ow Int))
 | 0,_,_,_=>none
 | q+1,v0,h0z,h0l=>(if 127<v0 then (if (h0l.length+1)<=4294967296 then (zpp q (wrp .u64 (Int.tdiv v0 128)) false (h0l++[(wrp .u8 (wrp .u64 ((Int.tmod v0 128)+128)))])) else none) else (if (h0l.length+1)<=4294967296 then (some ⟨false,true,(h0l++[(wrp .u8 v0)])⟩) else none))
def zpq:Nat->Int->Option ((Ow Int))
 | 0,_=>none
 | q+1,a0=>(zpp q a0 true [])
def zpr:Nat->(Sl Int)->Int->Option ((Ow Int))
 | 0,_,_=>none
 | q+1,a0,a1=>(if a0.l.length<=4294967296 then (if a1<0 then (some ⟨(decide (a0.l.length=0)),true,a0.l⟩) else (if 4611686018427387904<=a1 then (some ⟨(decide (a0.l.length=0)),true,a0.l⟩) else ((zpq q (wrp .u64 a1)).bind fun r1=>(if (a0.l.length+r1.xs.length)<=4294967296 then (some ⟨((decide (a0.l.length=0)) && (decide (r1.xs.length=0))),true,(a0.l++r1.xs)⟩) else none)))) else none)
def zps:Nat->Int->Option (Int)
 | 0,_=>none
 | q+1,a0=>(if 0<=a0 then (some (wrp .u64 ((wrp .u64 a0)*2))) else (some (wrp .u64 ((wrp .u64 ((wrp .u64 (wrp .i64 (0 - (wrp .i64 (a0+1)))))*2))+1))))
def zpt:Nat->(Sl Int)->Int->Option ((Ow Int))
 | 0,_,_=>none
 | q+1,a0,a1=>(if a0.l.length<=4294967296 then ((zps q a1).bind fun r1=>((zpq q r1).bind fun r2=>(if (a0.l.length+r2.xs.length)<=4294967296 then (some ⟨((decide (a0.l.length=0)) && (decide (r2.xs.length=0))),true,(a0.l++r2.xs)⟩) else none))) else none)
def zpu:Nat->(Sl Int)->zkp->Option ((Ow Int)×Int)
 | 0,_,_=>none
 | q+1,a0,a1=>(if a0.l.length<=4294967296 then ((zpa q a1).bind fun r1=>(if r1=true then ((zpr q ⟨(decide (a0.l.length=0)),a0.l⟩ a1.Code).bind fun r2=>((zpt q ⟨r2.n,r2.xs⟩ a1.A).bind fun r3=>((zpt q ⟨r3.n,r3.xs⟩ a1.B).bind fun r4=>(some (r4,0))))) else (some (⟨(decide (a0.l.length=0)),true,a0.l⟩,1)))) else none)
def zpv:Nat->Bool->(List zkq)->Int->Bool->(List Int)->Bool->Option ((Ow Int)×Int)
 | 0,_,_,_,_,_,_=>none
 | q+1,v0z,v0l,v6,h0z,h0l,h0x=>(if v6<(v0l.length:Int) then (if 0<=v6 then ((v0l[v6.toNat]?).bind fun e5=>((zpr q ⟨h0z,h0l⟩ e5.Proc).bind fun r6=>(if v6.toNat<=v0l.length then ((zpl q ⟨v0z,(List.take v6.toNat v0l)⟩ e5.Proc).bind fun r7=>((zpt q ⟨r6.n,r6.xs⟩ (wrp .i64 (e5.Seq - r7))).bind fun r8=>((zpu q ⟨r8.n,r8.xs⟩ e5.Op).bind fun r9=>((zpt q ⟨r9.1.n,r9.1.xs⟩ e5.Resp).bind fun r10=>(zpv q v0z v0l (wrp .i64 (v6+1)) r10.n r10.xs r10.x))))) else none))) else none) else (some (⟨h0z,h0x,h0l⟩,0)))
def zpw:Nat->(Sl zkq)->Option ((Ow Int)×Int)
 | 0,_=>none
 | q+1,a0=>((zpo q a0).bind fun r1=>(if r1=true then ((a0.l[0]?).bind fun e2=>((zpr q ⟨true,[]⟩ e2.Index).bind fun r3=>((zpr q ⟨r3.n,r3.xs⟩ (a0.l.length:Int)).bind fun r4=>(zpv q a0.z a0.l 0 r4.n r4.xs r4.x)))) else (some (⟨true,true,[]⟩,1))))
def zpx:Nat->Bool->(List Int)->Int->Int->Int->Int->Bool->(List zkq)->Option ((Ow zkq)×Int)
 | 0,_,_,_,_,_,_,_,_=>none
 | q+1,v0z,v0l,v4,v6,v9,v10,h0z,h0l=>(if v10<v6 then (if 0<=v9 then (if v9<=(v0l.length:Int) then ((zpm q ⟨h0z,h0l⟩ ⟨v0z,(List.drop v9.toNat v0l)⟩).bind fun r3=>(if r3.2=0 then (some (⟨true,true,[]⟩,3)) else (if (h0l.length+1)<=4294967296 then (zpx q v0z v0l v4 v6 (wrp .i64 (v9+r3.2)) (wrp .i64 (v10+1)) false (h0l++[(⟨(wrp .i64 (v4+v10)),r3.1.Proc,r3.1.Seq,r3.1.Op,r3.1.Resp⟩:zkq)])) else none))) else none) else none) else ((zpw q ⟨h0z,h0l⟩).bind fun r4=>(if r4.2=0 then (if r4.1.xs=v0l then (some (⟨h0z,false,h0l⟩,0)) else (some (⟨true,true,[]⟩,3))) else (some (⟨true,true,[]⟩,3)))))
def zpy:Nat->(Sl Int)->Option ((Ow zkq)×Int)
 | 0,_=>none
 | q+1,a0=>((zov q a0).bind fun r1=>(if 0<=r1.2 then (if r1.2<=(a0.l.length:Int) then ((zov q ⟨a0.z,(List.drop r1.2.toNat a0.l)⟩).bind fun r2=>(if r1.2=0 then (some (⟨true,true,[]⟩,3)) else (if r2.2=0 then (some (⟨true,true,[]⟩,3)) else (if r2.1<1 then (some (⟨true,true,[]⟩,3)) else (if 256<r2.1 then (some (⟨true,true,[]⟩,3)) else (zpx q a0.z a0.l r1.1 r2.1 (wrp .i64 (r1.2+r2.2)) 0 true [])))))) else none) else none))
def zpz:Nat->Int->(Sl Int)->Int->Option ((Ow zkq)×Bool)
 | 0,_,_,_=>none
 | q+1,a0,a1,a2=>(if a0<3 then ((zph q a0 a1).bind fun r1=>(if r1.2=true then (if (r1.1.xs.length:Int)<1 then (some (⟨true,true,[]⟩,false)) else (if 16<(r1.1.xs.length:Int) then (some (⟨true,true,[]⟩,false)) else ((zpj q ⟨r1.1.n,r1.1.xs⟩ a2).bind fun r2=>(some (r1.1,r2))))) else (some (⟨true,true,[]⟩,false)))) else ((zpy q a1).bind fun r3=>(if r3.2=0 then (if (r3.1.xs.length:Int)<1 then (some (⟨true,true,[]⟩,false)) else (if 16<(r3.1.xs.length:Int) then (some (⟨true,true,[]⟩,false)) else ((zpj q ⟨r3.1.n,r3.1.xs⟩ a2).bind fun r4=>(some (r3.1,r4))))) else (some (⟨true,true,[]⟩,false)))))
def zp0:Nat->Bool->(List (Sl Int))->Int->Int->Int->Int->Int->Bool->(List zkq)->Option (Int×zks×Int×Int)
 | 0,_,_,_,_,_,_,_,_,_=>none
 | q+1,v0z,v0l,v6,v9,v10,h1_0,h1_1,h2z,h2l=>(if v10<(v0l.length:Int) then (if 0<=v10 then ((v0l[v10.toNat]?).bind fun e8=>((zpz q v6 e8 (wrp .i64 (h1_1+(h2l.length:Int)))).bind fun r9=>(if r9.2=true then (if v9<16 then (some (v6,(⟨h1_0,h1_1,⟨h2z,h2l⟩⟩:zks),v10,3)) else (if 4096<(wrp .i64 ((h2l.length:Int)+(r9.1.xs.length:Int))) then (some (v6,(⟨h1_0,h1_1,⟨h2z,h2l⟩⟩:zks),v10,5)) else (if (h2l.length+r9.1.xs.length)<=4294967296 then (zp0 q v0z v0l v6 (r9.1.xs.length:Int) (wrp .i64 (v10+1)) h1_0 h1_1 (h2z && (decide (r9.1.xs.length=0))) (h2l++r9.1.xs)) else none))) else (some (v6,(⟨h1_0,h1_1,⟨h2z,h2l⟩⟩:zks),v10,3))))) else none) else (some (v6,(⟨h1_0,h1_1,⟨h2z,h2l⟩⟩:zks),(v0l.length:Int),0)))
def zp1:Nat->Bool->(List (Sl Int))->Int->Int->Int->Option (Int×zks×Int×Int)
 | 0,_,_,_,_,_=>none
 | q+1,v0z,v0l,v6,h1_0,h1_1=>(if 1<(v0l.length:Int) then ((v0l[1]?).bind fun e6=>((zpz q v6 e6 (wrp .i64 (h1_1+0))).bind fun r7=>(if r7.2=true then (if 4096<(wrp .i64 (0+(r7.1.xs.length:Int))) then (some (v6,(⟨h1_0,h1_1,⟨true,[]⟩⟩:zks),1,5)) else (if r7.1.xs.length<=4294967296 then (zp0 q v0z v0l v6 (r7.1.xs.length:Int) (wrp .i64 2) h1_0 h1_1 (decide (r7.1.xs.length=0)) r7.1.xs) else none)) else (some (v6,(⟨h1_0,h1_1,⟨true,[]⟩⟩:zks),1,3))))) else (some (v6,(⟨h1_0,h1_1,⟨true,[]⟩⟩:zks),(v0l.length:Int),0)))
def zp2:Nat->(Sl (Sl Int))->Option (Int×zks×Int×Int)
 | 0,_=>none
 | q+1,a0=>((a0.l[0]?).bind fun e1=>(if (e1.l.length:Int)<1 then (some (0,(⟨0,0,⟨true,[]⟩⟩:zks),0,3)) else ((e1.l[0]?).bind fun e2=>(if e2=108 then (if 1<=(e1.l.length:Int) then ((zov q ⟨e1.z,(List.drop 1 e1.l)⟩).bind fun r3=>(if 0<=(wrp .i64 (1+r3.2)) then (if (wrp .i64 (1+r3.2))<=(e1.l.length:Int) then ((zov q ⟨e1.z,(List.drop ((wrp .i64 (1+r3.2)).toNat) e1.l)⟩).bind fun r4=>(if 0<=(wrp .i64 ((wrp .i64 (1+r3.2))+r4.2)) then (if (wrp .i64 ((wrp .i64 (1+r3.2))+r4.2))<=(e1.l.length:Int) then ((zov q ⟨e1.z,(List.drop ((wrp .i64 ((wrp .i64 (1+r3.2))+r4.2)).toNat) e1.l)⟩).bind fun r5=>(if r3.2=0 then (some (0,(⟨0,0,⟨true,[]⟩⟩:zks),0,3)) else (if r4.2=0 then (some (0,(⟨0,0,⟨true,[]⟩⟩:zks),0,3)) else (if r5.2=0 then (some (0,(⟨0,0,⟨true,[]⟩⟩:zks),0,3)) else (if (wrp .i64 ((wrp .i64 ((wrp .i64 (1+r3.2))+r4.2))+r5.2))=(e1.l.length:Int) then (if r3.1<1 then (some (0,(⟨0,0,⟨true,[]⟩⟩:zks),0,6)) else (if 3<r3.1 then (some (0,(⟨0,0,⟨true,[]⟩⟩:zks),0,6)) else (if 6<=r4.1 then (some (0,(⟨0,0,⟨true,[]⟩⟩:zks),0,1)) else (zp1 q a0.z a0.l r3.1 r4.1 r5.1)))) else (some (0,(⟨0,0,⟨true,[]⟩⟩:zks),0,3))))))) else none) else none)) else none) else none)) else none) else (some (0,(⟨0,0,⟨true,[]⟩⟩:zks),0,3))))))
def zp3:Nat->Int->Int->Int->Bool->(List Int)->Option ((Ow Int))
 | 0,_,_,_,_,_=>none
 | q+1,v0,v1,v6,h0z,h0l=>(if v6<v1 then (if (h0l.length+1)<=4294967296 then (zp3 q (wrp .u64 (Int.tdiv v0 256)) v1 (wrp .i64 (v6+1)) false (h0l++[(wrp .u8 (Int.tmod v0 256))])) else none) else (some ⟨h0z,true,h0l⟩))
def zp4:Nat->Int->Int->Option ((Ow Int))
 | 0,_,_=>none
 | q+1,a0,a1=>(zp3 q a0 a1 0 true [])
def zp5:Nat->(Sl Int)->Option ((Ow Int)×Int)
 | 0,_=>none
 | q+1,a0=>(if 1048576<(a0.l.length:Int) then (some (⟨true,true,[]⟩,5)) else ((zpr q ⟨true,[]⟩ (a0.l.length:Int)).bind fun r1=>((zo0 q ⟨r1.n,r1.xs⟩).bind fun r2=>((zoz q r2 a0).bind fun r3=>(if r1.xs.length<=4294967296 then (if (r1.xs.length+a0.l.length)<=4294967296 then ((zp4 q (wrp .u64 r3) 4).bind fun r4=>(if ((r1.xs.length+a0.l.length)+r4.xs.length)<=4294967296 then (some (⟨(((decide (r1.xs.length=0)) && (decide (a0.l.length=0))) && (decide (r4.xs.length=0))),true,((r1.xs++a0.l)++r4.xs)⟩,0)) else none)) else none) else none)))))
def zp6:Nat->Bool->(List (Sl Int))->Int->Bool->(List (Sl Int))->Option ((Ow (Sl Int)))
 | 0,_,_,_,_,_=>none
 | q+1,v0z,v0l,v4,h0z,h0l=>(if v4<(v0l.length:Int) then (if 0<=v4 then ((v0l[v4.toNat]?).bind fun e1=>((zp5 q e1).bind fun r2=>(if (h0l.length+1)<=4294967296 then (zp6 q v0z v0l (wrp .i64 (v4+1)) false (h0l++[⟨r2.1.n,r2.1.xs⟩])) else none))) else none) else (some ⟨h0z,true,h0l⟩))
def zp7:Nat->(Sl (Sl Int))->Option ((Ow (Sl Int)))
 | 0,_=>none
 | q+1,a0=>(zp6 q a0.z a0.l 0 true [])
def zp8:Nat->Bool->(List (Sl Int))->Int->Int->Bool->(List Int)->Bool->Option ((Ow Int))
 | 0,_,_,_,_,_,_,_=>none
 | q+1,v1z,v1l,v6,v7,h0z,h0l,h0x=>(if v7<(v1l.length:Int) then ((zpr q ⟨h0z,h0l⟩ v6).bind fun r2=>(if 0<=v7 then ((v1l[v7.toNat]?).bind fun e3=>(zp8 q v1z v1l (e3.l.length:Int) (wrp .i64 (v7+1)) r2.n r2.xs r2.x)) else none)) else (some ⟨h0z,h0x,h0l⟩))
def zp9:Nat->(Sl Int)->(Sl (Sl Int))->Option ((Ow Int))
 | 0,_,_=>none
 | q+1,a0,a1=>((zpr q ⟨true,[]⟩ (a1.l.length:Int)).bind fun r1=>(zp8 q a1.z a1.l (a0.l.length:Int) 0 r1.n r1.xs r1.x))
def zqa:Nat->(Sl Int)->Option (zks×Int)
 | 0,_=>none
 | q+1,a0=>((zo6 q a0).bind fun r1=>(if r1.2=0 then (if (r1.1.xs.length:Int)<2 then (some ((⟨0,0,⟨true,[]⟩⟩:zks),16)) else (if 0<=(wrp .i64 ((r1.1.xs.length:Int) - 1)) then (if (wrp .i64 ((r1.1.xs.length:Int) - 1)).toNat<=r1.1.xs.length then (if r1.1.n=true then ((zp2 q ⟨r1.1.n,r1.1.xs⟩).bind fun r2=>(if r2.2.2.2=0 then ((zp7 q ⟨r1.1.n,r1.1.xs⟩).bind fun r3=>(if 0<r3.xs.length then ((r3.xs[0]?).bind fun e4=>(if 1<=r3.xs.length then ((zp9 q e4 ⟨r3.n,(List.drop 1 r3.xs)⟩).bind fun r5=>(if (wrp .i64 ((r1.1.xs.length:Int) - 1)).toNat<r1.1.xs.length then ((r1.1.xs[(wrp .i64 ((r1.1.xs.length:Int) - 1)).toNat]?).bind fun e6=>(if r5.xs=e6.l then (some (r2.2.1,0)) else (some ((⟨0,0,⟨true,[]⟩⟩:zks),16)))) else none)) else none)) else none)) else (some ((⟨0,0,⟨true,[]⟩⟩:zks),r2.2.2.2)))) else ((zp2 q ⟨r1.1.n,(List.take ((wrp .i64 ((r1.1.xs.length:Int) - 1)).toNat) r1.1.xs)⟩).bind fun r7=>(if r7.2.2.2=0 then ((zp7 q ⟨r1.1.n,(List.take ((wrp .i64 ((r1.1.xs.length:Int) - 1)).toNat) r1.1.xs)⟩).bind fun r8=>(if 0<r8.xs.length then ((r8.xs[0]?).bind fun e9=>(if 1<=r8.xs.length then ((zp9 q e9 ⟨r8.n,(List.drop 1 r8.xs)⟩).bind fun r10=>(if (wrp .i64 ((r1.1.xs.length:Int) - 1)).toNat<r1.1.xs.length then ((r1.1.xs[(wrp .i64 ((r1.1.xs.length:Int) - 1)).toNat]?).bind fun e11=>(if r10.xs=e11.l then (some (r7.2.1,0)) else (some ((⟨0,0,⟨true,[]⟩⟩:zks),16)))) else none)) else none)) else none)) else (some ((⟨0,0,⟨true,[]⟩⟩:zks),r7.2.2.2))))) else none) else none)) else (some ((⟨0,0,⟨true,[]⟩⟩:zks),r1.2))))
def zqb:Nat->zkm->zkp->Option (zkm×Int)
 | 0,_,_=>none
 | q+1,a0,a1=>((a0.L.l[0]?).bind fun e1=>(if a0.Kind=0 then (if a1.Code=1 then ((zky q a1.A).bind fun r2=>((zky q (wrp .i64 (e1+r2))).bind fun r3=>(some ((⟨a0.Kind,⟨false,[r3]⟩,a0.Sealed,a0.To⟩:zkm),e1)))) else (if a0.Kind=1 then (if a1.Code=2 then ((zky q a1.A).bind fun r4=>(some ((⟨a0.Kind,⟨false,[r4]⟩,a0.Sealed,a0.To⟩:zkm),e1))) else (if a1.Code=7 then (some (a0,e1)) else (some (a0,0)))) else (if a1.Code=7 then (some (a0,e1)) else (some (a0,0))))) else (if a0.Kind=1 then (if a1.Code=2 then ((zky q a1.A).bind fun r5=>(some ((⟨a0.Kind,⟨false,[r5]⟩,a0.Sealed,a0.To⟩:zkm),e1))) else (if a1.Code=7 then (some (a0,e1)) else (some (a0,0)))) else (if a1.Code=7 then (some (a0,e1)) else (some (a0,0))))))
def zqc:Nat->zkm->zkp->Option (zkm×Int)
 | 0,_,_=>none
 | q+1,a0,a1=>(if a1.Code=3 then (if (a0.L.l.length:Int)=64 then (some (a0,(-1))) else (if a0.L.l.length<=4294967296 then ((zky q a1.A).bind fun r1=>(if (a0.L.l.length+1)<=4294967296 then (some ((⟨a0.Kind,⟨false,(a0.L.l++[r1])⟩,a0.Sealed,a0.To⟩:zkm),(wrp .i64 ((a0.L.l.length:Int)+1)))) else none)) else none)) else (if a1.Code=4 then (if (a0.L.l.length:Int)=0 then (some (a0,(-1))) else (if a0.L.l.length<=4294967296 then (if a0.Kind=2 then (if 1<=a0.L.l.length then (if 0<a0.L.l.length then ((a0.L.l[0]?).bind fun e2=>(some ((⟨a0.Kind,⟨(decide (a0.L.l.length=0)),(List.drop 1 a0.L.l)⟩,a0.Sealed,a0.To⟩:zkm),e2))) else none) else none) else (if 0<=(wrp .i64 ((a0.L.l.length:Int) - 1)) then (if (wrp .i64 ((a0.L.l.length:Int) - 1)).toNat<=a0.L.l.length then (if a0.L.l.length=0 then none else (if (wrp .i64 ((a0.L.l.length:Int) - 1)).toNat<a0.L.l.length then ((a0.L.l[(wrp .i64 ((a0.L.l.length:Int) - 1)).toNat]?).bind fun e3=>(some ((⟨a0.Kind,⟨(decide (a0.L.l.length=0)),(List.take ((wrp .i64 ((a0.L.l.length:Int) - 1)).toNat) a0.L.l)⟩,a0.Sealed,a0.To⟩:zkm),e3))) else none)) else none) else none)) else none)) else (if a1.Code=7 then (some (a0,(a0.L.l.length:Int))) else (some (a0,0)))))
def zqd:Nat->Bool->(List Int)->Int->Int->Option (Int)
 | 0,_,_,_,_=>none
 | q+1,v0z,v0l,v1,v5=>(if v5<(v0l.length:Int) then (if 0<=v5 then ((v0l[v5.toNat]?).bind fun e1=>(if e1=v1 then (some v5) else (zqd q v0z v0l v1 (wrp .i64 (v5+2))))) else none) else (some (-1)))
def zqe:Nat->(Sl Int)->Int->Option (Int)
 | 0,_,_=>none
 | q+1,a0,a1=>(zqd q a0.z a0.l a1 0)
def zqf:Nat->Bool->(List Int)->Int->Int->Bool->(List Int)->Option ((Ow Int))
 | 0,_,_,_,_,_,_=>none
 | q+1,v0z,v0l,v1,v6,h0z,h0l=>(if v6<(v0l.length:Int) then (if 0<=v6 then ((v0l[v6.toNat]?).bind fun e1=>(if e1=v1 then (zqf q v0z v0l v1 (wrp .i64 (v6+2)) h0z h0l) else (if (h0l.length+1)<=4294967296 then (if 0<=(wrp .i64 (v6+1)) then ((v0l[(wrp .i64 (v6+1)).toNat]?).bind fun e2=>(if ((h0l.length+1)+1)<=4294967296 then (zqf q v0z v0l v1 (wrp .i64 (v6+2)) false ((h0l++[e1])++[e2])) else none)) else none) else none))) else none) else (some ⟨h0z,true,h0l⟩))
def zqg:Nat->(Sl Int)->Int->Option ((Ow Int))
 | 0,_,_=>none
 | q+1,a0,a1=>(zqf q a0.z a0.l a1 0 true [])
def zqh:Nat->Bool->(List Int)->Int->Int->Bool->Int->Bool->(List Int)->Option ((Ow Int))
 | 0,_,_,_,_,_,_,_,_=>none
 | q+1,v0z,v0l,v1,v2,v8,v9,h0z,h0l=>(if v9<(v0l.length:Int) then (if v8=true then (if 0<=v9 then ((v0l[v9.toNat]?).bind fun e1=>(if e1=v1 then (zqh q v0z v0l v1 v2 v8 (wrp .i64 (v9+2)) h0z h0l) else (if (h0l.length+1)<=4294967296 then (if 0<=(wrp .i64 (v9+1)) then ((v0l[(wrp .i64 (v9+1)).toNat]?).bind fun e2=>(if ((h0l.length+1)+1)<=4294967296 then (zqh q v0z v0l v1 v2 v8 (wrp .i64 (v9+2)) false ((h0l++[e1])++[e2])) else none)) else none) else none))) else none) else (if 0<=v9 then ((v0l[v9.toNat]?).bind fun e3=>(if v1<=e3 then (if (h0l.length+1)<=4294967296 then (if ((h0l.length+1)+1)<=4294967296 then (if e3=v1 then (zqh q v0z v0l v1 v2 true (wrp .i64 (v9+2)) false ((h0l++[v1])++[v2])) else (if (((h0l.length+1)+1)+1)<=4294967296 then (if 0<=(wrp .i64 (v9+1)) then ((v0l[(wrp .i64 (v9+1)).toNat]?).bind fun e4=>(if ((((h0l.length+1)+1)+1)+1)<=4294967296 then (zqh q v0z v0l v1 v2 true (wrp .i64 (v9+2)) false ((((h0l++[v1])++[v2])++[e3])++[e4])) else none)) else none) else none)) else none) else none) else (if e3=v1 then (zqh q v0z v0l v1 v2 v8 (wrp .i64 (v9+2)) h0z h0l) else (if (h0l.length+1)<=4294967296 then (if 0<=(wrp .i64 (v9+1)) then ((v0l[(wrp .i64 (v9+1)).toNat]?).bind fun e5=>(if ((h0l.length+1)+1)<=4294967296 then (zqh q v0z v0l v1 v2 v8 (wrp .i64 (v9+2)) false ((h0l++[e3])++[e5])) else none)) else none) else none)))) else none)) else (if v8=true then (some ⟨h0z,true,h0l⟩) else (if (h0l.length+1)<=4294967296 then (if ((h0l.length+1)+1)<=4294967296 then (some ⟨false,true,((h0l++[v1])++[v2])⟩) else none) else none)))
def zqi:Nat->(Sl Int)->Int->Int->Option ((Ow Int))
 | 0,_,_,_=>none
 | q+1,a0,a1,a2=>(zqh q a0.z a0.l a1 a2 false 0 true [])
def zqj:Nat->zkm->zkp->Option (zkm×Int)
 | 0,_,_=>none
 | q+1,a0,a1=>(if a1.Code=7 then (if a1.A<0 then (some (a0,(-1))) else (if 255<a1.A then (some (a0,(-1))) else ((zqe q a0.L a1.A).bind fun r1=>(if 0<=r1 then (if 0<=(wrp .i64 (r1+1)) then ((a0.L.l[(wrp .i64 (r1+1)).toNat]?).bind fun e2=>(if a1.Code=6 then ((zqg q a0.L a1.A).bind fun r3=>(if a1.Code=5 then (if r1<0 then (if (r3.xs.length:Int)=128 then (some ((⟨a0.Kind,⟨r3.n,r3.xs⟩,a0.Sealed,a0.To⟩:zkm),(-2))) else ((zky q a1.B).bind fun r4=>((zqi q ⟨r3.n,r3.xs⟩ a1.A r4).bind fun r5=>(some ((⟨a0.Kind,⟨r5.n,r5.xs⟩,a0.Sealed,a0.To⟩:zkm),e2))))) else ((zky q a1.B).bind fun r6=>((zqi q ⟨r3.n,r3.xs⟩ a1.A r6).bind fun r7=>(some ((⟨a0.Kind,⟨r7.n,r7.xs⟩,a0.Sealed,a0.To⟩:zkm),e2))))) else (some ((⟨a0.Kind,⟨r3.n,r3.xs⟩,a0.Sealed,a0.To⟩:zkm),e2)))) else (if a1.Code=5 then (if r1<0 then (if (a0.L.l.length:Int)=128 then (some (a0,(-2))) else ((zky q a1.B).bind fun r8=>((zqi q a0.L a1.A r8).bind fun r9=>(some ((⟨a0.Kind,⟨r9.n,r9.xs⟩,a0.Sealed,a0.To⟩:zkm),e2))))) else ((zky q a1.B).bind fun r10=>((zqi q a0.L a1.A r10).bind fun r11=>(some ((⟨a0.Kind,⟨r11.n,r11.xs⟩,a0.Sealed,a0.To⟩:zkm),e2))))) else (some (a0,e2))))) else none) else (if a1.Code=6 then ((zqg q a0.L a1.A).bind fun r12=>(if a1.Code=5 then (if r1<0 then (if (r12.xs.length:Int)=128 then (some ((⟨a0.Kind,⟨r12.n,r12.xs⟩,a0.Sealed,a0.To⟩:zkm),(-2))) else ((zky q a1.B).bind fun r13=>((zqi q ⟨r12.n,r12.xs⟩ a1.A r13).bind fun r14=>(some ((⟨a0.Kind,⟨r14.n,r14.xs⟩,a0.Sealed,a0.To⟩:zkm),(-1)))))) else ((zky q a1.B).bind fun r15=>((zqi q ⟨r12.n,r12.xs⟩ a1.A r15).bind fun r16=>(some ((⟨a0.Kind,⟨r16.n,r16.xs⟩,a0.Sealed,a0.To⟩:zkm),(-1)))))) else (some ((⟨a0.Kind,⟨r12.n,r12.xs⟩,a0.Sealed,a0.To⟩:zkm),(-1))))) else (if a1.Code=5 then (if r1<0 then (if (a0.L.l.length:Int)=128 then (some (a0,(-2))) else ((zky q a1.B).bind fun r17=>((zqi q a0.L a1.A r17).bind fun r18=>(some ((⟨a0.Kind,⟨r18.n,r18.xs⟩,a0.Sealed,a0.To⟩:zkm),(-1)))))) else ((zky q a1.B).bind fun r19=>((zqi q a0.L a1.A r19).bind fun r20=>(some ((⟨a0.Kind,⟨r20.n,r20.xs⟩,a0.Sealed,a0.To⟩:zkm),(-1)))))) else (some (a0,(-1))))))))) else (if a1.Code=6 then (if a1.A<0 then (some (a0,(-1))) else (if 255<a1.A then (some (a0,(-1))) else ((zqe q a0.L a1.A).bind fun r21=>(if 0<=r21 then (if 0<=(wrp .i64 (r21+1)) then ((a0.L.l[(wrp .i64 (r21+1)).toNat]?).bind fun e22=>((zqg q a0.L a1.A).bind fun r23=>(if a1.Code=5 then (if r21<0 then (if (r23.xs.length:Int)=128 then (some ((⟨a0.Kind,⟨r23.n,r23.xs⟩,a0.Sealed,a0.To⟩:zkm),(-2))) else ((zky q a1.B).bind fun r24=>((zqi q ⟨r23.n,r23.xs⟩ a1.A r24).bind fun r25=>(some ((⟨a0.Kind,⟨r25.n,r25.xs⟩,a0.Sealed,a0.To⟩:zkm),e22))))) else ((zky q a1.B).bind fun r26=>((zqi q ⟨r23.n,r23.xs⟩ a1.A r26).bind fun r27=>(some ((⟨a0.Kind,⟨r27.n,r27.xs⟩,a0.Sealed,a0.To⟩:zkm),e22))))) else (some ((⟨a0.Kind,⟨r23.n,r23.xs⟩,a0.Sealed,a0.To⟩:zkm),e22))))) else none) else ((zqg q a0.L a1.A).bind fun r28=>(if a1.Code=5 then (if r21<0 then (if (r28.xs.length:Int)=128 then (some ((⟨a0.Kind,⟨r28.n,r28.xs⟩,a0.Sealed,a0.To⟩:zkm),(-2))) else ((zky q a1.B).bind fun r29=>((zqi q ⟨r28.n,r28.xs⟩ a1.A r29).bind fun r30=>(some ((⟨a0.Kind,⟨r30.n,r30.xs⟩,a0.Sealed,a0.To⟩:zkm),(-1)))))) else ((zky q a1.B).bind fun r31=>((zqi q ⟨r28.n,r28.xs⟩ a1.A r31).bind fun r32=>(some ((⟨a0.Kind,⟨r32.n,r32.xs⟩,a0.Sealed,a0.To⟩:zkm),(-1)))))) else (some ((⟨a0.Kind,⟨r28.n,r28.xs⟩,a0.Sealed,a0.To⟩:zkm),(-1))))))))) else (if a1.Code=5 then (if a1.A<0 then (some (a0,(-1))) else (if 255<a1.A then (some (a0,(-1))) else ((zqe q a0.L a1.A).bind fun r33=>(if 0<=r33 then (if 0<=(wrp .i64 (r33+1)) then ((a0.L.l[(wrp .i64 (r33+1)).toNat]?).bind fun e34=>(if r33<0 then (if (a0.L.l.length:Int)=128 then (some (a0,(-2))) else ((zky q a1.B).bind fun r35=>((zqi q a0.L a1.A r35).bind fun r36=>(some ((⟨a0.Kind,⟨r36.n,r36.xs⟩,a0.Sealed,a0.To⟩:zkm),e34))))) else ((zky q a1.B).bind fun r37=>((zqi q a0.L a1.A r37).bind fun r38=>(some ((⟨a0.Kind,⟨r38.n,r38.xs⟩,a0.Sealed,a0.To⟩:zkm),e34)))))) else none) else (if r33<0 then (if (a0.L.l.length:Int)=128 then (some (a0,(-2))) else ((zky q a1.B).bind fun r39=>((zqi q a0.L a1.A r39).bind fun r40=>(some ((⟨a0.Kind,⟨r40.n,r40.xs⟩,a0.Sealed,a0.To⟩:zkm),(-1)))))) else ((zky q a1.B).bind fun r41=>((zqi q a0.L a1.A r41).bind fun r42=>(some ((⟨a0.Kind,⟨r42.n,r42.xs⟩,a0.Sealed,a0.To⟩:zkm),(-1)))))))))) else (some (a0,0)))))
def zqk:Nat->zkm->zkp->Option (zkm×Int)
 | 0,_,_=>none
 | q+1,a0,a1=>(if a1.A<0 then (some (a0,0)) else (if 65535<a1.A then (some (a0,0)) else (if a1.B<0 then (some (a0,0)) else ((zqe q a0.L (wrp .i64 (Int.tdiv a1.A 256))).bind fun r1=>((zqe q a0.L (Int.tmod a1.A 256)).bind fun r2=>(if r1<0 then (some (a0,0)) else (if 0<=(wrp .i64 (r1+1)) then ((a0.L.l[(wrp .i64 (r1+1)).toNat]?).bind fun e3=>(if e3<a1.B then (some (a0,0)) else (if (wrp .i64 (Int.tdiv a1.A 256))=(Int.tmod a1.A 256) then (some (a0,1)) else (if 0<=r2 then (if 0<=(wrp .i64 (r2+1)) then ((a0.L.l[(wrp .i64 (r2+1)).toNat]?).bind fun e4=>(if r2<0 then (if (a0.L.l.length:Int)=128 then (some (a0,0)) else (if 1099511627776<(wrp .i64 (e4+a1.B)) then (some (a0,0)) else ((zqi q a0.L (wrp .i64 (Int.tdiv a1.A 256)) (wrp .i64 (e3 - a1.B))).bind fun r5=>((zqi q ⟨r5.n,r5.xs⟩ (Int.tmod a1.A 256) (wrp .i64 (e4+a1.B))).bind fun r6=>(some ((⟨a0.Kind,⟨r6.n,r6.xs⟩,a0.Sealed,a0.To⟩:zkm),1)))))) else (if 1099511627776<(wrp .i64 (e4+a1.B)) then (some (a0,0)) else ((zqi q a0.L (wrp .i64 (Int.tdiv a1.A 256)) (wrp .i64 (e3 - a1.B))).bind fun r7=>((zqi q ⟨r7.n,r7.xs⟩ (Int.tmod a1.A 256) (wrp .i64 (e4+a1.B))).bind fun r8=>(some ((⟨a0.Kind,⟨r8.n,r8.xs⟩,a0.Sealed,a0.To⟩:zkm),1))))))) else none) else (if r2<0 then (if (a0.L.l.length:Int)=128 then (some (a0,0)) else (if 1099511627776<(wrp .i64 (0+a1.B)) then (some (a0,0)) else ((zqi q a0.L (wrp .i64 (Int.tdiv a1.A 256)) (wrp .i64 (e3 - a1.B))).bind fun r9=>((zqi q ⟨r9.n,r9.xs⟩ (Int.tmod a1.A 256) (wrp .i64 (0+a1.B))).bind fun r10=>(some ((⟨a0.Kind,⟨r10.n,r10.xs⟩,a0.Sealed,a0.To⟩:zkm),1)))))) else (if 1099511627776<(wrp .i64 (0+a1.B)) then (some (a0,0)) else ((zqi q a0.L (wrp .i64 (Int.tdiv a1.A 256)) (wrp .i64 (e3 - a1.B))).bind fun r11=>((zqi q ⟨r11.n,r11.xs⟩ (Int.tmod a1.A 256) (wrp .i64 (0+a1.B))).bind fun r12=>(some ((⟨a0.Kind,⟨r12.n,r12.xs⟩,a0.Sealed,a0.To⟩:zkm),1)))))))))) else none)))))))
def zql:Nat->zkm->zkp->Option (zkm×Int)
 | 0,_,_=>none
 | q+1,a0,a1=>(if a1.Code=9 then ((zqk q a0 a1).bind fun r1=>(some (r1.1,r1.2))) else (if a1.Code=7 then (if a1.A<0 then (some (a0,(-1))) else (if 255<a1.A then (some (a0,(-1))) else ((zqe q a0.L a1.A).bind fun r2=>(if 0<=r2 then (if 0<=(wrp .i64 (r2+1)) then ((a0.L.l[(wrp .i64 (r2+1)).toNat]?).bind fun e3=>(some (a0,e3))) else none) else (some (a0,(-1))))))) else (if a1.Code=8 then (if a1.A<0 then (some (a0,(-1))) else (if 255<a1.A then (some (a0,(-1))) else ((zqe q a0.L a1.A).bind fun r4=>(if 0<=r4 then (if 0<=(wrp .i64 (r4+1)) then ((a0.L.l[(wrp .i64 (r4+1)).toNat]?).bind fun e5=>(if a1.B<0 then (some (a0,(-1))) else (if r4<0 then (if (a0.L.l.length:Int)=128 then (some (a0,(-2))) else (if e5<0 then ((zky q a1.B).bind fun r6=>((zky q (wrp .i64 (0+r6))).bind fun r7=>((zqi q a0.L a1.A r7).bind fun r8=>(some ((⟨a0.Kind,⟨r8.n,r8.xs⟩,a0.Sealed,a0.To⟩:zkm),r7))))) else ((zky q a1.B).bind fun r9=>((zky q (wrp .i64 (e5+r9))).bind fun r10=>((zqi q a0.L a1.A r10).bind fun r11=>(some ((⟨a0.Kind,⟨r11.n,r11.xs⟩,a0.Sealed,a0.To⟩:zkm),r10))))))) else (if e5<0 then ((zky q a1.B).bind fun r12=>((zky q (wrp .i64 (0+r12))).bind fun r13=>((zqi q a0.L a1.A r13).bind fun r14=>(some ((⟨a0.Kind,⟨r14.n,r14.xs⟩,a0.Sealed,a0.To⟩:zkm),r13))))) else ((zky q a1.B).bind fun r15=>((zky q (wrp .i64 (e5+r15))).bind fun r16=>((zqi q a0.L a1.A r16).bind fun r17=>(some ((⟨a0.Kind,⟨r17.n,r17.xs⟩,a0.Sealed,a0.To⟩:zkm),r16))))))))) else none) else (if a1.B<0 then (some (a0,(-1))) else (if r4<0 then (if (a0.L.l.length:Int)=128 then (some (a0,(-2))) else ((zky q a1.B).bind fun r18=>((zky q (wrp .i64 (0+r18))).bind fun r19=>((zqi q a0.L a1.A r19).bind fun r20=>(some ((⟨a0.Kind,⟨r20.n,r20.xs⟩,a0.Sealed,a0.To⟩:zkm),r19)))))) else ((zky q a1.B).bind fun r21=>((zky q (wrp .i64 (0+r21))).bind fun r22=>((zqi q a0.L a1.A r22).bind fun r23=>(some ((⟨a0.Kind,⟨r23.n,r23.xs⟩,a0.Sealed,a0.To⟩:zkm),r22))))))))))) else (some (a0,0)))))
def zqm:Nat->zkm->zkp->Option (zkm×Int)
 | 0,_,_=>none
 | q+1,a0,a1=>((zk0 q a0).bind fun r1=>(if r1=true then (if a0.Sealed=true then (some (a0,(-1125899906842624))) else (if a1.Code=10 then (if 0<=a1.A then (if a1.A<=2 then (some ((⟨a0.Kind,a0.L,true,a1.A⟩:zkm),0)) else (some ((⟨a0.Kind,a0.L,true,a0.To⟩:zkm),0))) else (some ((⟨a0.Kind,a0.L,true,a0.To⟩:zkm),0))) else (if a0.Kind=0 then ((zqb q a0 a1).bind fun r2=>(some (r2.1,r2.2))) else (if a0.Kind=1 then ((zqb q a0 a1).bind fun r3=>(some (r3.1,r3.2))) else (if a0.Kind=2 then ((zqc q a0 a1).bind fun r4=>(some (r4.1,r4.2))) else (if a0.Kind=3 then ((zqc q a0 a1).bind fun r5=>(some (r5.1,r5.2))) else (if a0.Kind=4 then ((zqj q a0 a1).bind fun r6=>(some (r6.1,r6.2))) else (if a0.Kind=5 then ((zql q a0 a1).bind fun r7=>(some (r7.1,r7.2))) else (some (a0,0)))))))))) else (some (a0,0))))
def zqn:Nat->Bool->(List zkn)->Bool->Int->Int->Int->Int->Int->Int->Int->Int->Bool->(List zkn)->Option ((Ow zkn))
 | 0,_,_,_,_,_,_,_,_,_,_,_,_,_=>none
 | q+1,v0z,v0l,v6,v7,h0_0,h0_1,h0_2,h0_3,h0_4,h0_5,h0_6,h1z,h1l=>(if v7<(v0l.length:Int) then (if v6=true then (if 0<=v7 then ((v0l[v7.toNat]?).bind fun e1=>(if e1.Proc=h0_1 then (zqn q v0z v0l v6 (wrp .i64 (v7+1)) h0_0 h0_1 h0_2 h0_3 h0_4 h0_5 h0_6 h1z h1l) else (if (h1l.length+1)<=4294967296 then (zqn q v0z v0l v6 (wrp .i64 (v7+1)) h0_0 h0_1 h0_2 h0_3 h0_4 h0_5 h0_6 false (h1l++[e1])) else none))) else none) else (if 0<=v7 then ((v0l[v7.toNat]?).bind fun e2=>(if h0_1<e2.Proc then (if (h1l.length+1)<=4294967296 then (if e2.Proc=h0_1 then (zqn q v0z v0l true (wrp .i64 (v7+1)) h0_0 h0_1 h0_2 h0_3 h0_4 h0_5 h0_6 false (h1l++[(⟨h0_1,h0_2,h0_6⟩:zkn)])) else (if ((h1l.length+1)+1)<=4294967296 then (zqn q v0z v0l true (wrp .i64 (v7+1)) h0_0 h0_1 h0_2 h0_3 h0_4 h0_5 h0_6 false ((h1l++[(⟨h0_1,h0_2,h0_6⟩:zkn)])++[e2])) else none)) else none) else (if e2.Proc=h0_1 then (zqn q v0z v0l v6 (wrp .i64 (v7+1)) h0_0 h0_1 h0_2 h0_3 h0_4 h0_5 h0_6 h1z h1l) else (if (h1l.length+1)<=4294967296 then (zqn q v0z v0l v6 (wrp .i64 (v7+1)) h0_0 h0_1 h0_2 h0_3 h0_4 h0_5 h0_6 false (h1l++[e2])) else none)))) else none)) else (if v6=true then (some ⟨h1z,true,h1l⟩) else (if (h1l.length+1)<=4294967296 then (some ⟨false,true,(h1l++[(⟨h0_1,h0_2,h0_6⟩:zkn)])⟩) else none)))
def zqo:Nat->(Sl zkn)->zkq->Option ((Ow zkn))
 | 0,_,_=>none
 | q+1,a0,a1=>(zqn q a0.z a0.l false 0 a1.Index a1.Proc a1.Seq a1.Op.Code a1.Op.A a1.Op.B a1.Resp true [])
def zqp:Nat->Bool->(List zkq)->Int->Int->Int->Bool->(List Int)->Bool->Int->Bool->(List zkn)->Bool->Option (zko×Int)
 | 0,_,_,_,_,_,_,_,_,_,_,_,_=>none
 | q+1,v1z,v1l,v6,h0_0,h0_1,h0_2z,h0_2l,h0_3,h0_4,h2z,h2l,h2x=>(if v6<(v1l.length:Int) then (if 0<=v6 then ((v1l[v6.toNat]?).bind fun e5=>(if e5.Index=h0_0 then ((zpd q e5).bind fun r6=>(if r6=true then ((zqm q (⟨h0_1,⟨h0_2z,h0_2l⟩,h0_3,h0_4⟩:zkm) e5.Op).bind fun r7=>((zqo q ⟨h2z,h2l⟩ (⟨e5.Index,e5.Proc,e5.Seq,e5.Op,r7.2⟩:zkq)).bind fun r8=>(zqp q v1z v1l (wrp .i64 (v6+1)) (wrp .i64 (h0_0+1)) r7.1.Kind r7.1.L.z r7.1.L.l r7.1.Sealed r7.1.To r8.n r8.xs r8.x))) else (some ((⟨0,(⟨0,⟨true,[]⟩,false,0⟩:zkm),⟨true,[]⟩⟩:zko),1)))) else (some ((⟨0,(⟨0,⟨true,[]⟩,false,0⟩:zkm),⟨true,[]⟩⟩:zko),15)))) else none) else (some ((⟨h0_0,(⟨h0_1,⟨h0_2z,h0_2l⟩,h0_3,h0_4⟩:zkm),⟨h2z,h2l⟩⟩:zko),0)))
def zqq:Nat->Bool->(List zkq)->Int->Int->Bool->(List Int)->Bool->Int->Bool->(List zkn)->Option (zko×Int)
 | 0,_,_,_,_,_,_,_,_,_,_=>none
 | q+1,v1z,v1l,h0_0,h0_1,h0_2z,h0_2l,h0_3,h0_4,h0_5z,h0_5l=>(if 0<(v1l.length:Int) then ((v1l[0]?).bind fun e1=>(if e1.Index=h0_0 then ((zpd q e1).bind fun r2=>(if r2=true then ((zqm q (⟨h0_1,⟨h0_2z,h0_2l⟩,h0_3,h0_4⟩:zkm) e1.Op).bind fun r3=>((zqo q ⟨h0_5z,h0_5l⟩ (⟨e1.Index,e1.Proc,e1.Seq,e1.Op,r3.2⟩:zkq)).bind fun r4=>(zqp q v1z v1l (wrp .i64 1) (wrp .i64 (h0_0+1)) r3.1.Kind r3.1.L.z r3.1.L.l r3.1.Sealed r3.1.To r4.n r4.xs r4.x))) else (some ((⟨0,(⟨0,⟨true,[]⟩,false,0⟩:zkm),⟨true,[]⟩⟩:zko),1)))) else (some ((⟨0,(⟨0,⟨true,[]⟩,false,0⟩:zkm),⟨true,[]⟩⟩:zko),15)))) else (some ((⟨h0_0,(⟨h0_1,⟨h0_2z,h0_2l⟩,h0_3,h0_4⟩:zkm),⟨h0_5z,h0_5l⟩⟩:zko),0)))
def zqr:Nat->zko->(Sl zkq)->Option (zko×Int)
 | 0,_,_=>none
 | q+1,a0,a1=>(zqq q a1.z a1.l a0.Index a0.State.Kind a0.State.L.z a0.State.L.l a0.State.Sealed a0.State.To a0.Table.z a0.Table.l)
def zqs:Nat->(Sl Int)->Option (Int×Int×Int×Int)
 | 0,_=>none
 | q+1,a0=>(if (a0.l.length:Int)<1 then (some (0,0,0,3)) else ((a0.l[0]?).bind fun e1=>(if e1=115 then (if 1<=(a0.l.length:Int) then ((zov q ⟨a0.z,(List.drop 1 a0.l)⟩).bind fun r2=>(if 0<=(wrp .i64 (1+r2.2)) then (if (wrp .i64 (1+r2.2))<=(a0.l.length:Int) then ((zov q ⟨a0.z,(List.drop ((wrp .i64 (1+r2.2)).toNat) a0.l)⟩).bind fun r3=>(if 0<=(wrp .i64 ((wrp .i64 (1+r2.2))+r3.2)) then (if (wrp .i64 ((wrp .i64 (1+r2.2))+r3.2))<=(a0.l.length:Int) then ((zov q ⟨a0.z,(List.drop ((wrp .i64 ((wrp .i64 (1+r2.2))+r3.2)).toNat) a0.l)⟩).bind fun r4=>(if r2.2=0 then (some (0,0,0,3)) else (if r3.2=0 then (some (0,0,0,3)) else (if r4.2=0 then (some (0,0,0,3)) else (if r2.1=3 then (if 0<=(wrp .i64 ((wrp .i64 ((wrp .i64 (1+r2.2))+r3.2))+r4.2)) then (if (wrp .i64 ((wrp .i64 ((wrp .i64 (1+r2.2))+r3.2))+r4.2))<=(a0.l.length:Int) then (if (((a0.l.length - (wrp .i64 ((wrp .i64 ((wrp .i64 (1+r2.2))+r3.2))+r4.2)).toNat):Nat):Int)=4 then ((zo2 q ⟨a0.z,(List.drop ((wrp .i64 ((wrp .i64 ((wrp .i64 (1+r2.2))+r3.2))+r4.2)).toNat) a0.l)⟩).bind fun r5=>(some (r3.1,r4.1,r5,0))) else (some (0,0,0,3))) else none) else none) else (some (0,0,0,6))))))) else none) else none)) else none) else none)) else none) else (some (0,0,0,3)))))
def zqt:Nat->Bool->(List (Sl Int))->Int->Option (Bool)
 | 0,_,_,_=>none
 | q+1,v0z,v0l,v3=>(if v3<(v0l.length:Int) then (if 0<=v3 then ((v0l[v3.toNat]?).bind fun e1=>(if 64<(e1.l.length:Int) then (some false) else (if (e1.l.length:Int)<1 then (some false) else (if (e1.l.length:Int)<64 then (if v3<(wrp .i64 ((v0l.length:Int) - 1)) then (some false) else (zqt q v0z v0l (wrp .i64 (v3+1)))) else (zqt q v0z v0l (wrp .i64 (v3+1))))))) else none) else (some true))
def zqu:Nat->(Sl (Sl Int))->Option (Bool)
 | 0,_=>none
 | q+1,a0=>(zqt q a0.z a0.l 0)
def zqv:Nat->Bool->(List Int)->Int->Int->Int->Int->Bool->Int->(List Int)->Option (zkm×Int)
 | 0,_,_,_,_,_,_,_,_,_=>none
 | q+1,v0z,v0l,v8,v11,v12,h1_0,h1_2,h1_3,h2l=>(if v12<v8 then (if 0<=v11 then (if v11<=(v0l.length:Int) then ((zo9 q ⟨v0z,(List.drop v11.toNat v0l)⟩).bind fun r6=>(if r6.2=0 then (some ((⟨0,⟨true,[]⟩,false,0⟩:zkm),3)) else (if (h2l.length+1)<=4294967296 then (zqv q v0z v0l v8 (wrp .i64 (v11+r6.2)) (wrp .i64 (v12+1)) h1_0 h1_2 h1_3 (h2l++[r6.1])) else none))) else none) else none) else (if v11=(v0l.length:Int) then ((zk0 q (⟨h1_0,⟨false,h2l⟩,h1_2,h1_3⟩:zkm)).bind fun r7=>(if r7=true then (some ((⟨h1_0,⟨false,h2l⟩,h1_2,h1_3⟩:zkm),0)) else (some ((⟨0,⟨true,[]⟩,false,0⟩:zkm),1)))) else (some ((⟨0,⟨true,[]⟩,false,0⟩:zkm),3))))
def zqw:Nat->Bool->(List Int)->Int->Int->Int->Bool->Int->Option (zkm×Int)
 | 0,_,_,_,_,_,_,_=>none
 | q+1,v0z,v0l,v8,v11,h1_0,h1_2,h1_3=>(if 0<v8 then (if 0<=v11 then (if v11<=(v0l.length:Int) then ((zo9 q ⟨v0z,(List.drop v11.toNat v0l)⟩).bind fun r4=>(if r4.2=0 then (some ((⟨0,⟨true,[]⟩,false,0⟩:zkm),3)) else (zqv q v0z v0l v8 (wrp .i64 (v11+r4.2)) (wrp .i64 1) h1_0 h1_2 h1_3 [r4.1]))) else none) else none) else (if v11=(v0l.length:Int) then ((zk0 q (⟨h1_0,⟨true,[]⟩,h1_2,h1_3⟩:zkm)).bind fun r5=>(if r5=true then (some ((⟨h1_0,⟨true,[]⟩,h1_2,h1_3⟩:zkm),0)) else (some ((⟨0,⟨true,[]⟩,false,0⟩:zkm),1)))) else (some ((⟨0,⟨true,[]⟩,false,0⟩:zkm),3))))
def zqx:Nat->(Sl Int)->Option (zkm×Int)
 | 0,_=>none
 | q+1,a0=>((zov q a0).bind fun r1=>(if 0<=r1.2 then (if r1.2<=(a0.l.length:Int) then ((zov q ⟨a0.z,(List.drop r1.2.toNat a0.l)⟩).bind fun r2=>(if 0<=(wrp .i64 (r1.2+r2.2)) then (if (wrp .i64 (r1.2+r2.2))<=(a0.l.length:Int) then ((zov q ⟨a0.z,(List.drop ((wrp .i64 (r1.2+r2.2)).toNat) a0.l)⟩).bind fun r3=>(if r1.2=0 then (some ((⟨0,⟨true,[]⟩,false,0⟩:zkm),3)) else (if r2.2=0 then (some ((⟨0,⟨true,[]⟩,false,0⟩:zkm),3)) else (if r3.2=0 then (some ((⟨0,⟨true,[]⟩,false,0⟩:zkm),3)) else (if 3<r2.1 then (some ((⟨0,⟨true,[]⟩,false,0⟩:zkm),3)) else (if 128<r3.1 then (some ((⟨0,⟨true,[]⟩,false,0⟩:zkm),3)) else (if 0<r2.1 then (zqw q a0.z a0.l r3.1 (wrp .i64 ((wrp .i64 (r1.2+r2.2))+r3.2)) r1.1 (decide (0<r2.1)) (wrp .i64 (r2.1 - 1))) else (zqw q a0.z a0.l r3.1 (wrp .i64 ((wrp .i64 (r1.2+r2.2))+r3.2)) r1.1 (decide (0<r2.1)) 0)))))))) else none) else none)) else none) else none))
def zqy:Nat->Bool->(List Int)->Int->Int->Int->Bool->(List zkn)->Option ((Ow zkn)×Bool)
 | 0,_,_,_,_,_,_,_=>none
 | q+1,v0z,v0l,v4,v5,v7,h0z,h0l=>(if v7<v4 then (if 0<=v5 then (if v5<=(v0l.length:Int) then ((zov q ⟨v0z,(List.drop v5.toNat v0l)⟩).bind fun r2=>(if 0<=(wrp .i64 (v5+r2.2)) then (if (wrp .i64 (v5+r2.2))<=(v0l.length:Int) then ((zov q ⟨v0z,(List.drop ((wrp .i64 (v5+r2.2)).toNat) v0l)⟩).bind fun r3=>(if 0<=(wrp .i64 ((wrp .i64 (v5+r2.2))+r3.2)) then (if (wrp .i64 ((wrp .i64 (v5+r2.2))+r3.2))<=(v0l.length:Int) then ((zo9 q ⟨v0z,(List.drop ((wrp .i64 ((wrp .i64 (v5+r2.2))+r3.2)).toNat) v0l)⟩).bind fun r4=>(if r2.2=0 then (some (⟨true,true,[]⟩,false)) else (if r3.2=0 then (some (⟨true,true,[]⟩,false)) else (if r4.2=0 then (some (⟨true,true,[]⟩,false)) else (if (h0l.length+1)<=4294967296 then (zqy q v0z v0l v4 (wrp .i64 ((wrp .i64 ((wrp .i64 (v5+r2.2))+r3.2))+r4.2)) (wrp .i64 (v7+1)) false (h0l++[(⟨r2.1,r3.1,r4.1⟩:zkn)])) else none))))) else none) else none)) else none) else none)) else none) else none) else (some (⟨h0z,true,h0l⟩,(decide (v5=(v0l.length:Int))))))
def zqz:Nat->(Sl Int)->Option ((Ow zkn)×Bool)
 | 0,_=>none
 | q+1,a0=>((zov q a0).bind fun r1=>(if r1.2=0 then (some (⟨true,true,[]⟩,false)) else (if (a0.l.length:Int)<r1.1 then (some (⟨true,true,[]⟩,false)) else (zqy q a0.z a0.l r1.1 r1.2 0 true []))))
def zq0:Nat->(Sl Int)->Option (zko×Int)
 | 0,_=>none
 | q+1,a0=>((zov q a0).bind fun r1=>(if r1.2=0 then (some ((⟨0,(⟨0,⟨true,[]⟩,false,0⟩:zkm),⟨true,[]⟩⟩:zko),3)) else (if (wrp .i64 ((a0.l.length:Int) - r1.2))<r1.1 then (some ((⟨0,(⟨0,⟨true,[]⟩,false,0⟩:zkm),⟨true,[]⟩⟩:zko),3)) else (if 0<=r1.2 then (if r1.2<=(wrp .i64 (r1.2+r1.1)) then (if (wrp .i64 (r1.2+r1.1)).toNat<=a0.l.length then ((zqx q ⟨a0.z,(List.drop r1.2.toNat (List.take ((wrp .i64 (r1.2+r1.1)).toNat) a0.l))⟩).bind fun r2=>(if 0<=(wrp .i64 (r1.2+r1.1)) then (if (wrp .i64 (r1.2+r1.1))<=(a0.l.length:Int) then ((zqz q ⟨a0.z,(List.drop ((wrp .i64 (r1.2+r1.1)).toNat) a0.l)⟩).bind fun r3=>(if r2.2=3 then (some ((⟨0,(⟨0,⟨true,[]⟩,false,0⟩:zkm),⟨true,[]⟩⟩:zko),3)) else (if r3.2=true then (some ((⟨0,r2.1,⟨r3.1.n,r3.1.xs⟩⟩:zko),r2.2)) else (some ((⟨0,(⟨0,⟨true,[]⟩,false,0⟩:zkm),⟨true,[]⟩⟩:zko),3))))) else none) else none)) else none) else none) else none))))
def zq1:Nat->Int->Int->Int->Int->Bool->(List (Sl Int))->Bool->Bool->(List Int)->Option (zko×Int)
 | 0,_,_,_,_,_,_,_,_,_=>none
 | q+1,v7,v8,v9,v12,h2z,h2l,h2x,h3z,h3l=>(if v12<(h2l.length:Int) then (if 0<=v12 then (if v12.toNat<h2l.length then ((h2l[v12.toNat]?).bind fun e4=>(if (h3l.length+e4.l.length)<=4294967296 then (zq1 q v7 v8 v9 (wrp .i64 (v12+1)) h2z h2l h2x (h3z && (decide (e4.l.length=0))) (h3l++e4.l)) else none)) else none) else none) else (if (h3l.length:Int)=v8 then (if 1<=h2l.length then ((zqu q ⟨h2z,(List.drop 1 h2l)⟩).bind fun r5=>(if r5=true then ((zo0 q ⟨h3z,h3l⟩).bind fun r6=>(if (wrp .u64 r6)=v9 then ((zq0 q ⟨h3z,h3l⟩).bind fun r7=>(if r7.2=0 then ((zk3 q (⟨v7,r7.1.State,r7.1.Table⟩:zko)).bind fun r8=>(if r8=true then (some ((⟨v7,r7.1.State,r7.1.Table⟩:zko),0)) else (some ((⟨0,(⟨0,⟨true,[]⟩,false,0⟩:zkm),⟨true,[]⟩⟩:zko),1)))) else (some ((⟨0,(⟨0,⟨true,[]⟩,false,0⟩:zkm),⟨true,[]⟩⟩:zko),r7.2)))) else (some ((⟨0,(⟨0,⟨true,[]⟩,false,0⟩:zkm),⟨true,[]⟩⟩:zko),4)))) else (some ((⟨0,(⟨0,⟨true,[]⟩,false,0⟩:zkm),⟨true,[]⟩⟩:zko),3)))) else none) else (some ((⟨0,(⟨0,⟨true,[]⟩,false,0⟩:zkm),⟨true,[]⟩⟩:zko),16))))
def zq2:Nat->(Sl Int)->Option (zko×Int)
 | 0,_=>none
 | q+1,a0=>((zo6 q a0).bind fun r1=>(if r1.2=0 then (if (r1.1.xs.length:Int)=0 then (some ((⟨0,(⟨0,⟨true,[]⟩,false,0⟩:zkm),⟨true,[]⟩⟩:zko),16)) else (if 0<r1.1.xs.length then ((r1.1.xs[0]?).bind fun e2=>((zqs q e2).bind fun r3=>(if r3.2.2.2=0 then (zq1 q r3.1 r3.2.1 r3.2.2.1 1 r1.1.n r1.1.xs r1.1.x true []) else (some ((⟨0,(⟨0,⟨true,[]⟩,false,0⟩:zkm),⟨true,[]⟩⟩:zko),r3.2.2.2))))) else none)) else (some ((⟨0,(⟨0,⟨true,[]⟩,false,0⟩:zkm),⟨true,[]⟩⟩:zko),r1.2))))
def zq3:Nat->zku->zku->Option (Bool)
 | 0,_,_=>none
 | q+1,a0,a1=>(if a0.From=a1.From then (if a0.To=a1.To then (if a0.Kind=a1.Kind then (if a0.Index=a1.Index then (some (decide (a0.B.l=a1.B.l))) else (some false)) else (some false)) else (some false)) else (some false))
def zq4:Nat->Int->Int->Bool->(List Int)->Bool->Int->Int->Bool->(List Int)->Bool->Int->Option (Bool)
 | 0,_,_,_,_,_,_,_,_,_,_,_=>none
 | q+1,v5,h0_0,h0_1z,h0_1l,h0_2,h0_3,h1_0,h1_1z,h1_1l,h1_2,h1_3=>(if v5<(h0_1l.length:Int) then (if 0<=v5 then ((h0_1l[v5.toNat]?).bind fun e1=>((h1_1l[v5.toNat]?).bind fun e2=>(if e1=e2 then (zq4 q (wrp .i64 (v5+1)) h0_0 h0_1z h0_1l h0_2 h0_3 h1_0 h1_1z h1_1l h1_2 h1_3) else (some false)))) else none) else (some true))
def zq5:Nat->zkm->zkm->Option (Bool)
 | 0,_,_=>none
 | q+1,a0,a1=>(if a0.Kind=a1.Kind then (if (a0.Sealed==a1.Sealed)=true then (if a0.To=a1.To then (if (a0.L.l.length:Int)=(a1.L.l.length:Int) then (zq4 q 0 a0.Kind a0.L.z a0.L.l a0.Sealed a0.To a1.Kind a1.L.z a1.L.l a1.Sealed a1.To) else (some false)) else (some false)) else (some false)) else (some false))
def zq6:Nat->Int->Int->Int->Bool->(List Int)->Bool->Int->Bool->(List zkn)->Int->Int->Bool->(List Int)->Bool->Int->Bool->(List zkn)->Option (Bool)
 | 0,_,_,_,_,_,_,_,_,_,_,_,_,_,_,_,_,_=>none
 | q+1,v6,h0_0,h0_1,h0_2z,h0_2l,h0_3,h0_4,h0_5z,h0_5l,h1_0,h1_1,h1_2z,h1_2l,h1_3,h1_4,h1_5z,h1_5l=>(if v6<(h0_5l.length:Int) then (if 0<=v6 then ((h0_5l[v6.toNat]?).bind fun e2=>((h1_5l[v6.toNat]?).bind fun e3=>(if e2.Proc=e3.Proc then (if e2.Seq=e3.Seq then (if e2.Resp=e3.Resp then (zq6 q (wrp .i64 (v6+1)) h0_0 h0_1 h0_2z h0_2l h0_3 h0_4 h0_5z h0_5l h1_0 h1_1 h1_2z h1_2l h1_3 h1_4 h1_5z h1_5l) else (some false)) else (some false)) else (some false)))) else none) else (some true))
def zq7:Nat->zko->zko->Option (Bool)
 | 0,_,_=>none
 | q+1,a0,a1=>((zq5 q a0.State a1.State).bind fun r1=>(if r1=true then (if a0.Index=a1.Index then (if (a0.Table.l.length:Int)=(a1.Table.l.length:Int) then (zq6 q 0 a0.Index a0.State.Kind a0.State.L.z a0.State.L.l a0.State.Sealed a0.State.To a0.Table.z a0.Table.l a1.Index a1.State.Kind a1.State.L.z a1.State.L.l a1.State.Sealed a1.State.To a1.Table.z a1.Table.l) else (some false)) else (some false)) else (some false)))
def zq8:Nat->Int->Int->Int->Int->Bool->(List Int)->Int->Int->Int->Int->Bool->(List Int)->Bool->Int->Bool->(List zkn)->Int->Int->Int->Int->Bool->(List Int)->Bool->Int->Bool->(List zkn)->Option (Int×Int×Int×Int×Bool×(List Int)×Bool×Int×Bool×(List zkn))
 | 0,_,_,_,_,_,_,_,_,_,_,_,_,_,_,_,_,_,_,_,_,_,_,_,_,_,_=>none
 | q+1,v1_0,v1_1,v1_2,v1_3,v1_4z,v1_4l,h0_0,h0_1,h0_2,h0_3,h0_4z,h0_4l,h0_5,h0_6,h0_7z,h0_7l,h1_0,h1_1,h1_2,h1_3,h1_4z,h1_4l,h1_5,h1_6,h1_7z,h1_7l=>(if v1_2=0 then ((zod q ⟨v1_4z,v1_4l⟩).bind fun r1=>(if r1.2=0 then (if r1.1.Kind=h0_1 then (if h0_2<r1.1.First then (some (h0_2,15,h0_2,h0_3,h0_4z,h0_4l,h0_5,h0_6,h0_7z,h0_7l)) else (if 0<=(if (r1.1.Records.l.length:Int)<(wrp .i64 (h0_2 - r1.1.First)) then (r1.1.Records.l.length:Int) else (wrp .i64 (h0_2 - r1.1.First))) then (if (if (r1.1.Records.l.length:Int)<(wrp .i64 (h0_2 - r1.1.First)) then (r1.1.Records.l.length:Int) else (wrp .i64 (h0_2 - r1.1.First)))<=(r1.1.Records.l.length:Int) then ((zl1 q (⟨h0_2,(⟨h0_3,⟨h0_4z,h0_4l⟩,h0_5,h0_6⟩:zkm),⟨h0_7z,h0_7l⟩⟩:zko) ⟨r1.1.Records.z,(List.drop ((if (r1.1.Records.l.length:Int)<(wrp .i64 (h0_2 - r1.1.First)) then (r1.1.Records.l.length:Int) else (wrp .i64 (h0_2 - r1.1.First))).toNat) r1.1.Records.l)⟩).bind fun r2=>(if r2.2=0 then (some (r2.1.Index,r2.2,r2.1.Index,r2.1.State.Kind,r2.1.State.L.z,r2.1.State.L.l,r2.1.State.Sealed,r2.1.State.To,r2.1.Table.z,r2.1.Table.l)) else (some (h0_2,r2.2,h0_2,h0_3,h0_4z,h0_4l,h0_5,h0_6,h0_7z,h0_7l)))) else none) else none)) else (some (h0_2,1,h0_2,h0_3,h0_4z,h0_4l,h0_5,h0_6,h0_7z,h0_7l))) else (some (h0_2,r1.2,h0_2,h0_3,h0_4z,h0_4l,h0_5,h0_6,h0_7z,h0_7l)))) else (if v1_2=2 then ((zoq q ⟨v1_4z,v1_4l⟩).bind fun r3=>(if r3.2=0 then (if r3.1.State.Kind=h0_1 then (if h0_2<r3.1.Index then (some (r3.1.Index,0,r3.1.Index,r3.1.State.Kind,r3.1.State.L.z,r3.1.State.L.l,r3.1.State.Sealed,r3.1.State.To,r3.1.Table.z,r3.1.Table.l)) else (some (h0_2,0,h0_2,h0_3,h0_4z,h0_4l,h0_5,h0_6,h0_7z,h0_7l))) else (some (h0_2,1,h0_2,h0_3,h0_4z,h0_4l,h0_5,h0_6,h0_7z,h0_7l))) else (some (h0_2,r3.2,h0_2,h0_3,h0_4z,h0_4l,h0_5,h0_6,h0_7z,h0_7l)))) else (some (h0_2,1,h0_2,h0_3,h0_4z,h0_4l,h0_5,h0_6,h0_7z,h0_7l))))
def zq9:Nat->Bool->(List Int)->Int->Int->Int->Int->Bool->(List Int)->Bool->Int->Bool->(List zkn)->Int->Int->Int->Int->Bool->(List Int)->Bool->Int->Bool->(List zkn)->Int->Int->Int->Int->Int->Int->Int->Bool->(List Int)->Option (Int×Int×Int×Bool×(List Int)×Bool×Int×Bool×(List zkn))
 | 0,_,_,_,_,_,_,_,_,_,_,_,_,_,_,_,_,_,_,_,_,_,_,_,_,_,_,_,_,_,_,_=>none
 | q+1,v1z,v1l,h0_0,h0_1,h0_2,h0_3,h0_4z,h0_4l,h0_5,h0_6,h0_7z,h0_7l,h1_0,h1_1,h1_2,h1_3,h1_4z,h1_4l,h1_5,h1_6,h1_7z,h1_7l,h2_0,h2_1,h2_3,h3_0,h3_1,h3_2,h3_3,h3_4z,h3_4l=>((zqa q ⟨v1z,v1l⟩).bind fun r1=>(if r1.2=0 then (if r1.1.Kind=h1_1 then (if h1_2<r1.1.First then (some (15,h1_2,h1_3,h1_4z,h1_4l,h1_5,h1_6,h1_7z,h1_7l)) else (if (r1.1.Records.l.length:Int)<=(wrp .i64 (h1_2 - r1.1.First)) then (some (0,h1_2,h1_3,h1_4z,h1_4l,h1_5,h1_6,h1_7z,h1_7l)) else (if 0<=(wrp .i64 (h1_2 - r1.1.First)) then (if (wrp .i64 (h1_2 - r1.1.First))<=(r1.1.Records.l.length:Int) then ((zqr q (⟨h1_2,(⟨h1_3,⟨h1_4z,h1_4l⟩,h1_5,h1_6⟩:zkm),⟨h1_7z,h1_7l⟩⟩:zko) ⟨r1.1.Records.z,(List.drop ((wrp .i64 (h1_2 - r1.1.First)).toNat) r1.1.Records.l)⟩).bind fun r2=>(if r2.2=0 then (some (r2.2,r2.1.Index,r2.1.State.Kind,r2.1.State.L.z,r2.1.State.L.l,r2.1.State.Sealed,r2.1.State.To,r2.1.Table.z,r2.1.Table.l)) else (some (r2.2,h1_2,h1_3,h1_4z,h1_4l,h1_5,h1_6,h1_7z,h1_7l)))) else none) else none))) else (some (1,h1_2,h1_3,h1_4z,h1_4l,h1_5,h1_6,h1_7z,h1_7l))) else (some (r1.2,h1_2,h1_3,h1_4z,h1_4l,h1_5,h1_6,h1_7z,h1_7l))))
def zra:Nat->Int->Int->Int->Int->Bool->(List Int)->Int->Int->Int->Int->Bool->(List Int)->Bool->Int->Bool->(List zkn)->Int->Int->Int->Int->Bool->(List Int)->Bool->Int->Bool->(List zkn)->Int->Int->Int->Option (Int×Int×Int×Int×Bool×(List Int)×Bool×Int×Bool×(List zkn))
 | 0,_,_,_,_,_,_,_,_,_,_,_,_,_,_,_,_,_,_,_,_,_,_,_,_,_,_,_,_,_=>none
 | q+1,v1_0,v1_1,v1_2,v1_3,v1_4z,v1_4l,h0_0,h0_1,h0_2,h0_3,h0_4z,h0_4l,h0_5,h0_6,h0_7z,h0_7l,h1_0,h1_1,h1_2,h1_3,h1_4z,h1_4l,h1_5,h1_6,h1_7z,h1_7l,h2_0,h2_1,h2_3=>(if v1_2=0 then ((zq9 q v1_4z v1_4l h0_0 h0_1 h0_2 h0_3 h0_4z h0_4l h0_5 h0_6 h0_7z h0_7l h1_0 h1_1 h1_2 h1_3 h1_4z h1_4l h1_5 h1_6 h1_7z h1_7l h2_0 h2_1 h2_3 v1_0 v1_1 v1_2 v1_3 v1_4z v1_4l).bind fun r1=>(if v1_2=2 then ((zq2 q ⟨v1_4z,v1_4l⟩).bind fun r2=>(if r2.2=0 then (if r2.1.State.Kind=h1_1 then (if r1.2.1<r2.1.Index then (some (r2.1.Index,0,r2.1.Index,r2.1.State.Kind,r2.1.State.L.z,r2.1.State.L.l,r2.1.State.Sealed,r2.1.State.To,r2.1.Table.z,r2.1.Table.l)) else (some (r1.2.1,0,r1.2.1,r1.2.2.1,r1.2.2.2.1,r1.2.2.2.2.1,r1.2.2.2.2.2.1,r1.2.2.2.2.2.2.1,r1.2.2.2.2.2.2.2.1,r1.2.2.2.2.2.2.2.2))) else (some (r1.2.1,1,r1.2.1,r1.2.2.1,r1.2.2.2.1,r1.2.2.2.2.1,r1.2.2.2.2.2.1,r1.2.2.2.2.2.2.1,r1.2.2.2.2.2.2.2.1,r1.2.2.2.2.2.2.2.2))) else (some (r1.2.1,r2.2,r1.2.1,r1.2.2.1,r1.2.2.2.1,r1.2.2.2.2.1,r1.2.2.2.2.2.1,r1.2.2.2.2.2.2.1,r1.2.2.2.2.2.2.2.1,r1.2.2.2.2.2.2.2.2)))) else (some (r1.2.1,r1.1,r1.2.1,r1.2.2.1,r1.2.2.2.1,r1.2.2.2.2.1,r1.2.2.2.2.2.1,r1.2.2.2.2.2.2.1,r1.2.2.2.2.2.2.2.1,r1.2.2.2.2.2.2.2.2)))) else (if v1_2=2 then ((zq2 q ⟨v1_4z,v1_4l⟩).bind fun r3=>(if r3.2=0 then (if r3.1.State.Kind=h1_1 then (if h1_2<r3.1.Index then (some (r3.1.Index,0,r3.1.Index,r3.1.State.Kind,r3.1.State.L.z,r3.1.State.L.l,r3.1.State.Sealed,r3.1.State.To,r3.1.Table.z,r3.1.Table.l)) else (some (h1_2,0,h1_2,h1_3,h1_4z,h1_4l,h1_5,h1_6,h1_7z,h1_7l))) else (some (h1_2,1,h1_2,h1_3,h1_4z,h1_4l,h1_5,h1_6,h1_7z,h1_7l))) else (some (h1_2,r3.2,h1_2,h1_3,h1_4z,h1_4l,h1_5,h1_6,h1_7z,h1_7l)))) else (some (h1_2,1,h1_2,h1_3,h1_4z,h1_4l,h1_5,h1_6,h1_7z,h1_7l))))
def zrb:Nat->Bool->(List zku)->Option (Bool)
 | 0,_,_=>none
 | q+1,v2z,v2l=>(if 0<(v2l.length:Int) then (some true) else (some true))
def zrc:Nat->Bool->(List zku)->Int->Int->Int->Int->Int->Bool->(List Int)->Bool->Int->Bool->(List zkn)->Int->Int->Int->Int->Bool->(List Int)->Bool->Int->Bool->(List zkn)->Option (Bool)
 | 0,_,_,_,_,_,_,_,_,_,_,_,_,_,_,_,_,_,_,_,_,_,_,_=>none
 | q+1,v2z,v2l,v12,h0_0,h0_1,h0_2,h0_3,h0_4z,h0_4l,h0_5,h0_6,h0_7z,h0_7l,h1_0,h1_1,h1_2,h1_3,h1_4z,h1_4l,h1_5,h1_6,h1_7z,h1_7l=>(if v12<(v2l.length:Int) then (if 0<=v12 then ((v2l[v12.toNat]?).bind fun e4=>(if 3000<(e4.B.l.length:Int) then (some true) else ((zq8 q e4.From e4.To e4.Kind e4.Index e4.B.z e4.B.l h0_0 h0_1 h0_2 h0_3 h0_4z h0_4l h0_5 h0_6 h0_7z h0_7l h1_0 h1_1 h1_2 h1_3 h1_4z h1_4l h1_5 h1_6 h1_7z h1_7l).bind fun r5=>((zra q e4.From e4.To e4.Kind e4.Index e4.B.z e4.B.l h0_0 h0_1 r5.2.2.1 r5.2.2.2.1 r5.2.2.2.2.1 r5.2.2.2.2.2.1 r5.2.2.2.2.2.2.1 r5.2.2.2.2.2.2.2.1 r5.2.2.2.2.2.2.2.2.1 r5.2.2.2.2.2.2.2.2.2 h1_0 h1_1 h1_2 h1_3 h1_4z h1_4l h1_5 h1_6 h1_7z h1_7l h0_0 e4.From r5.1).bind fun r6=>((zq3 q (⟨h0_0,e4.From,1,r5.1,⟨true,[]⟩⟩:zku) (⟨h1_0,e4.From,1,r6.1,⟨true,[]⟩⟩:zku)).bind fun r7=>((zle q ⟨r5.2.2.2.2.1,r5.2.2.2.2.2.1⟩).bind fun r8=>((zlq q ⟨r5.2.2.2.2.2.2.2.2.1,r5.2.2.2.2.2.2.2.2.2⟩).bind fun r9=>((zq7 q (⟨r5.2.2.1,(⟨r5.2.2.2.1,⟨r8.n,r8.xs⟩,r5.2.2.2.2.2.2.1,r5.2.2.2.2.2.2.2.1⟩:zkm),⟨r9.n,r9.xs⟩⟩:zko) (⟨r6.2.2.1,(⟨r6.2.2.2.1,⟨r6.2.2.2.2.1,r6.2.2.2.2.2.1⟩,r6.2.2.2.2.2.2.1,r6.2.2.2.2.2.2.2.1⟩:zkm),⟨r6.2.2.2.2.2.2.2.2.1,r6.2.2.2.2.2.2.2.2.2⟩⟩:zko)).bind fun r10=>(if r7=true then (if r10=true then (if r5.2.1=r6.2.1 then (zrc q v2z v2l (wrp .i64 (v12+1)) h0_0 h0_1 r5.2.2.1 r5.2.2.2.1 r5.2.2.2.2.1 r5.2.2.2.2.2.1 r5.2.2.2.2.2.2.1 r5.2.2.2.2.2.2.2.1 r5.2.2.2.2.2.2.2.2.1 r5.2.2.2.2.2.2.2.2.2 h1_0 h1_1 r6.2.2.1 r6.2.2.2.1 r6.2.2.2.2.1 r6.2.2.2.2.2.1 r6.2.2.2.2.2.2.1 r6.2.2.2.2.2.2.2.1 r6.2.2.2.2.2.2.2.2.1 r6.2.2.2.2.2.2.2.2.2) else (some false)) else (some false)) else (some false)))))))))) else none) else (some true))
def zrd:Nat->Int->Int->(Sl zku)->Option (Bool)
 | 0,_,_,_=>none
 | q+1,a0,a1,a2=>((zm4 q).bind fun r1=>(if a1<0 then (if r1=true then (if 60<(a2.l.length:Int) then (some (decide (60<(a2.l.length:Int)))) else (zrb q a2.z a2.l)) else (some false)) else (if 6<=a1 then (if r1=true then (if 60<(a2.l.length:Int) then (some (decide (60<(a2.l.length:Int)))) else (zrb q a2.z a2.l)) else (some false)) else ((zm5 q a1).bind fun r2=>((zm6 q a1).bind fun r3=>(if r1=true then (if 60<(a2.l.length:Int) then (some (decide (60<(a2.l.length:Int)))) else (zrc q a2.z a2.l 0 a0 a1 0 r2.Kind r2.L.z r2.L.l r2.Sealed r2.To true [] a0 a1 0 r3.Kind r3.L.z r3.L.l r3.Sealed r3.To true [])) else (some false)))))))
end Go.Dvm.I
