/- The functions of the law, as they answer, over typed data. -/
import Derived.Test.YtfefdjloogcapaaGreatQv2
set_option linter.all false
set_option maxRecDepth 100000
set_option maxHeartbeats 4000000
namespace Go.Dvm.I
open Go Go.Dvm
structure zld where
 Code:Int
 A:Int
 B:Int
def zld.enc (r:zld):V:= .agg [V.int .i64 r.Code,V.int .i64 r.A,V.int .i64 r.B]
structure zle where
 Index:Int
 Proc:Int
 Seq:Int
 Op:zld
 Resp:Int
def zle.enc (r:zle):V:= .agg [V.int .i64 r.Index,V.int .i64 r.Proc,V.int .i64 r.Seq,V.int .i64 r.Op.Code,V.int .i64 r.Op.A,V.int .i64 r.Op.B,V.int .i64 r.Resp]
structure zlf where
 Kind:Int
 Many:Int
 N:Int
 Op:zld
 Keep:(Sl Int)
 Records:(Sl zle)
 B:(Sl Int)
def zlf.enc (r:zlf):V:= .agg [V.int .i64 r.Kind,V.int .i64 r.Many,V.int .i64 r.N,V.int .i64 r.Op.Code,V.int .i64 r.Op.A,V.int .i64 r.Op.B,(Sl.enc (V.int .i64)) r.Keep,(Sl.enc zle.enc) r.Records,(Sl.enc (V.int .u8)) r.B]
structure zlg where
 Kind:Int
 L:(Sl Int)
 Sealed:Bool
 To:Int
def zlg.enc (r:zlg):V:= .agg [V.int .i64 r.Kind,(Sl.enc (V.int .i64)) r.L,V.bool r.Sealed,V.int .i64 r.To]
structure zlh where
 Proc:Int
 Seq:Int
 Resp:Int
def zlh.enc (r:zlh):V:= .agg [V.int .i64 r.Proc,V.int .i64 r.Seq,V.int .i64 r.Resp]
structure zli where
 Index:Int
 State:zlg
 Table:(Sl zlh)
def zli.enc (r:zli):V:= .agg [V.int .i64 r.Index,V.int .i64 r.State.Kind,(Sl.enc (V.int .i64)) r.State.L,V.bool r.State.Sealed,V.int .i64 r.State.To,(Sl.enc zlh.enc) r.Table]
structure zlj where
 name:Int
 first:Int
 many:Int
def zlj.enc (r:zlj):V:= .agg [V.int .i64 r.name,V.int .i64 r.first,V.int .i64 r.many]
structure zlk where
 Kind:Int
 First:Int
 Records:(Sl zle)
def zlk.enc (r:zlk):V:= .agg [V.int .i64 r.Kind,V.int .i64 r.First,(Sl.enc zle.enc) r.Records]
structure zll where
 index:Int
 size:Int
 sum:Int
def zll.enc (r:zll):V:= .agg [V.int .i64 r.index,V.int .i64 r.size,V.int .u64 r.sum]
structure zlm where
 N:Int
 F:Int
def zlm.enc (r:zlm):V:= .agg [V.int .i64 r.N,V.int .i64 r.F]
structure zln where
 From:Int
 To:Int
 Kind:Int
 Index:Int
 B:(Sl Int)
def zln.enc (r:zln):V:= .agg [V.int .i64 r.From,V.int .i64 r.To,V.int .i64 r.Kind,V.int .i64 r.Index,(Sl.enc (V.int .u8)) r.B]
structure zlo where
 Name:Int
 First:Int
 Many:Int
def zlo.enc (r:zlo):V:= .agg [V.int .i64 r.Name,V.int .i64 r.First,V.int .i64 r.Many]
structure zlp where
 N:Int
 F:Int
 Old:Int
def zlp.enc (r:zlp):V:= .agg [V.int .i64 r.N,V.int .i64 r.F,V.int .i64 r.Old]
def okSl {α:Type} (ok:α->Prop) (s:Sl α):Prop:=(s.z=true->s.l=[])/\s.l.length<=maxLen/\ ∀a∈s.l,ok a
def zld.ok (r:zld):Prop:=inR .i64 r.Code/\inR .i64 r.A/\inR .i64 r.B
def zle.ok (r:zle):Prop:=inR .i64 r.Index/\inR .i64 r.Proc/\inR .i64 r.Seq/\zld.ok r.Op/\inR .i64 r.Resp
def zlf.ok (r:zlf):Prop:=inR .i64 r.Kind/\inR .i64 r.Many/\inR .i64 r.N/\zld.ok r.Op/\okSl (fun x=>inR .i64 x) r.Keep/\okSl (fun x=>zle.ok x) r.Records/\okSl (fun x=>inR .u8 x) r.B
def zlg.ok (r:zlg):Prop:=inR .i64 r.Kind/\okSl (fun x=>inR .i64 x) r.L/\True/\inR .i64 r.To
def zlh.ok (r:zlh):Prop:=inR .i64 r.Proc/\inR .i64 r.Seq/\inR .i64 r.Resp
def zli.ok (r:zli):Prop:=inR .i64 r.Index/\zlg.ok r.State/\okSl (fun x=>zlh.ok x) r.Table
def zlj.ok (r:zlj):Prop:=inR .i64 r.name/\inR .i64 r.first/\inR .i64 r.many
def zlk.ok (r:zlk):Prop:=inR .i64 r.Kind/\inR .i64 r.First/\okSl (fun x=>zle.ok x) r.Records
def zll.ok (r:zll):Prop:=inR .i64 r.index/\inR .i64 r.size/\inR .u64 r.sum
def zlm.ok (r:zlm):Prop:=inR .i64 r.N/\inR .i64 r.F
def zln.ok (r:zln):Prop:=inR .i64 r.From/\inR .i64 r.To/\inR .i64 r.Kind/\inR .i64 r.Index/\okSl (fun x=>inR .u8 x) r.B
def zlo.ok (r:zlo):Prop:=inR .i64 r.Name/\inR .i64 r.First/\inR .i64 r.Many
def zlp.ok (r:zlp):Prop:=inR .i64 r.N/\inR .i64 r.F/\inR .i64 r.Old
def zlq (q:Nat):Option Bool:=if 31640<=12*q then some true else none
def zlr:Nat->Bool->(List zlf)->Int->Option (Bool)
 | 0,_,_,_=>none
 | q+1,v0z,v0l,v3=>(if v3<(v0l.length:Int) then (if 0<=v3 then ((v0l[v3.toNat]?).bind fun e1=>(if 20<(e1.Records.l.length:Int) then (some false) else (if 300<(e1.B.l.length:Int) then (some false) else (if 100<(e1.Keep.l.length:Int) then (some false) else (zlr q v0z v0l (wrp .i64 (v3+1))))))) else none) else (some true))
def zls:Nat->(Sl zlf)->Option (Bool)
 | 0,_=>none
 | q+1,a0=>(if 60<(a0.l.length:Int) then (some false) else (zlr q a0.z a0.l 0))
def zlt:Nat->Int->Option (zlg)
 | 0,_=>none
 | q+1,a0=>(if a0=0 then (some (⟨a0,⟨false,[0]⟩,false,0⟩:zlg)) else (if a0=1 then (some (⟨a0,⟨false,[0]⟩,false,0⟩:zlg)) else (if a0=2 then (some (⟨a0,⟨true,[]⟩,false,0⟩:zlg)) else (if a0=3 then (some (⟨a0,⟨true,[]⟩,false,0⟩:zlg)) else (if a0=4 then (some (⟨a0,⟨true,[]⟩,false,0⟩:zlg)) else (if a0=5 then (some (⟨a0,⟨true,[]⟩,false,0⟩:zlg)) else (some (⟨0,⟨true,[]⟩,false,0⟩:zlg))))))))
def zlu:Nat->(Sl zli)->Option (zli×Bool)
 | 0,_=>none
 | q+1,a0=>(if (a0.l.length:Int)=0 then (some ((⟨0,(⟨0,⟨true,[]⟩,false,0⟩:zlg),⟨true,[]⟩⟩:zli),false)) else (if 0<=(wrp .i64 ((a0.l.length:Int) - 1)) then ((a0.l[(wrp .i64 ((a0.l.length:Int) - 1)).toNat]?).bind fun e1=>(some (e1,true))) else none))
def zlv:Nat->(Sl Int)->Option ((Ow Int))
 | 0,_=>none
 | q+1,a0=>(if a0.z=true then (some ⟨true,true,[]⟩) else (if a0.l.length<=4294967296 then (some ⟨false,true,a0.l⟩) else none))
def zlw:Nat->(Sl zlh)->Option ((Ow zlh))
 | 0,_=>none
 | q+1,a0=>(if a0.z=true then (some ⟨true,true,[]⟩) else (if a0.l.length<=4294967296 then (some ⟨false,true,a0.l⟩) else none))
def zlx:Nat->zli->Option (zli)
 | 0,_=>none
 | q+1,a0=>((zlv q a0.State.L).bind fun r1=>((zlw q a0.Table).bind fun r2=>(some (⟨a0.Index,(⟨a0.State.Kind,⟨r1.n,r1.xs⟩,a0.State.Sealed,a0.State.To⟩:zlg),⟨r2.n,r2.xs⟩⟩:zli))))
def zly:Nat->Int->Option (Int)
 | 0,_=>none
 | q+1,a0=>(some (if (-1099511627776)<(if 1099511627776<a0 then 1099511627776 else a0) then (if 1099511627776<a0 then 1099511627776 else a0) else (-1099511627776)))
def zlz:Nat->zld->Option (Bool)
 | 0,_=>none
 | q+1,a0=>(if 0<=a0.Code then (if a0.Code<=10 then ((zly q a0.A).bind fun r1=>(if a0.A=r1 then ((zly q a0.B).bind fun r2=>(some (decide (a0.B=r2)))) else (some false))) else (some false)) else (some false))
def zl0:Nat->zle->Option (Bool)
 | 0,_=>none
 | q+1,a0=>(if 0<=a0.Index then (if a0.Index<4611686018427387904 then (if 0<=a0.Proc then (if a0.Proc<=64 then (if 0<=a0.Seq then (if a0.Seq<4611686018427387904 then ((zlz q a0.Op).bind fun r1=>(if r1=true then (if (-1125899906842624)<=a0.Resp then (some (decide (a0.Resp<=1125899906842624))) else (some false)) else (some false))) else (some false)) else (some false)) else (some false)) else (some false)) else (some false)) else (some false))
def zl1:Nat->Int->Option (Bool)
 | 0,_=>none
 | q+1,a0=>((zly q a0).bind fun r1=>(some (!(decide (a0=r1)))))
def zl2:Nat->Bool->(List Int)->Int->Int->Int->Option (Bool)
 | 0,_,_,_,_,_=>none
 | q+1,v0z,v0l,v1,v5,v6=>(if (wrp .i64 (v6+1))<(v0l.length:Int) then (if 0<=v6 then ((v0l[v6.toNat]?).bind fun e1=>(if e1<=v5 then (some false) else (if 255<e1 then (some false) else (if 0<=(wrp .i64 (v6+1)) then ((v0l[(wrp .i64 (v6+1)).toNat]?).bind fun e2=>(if e2<v1 then (some false) else (if 1099511627776<e2 then (some false) else (zl2 q v0z v0l v1 e1 (wrp .i64 (v6+2)))))) else none)))) else none) else (if (Int.tmod (v0l.length:Int) 2)=0 then (some (decide ((v0l.length:Int)<=128))) else (some false)))
def zl3:Nat->(Sl Int)->Int->Option (Bool)
 | 0,_,_=>none
 | q+1,a0,a1=>(zl2 q a0.z a0.l a1 (-1) 0)
def zl4:Nat->Bool->(List Int)->Int->Int->Int->Bool->(List Int)->Bool->Int->Option (Int)
 | 0,_,_,_,_,_,_,_,_,_=>none
 | q+1,v0z,v0l,v7,v8,h0_0,h0_1z,h0_1l,h0_2,h0_3=>(if v8<v7 then (if 0<=v8 then ((v0l[v8.toNat]?).bind fun e1=>((zl1 q e1).bind fun r2=>(if r2=true then (some v8) else (zl4 q v0z v0l v7 (wrp .i64 (v8+1)) h0_0 h0_1z h0_1l h0_2 h0_3)))) else none) else (some (-1)))
def zl5:Nat->Bool->(List Int)->Int->Bool->(List Int)->Bool->Int->Option (Int)
 | 0,_,_,_,_,_,_,_=>none
 | q+1,v0z,v0l,h0_0,h0_1z,h0_1l,h0_2,h0_3=>(zl4 q v0z v0l (v0l.length:Int) 0 h0_0 h0_1z h0_1l h0_2 h0_3)
def zl6:Nat->zlg->Option (Bool)
 | 0,_=>none
 | q+1,a0=>(if a0.To<0 then (some false) else (if 3<=a0.To then (some false) else (if a0.Sealed=true then ((zl5 q a0.L.z a0.L.l a0.Kind a0.L.z a0.L.l a0.Sealed a0.To).bind fun r1=>(if a0.Kind=0 then (if (a0.L.l.length:Int)=1 then (some (!(decide (0<=r1)))) else (some false)) else (if a0.Kind=1 then (if (a0.L.l.length:Int)=1 then (some (!(decide (0<=r1)))) else (some false)) else (if a0.Kind=2 then (if (a0.L.l.length:Int)<=64 then (some (!(decide (0<=r1)))) else (some false)) else (if a0.Kind=3 then (if (a0.L.l.length:Int)<=64 then (some (!(decide (0<=r1)))) else (some false)) else (if a0.Kind=4 then ((zl3 q a0.L (-1099511627776)).bind fun r2=>(some r2)) else (if a0.Kind=5 then ((zl3 q a0.L 0).bind fun r3=>(some r3)) else (some false)))))))) else (if a0.To=0 then ((zl5 q a0.L.z a0.L.l a0.Kind a0.L.z a0.L.l a0.Sealed a0.To).bind fun r4=>(if a0.Kind=0 then (if (a0.L.l.length:Int)=1 then (some (!(decide (0<=r4)))) else (some false)) else (if a0.Kind=1 then (if (a0.L.l.length:Int)=1 then (some (!(decide (0<=r4)))) else (some false)) else (if a0.Kind=2 then (if (a0.L.l.length:Int)<=64 then (some (!(decide (0<=r4)))) else (some false)) else (if a0.Kind=3 then (if (a0.L.l.length:Int)<=64 then (some (!(decide (0<=r4)))) else (some false)) else (if a0.Kind=4 then ((zl3 q a0.L (-1099511627776)).bind fun r5=>(some r5)) else (if a0.Kind=5 then ((zl3 q a0.L 0).bind fun r6=>(some r6)) else (some false)))))))) else (some false)))))
def zl7:Nat->zlg->zld->Option (zlg×Int)
 | 0,_,_=>none
 | q+1,a0,a1=>((a0.L.l[0]?).bind fun e1=>(if a1.Code=7 then (some (a0,e1)) else (if a0.Kind=0 then (if a1.Code=1 then ((zly q a1.A).bind fun r2=>((zly q (wrp .i64 (e1+r2))).bind fun r3=>(some ((⟨a0.Kind,⟨false,[r3]⟩,a0.Sealed,a0.To⟩:zlg),e1)))) else (if a0.Kind=1 then (if a1.Code=2 then ((zly q a1.A).bind fun r4=>(some ((⟨a0.Kind,⟨false,[r4]⟩,a0.Sealed,a0.To⟩:zlg),e1))) else (some (a0,0))) else (some (a0,0)))) else (if a0.Kind=1 then (if a1.Code=2 then ((zly q a1.A).bind fun r5=>(some ((⟨a0.Kind,⟨false,[r5]⟩,a0.Sealed,a0.To⟩:zlg),e1))) else (some (a0,0))) else (some (a0,0))))))
def zl8:Nat->(Ow Int)->Int->Int->Option ((Ow Int))
 | 0,_,_,_=>none
 | q+1,a0,a1,a2=>(if 0<=a1 then (if a1<=a2 then (if a2<=(a0.xs.length:Int) then (if a1=a2 then (some a0) else (if a1.toNat<=a0.xs.length then (if a0.n=true then (if 0<=a2 then (if a2.toNat<=a0.xs.length then (if (a0.xs.length+(a0.xs.length - a2.toNat))<=4294967296 then (if (((a0.xs.length+(a0.xs.length - a2.toNat)):Nat):Int)<=(a0.xs.length:Int) then (if a0.xs.length<=(a0.xs.length+(a0.xs.length - a2.toNat)) then (if (a0.xs.length - a2.toNat)=0 then none else (if a0.x=true then (some ⟨(a0.n && (decide ((a0.xs.length - a2.toNat)=0))),true,(((List.take (a0.xs.length+(a0.xs.length - a2.toNat)) (a0.xs++(List.drop a2.toNat a0.xs)))++(List.replicate (a0.xs.length - (a0.xs.length+(a0.xs.length - a2.toNat))) 0))++(List.drop ((a0.xs.length+(a0.xs.length - a2.toNat))+(a0.xs.length - (a0.xs.length+(a0.xs.length - a2.toNat)))) (a0.xs++(List.drop a2.toNat a0.xs))))⟩) else none)) else none) else none) else none) else none) else none) else (if 0<=a2 then (if a2.toNat<=a0.xs.length then (if (a1.toNat+(a0.xs.length - a2.toNat))<=a0.xs.length then (if a0.x=true then (if (((a1.toNat+(a0.xs.length - a2.toNat)):Nat):Int)<=(a0.xs.length:Int) then (if a0.xs.length<=(((min a1.toNat a0.xs.length)+(a0.xs.length - a2.toNat))+(a0.xs.length - (a1.toNat+(a0.xs.length - a2.toNat)))) then (some ⟨a0.n,true,(List.take (a1.toNat+(a0.xs.length - a2.toNat)) (((List.take (a1.toNat+(a0.xs.length - a2.toNat)) (((List.take a1.toNat a0.xs)++(List.drop a2.toNat a0.xs))++(List.drop (a1.toNat+(a0.xs.length - a2.toNat)) a0.xs)))++(List.replicate (a0.xs.length - (a1.toNat+(a0.xs.length - a2.toNat))) 0))++(List.drop ((a1.toNat+(a0.xs.length - a2.toNat))+(a0.xs.length - (a1.toNat+(a0.xs.length - a2.toNat)))) (((List.take a1.toNat a0.xs)++(List.drop a2.toNat a0.xs))++(List.drop (a1.toNat+(a0.xs.length - a2.toNat)) a0.xs)))))⟩) else none) else none) else none) else none) else none) else none)) else none)) else none) else none) else none)
def zl9:Nat->zlg->zld->Option (zlg×Int)
 | 0,_,_=>none
 | q+1,a0,a1=>(if a1.Code=7 then (some (a0,(a0.L.l.length:Int))) else (if a1.Code=3 then (if (a0.L.l.length:Int)<64 then ((zlv q a0.L).bind fun r1=>((zly q a1.A).bind fun r2=>(if (r1.xs.length+1)<=4294967296 then (some ((⟨a0.Kind,⟨false,(r1.xs++[r2])⟩,a0.Sealed,a0.To⟩:zlg),(wrp .i64 ((a0.L.l.length:Int)+1)))) else none))) else (some (a0,(-1)))) else (if a1.Code=4 then (if (a0.L.l.length:Int)=0 then (some (a0,(-1))) else (if a0.Kind=2 then ((a0.L.l[0]?).bind fun e3=>((zlv q a0.L).bind fun r4=>((zl8 q r4 0 (wrp .i64 1)).bind fun r5=>(some ((⟨a0.Kind,⟨r5.n,r5.xs⟩,a0.Sealed,a0.To⟩:zlg),e3))))) else (if 0<=(wrp .i64 ((a0.L.l.length:Int) - 1)) then ((a0.L.l[(wrp .i64 ((a0.L.l.length:Int) - 1)).toNat]?).bind fun e6=>((zlv q a0.L).bind fun r7=>((zl8 q r7 (wrp .i64 ((a0.L.l.length:Int) - 1)) (wrp .i64 ((wrp .i64 ((a0.L.l.length:Int) - 1))+1))).bind fun r8=>(some ((⟨a0.Kind,⟨r8.n,r8.xs⟩,a0.Sealed,a0.To⟩:zlg),e6))))) else none))) else (some (a0,0)))))
def zma:Nat->Bool->(List Int)->Int->Int->Option (Int×Bool)
 | 0,_,_,_,_=>none
 | q+1,v0z,v0l,v1,v6=>(if v6<(v0l.length:Int) then (if 0<=v6 then ((v0l[v6.toNat]?).bind fun e1=>(if e1<v1 then (zma q v0z v0l v1 (wrp .i64 (v6+2))) else (some (v6,(decide (e1=v1)))))) else none) else (some (v6,false)))
def zmb:Nat->(Sl Int)->Int->Option (Int×Bool)
 | 0,_,_=>none
 | q+1,a0,a1=>(zma q a0.z a0.l a1 0)
def zmc:Nat->(Sl Int)->Int->Option (Int)
 | 0,_,_=>none
 | q+1,a0,a1=>((zmb q a0 a1).bind fun r1=>(if r1.2=true then (if 0<=(wrp .i64 (r1.1+1)) then ((a0.l[(wrp .i64 (r1.1+1)).toNat]?).bind fun e2=>(some e2)) else none) else (some (-1))))
def zmd:Nat->(Ow Int)->Int->(Ow Int)->Option (Ow Int)
 | 0,_,_,_=>none
 | q+1,a0,a1,a2=>(if insOk a0 a1 a2 then (some (insR a0 a1 a2)) else none)
def zme:Nat->(Sl Int)->Int->Int->Option ((Sl Int)×Bool)
 | 0,_,_,_=>none
 | q+1,a0,a1,a2=>((zmb q a0 a1).bind fun r1=>(if r1.2=true then ((zlv q a0).bind fun r2=>(if 0<=(wrp .i64 (r1.1+1)) then (if (wrp .i64 (r1.1+1)).toNat<r2.xs.length then ((r2.xs[(wrp .i64 (r1.1+1)).toNat]?).bind fun e3=>(if r2.x=true then (some (⟨r2.n,(List.set r2.xs ((wrp .i64 (r1.1+1)).toNat) a2)⟩,true)) else none)) else none) else none)) else (if 128<=(a0.l.length:Int) then (some (a0,false)) else ((zlv q a0).bind fun r4=>((zmd q r4 r1.1 ⟨false,true,[a1,a2]⟩).bind fun r5=>(some (⟨r5.n,r5.xs⟩,true)))))))
def zmf:Nat->zlg->zld->Option (zlg×Int)
 | 0,_,_=>none
 | q+1,a0,a1=>(if a1.Code=7 then (if a1.A<0 then (some (a0,(-1))) else (if 255<a1.A then (some (a0,(-1))) else ((zmc q a0.L a1.A).bind fun r1=>((zmb q a0.L a1.A).bind fun r2=>(if a1.Code=6 then (if r2.2=true then ((zlv q a0.L).bind fun r3=>((zl8 q r3 r2.1 (wrp .i64 (r2.1+2))).bind fun r4=>(some ((⟨a0.Kind,⟨r4.n,r4.xs⟩,a0.Sealed,a0.To⟩:zlg),r1)))) else (if a1.Code=5 then ((zly q a1.B).bind fun r5=>((zme q a0.L a1.A r5).bind fun r6=>(if r6.2=true then (some ((⟨a0.Kind,r6.1,a0.Sealed,a0.To⟩:zlg),r1)) else (some (a0,(-2)))))) else (some (a0,r1)))) else (if a1.Code=5 then ((zly q a1.B).bind fun r7=>((zme q a0.L a1.A r7).bind fun r8=>(if r8.2=true then (some ((⟨a0.Kind,r8.1,a0.Sealed,a0.To⟩:zlg),r1)) else (some (a0,(-2)))))) else (some (a0,r1)))))))) else (if a1.Code=6 then (if a1.A<0 then (some (a0,(-1))) else (if 255<a1.A then (some (a0,(-1))) else ((zmc q a0.L a1.A).bind fun r9=>((zmb q a0.L a1.A).bind fun r10=>(if r10.2=true then ((zlv q a0.L).bind fun r11=>((zl8 q r11 r10.1 (wrp .i64 (r10.1+2))).bind fun r12=>(some ((⟨a0.Kind,⟨r12.n,r12.xs⟩,a0.Sealed,a0.To⟩:zlg),r9)))) else (if a1.Code=5 then ((zly q a1.B).bind fun r13=>((zme q a0.L a1.A r13).bind fun r14=>(if r14.2=true then (some ((⟨a0.Kind,r14.1,a0.Sealed,a0.To⟩:zlg),r9)) else (some (a0,(-2)))))) else (some (a0,r9)))))))) else (if a1.Code=5 then (if a1.A<0 then (some (a0,(-1))) else (if 255<a1.A then (some (a0,(-1))) else ((zmc q a0.L a1.A).bind fun r15=>((zmb q a0.L a1.A).bind fun r16=>((zly q a1.B).bind fun r17=>((zme q a0.L a1.A r17).bind fun r18=>(if r18.2=true then (some ((⟨a0.Kind,r18.1,a0.Sealed,a0.To⟩:zlg),r15)) else (some (a0,(-2)))))))))) else (some (a0,0)))))
def zmg:Nat->zlg->zld->Option (zlg×Int)
 | 0,_,_=>none
 | q+1,a0,a1=>(if a1.A<0 then (some (a0,0)) else (if 65536<=a1.A then (some (a0,0)) else (if a1.B<0 then (some (a0,0)) else ((zmc q a0.L (wrp .i64 (Int.tdiv a1.A 256))).bind fun r1=>((zmc q a0.L (Int.tmod a1.A 256)).bind fun r2=>(if r1<a1.B then (some (a0,0)) else (if (wrp .i64 (Int.tdiv a1.A 256))=(Int.tmod a1.A 256) then (some (a0,1)) else ((zme q a0.L (Int.tmod a1.A 256) (wrp .i64 ((if r2<0 then 0 else r2)+a1.B))).bind fun r3=>(if r3.2=true then (if 1099511627776<(wrp .i64 ((if r2<0 then 0 else r2)+a1.B)) then (some (a0,0)) else ((zme q r3.1 (wrp .i64 (Int.tdiv a1.A 256)) (wrp .i64 (r1 - a1.B))).bind fun r4=>(some ((⟨a0.Kind,r4.1,a0.Sealed,a0.To⟩:zlg),1)))) else (some (a0,0)))))))))))
def zmh:Nat->zlg->zld->Option (zlg×Int)
 | 0,_,_=>none
 | q+1,a0,a1=>(if a1.Code=9 then ((zmg q a0 a1).bind fun r1=>(some (r1.1,r1.2))) else (if a1.Code=7 then (if a1.A<0 then (some (a0,(-1))) else (if 255<a1.A then (some (a0,(-1))) else ((zmc q a0.L a1.A).bind fun r2=>(some (a0,r2))))) else (if a1.Code=8 then (if a1.A<0 then (some (a0,(-1))) else (if 255<a1.A then (some (a0,(-1))) else (if a1.B<0 then (some (a0,(-1))) else ((zmc q a0.L a1.A).bind fun r3=>((zly q a1.B).bind fun r4=>((zly q (wrp .i64 ((if r3<0 then 0 else r3)+r4))).bind fun r5=>((zme q a0.L a1.A r5).bind fun r6=>(if r6.2=true then (some ((⟨a0.Kind,r6.1,a0.Sealed,a0.To⟩:zlg),r5)) else (some (a0,(-2))))))))))) else (some (a0,0)))))
def zmi:Nat->zlg->zld->Option (zlg×Int)
 | 0,_,_=>none
 | q+1,a0,a1=>((zl6 q a0).bind fun r1=>(if r1=true then (if a0.Sealed=true then (some (a0,(-1125899906842624))) else (if a1.Code=10 then (if 0<=a1.A then (if a1.A<3 then (some ((⟨a0.Kind,a0.L,true,a1.A⟩:zlg),0)) else (some ((⟨a0.Kind,a0.L,true,a0.To⟩:zlg),0))) else (some ((⟨a0.Kind,a0.L,true,a0.To⟩:zlg),0))) else (if a0.Kind=0 then ((zl7 q a0 a1).bind fun r2=>(some (r2.1,r2.2))) else (if a0.Kind=1 then ((zl7 q a0 a1).bind fun r3=>(some (r3.1,r3.2))) else (if a0.Kind=2 then ((zl9 q a0 a1).bind fun r4=>(some (r4.1,r4.2))) else (if a0.Kind=3 then ((zl9 q a0 a1).bind fun r5=>(some (r5.1,r5.2))) else (if a0.Kind=4 then ((zmf q a0 a1).bind fun r6=>(some (r6.1,r6.2))) else ((zmh q a0 a1).bind fun r7=>(some (r7.1,r7.2)))))))))) else (some (a0,0))))
def zmj:Nat->(Ow zlh)->Int->(Ow zlh)->Option (Ow zlh)
 | 0,_,_,_=>none
 | q+1,a0,a1,a2=>(if insOk a0 a1 a2 then (some (insR a0 a1 a2)) else none)
def zmk:Nat->Int->Int->Int->Int->Int->Int->Int->Int->Int->Bool->(List zlh)->Bool->Option (Int)
 | 0,_,_,_,_,_,_,_,_,_,_,_,_=>none
 | q+1,v7,v8,h0_0,h0_1,h0_2,h0_3,h0_4,h0_5,h0_6,h1z,h1l,h1x=>(if v8<v7 then (if 0<=v8 then (if v8.toNat<h1l.length then ((h1l[v8.toNat]?).bind fun e1=>(if e1.Proc=h0_1 then (some v8) else (zmk q v7 (wrp .i64 (v8+1)) h0_0 h0_1 h0_2 h0_3 h0_4 h0_5 h0_6 h1z h1l h1x))) else none) else none) else (some (-1)))
def zml:Nat->Int->Int->Int->Int->Int->Int->Int->Bool->(List zlh)->Bool->Option (Int)
 | 0,_,_,_,_,_,_,_,_,_,_=>none
 | q+1,h0_0,h0_1,h0_2,h0_3,h0_4,h0_5,h0_6,h1z,h1l,h1x=>(zmk q (h1l.length:Int) 0 h0_0 h0_1 h0_2 h0_3 h0_4 h0_5 h0_6 h1z h1l h1x)
def zmm:Nat->Int->Int->Int->Int->Int->Int->Int->Int->Int->Bool->(List zlh)->Bool->Option (Nat×(List zlh)×Bool)
 | 0,_,_,_,_,_,_,_,_,_,_,_,_=>none
 | q+1,v5,v6,h0_0,h0_1,h0_2,h0_3,h0_4,h0_5,h0_6,h1z,h1l,h1x=>(if v6<(h1l.length:Int) then (if 0<=v6 then (if v6.toNat<h1l.length then ((h1l[v6.toNat]?).bind fun e2=>(if e2.Proc=h0_1 then (zmm q v5 (wrp .i64 (v6+1)) h0_0 h0_1 h0_2 h0_3 h0_4 h0_5 h0_6 h1z h1l h1x) else (if 0<=v5 then (if v5.toNat<h1l.length then ((h1l[v5.toNat]?).bind fun e3=>(if h1x=true then (zmm q (wrp .i64 (v5+1)) (wrp .i64 (v6+1)) h0_0 h0_1 h0_2 h0_3 h0_4 h0_5 h0_6 h1z (List.set h1l v5.toNat e2) true) else none)) else none) else none))) else none) else none) else (if 0<=v5 then (if v5.toNat<=h1l.length then (if h1x=true then (if v5.toNat<=(((min v5.toNat h1l.length)+(h1l.length - v5.toNat))+(h1l.length - (v5.toNat+(h1l.length - v5.toNat)))) then (if h1z=true then (some (v5.toNat,(((List.take v5.toNat h1l)++(List.replicate (h1l.length - v5.toNat) (⟨0,0,0⟩:zlh)))++(List.drop (v5.toNat+(h1l.length - v5.toNat)) h1l)),true)) else (some (v5.toNat,(((List.take v5.toNat h1l)++(List.replicate (h1l.length - v5.toNat) (⟨0,0,0⟩:zlh)))++(List.drop (v5.toNat+(h1l.length - v5.toNat)) h1l)),true))) else none) else none) else none) else none))
def zmn:Nat->Int->Int->Int->Int->Int->Int->Int->Bool->(List zlh)->Bool->Option (Nat×(List zlh)×Bool)
 | 0,_,_,_,_,_,_,_,_,_,_=>none
 | q+1,h0_0,h0_1,h0_2,h0_3,h0_4,h0_5,h0_6,h1z,h1l,h1x=>((zml q h0_0 h0_1 h0_2 h0_3 h0_4 h0_5 h0_6 h1z h1l h1x).bind fun r1=>(if r1=(-1) then (some (h1l.length,h1l,h1x)) else (zmm q r1 (wrp .i64 (r1+1)) h0_0 h0_1 h0_2 h0_3 h0_4 h0_5 h0_6 h1z h1l h1x)))
def zmo:Nat->Nat->Int->Int->Int->Int->Int->Int->Int->Int->Int->Bool->(List zlh)->Bool->Option (Int)
 | 0,_,_,_,_,_,_,_,_,_,_,_,_,_=>none
 | q+1,v0len,v7,v8,h0_0,h0_1,h0_2,h0_3,h0_4,h0_5,h0_6,h1z,h1l,h1x=>(if v8<v7 then (if 0<=v8 then (if v8.toNat<v0len then ((h1l[v8.toNat]?).bind fun e1=>(if h0_1<e1.Proc then (some v8) else (zmo q v0len v7 (wrp .i64 (v8+1)) h0_0 h0_1 h0_2 h0_3 h0_4 h0_5 h0_6 h1z h1l h1x))) else none) else none) else (some (-1)))
def zmp:Nat->Nat->Int->Int->Int->Int->Int->Int->Int->Bool->(List zlh)->Bool->Option (Int)
 | 0,_,_,_,_,_,_,_,_,_,_,_=>none
 | q+1,v0len,h0_0,h0_1,h0_2,h0_3,h0_4,h0_5,h0_6,h1z,h1l,h1x=>(zmo q v0len (v0len:Int) 0 h0_0 h0_1 h0_2 h0_3 h0_4 h0_5 h0_6 h1z h1l h1x)
def zmq:Nat->(Sl zlh)->zle->Option ((Ow zlh))
 | 0,_,_=>none
 | q+1,a0,a1=>((zlw q a0).bind fun r1=>((zmn q a1.Index a1.Proc a1.Seq a1.Op.Code a1.Op.A a1.Op.B a1.Resp r1.n r1.xs r1.x).bind fun r2=>((zmp q r2.1 a1.Index a1.Proc a1.Seq a1.Op.Code a1.Op.A a1.Op.B a1.Resp r1.n r2.2.1 r2.2.2).bind fun r3=>(if r3<0 then (if r2.2.2=true then ((zmj q ⟨r1.n,r2.2.2,(List.take r2.1 r2.2.1)⟩ (r2.1:Int) ⟨false,true,[(⟨a1.Proc,a1.Seq,a1.Resp⟩:zlh)]⟩).bind fun r4=>(some r4)) else none) else (if r2.2.2=true then ((zmj q ⟨r1.n,r2.2.2,(List.take r2.1 r2.2.1)⟩ r3 ⟨false,true,[(⟨a1.Proc,a1.Seq,a1.Resp⟩:zlh)]⟩).bind fun r5=>(some r5)) else none)))))
def zmr:Nat->Bool->(List zle)->Int->Int->Int->Int->Bool->(List Int)->Bool->Int->Bool->(List zlh)->Bool->Option (zli×Int)
 | 0,_,_,_,_,_,_,_,_,_,_,_,_,_=>none
 | q+1,v8z,v8l,v9,v10,h0_0,h0_1,h0_2z,h0_2l,h0_3,h0_4,h2z,h2l,h2x=>(if v10<v9 then (if 0<=v10 then ((v8l[v10.toNat]?).bind fun e5=>(if e5.Index=h0_0 then ((zl0 q e5).bind fun r6=>(if r6=true then ((zmi q (⟨h0_1,⟨h0_2z,h0_2l⟩,h0_3,h0_4⟩:zlg) e5.Op).bind fun r7=>((zmq q ⟨h2z,h2l⟩ (⟨e5.Index,e5.Proc,e5.Seq,e5.Op,r7.2⟩:zle)).bind fun r8=>(zmr q v8z v8l v9 (wrp .i64 (v10+1)) (wrp .i64 (h0_0+1)) r7.1.Kind r7.1.L.z r7.1.L.l r7.1.Sealed r7.1.To r8.n r8.xs r8.x))) else (some ((⟨0,(⟨0,⟨true,[]⟩,false,0⟩:zlg),⟨true,[]⟩⟩:zli),1)))) else (some ((⟨0,(⟨0,⟨true,[]⟩,false,0⟩:zlg),⟨true,[]⟩⟩:zli),15)))) else none) else (some ((⟨h0_0,(⟨h0_1,⟨h0_2z,h0_2l⟩,h0_3,h0_4⟩:zlg),⟨h2z,h2l⟩⟩:zli),0)))
def zms:Nat->Bool->(List zle)->Int->Int->Int->Bool->(List Int)->Bool->Int->Bool->(List zlh)->Option (zli×Int)
 | 0,_,_,_,_,_,_,_,_,_,_,_=>none
 | q+1,v8z,v8l,v9,h0_0,h0_1,h0_2z,h0_2l,h0_3,h0_4,h0_5z,h0_5l=>(if 0<v9 then ((v8l[0]?).bind fun e1=>(if e1.Index=h0_0 then ((zl0 q e1).bind fun r2=>(if r2=true then ((zmi q (⟨h0_1,⟨h0_2z,h0_2l⟩,h0_3,h0_4⟩:zlg) e1.Op).bind fun r3=>((zmq q ⟨h0_5z,h0_5l⟩ (⟨e1.Index,e1.Proc,e1.Seq,e1.Op,r3.2⟩:zle)).bind fun r4=>(zmr q v8z v8l v9 (wrp .i64 1) (wrp .i64 (h0_0+1)) r3.1.Kind r3.1.L.z r3.1.L.l r3.1.Sealed r3.1.To r4.n r4.xs r4.x))) else (some ((⟨0,(⟨0,⟨true,[]⟩,false,0⟩:zlg),⟨true,[]⟩⟩:zli),1)))) else (some ((⟨0,(⟨0,⟨true,[]⟩,false,0⟩:zlg),⟨true,[]⟩⟩:zli),15)))) else (some ((⟨h0_0,(⟨h0_1,⟨h0_2z,h0_2l⟩,h0_3,h0_4⟩:zlg),⟨h0_5z,h0_5l⟩⟩:zli),0)))
def zmt:Nat->zli->(Sl zle)->Option (zli×Int)
 | 0,_,_=>none
 | q+1,a0,a1=>(zms q a1.z a1.l (a1.l.length:Int) a0.Index a0.State.Kind a0.State.L.z a0.State.L.l a0.State.Sealed a0.State.To a0.Table.z a0.Table.l)
def zmu:Nat->Int->Int->Int->Int->Int->Int->Int->Int->Bool->(List Int)->Bool->(List zle)->Bool->(List Int)->Bool->(List zle)->Option ((Ow zle))
 | 0,_,_,_,_,_,_,_,_,_,_,_,_,_,_,_,_=>none
 | q+1,v0,v6,h0_0,h0_1,h0_2,h0_3,h0_4,h0_5,h0_6z,h0_6l,h0_7z,h0_7l,h0_8z,h0_8l,h1z,h1l=>(if v6<h0_1 then (if v6<20 then (if (h1l.length+1)<=4294967296 then (zmu q v0 (wrp .i64 (v6+1)) h0_0 h0_1 h0_2 h0_3 h0_4 h0_5 h0_6z h0_6l h0_7z h0_7l h0_8z h0_8l false (h1l++[(⟨(wrp .i64 (v0+v6)),(Int.tmod v6 3),(Int.tmod v0 1000),(⟨h0_3,h0_4,h0_5⟩:zld),0⟩:zle)])) else none) else (some ⟨h1z,true,h1l⟩)) else (some ⟨h1z,true,h1l⟩))
def zmv:Nat->Int->zlf->Option ((Ow zle))
 | 0,_,_=>none
 | q+1,a0,a1=>(zmu q a0 0 a1.Kind a1.Many a1.N a1.Op.Code a1.Op.A a1.Op.B a1.Keep.z a1.Keep.l a1.Records.z a1.Records.l a1.B.z a1.B.l true [])
def zmw:Nat->Bool->(List zle)->Bool->(List zle)->Int->Int->Option (Bool)
 | 0,_,_,_,_,_,_=>none
 | q+1,v0z,v0l,v5z,v5l,v6,v7=>(if v7<v6 then (if 0<=v7 then ((v5l[v7.toNat]?).bind fun e1=>((zl0 q e1).bind fun r2=>(if r2=true then ((v0l[0]?).bind fun e3=>(if e1.Index=(wrp .i64 (e3.Index+v7)) then (zmw q v0z v0l v5z v5l v6 (wrp .i64 (v7+1))) else (some false))) else (some false)))) else none) else (if 0<(v0l.length:Int) then (some (decide ((v0l.length:Int)<=256))) else (some false)))
def zmx:Nat->(Sl zle)->Option (Bool)
 | 0,_=>none
 | q+1,a0=>(zmw q a0.z a0.l a0.z a0.l (a0.l.length:Int) 0)
def zmy:Nat->Int->Bool->(List Int)->Bool->Option ((Ow Int))
 | 0,_,_,_,_=>none
 | q+1,v1,h0z,h0l,h0x=>(if 128<=v1 then (if (h0l.length+1)<=4294967296 then (zmy q (ishr .u64 v1 7) false (h0l++[(ibits .or .u8 (wrp .u8 v1) 128)]) h0x) else none) else (if (h0l.length+1)<=4294967296 then (some ⟨false,h0x,(h0l++[(wrp .u8 v1)])⟩) else none))
def zmz:Nat->(Ow Int)->Int->Option ((Ow Int))
 | 0,_,_=>none
 | q+1,a0,a1=>(zmy q a1 a0.n a0.xs a0.x)
def zm0:Nat->(Ow Int)->Int->Option ((Ow Int))
 | 0,_,_=>none
 | q+1,a0,a1=>(if a1<0 then (some a0) else (if 4611686018427387904<=a1 then (some a0) else ((zmz q a0 (wrp .u64 a1)).bind fun r1=>(some r1))))
def zm1:Nat->Int->Option (Int)
 | 0,_=>none
 | q+1,a0=>(some (ibits .xor .u64 (ishl .u64 (wrp .u64 a0) 1) (wrp .u64 (ishr .i64 a0 63))))
def zm2:Nat->(Ow Int)->Int->Option ((Ow Int))
 | 0,_,_=>none
 | q+1,a0,a1=>((zm1 q a1).bind fun r1=>((zmz q a0 r1).bind fun r2=>(some r2)))
def zm3:Nat->(Ow Int)->zld->Option ((Ow Int)×Int)
 | 0,_,_=>none
 | q+1,a0,a1=>((zlz q a1).bind fun r1=>(if r1=true then ((zm0 q a0 a1.Code).bind fun r2=>((zm2 q r2 a1.A).bind fun r3=>((zm2 q r3 a1.B).bind fun r4=>(some (r4,0))))) else (some (a0,1))))
def zm4:Nat->Bool->(List zle)->Int->Int->(List (Int×Int))->Bool->(List Int)->Bool->Option ((Ow Int)×Int)
 | 0,_,_,_,_,_,_,_,_=>none
 | q+1,v20z,v20l,v21,v22,h0m,h1z,h1l,h1x=>(if v22<v21 then (if 0<=v22 then ((v20l[v22.toNat]?).bind fun e5=>((zm0 q ⟨h1z,h1x,h1l⟩ e5.Proc).bind fun r6=>((zm2 q r6 (wrp .i64 (e5.Seq - (mget h0m e5.Proc)))).bind fun r7=>((zm3 q r7 e5.Op).bind fun r8=>((zm2 q r8.1 e5.Resp).bind fun r9=>(zm4 q v20z v20l v21 (wrp .i64 (v22+1)) (mset h0m e5.Proc e5.Seq) r9.n r9.xs r9.x)))))) else none) else (some (⟨h1z,h1x,h1l⟩,0)))
def zm5:Nat->(Sl zle)->Option ((Ow Int)×Int)
 | 0,_=>none
 | q+1,a0=>((zmx q a0).bind fun r1=>(if r1=true then ((a0.l[0]?).bind fun e2=>((zm0 q ⟨true,true,[]⟩ e2.Index).bind fun r3=>((zm0 q r3 (a0.l.length:Int)).bind fun r4=>(zm4 q a0.z a0.l (a0.l.length:Int) 0 [] r4.n r4.xs r4.x)))) else (some (⟨true,true,[]⟩,1))))
mutual
def zm6:Nat->Int->(List Int)->(List Int)->Option ((List Int))
 | 0,_,_,_=>none
 | q+1,v5,h0_0,h1_0=>(if v5<256 then (zm7 q v5 (wrp .u32 v5) v5 0 h0_0 h1_0) else (if 256<=h1_0.length then (if (min 256 h1_0.length)=256 then (if 256<=h0_0.length then (if 256<=(256+(h0_0.length - 256)) then (some (List.take 256 ((List.take 256 h1_0)++(List.drop 256 h0_0)))) else none) else none) else none) else none))
def zm7:Nat->Int->Int->Int->Int->(List Int)->(List Int)->Option ((List Int))
 | 0,_,_,_,_,_,_=>none
 | q+1,v2,v3,v5,v10,h0_0,h1_0=>(if v10<8 then (zm7 q v2 (ibits .xor .u32 (ishr .u32 v3 1) (ibits .and .u32 2197175160 (wrp .u32 (0 - (ibits .and .u32 v3 1))))) v5 (wrp .i64 (v10+1)) h0_0 h1_0) else (if 0<=v2 then (if v2.toNat<256 then (if (v2.toNat+1)<=h1_0.length then (zm6 q (wrp .i64 (v5+1)) h0_0 (List.set h1_0 v2.toNat v3)) else none) else none) else none))
end
def zm8:Nat->Option ((List Int))
 | 0=>none
 | q+1=>(zm6 q 0 (List.replicate 256 0) (List.replicate 256 0))
def zm9:Nat->Int->Bool->(List Int)->Int->Int->(List Int)->Option (Int)
 | 0,_,_,_,_,_,_=>none
 | q+1,v6,v12z,v12l,v13,v14,h0_0=>(if v14<v13 then (if 0<=v14 then ((v12l[v14.toNat]?).bind fun e2=>(if 0<=(ibits .xor .u8 (wrp .u8 v6) e2) then (if (ibits .xor .u8 (wrp .u8 v6) e2).toNat<256 then ((h0_0[(ibits .xor .u8 (wrp .u8 v6) e2).toNat]?).bind fun e3=>(zm9 q (ibits .xor .u32 e3 (ishr .u32 v6 8)) v12z v12l v13 (wrp .i64 (v14+1)) h0_0)) else none) else none)) else none) else (some (ibits .xor .u32 4294967295 v6)))
def zna:Nat->Int->(Sl Int)->Option (Int)
 | 0,_,_=>none
 | q+1,a0,a1=>((zm8 q).bind fun r1=>(if r1.length=256 then (zm9 q (ibits .xor .u32 4294967295 a0) a1.z a1.l (a1.l.length:Int) 0 r1) else none))
def znb:Nat->(Sl Int)->Option (Int)
 | 0,_=>none
 | q+1,a0=>((zna q 0 a0).bind fun r1=>(some r1))
def znc:Nat->Int->Int->Int->Bool->(List Int)->Option ((Ow Int))
 | 0,_,_,_,_,_=>none
 | q+1,v0,v7,v8,h0z,h0l=>(if v8<v7 then (if (wrp .i64 (8*v8))<0 then none else (if (h0l.length+1)<=4294967296 then (znc q v0 v7 (wrp .i64 (v8+1)) false (h0l++[(wrp .u8 (ishr .u64 v0 (wrp .i64 (8*v8))))])) else none)) else (some ⟨h0z,true,h0l⟩))
def znd:Nat->Int->Int->Option ((Ow Int))
 | 0,_,_=>none
 | q+1,a0,a1=>(znc q a0 a1 0 true [])
def zne:Nat->Int->Option ((Ow Int))
 | 0,_=>none
 | q+1,a0=>((znd q (wrp .u64 a0) 4).bind fun r1=>(some r1))
def znf:Nat->(Sl Int)->(Sl Int)->Option ((Ow Int))
 | 0,_,_=>none
 | q+1,a0,a1=>((znb q a0).bind fun r1=>((zna q r1 a1).bind fun r2=>((zne q r2).bind fun r3=>(some r3))))
def zng:Nat->Nat->Bool->(List (Sl Int))->Int->Int->Bool->(List Int)->Option ((Ow Int))
 | 0,_,_,_,_,_,_,_=>none
 | q+1,v6len,v25z,v25l,v26,v27,h0z,h0l=>(if v27<v26 then (if 0<=v27 then ((v25l[v27.toNat]?).bind fun e2=>(if (v6len+e2.l.length)<=h0l.length then (zng q (v6len+e2.l.length) v25z v25l v26 (wrp .i64 (v27+1)) h0z (((List.take v6len h0l)++e2.l)++(List.drop (v6len+e2.l.length) h0l))) else none)) else none) else (some ⟨h0z,true,(List.take v6len h0l)⟩))
def znh:Nat->Bool->(List (Sl Int))->Int->Int->Bool->(List Int)->Option ((Ow Int))
 | 0,_,_,_,_,_,_=>none
 | q+1,v25z,v25l,v26,v27,h0z,h0l=>(if v27<v26 then (if 0<=v27 then ((v25l[v27.toNat]?).bind fun e4=>(if (h0l.length+e4.l.length)<=4294967296 then (znh q v25z v25l v26 (wrp .i64 (v27+1)) (h0z && (decide (e4.l.length=0))) (h0l++e4.l)) else none)) else none) else (some ⟨h0z,true,h0l⟩))
def zni:Nat->Bool->(List (Sl Int))->Int->Option ((Ow Int))
 | 0,_,_,_=>none
 | q+1,v25z,v25l,v26=>(if 0<v26 then ((v25l[0]?).bind fun e3=>(if e3.l.length<=4294967296 then (znh q v25z v25l v26 (wrp .i64 1) (decide (e3.l.length=0)) e3.l) else none)) else (some ⟨true,true,[]⟩))
def znj:Nat->Bool->(List (Sl Int))->Int->Bool->(List (Sl Int))->Int->Int->Option ((Ow Int))
 | 0,_,_,_,_,_,_,_=>none
 | q+1,v0z,v0l,v3,v9z,v9l,v10,v11=>(if v11<v10 then (if 0<=v11 then ((v9l[v11.toNat]?).bind fun e1=>(if (wrp .i64 (v3+(e1.l.length:Int)))<0 then none else (znj q v0z v0l (wrp .i64 (v3+(e1.l.length:Int))) v9z v9l v10 (wrp .i64 (v11+1))))) else none) else (if v3<0 then none else (if 0<(wrp .i64 (v3 - (wrp .i64 0))) then (if 0<=(wrp .i64 (v3 - (wrp .i64 0))) then (if (wrp .i64 (v3 - (wrp .i64 0))).toNat<=4294967296 then (if (wrp .i64 (v3 - (wrp .i64 0)))=0 then none else (zng q 0 v0z v0l (v0l.length:Int) 0 (decide ((wrp .i64 (v3 - (wrp .i64 0)))=0)) (List.replicate ((wrp .i64 (v3 - (wrp .i64 0))).toNat) 0))) else none) else none) else (zni q v0z v0l (v0l.length:Int)))))
def znk:Nat->(Sl (Sl Int))->Option ((Ow Int))
 | 0,_=>none
 | q+1,a0=>(znj q a0.z a0.l 0 a0.z a0.l (a0.l.length:Int) 0)
def znl:Nat->(Sl Int)->Option ((Ow Int)×Int)
 | 0,_=>none
 | q+1,a0=>(if 1048576<(a0.l.length:Int) then (some (⟨true,true,[]⟩,5)) else ((zm0 q ⟨true,true,[]⟩ (a0.l.length:Int)).bind fun r1=>((znf q ⟨r1.n,r1.xs⟩ a0).bind fun r2=>((znk q ⟨false,[⟨r1.n,r1.xs⟩,a0,⟨r2.n,r2.xs⟩]⟩).bind fun r3=>(some (r3,0))))))
def znm:Nat->Int->Option (Bool)
 | 0,_=>none
 | q+1,a0=>(if 1<=a0 then (some (decide (a0<=3))) else (some false))
def znn:Nat->(Sl Int)->Option ((Ow Int))
 | 0,_=>none
 | q+1,a0=>((znl q a0).bind fun r1=>(some r1.1))
def zno:Nat->Int->Int->Int->Option ((Ow Int)×Int)
 | 0,_,_,_=>none
 | q+1,a0,a1,a2=>((znm q a0).bind fun r1=>(if r1=true then (if a1<0 then (some (⟨true,true,[]⟩,1)) else (if 6<=a1 then (some (⟨true,true,[]⟩,1)) else (if a2<0 then (some (⟨true,true,[]⟩,1)) else (if 4611686018427387904<=a2 then (some (⟨true,true,[]⟩,1)) else ((zm0 q ⟨false,true,[108]⟩ a0).bind fun r2=>((zm0 q r2 a1).bind fun r3=>((zm0 q r3 a2).bind fun r4=>((znn q ⟨r4.n,r4.xs⟩).bind fun r5=>(some (r5,0)))))))))) else (some (⟨true,true,[]⟩,6))))
def znp:Nat->(Sl Int)->Option (Int×Bool)
 | 0,_=>none
 | q+1,a0=>(if (a0.l.length:Int)=0 then (some (0,false)) else (if 0<=(wrp .i64 ((a0.l.length:Int) - 1)) then ((a0.l[(wrp .i64 ((a0.l.length:Int) - 1)).toNat]?).bind fun e1=>(some (e1,true))) else none))
def znq:Nat->(Sl zle)->Option ((Ow zle))
 | 0,_=>none
 | q+1,a0=>(if a0.z=true then (some ⟨true,true,[]⟩) else (if a0.l.length<=4294967296 then (some ⟨false,true,a0.l⟩) else none))
def znr:Nat->Bool->(List zle)->Bool->(List zle)->Int->Option (Bool)
 | 0,_,_,_,_,_=>none
 | q+1,v0z,v0l,v1z,v1l,v5=>(if v5<(v0l.length:Int) then (if 0<=v5 then ((v0l[v5.toNat]?).bind fun e1=>((v1l[v5.toNat]?).bind fun e2=>(if e1.Index=e2.Index then (if e1.Proc=e2.Proc then (if e1.Seq=e2.Seq then (if e1.Op.Code=e2.Op.Code then (if e1.Op.A=e2.Op.A then (if e1.Op.B=e2.Op.B then (if e1.Resp=e2.Resp then (znr q v0z v0l v1z v1l (wrp .i64 (v5+1))) else (some false)) else (some false)) else (some false)) else (some false)) else (some false)) else (some false)) else (some false)))) else none) else (some true))
def zns:Nat->(Sl zle)->(Sl zle)->Option (Bool)
 | 0,_,_=>none
 | q+1,a0,a1=>(if (a0.l.length:Int)=(a1.l.length:Int) then (znr q a0.z a0.l a1.z a1.l 0) else (some false))
def znt:Nat->Bool->(List Int)->Bool->(List Int)->Int->Int->Option (Bool)
 | 0,_,_,_,_,_,_=>none
 | q+1,v0z,v0l,v1z,v1l,v12,v13=>(if v13<v12 then (if 0<=v13 then ((v0l[v13.toNat]?).bind fun e1=>((v1l[v13.toNat]?).bind fun e2=>(if e1=e2 then (znt q v0z v0l v1z v1l v12 (wrp .i64 (v13+1))) else (some false)))) else none) else (some true))
def znu:Nat->(Sl Int)->(Sl Int)->Option (Bool)
 | 0,_,_=>none
 | q+1,a0,a1=>(if (a0.l.length:Int)=(a1.l.length:Int) then (znt q a0.z a0.l a1.z a1.l (a0.l.length:Int) 0) else (some false))
def znv:Nat->zlg->zlg->Option (Bool)
 | 0,_,_=>none
 | q+1,a0,a1=>(if a0.Kind=a1.Kind then (if (a0.Sealed==a1.Sealed)=true then (if a0.To=a1.To then ((znu q a0.L a1.L).bind fun r1=>(some r1)) else (some false)) else (some false)) else (some false))
def znw:Nat->Bool->(List zlh)->Bool->(List zlh)->Int->Int->Option (Bool)
 | 0,_,_,_,_,_,_=>none
 | q+1,v0z,v0l,v1z,v1l,v12,v13=>(if v13<v12 then (if 0<=v13 then ((v0l[v13.toNat]?).bind fun e1=>((v1l[v13.toNat]?).bind fun e2=>(if e1.Proc=e2.Proc then (if e1.Seq=e2.Seq then (if e1.Resp=e2.Resp then (znw q v0z v0l v1z v1l v12 (wrp .i64 (v13+1))) else (some false)) else (some false)) else (some false)))) else none) else (some true))
def znx:Nat->(Sl zlh)->(Sl zlh)->Option (Bool)
 | 0,_,_=>none
 | q+1,a0,a1=>(if (a0.l.length:Int)=(a1.l.length:Int) then (znw q a0.z a0.l a1.z a1.l (a0.l.length:Int) 0) else (some false))
def zny:Nat->zli->zli->Option (Bool)
 | 0,_,_=>none
 | q+1,a0,a1=>(if a0.Index=a1.Index then ((znv q a0.State a1.State).bind fun r1=>(if r1=true then ((znx q a0.Table a1.Table).bind fun r2=>(some r2)) else (some false))) else (some false))
def znz:Nat->Bool->(List Int)->Int->Dk->Dk->Int->Int->(List zli)->Option (Nat×Int×(List zli))
 | 0,_,_,_,_,_,_,_,_=>none
 | q+1,v82z,v82l,v83,h0d,h1d,h2_1,h2_5,h3l=>(if 0<v83 then ((v82l[0]?).bind fun e7=>none) else (some (h3l.length,h2_5,h3l)))
def zn0:Nat->Bool->(List Int)->Int->Dk->Dk->Int->(List zli)->Option (Nat×Int×(List zli))
 | 0,_,_,_,_,_,_,_=>none
 | q+1,v29z,v29l,v30,h0d,h1d,h2_1,h3l=>(if 0<v30 then ((v29l[0]?).bind fun e3=>none) else ((zlu q ⟨false,h3l⟩).bind fun r4=>((zlx q r4.1).bind fun r5=>((dF h0d 2).bind fun e6=>(znz q e6.1 e6.2 (e6.2.length:Int) h0d h1d h2_1 r5.Index h3l)))))
def zn1:Nat->Dk->Dk->Int->Option (Nat×Int×(List zli))
 | 0,_,_,_=>none
 | q+1,h0d,h1d,h2_1=>((zlt q h2_1).bind fun r1=>((dF h0d 3).bind fun e2=>(zn0 q e2.1 e2.2 (e2.2.length:Int) h0d h1d h2_1 [(⟨0,r1,⟨true,[]⟩⟩:zli)])))
def zn2:Nat->Bool->(List Int)->Int->Dk->Dk->Int->Nat->Int->Int->Int->Int->Bool->(List Int)->Bool->Int->Bool->(List zlh)->(List zli)->Int->Int->(List zli)->Option (Nat×Int×(List zli))
 | 0,_,_,_,_,_,_,_,_,_,_,_,_,_,_,_,_,_,_,_,_,_=>none
 | q+1,v82z,v82l,v83,h0d,h1d,h2_1,h2_2len,h2_5,h2_6,h2_7,h2_8,h2_9z,h2_9l,h2_10,h2_11,h2_12z,h2_12l,h3l,h4_1,h4_5,h5l=>(if 0<v83 then ((v82l[0]?).bind fun e7=>none) else (some (h5l.length,h4_5,h5l)))
def zn3:Nat->Bool->(List Int)->Int->Dk->Dk->Int->Nat->Int->Int->Int->Int->Bool->(List Int)->Bool->Int->Bool->(List zlh)->(List zli)->Int->(List zli)->Option (Nat×Int×(List zli))
 | 0,_,_,_,_,_,_,_,_,_,_,_,_,_,_,_,_,_,_,_,_=>none
 | q+1,v29z,v29l,v30,h0d,h1d,h2_1,h2_2len,h2_5,h2_6,h2_7,h2_8,h2_9z,h2_9l,h2_10,h2_11,h2_12z,h2_12l,h3l,h4_1,h5l=>(if 0<v30 then ((v29l[0]?).bind fun e3=>none) else ((zlu q ⟨false,h5l⟩).bind fun r4=>((zlx q r4.1).bind fun r5=>((dF h1d 2).bind fun e6=>(zn2 q e6.1 e6.2 (e6.2.length:Int) h0d h1d h2_1 h2_2len h2_5 h2_6 h2_7 h2_8 h2_9z h2_9l h2_10 h2_11 h2_12z h2_12l h3l h4_1 r5.Index h5l)))))
def zn4:Nat->Dk->Dk->Int->Nat->Int->Int->Int->Int->Bool->(List Int)->Bool->Int->Bool->(List zlh)->(List zli)->Int->Option (Nat×Int×(List zli))
 | 0,_,_,_,_,_,_,_,_,_,_,_,_,_,_,_,_=>none
 | q+1,h0d,h1d,h2_1,h2_2len,h2_5,h2_6,h2_7,h2_8,h2_9z,h2_9l,h2_10,h2_11,h2_12z,h2_12l,h3l,h4_1=>((zlt q h4_1).bind fun r1=>((dF h1d 3).bind fun e2=>(zn3 q e2.1 e2.2 (e2.2.length:Int) h0d h1d h2_1 h2_2len h2_5 h2_6 h2_7 h2_8 h2_9z h2_9l h2_10 h2_11 h2_12z h2_12l h3l h4_1 [(⟨0,r1,⟨true,[]⟩⟩:zli)])))
mutual
def zn5:Nat->Bool->(List zlf)->Int->Int->Int->Nat->Int->Int->Int->Int->Bool->(List Int)->Bool->Int->Bool->(List zlh)->Int->Nat->Int->Int->Int->Int->Bool->(List Int)->Bool->Int->Bool->(List zlh)->Int->Bool->Bool->(List zle)->Dk->(List zli)->(List zlj)->Bool->(List zle)->Dk->(List zli)->(List zlj)->Bool->(List zle)->Option (Bool)
 | 0,_,_,_,_,_,_,_,_,_,_,_,_,_,_,_,_,_,_,_,_,_,_,_,_,_,_,_,_,_,_,_,_,_,_,_,_,_,_,_,_,_,_=>none
 | q+1,v1z,v1l,v13,v15,h0_1,h0_2len,h0_5,h0_6,h0_7,h0_8,h0_9z,h0_9l,h0_10,h0_11,h0_12z,h0_12l,h1_1,h1_2len,h1_5,h1_6,h1_7,h1_8,h1_9z,h1_9l,h1_10,h1_11,h1_12z,h1_12l,h1_13,h1_14,h2z,h2l,h3d,h4l,h5l,h6z,h6l,h7d,h8l,h9l,h10z,h10l=>(if v15<(h2l.length:Int) then (if 0<=v15 then (if v15<=(wrp .i64 (v15+1)) then (if (wrp .i64 (v15+1)).toNat<=h2l.length then (if h2z=true then none else ((zm5 q ⟨h2z,(List.take ((wrp .i64 (v15+1)).toNat - v15.toNat) (List.drop v15.toNat h2l))⟩).bind fun r37=>(if r37.2=0 then (if 0<((wrp .i64 (v15+1)).toNat - v15.toNat) then ((h2l[v15.toNat]?).bind fun e38=>(if e38.Index=(wrp .i64 (h1_5+(h10l.length:Int))) then ((znl q ⟨r37.1.n,r37.1.xs⟩).bind fun r39=>(if h1_13=0 then ((zno q 3 h1_1 (wrp .i64 (h1_5+(h10l.length:Int)))).bind fun r40=>((dF h7d 2).bind fun e41=>((znp q ⟨e41.1,e41.2⟩).bind fun r42=>(if r42.2=true then (if (r40.1.xs.length+r39.1.xs.length)<=4294967296 then ((dA h7d (wrp .i64 (r42.1+2)) (r40.1.xs.length+r39.1.xs.length)).bind fun e43=>(if e43.2=0 then (if (h9l.length+1)<=4294967296 then (if h9l.length<(h9l.length+1) then (if (h10l.length+(min ((wrp .i64 (v15+1)).toNat - v15.toNat) (h2l.length - v15.toNat)))<=4294967296 then ((zmt q (⟨h1_7,(⟨h1_8,⟨h1_9z,h1_9l⟩,h1_10,h1_11⟩:zlg),⟨h1_12z,h1_12l⟩⟩:zli) ⟨h2z,(List.take ((wrp .i64 (v15+1)).toNat - v15.toNat) (List.drop v15.toNat h2l))⟩).bind fun r44=>(if 0<=v13 then ((v1l[v13.toNat]?).bind fun e45=>(if (Int.tmod e45.N 2)=0 then (if (wrp .i64 (r42.1+2))=0 then none else ((dS e43.1 (wrp .i64 (r42.1+2))).bind fun e46=>(if e46.2=0 then ((dD e46.1).bind fun e47=>(if e47.2=0 then (zn5 q v1z v1l v13 (wrp .i64 (v15+1)) h0_1 h0_2len h0_5 h0_6 h0_7 h0_8 h0_9z h0_9l h0_10 h0_11 h0_12z h0_12l h1_1 h1_2len h1_5 (wrp .i64 (h1_5+(((h10l.length+(min ((wrp .i64 (v15+1)).toNat - v15.toNat) (h2l.length - v15.toNat))):Nat):Int))) r44.1.Index r44.1.State.Kind r44.1.State.L.z r44.1.State.L.l r44.1.State.Sealed r44.1.State.To r44.1.Table.z r44.1.Table.l 0 true h2z h2l h3d h4l h5l h6z h6l e47.1 h8l (List.set (h9l++[(⟨(wrp .i64 (r42.1+2)),(wrp .i64 (h1_5+(h10l.length:Int))),0⟩:zlj)]) h9l.length (⟨(⟨(wrp .i64 (r42.1+2)),(wrp .i64 (h1_5+(h10l.length:Int))),0⟩:zlj).name,(⟨(wrp .i64 (r42.1+2)),(wrp .i64 (h1_5+(h10l.length:Int))),0⟩:zlj).first,(wrp .i64 ((⟨(wrp .i64 (r42.1+2)),(wrp .i64 (h1_5+(h10l.length:Int))),0⟩:zlj).many+((((wrp .i64 (v15+1)).toNat - v15.toNat):Nat):Int)))⟩:zlj)) (h10z && (decide ((min ((wrp .i64 (v15+1)).toNat - v15.toNat) (h2l.length - v15.toNat))=0))) (h10l++(List.take ((wrp .i64 (v15+1)).toNat - v15.toNat) (List.drop v15.toNat h2l)))) else none)) else none))) else (zn5 q v1z v1l v13 (wrp .i64 (v15+1)) h0_1 h0_2len h0_5 h0_6 h0_7 h0_8 h0_9z h0_9l h0_10 h0_11 h0_12z h0_12l h1_1 h1_2len h1_5 h1_6 r44.1.Index r44.1.State.Kind r44.1.State.L.z r44.1.State.L.l r44.1.State.Sealed r44.1.State.To r44.1.Table.z r44.1.Table.l (wrp .i64 (r42.1+2)) false h2z h2l h3d h4l h5l h6z h6l e43.1 h8l (List.set (h9l++[(⟨(wrp .i64 (r42.1+2)),(wrp .i64 (h1_5+(h10l.length:Int))),0⟩:zlj)]) h9l.length (⟨(⟨(wrp .i64 (r42.1+2)),(wrp .i64 (h1_5+(h10l.length:Int))),0⟩:zlj).name,(⟨(wrp .i64 (r42.1+2)),(wrp .i64 (h1_5+(h10l.length:Int))),0⟩:zlj).first,(wrp .i64 ((⟨(wrp .i64 (r42.1+2)),(wrp .i64 (h1_5+(h10l.length:Int))),0⟩:zlj).many+((((wrp .i64 (v15+1)).toNat - v15.toNat):Nat):Int)))⟩:zlj)) (h10z && (decide ((min ((wrp .i64 (v15+1)).toNat - v15.toNat) (h2l.length - v15.toNat))=0))) (h10l++(List.take ((wrp .i64 (v15+1)).toNat - v15.toNat) (List.drop v15.toNat h2l)))))) else none)) else none) else none) else none) else none)) else none) else none)))) else ((dA h7d h1_13 r39.1.xs.length).bind fun e48=>(if e48.2=0 then (if 0<=(wrp .i64 ((h9l.length:Int) - 1)) then (if (wrp .i64 ((h9l.length:Int) - 1)).toNat<h9l.length then ((h9l[(wrp .i64 ((h9l.length:Int) - 1)).toNat]?).bind fun e49=>(if (h10l.length+(min ((wrp .i64 (v15+1)).toNat - v15.toNat) (h2l.length - v15.toNat)))<=4294967296 then ((zmt q (⟨h1_7,(⟨h1_8,⟨h1_9z,h1_9l⟩,h1_10,h1_11⟩:zlg),⟨h1_12z,h1_12l⟩⟩:zli) ⟨h2z,(List.take ((wrp .i64 (v15+1)).toNat - v15.toNat) (List.drop v15.toNat h2l))⟩).bind fun r50=>(if 0<=v13 then ((v1l[v13.toNat]?).bind fun e51=>(if (Int.tmod e51.N 2)=0 then ((dS e48.1 h1_13).bind fun e52=>(if e52.2=0 then (if h1_14=true then none else ((dD e52.1).bind fun e53=>(if e53.2=0 then (zn5 q v1z v1l v13 (wrp .i64 (v15+1)) h0_1 h0_2len h0_5 h0_6 h0_7 h0_8 h0_9z h0_9l h0_10 h0_11 h0_12z h0_12l h1_1 h1_2len h1_5 (wrp .i64 (h1_5+(((h10l.length+(min ((wrp .i64 (v15+1)).toNat - v15.toNat) (h2l.length - v15.toNat))):Nat):Int))) r50.1.Index r50.1.State.Kind r50.1.State.L.z r50.1.State.L.l r50.1.State.Sealed r50.1.State.To r50.1.Table.z r50.1.Table.l 0 true h2z h2l h3d h4l h5l h6z h6l e53.1 h8l (List.set h9l ((wrp .i64 ((h9l.length:Int) - 1)).toNat) (⟨e49.name,e49.first,(wrp .i64 (e49.many+((((wrp .i64 (v15+1)).toNat - v15.toNat):Nat):Int)))⟩:zlj)) (h10z && (decide ((min ((wrp .i64 (v15+1)).toNat - v15.toNat) (h2l.length - v15.toNat))=0))) (h10l++(List.take ((wrp .i64 (v15+1)).toNat - v15.toNat) (List.drop v15.toNat h2l)))) else none))) else none)) else (zn5 q v1z v1l v13 (wrp .i64 (v15+1)) h0_1 h0_2len h0_5 h0_6 h0_7 h0_8 h0_9z h0_9l h0_10 h0_11 h0_12z h0_12l h1_1 h1_2len h1_5 h1_6 r50.1.Index r50.1.State.Kind r50.1.State.L.z r50.1.State.L.l r50.1.State.Sealed r50.1.State.To r50.1.Table.z r50.1.Table.l h1_13 h1_14 h2z h2l h3d h4l h5l h6z h6l e48.1 h8l (List.set h9l ((wrp .i64 ((h9l.length:Int) - 1)).toNat) (⟨e49.name,e49.first,(wrp .i64 (e49.many+((((wrp .i64 (v15+1)).toNat - v15.toNat):Nat):Int)))⟩:zlj)) (h10z && (decide ((min ((wrp .i64 (v15+1)).toNat - v15.toNat) (h2l.length - v15.toNat))=0))) (h10l++(List.take ((wrp .i64 (v15+1)).toNat - v15.toNat) (List.drop v15.toNat h2l)))))) else none)) else none)) else none) else none) else none)))) else none)) else none) else (some false)))) else none) else none) else none) else (zn6 q v1z v1l (wrp .i64 (v13+1)) h0_1 h0_2len h0_5 h0_6 h0_7 h0_8 h0_9z h0_9l h0_10 h0_11 h0_12z h0_12l h1_1 h1_2len h1_5 h1_6 h1_7 h1_8 h1_9z h1_9l h1_10 h1_11 h1_12z h1_12l h1_13 h1_14 h3d h4l h5l h6z h6l h7d h8l h9l h10z h10l))
def zn6:Nat->Bool->(List zlf)->Int->Int->Nat->Int->Int->Int->Int->Bool->(List Int)->Bool->Int->Bool->(List zlh)->Int->Nat->Int->Int->Int->Int->Bool->(List Int)->Bool->Int->Bool->(List zlh)->Int->Bool->Dk->(List zli)->(List zlj)->Bool->(List zle)->Dk->(List zli)->(List zlj)->Bool->(List zle)->Option (Bool)
 | 0,_,_,_,_,_,_,_,_,_,_,_,_,_,_,_,_,_,_,_,_,_,_,_,_,_,_,_,_,_,_,_,_,_,_,_,_,_,_,_=>none
 | q+1,v1z,v1l,v13,h0_1,h0_2len,h0_5,h0_6,h0_7,h0_8,h0_9z,h0_9l,h0_10,h0_11,h0_12z,h0_12l,h1_1,h1_2len,h1_5,h1_6,h1_7,h1_8,h1_9z,h1_9l,h1_10,h1_11,h1_12z,h1_12l,h1_13,h1_14,h2d,h3l,h4l,h5z,h5l,h6d,h7l,h8l,h9z,h9l=>(if v13<(v1l.length:Int) then (if 0<=v13 then ((v1l[v13.toNat]?).bind fun e68=>((zmv q (wrp .i64 (h0_5+(h5l.length:Int))) e68).bind fun r69=>((zm5 q ⟨r69.n,r69.xs⟩).bind fun r70=>(if r70.2=0 then (if 0<r69.xs.length then ((r69.xs[0]?).bind fun e71=>(if e71.Index=(wrp .i64 (h0_5+(h5l.length:Int))) then ((znl q ⟨r70.1.n,r70.1.xs⟩).bind fun r72=>((dA h2d 2 r72.1.xs.length).bind fun e73=>(if e73.2=0 then (if 0<=(wrp .i64 ((h4l.length:Int) - 1)) then (if (wrp .i64 ((h4l.length:Int) - 1)).toNat<h4l.length then ((h4l[(wrp .i64 ((h4l.length:Int) - 1)).toNat]?).bind fun e74=>(if (h5l.length+r69.xs.length)<=4294967296 then ((zmt q (⟨h0_7,(⟨h0_8,⟨h0_9z,h0_9l⟩,h0_10,h0_11⟩:zlg),⟨h0_12z,h0_12l⟩⟩:zli) ⟨r69.n,r69.xs⟩).bind fun r75=>(zn5 q v1z v1l v13 0 h0_1 h0_2len h0_5 h0_6 r75.1.Index r75.1.State.Kind r75.1.State.L.z r75.1.State.L.l r75.1.State.Sealed r75.1.State.To r75.1.Table.z r75.1.Table.l h1_1 h1_2len h1_5 h1_6 h1_7 h1_8 h1_9z h1_9l h1_10 h1_11 h1_12z h1_12l h1_13 h1_14 r69.n r69.xs e73.1 h3l (List.set h4l ((wrp .i64 ((h4l.length:Int) - 1)).toNat) (⟨e74.name,e74.first,(wrp .i64 (e74.many+(r69.xs.length:Int)))⟩:zlj)) (h5z && (decide (r69.xs.length=0))) (h5l++r69.xs) h6d h7l h8l h9z h9l)) else none)) else none) else none) else none))) else none)) else none) else (zn6 q v1z v1l (wrp .i64 (v13+1)) h0_1 h0_2len h0_5 h0_6 h0_7 h0_8 h0_9z h0_9l h0_10 h0_11 h0_12z h0_12l h1_1 h1_2len h1_5 h1_6 h1_7 h1_8 h1_9z h1_9l h1_10 h1_11 h1_12z h1_12l h1_13 h1_14 h2d h3l h4l h5z h5l h6d h7l h8l h9z h9l))))) else none) else (if (wrp .i64 (h0_5+(h5l.length:Int)))<0 then none else (if (wrp .i64 (h0_5+(h5l.length:Int)))<(wrp .i64 (h0_5+(h5l.length:Int))) then none else (if 0<h0_5 then none else (if 0<=(wrp .i64 (0 - h0_5)) then (if (wrp .i64 (0 - h0_5))<=(wrp .i64 ((wrp .i64 (h0_5+(h5l.length:Int))) - h0_5)) then (if (wrp .i64 ((wrp .i64 (h0_5+(h5l.length:Int))) - h0_5)).toNat<=h5l.length then (if h5z=true then none else ((znq q ⟨h5z,(List.take ((wrp .i64 ((wrp .i64 (h0_5+(h5l.length:Int))) - h0_5)).toNat - (wrp .i64 (0 - h0_5)).toNat) (List.drop ((wrp .i64 (0 - h0_5)).toNat) h5l))⟩).bind fun r76=>(if (wrp .i64 (h1_5+(h9l.length:Int)))<0 then none else (if (wrp .i64 (h1_5+(h9l.length:Int)))<(wrp .i64 (h1_5+(h9l.length:Int))) then none else (if 0<h1_5 then none else (if 0<=(wrp .i64 (0 - h1_5)) then (if (wrp .i64 (0 - h1_5))<=(wrp .i64 ((wrp .i64 (h1_5+(h9l.length:Int))) - h1_5)) then (if (wrp .i64 ((wrp .i64 (h1_5+(h9l.length:Int))) - h1_5)).toNat<=h9l.length then (if h9z=true then none else ((znq q ⟨h9z,(List.take ((wrp .i64 ((wrp .i64 (h1_5+(h9l.length:Int))) - h1_5)).toNat - (wrp .i64 (0 - h1_5)).toNat) (List.drop ((wrp .i64 (0 - h1_5)).toNat) h9l))⟩).bind fun r77=>((zns q ⟨r76.n,r76.xs⟩ ⟨r77.n,r77.xs⟩).bind fun r78=>(if r78=true then ((zlx q (⟨h0_7,(⟨h0_8,⟨h0_9z,h0_9l⟩,h0_10,h0_11⟩:zlg),⟨h0_12z,h0_12l⟩⟩:zli)).bind fun r79=>((zlx q (⟨h1_7,(⟨h1_8,⟨h1_9z,h1_9l⟩,h1_10,h1_11⟩:zlg),⟨h1_12z,h1_12l⟩⟩:zli)).bind fun r80=>((zny q r79 r80).bind fun r81=>(some r81)))) else (some false))))) else none) else none) else none)))))) else none) else none) else none)))))
end
mutual
def zn7:Nat->Bool->(List zlf)->Int->Int->Nat->Int->Int->Int->Int->Bool->(List Int)->Bool->Int->Bool->(List zlh)->Int->Nat->Int->Int->Int->Int->Bool->(List Int)->Bool->Int->Bool->(List zlh)->Bool->(List zle)->Dk->(List zli)->(List zlj)->Bool->(List zle)->Dk->(List zli)->Option (Bool)
 | 0,_,_,_,_,_,_,_,_,_,_,_,_,_,_,_,_,_,_,_,_,_,_,_,_,_,_,_,_,_,_,_,_,_,_,_,_=>none
 | q+1,v1z,v1l,v13,h0_1,h0_2len,h0_5,h0_6,h0_7,h0_8,h0_9z,h0_9l,h0_10,h0_11,h0_12z,h0_12l,h1_1,h1_2len,h1_5,h1_6,h1_7,h1_8,h1_9z,h1_9l,h1_10,h1_11,h1_12z,h1_12l,h2z,h2l,h3d,h4l,h5l,h6z,h6l,h7d,h8l=>(if 0<(h2l.length:Int) then (if 1<=h2l.length then (if h2z=true then none else ((zm5 q ⟨h2z,(List.take 1 h2l)⟩).bind fun r26=>(if r26.2=0 then ((h2l[0]?).bind fun e27=>(if e27.Index=(wrp .i64 (h1_5+0)) then ((znl q ⟨r26.1.n,r26.1.xs⟩).bind fun r28=>((zno q 3 h1_1 (wrp .i64 (h1_5+0))).bind fun r29=>((dF h7d 2).bind fun e30=>((znp q ⟨e30.1,e30.2⟩).bind fun r31=>(if r31.2=true then none else (if (r29.1.xs.length+r28.1.xs.length)<=4294967296 then ((dA h7d 2 (r29.1.xs.length+r28.1.xs.length)).bind fun e32=>(if e32.2=0 then (if (min 1 h2l.length)<=4294967296 then ((zmt q (⟨h1_7,(⟨h1_8,⟨h1_9z,h1_9l⟩,h1_10,h1_11⟩:zlg),⟨h1_12z,h1_12l⟩⟩:zli) ⟨h2z,(List.take 1 h2l)⟩).bind fun r33=>(if 0<=v13 then ((v1l[v13.toNat]?).bind fun e34=>(if (Int.tmod e34.N 2)=0 then ((dS e32.1 2).bind fun e35=>(if e35.2=0 then ((dD e35.1).bind fun e36=>(if e36.2=0 then (zn5 q v1z v1l v13 1 h0_1 h0_2len h0_5 h0_6 h0_7 h0_8 h0_9z h0_9l h0_10 h0_11 h0_12z h0_12l h1_1 h1_2len h1_5 (wrp .i64 (h1_5+(((min 1 h2l.length):Nat):Int))) r33.1.Index r33.1.State.Kind r33.1.State.L.z r33.1.State.L.l r33.1.State.Sealed r33.1.State.To r33.1.Table.z r33.1.Table.l 0 true h2z h2l h3d h4l h5l h6z h6l e36.1 h8l (List.set [(⟨2,(wrp .i64 (h1_5+0)),0⟩:zlj)] 0 (⟨(⟨2,(wrp .i64 (h1_5+0)),0⟩:zlj).name,(⟨2,(wrp .i64 (h1_5+0)),0⟩:zlj).first,(wrp .i64 ((⟨2,(wrp .i64 (h1_5+0)),0⟩:zlj).many+1))⟩:zlj)) (decide ((min 1 h2l.length)=0)) (List.take 1 h2l)) else none)) else none)) else (zn5 q v1z v1l v13 1 h0_1 h0_2len h0_5 h0_6 h0_7 h0_8 h0_9z h0_9l h0_10 h0_11 h0_12z h0_12l h1_1 h1_2len h1_5 h1_6 r33.1.Index r33.1.State.Kind r33.1.State.L.z r33.1.State.L.l r33.1.State.Sealed r33.1.State.To r33.1.Table.z r33.1.Table.l 2 false h2z h2l h3d h4l h5l h6z h6l e32.1 h8l (List.set [(⟨2,(wrp .i64 (h1_5+0)),0⟩:zlj)] 0 (⟨(⟨2,(wrp .i64 (h1_5+0)),0⟩:zlj).name,(⟨2,(wrp .i64 (h1_5+0)),0⟩:zlj).first,(wrp .i64 ((⟨2,(wrp .i64 (h1_5+0)),0⟩:zlj).many+1))⟩:zlj)) (decide ((min 1 h2l.length)=0)) (List.take 1 h2l)))) else none)) else none) else none)) else none)))))) else none)) else (some false)))) else none) else (zn8 q v1z v1l (wrp .i64 (v13+1)) h0_1 h0_2len h0_5 h0_6 h0_7 h0_8 h0_9z h0_9l h0_10 h0_11 h0_12z h0_12l h1_1 h1_2len h1_5 h1_6 h1_7 h1_8 h1_9z h1_9l h1_10 h1_11 h1_12z h1_12l h3d h4l h5l h6z h6l h7d h8l))
def zn8:Nat->Bool->(List zlf)->Int->Int->Nat->Int->Int->Int->Int->Bool->(List Int)->Bool->Int->Bool->(List zlh)->Int->Nat->Int->Int->Int->Int->Bool->(List Int)->Bool->Int->Bool->(List zlh)->Dk->(List zli)->(List zlj)->Bool->(List zle)->Dk->(List zli)->Option (Bool)
 | 0,_,_,_,_,_,_,_,_,_,_,_,_,_,_,_,_,_,_,_,_,_,_,_,_,_,_,_,_,_,_,_,_,_,_=>none
 | q+1,v1z,v1l,v13,h0_1,h0_2len,h0_5,h0_6,h0_7,h0_8,h0_9z,h0_9l,h0_10,h0_11,h0_12z,h0_12l,h1_1,h1_2len,h1_5,h1_6,h1_7,h1_8,h1_9z,h1_9l,h1_10,h1_11,h1_12z,h1_12l,h2d,h3l,h4l,h5z,h5l,h6d,h7l=>(if v13<(v1l.length:Int) then (if 0<=v13 then ((v1l[v13.toNat]?).bind fun e54=>((zmv q (wrp .i64 (h0_5+(h5l.length:Int))) e54).bind fun r55=>((zm5 q ⟨r55.n,r55.xs⟩).bind fun r56=>(if r56.2=0 then (if 0<r55.xs.length then ((r55.xs[0]?).bind fun e57=>(if e57.Index=(wrp .i64 (h0_5+(h5l.length:Int))) then ((znl q ⟨r56.1.n,r56.1.xs⟩).bind fun r58=>((dA h2d 2 r58.1.xs.length).bind fun e59=>(if e59.2=0 then (if 0<=(wrp .i64 ((h4l.length:Int) - 1)) then (if (wrp .i64 ((h4l.length:Int) - 1)).toNat<h4l.length then ((h4l[(wrp .i64 ((h4l.length:Int) - 1)).toNat]?).bind fun e60=>(if (h5l.length+r55.xs.length)<=4294967296 then ((zmt q (⟨h0_7,(⟨h0_8,⟨h0_9z,h0_9l⟩,h0_10,h0_11⟩:zlg),⟨h0_12z,h0_12l⟩⟩:zli) ⟨r55.n,r55.xs⟩).bind fun r61=>(zn7 q v1z v1l v13 h0_1 h0_2len h0_5 h0_6 r61.1.Index r61.1.State.Kind r61.1.State.L.z r61.1.State.L.l r61.1.State.Sealed r61.1.State.To r61.1.Table.z r61.1.Table.l h1_1 h1_2len h1_5 h1_6 h1_7 h1_8 h1_9z h1_9l h1_10 h1_11 h1_12z h1_12l r55.n r55.xs e59.1 h3l (List.set h4l ((wrp .i64 ((h4l.length:Int) - 1)).toNat) (⟨e60.name,e60.first,(wrp .i64 (e60.many+(r55.xs.length:Int)))⟩:zlj)) (h5z && (decide (r55.xs.length=0))) (h5l++r55.xs) h6d h7l)) else none)) else none) else none) else none))) else none)) else none) else (zn8 q v1z v1l (wrp .i64 (v13+1)) h0_1 h0_2len h0_5 h0_6 h0_7 h0_8 h0_9z h0_9l h0_10 h0_11 h0_12z h0_12l h1_1 h1_2len h1_5 h1_6 h1_7 h1_8 h1_9z h1_9l h1_10 h1_11 h1_12z h1_12l h2d h3l h4l h5z h5l h6d h7l))))) else none) else (if (wrp .i64 (h0_5+(h5l.length:Int)))<0 then none else (if (wrp .i64 (h0_5+(h5l.length:Int)))<(wrp .i64 (h0_5+(h5l.length:Int))) then none else (if 0<h0_5 then none else (if 0<=(wrp .i64 (0 - h0_5)) then (if (wrp .i64 (0 - h0_5))<=(wrp .i64 ((wrp .i64 (h0_5+(h5l.length:Int))) - h0_5)) then (if (wrp .i64 ((wrp .i64 (h0_5+(h5l.length:Int))) - h0_5)).toNat<=h5l.length then (if h5z=true then none else ((znq q ⟨h5z,(List.take ((wrp .i64 ((wrp .i64 (h0_5+(h5l.length:Int))) - h0_5)).toNat - (wrp .i64 (0 - h0_5)).toNat) (List.drop ((wrp .i64 (0 - h0_5)).toNat) h5l))⟩).bind fun r62=>(if (wrp .i64 (h1_5+0))<0 then none else (if (wrp .i64 (h1_5+0))<(wrp .i64 (h1_5+0)) then none else (if 0<h1_5 then none else (if 0<=(wrp .i64 (0 - h1_5)) then (if (wrp .i64 (0 - h1_5))<=(wrp .i64 ((wrp .i64 (h1_5+0)) - h1_5)) then (if (wrp .i64 ((wrp .i64 (h1_5+0)) - h1_5)).toNat<=0 then ((znq q ⟨true,[]⟩).bind fun r63=>((zns q ⟨r62.n,r62.xs⟩ ⟨r63.n,r63.xs⟩).bind fun r64=>(if r64=true then ((zlx q (⟨h0_7,(⟨h0_8,⟨h0_9z,h0_9l⟩,h0_10,h0_11⟩:zlg),⟨h0_12z,h0_12l⟩⟩:zli)).bind fun r65=>((zlx q (⟨h1_7,(⟨h1_8,⟨h1_9z,h1_9l⟩,h1_10,h1_11⟩:zlg),⟨h1_12z,h1_12l⟩⟩:zli)).bind fun r66=>((zny q r65 r66).bind fun r67=>(some r67)))) else (some false)))) else none) else none) else none)))))) else none) else none) else none)))))
end
def zn9:Nat->Bool->(List zlf)->Int->Int->Nat->Int->Int->Int->Int->Bool->(List Int)->Bool->Int->Bool->(List zlh)->Int->Nat->Int->Int->Int->Int->Bool->(List Int)->Bool->Int->Bool->(List zlh)->Dk->(List zli)->Dk->(List zli)->Option (Bool)
 | 0,_,_,_,_,_,_,_,_,_,_,_,_,_,_,_,_,_,_,_,_,_,_,_,_,_,_,_,_,_,_,_=>none
 | q+1,v1z,v1l,v13,h0_1,h0_2len,h0_5,h0_6,h0_7,h0_8,h0_9z,h0_9l,h0_10,h0_11,h0_12z,h0_12l,h1_1,h1_2len,h1_5,h1_6,h1_7,h1_8,h1_9z,h1_9l,h1_10,h1_11,h1_12z,h1_12l,h2d,h3l,h4d,h5l=>(if v13<(v1l.length:Int) then (if 0<=v13 then ((v1l[v13.toNat]?).bind fun e11=>((zmv q (wrp .i64 (h0_5+0)) e11).bind fun r12=>((zm5 q ⟨r12.n,r12.xs⟩).bind fun r13=>(if r13.2=0 then (if 0<r12.xs.length then ((r12.xs[0]?).bind fun e14=>(if e14.Index=(wrp .i64 (h0_5+0)) then ((znl q ⟨r13.1.n,r13.1.xs⟩).bind fun r15=>((zno q 3 h0_1 (wrp .i64 (h0_5+0))).bind fun r16=>((dF h2d 2).bind fun e17=>((znp q ⟨e17.1,e17.2⟩).bind fun r18=>(if r18.2=true then none else (if (r16.1.xs.length+r15.1.xs.length)<=4294967296 then ((dA h2d 2 (r16.1.xs.length+r15.1.xs.length)).bind fun e19=>(if e19.2=0 then (if r12.xs.length<=4294967296 then ((zmt q (⟨h0_7,(⟨h0_8,⟨h0_9z,h0_9l⟩,h0_10,h0_11⟩:zlg),⟨h0_12z,h0_12l⟩⟩:zli) ⟨r12.n,r12.xs⟩).bind fun r20=>(zn7 q v1z v1l v13 h0_1 h0_2len h0_5 h0_6 r20.1.Index r20.1.State.Kind r20.1.State.L.z r20.1.State.L.l r20.1.State.Sealed r20.1.State.To r20.1.Table.z r20.1.Table.l h1_1 h1_2len h1_5 h1_6 h1_7 h1_8 h1_9z h1_9l h1_10 h1_11 h1_12z h1_12l r12.n r12.xs e19.1 h3l (List.set [(⟨2,(wrp .i64 (h0_5+0)),0⟩:zlj)] 0 (⟨(⟨2,(wrp .i64 (h0_5+0)),0⟩:zlj).name,(⟨2,(wrp .i64 (h0_5+0)),0⟩:zlj).first,(wrp .i64 ((⟨2,(wrp .i64 (h0_5+0)),0⟩:zlj).many+(r12.xs.length:Int)))⟩:zlj)) (decide (r12.xs.length=0)) r12.xs h4d h5l)) else none) else none)) else none)))))) else none)) else none) else (zn9 q v1z v1l (wrp .i64 (v13+1)) h0_1 h0_2len h0_5 h0_6 h0_7 h0_8 h0_9z h0_9l h0_10 h0_11 h0_12z h0_12l h1_1 h1_2len h1_5 h1_6 h1_7 h1_8 h1_9z h1_9l h1_10 h1_11 h1_12z h1_12l h2d h3l h4d h5l))))) else none) else (if (wrp .i64 (h0_5+0))<0 then none else (if (wrp .i64 (h0_5+0))<(wrp .i64 (h0_5+0)) then none else (if 0<h0_5 then none else (if 0<=(wrp .i64 (0 - h0_5)) then (if (wrp .i64 (0 - h0_5))<=(wrp .i64 ((wrp .i64 (h0_5+0)) - h0_5)) then (if (wrp .i64 ((wrp .i64 (h0_5+0)) - h0_5)).toNat<=0 then ((znq q ⟨true,[]⟩).bind fun r21=>(if (wrp .i64 (h1_5+0))<0 then none else (if (wrp .i64 (h1_5+0))<(wrp .i64 (h1_5+0)) then none else (if 0<h1_5 then none else (if 0<=(wrp .i64 (0 - h1_5)) then (if (wrp .i64 (0 - h1_5))<=(wrp .i64 ((wrp .i64 (h1_5+0)) - h1_5)) then (if (wrp .i64 ((wrp .i64 (h1_5+0)) - h1_5)).toNat<=0 then ((zns q ⟨r21.n,r21.xs⟩ ⟨r21.n,r21.xs⟩).bind fun r22=>(if r22=true then ((zlx q (⟨h0_7,(⟨h0_8,⟨h0_9z,h0_9l⟩,h0_10,h0_11⟩:zlg),⟨h0_12z,h0_12l⟩⟩:zli)).bind fun r23=>((zlx q (⟨h1_7,(⟨h1_8,⟨h1_9z,h1_9l⟩,h1_10,h1_11⟩:zlg),⟨h1_12z,h1_12l⟩⟩:zli)).bind fun r24=>((zny q r23 r24).bind fun r25=>(some r25)))) else (some false))) else none) else none) else none))))) else none) else none) else none)))))
def zoa:Nat->Int->(Sl zlf)->Option (Bool)
 | 0,_,_=>none
 | q+1,a0,a1=>((zlq q).bind fun r1=>((zls q a1).bind fun r2=>(if r1=true then (if r2=true then (if a0<0 then (some true) else (if 6<=a0 then (some true) else (if (dNew 1000000).out=true then (some false) else ((zn1 q (dNew 1000000) (dNew 1000000) a0).bind fun r3=>((zlu q ⟨false,r3.2.2⟩).bind fun r4=>((zlx q r4.1).bind fun r5=>(if r5.Index<r3.2.1 then none else (if (wrp .i64 (r3.2.1+0))<r5.Index then none else (if 0<=(wrp .i64 (r5.Index - r3.2.1)) then (if (wrp .i64 (r5.Index - r3.2.1))<=0 then ((zmt q r5 ⟨true,[]⟩).bind fun r6=>(if r6.2=0 then ((zn4 q (dNew 1000000) (dNew 1000000) a0 r3.1 r3.2.1 (wrp .i64 (r3.2.1+0)) r6.1.Index r6.1.State.Kind r6.1.State.L.z r6.1.State.L.l r6.1.State.Sealed r6.1.State.To r6.1.Table.z r6.1.Table.l r3.2.2 a0).bind fun r7=>((zlu q ⟨false,r7.2.2⟩).bind fun r8=>((zlx q r8.1).bind fun r9=>(if r9.Index<r7.2.1 then none else (if (wrp .i64 (r7.2.1+0))<r9.Index then none else (if 0<=(wrp .i64 (r9.Index - r7.2.1)) then (if (wrp .i64 (r9.Index - r7.2.1))<=0 then ((zmt q r9 ⟨true,[]⟩).bind fun r10=>(if r10.2=0 then (zn9 q a1.z a1.l 0 a0 r3.1 r3.2.1 (wrp .i64 (r3.2.1+0)) r6.1.Index r6.1.State.Kind r6.1.State.L.z r6.1.State.L.l r6.1.State.Sealed r6.1.State.To r6.1.Table.z r6.1.Table.l a0 r7.1 r7.2.1 (wrp .i64 (r7.2.1+0)) r10.1.Index r10.1.State.Kind r10.1.State.L.z r10.1.State.L.l r10.1.State.Sealed r10.1.State.To r10.1.Table.z r10.1.Table.l (dNew 1000000) r3.2.2 (dNew 1000000) r7.2.2) else none)) else none) else none)))))) else none)) else none) else none))))))))) else (some true)) else (some false))))
end Go.Dvm.I
