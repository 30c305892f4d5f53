/- Plain laws of the functions: part 1. -/
import Derived.Test.YtnppecdklidmmaaGreatQi
set_option linter.all false
set_option maxRecDepth 100000
namespace Go.Dvm.I
open Go Go.Dvm
/-- With enough rounds. -/
def Ev {R:Type} (g:Nat->Option R) (r:R):Prop:= ∃N,∀q,N<=q->g q=some r
section
variable {R S:Type}
theorem Ev.ret (r:R):Ev (fun _=>some r) r:=⟨0,fun _ _=>rfl⟩
theorem Ev.ret' {r r':R} (h:r=r'):Ev (fun _=>some r) r':=⟨0,fun _ _=>by rw [h]⟩
theorem Ev.succ {f g:Nat->Option R} {r:R} (h:Ev g r) (e: ∀q,f (q+1)=g q):Ev f r:=by
 obtain ⟨N,h⟩:=h
 refine ⟨N+1,fun q hq=>?_⟩
 obtain ⟨q,rfl⟩: ∃p,q=p+1:=⟨q - 1,by omega⟩
 rw [e];exact h q (by omega)
theorem Ev.su {f:Nat->Option R} {r:R} (h:Ev (fun q=>f (q+1)) r):Ev f r:=Ev.succ h fun _=>rfl
theorem Ev.bind {g:Nat->Option S} {k:Nat->S->Option R} {s:S} {r:R} (h:Ev g s) (h2:Ev (fun q=>k q s) r):Ev (fun q=>(g q).bind (k q)) r:=by
 obtain ⟨N,h⟩:=h
 obtain ⟨M,h2⟩:=h2
 exact ⟨N+M,fun q hq=>by show (g q).bind (k q)=some r;rw [h q (by omega),y5];exact h2 q (by omega)⟩
theorem Ev.opt {o:Option S} {k:Nat->S->Option R} {s:S} {r:R} (h:o=some s) (h2:Ev (fun q=>k q s) r):Ev (fun q=>o.bind (k q)) r:=by
 subst h;exact h2
theorem Ev.pos {c:Prop} [Decidable c] {a b:Nat->Option R} {r:R} (hc:c) (h:Ev a r):Ev (fun q=>if c then a q else b q) r:=by
 obtain ⟨N,h⟩:=h
 exact ⟨N,fun q hq=>by show (if c then a q else b q)=some r;rw [if_pos hc];exact h q hq⟩
theorem Ev.neg {c:Prop} [Decidable c] {a b:Nat->Option R} {r:R} (hc: ¬c) (h:Ev b r):Ev (fun q=>if c then a q else b q) r:=by
 obtain ⟨N,h⟩:=h
 exact ⟨N,fun q hq=>by show (if c then a q else b q)=some r;rw [if_neg hc];exact h q hq⟩
theorem Ev.po {c:Prop} [Decidable c] {a b:Nat->Option R} {r:R} (h:Ev a r) (hc:c:=by omega):Ev (fun q=>if c then a q else b q) r:=Ev.pos hc h
theorem Ev.ne {c:Prop} [Decidable c] {a b:Nat->Option R} {r:R} (h:Ev b r) (hc: ¬c:=by omega):Ev (fun q=>if c then a q else b q) r:=Ev.neg hc h
theorem Ev.ite {c:Prop} [Decidable c] {a b:Nat->Option R} {r:R} (h1:c->Ev a r) (h2: ¬c->Ev b r):Ev (fun q=>if c then a q else b q) r:=by
 by_cases hc:c
 ·exact .pos hc (h1 hc)
 ·exact .neg hc (h2 hc)
theorem Ev.get {f:Nat->Option R} {r:R} (h:Ev f r): ∃q,f q=some r:=by
 obtain ⟨N,h⟩:=h;exact ⟨N,h N (y14 _)⟩
theorem Ev.cast {f:Nat->Option R} {r r':R} (h:Ev f r) (e:r=r'):Ev f r':=e▸h
end
theorem zbsa {x:Int} (h1: -9223372036854775808<=x) (h2:x<=9223372036854775807):wrp .i64 x=x:=by
 unfold wrp;simp [IntKind.wrap,IntKind.min,IntKind.max,IntKind.signed,IntKind.bits]<;>omega
theorem zbsb {x:Int} (h1:0<=x) (h2:x<=18446744073709551615):wrp .u64 x=x:=by
 unfold wrp;simp [IntKind.wrap,IntKind.min,IntKind.max,IntKind.signed,IntKind.bits]<;>omega
theorem zbsc {x:Int} (h1:0<=x) (h2:x<=4294967295):wrp .u32 x=x:=by
 unfold wrp;simp [IntKind.wrap,IntKind.min,IntKind.max,IntKind.signed,IntKind.bits]<;>omega
theorem wrp_u8 (x:Int):wrp .u8 x=x % 256:=by
 unfold wrp;simp [IntKind.wrap,IntKind.min,IntKind.max,IntKind.signed,IntKind.bits]<;>omega
theorem zbsd {x:Int} (h1:0<=x):ishr .u64 x 7=x / 128:=by
 unfold ishr;simp [IntKind.bits]
 rw [y54];omega
theorem or128 {x:Int} (h1:0<=x) (h2:x<256):ibits .or .u8 x 128=x % 128+128:=by
 obtain ⟨n,rfl⟩:=Int.eq_ofNat_of_zero_le h1
 have hn:n<256:=by omega
 have: ∀m:Fin 256,ibits .or .u8 (m.val:Int) 128=(m.val:Int) % 128+128:=by unfold ibits;decide+kernel
 exact this ⟨n,hn⟩
/-- A number's groups. -/
def grp (n:Nat):List Int:=if h:n<128 then [(n:Int)] else ((n % 128+128:Nat):Int)::grp (n / 128)
theorem grp_lt {n:Nat} (h:n<128):grp n=[(n:Int)]:=by rw [grp,dif_pos h]
theorem grp_ge {n:Nat} (h: ¬n<128):grp n=((n % 128+128:Nat):Int)::grp (n / 128):=by rw [grp,dif_neg h]
theorem zbse: ∀(k:Nat) {n:Nat},n<128 ^ (k+1)->(grp n).length<=k+1
 | 0,n,h=>by rw [grp_lt (by simpa using h)];simp
 | k+1,n,h=>by
  by_cases hn:n<128
  ·rw [grp_lt hn];simp
  ·rw [grp_ge hn]
   have:=zbse k (n:=n / 128) (by rw [Nat.div_lt_iff_lt_mul (by omega)];rw [Nat.pow_succ] at h;exact h)
   simp;omega
theorem zbsf {n:Nat} (h:n<18446744073709551616):(grp n).length<=10:=zbse 9 (by omega)
theorem zbsg (n:Nat):1<=(grp n).length:=by
 by_cases hn:n<128
 ·rw [grp_lt hn];simp
 ·rw [grp_ge hn];simp
theorem zbsh: ∀(n:Nat) (z:Bool) (l:List Int) (x:Bool),l.length+(grp n).length<=4294967296->Ev (fun q=>zl6 q (n:Int) z l x) ⟨false,x,l++grp n⟩:=by
 intro n
 induction n using Nat.strongRecOn with
 | ind n ih=>
  intro z l x hl
  refine Ev.su ?_
  by_cases hn:n<128
  ·rw [grp_lt hn] at hl ⊢
   refine Ev.ne (Ev.pos (by simpa using hl) (Ev.ret' ?_))
   rw [wrp_u8];congr 3;omega
  ·rw [grp_ge hn] at hl ⊢
   simp only [y21] at hl
   refine Ev.po (Ev.pos (by omega) ?_)
   rw [zbsd (by omega),wrp_u8,or128 (by omega) (by omega)]
   have:=ih (n / 128) (by omega) false (l++[((n % 128+128:Nat):Int)]) x (by simp;omega)
   rw [show ((n:Int) % 256 % 128+128)=((n % 128+128:Nat):Int) by omega,show ((n:Int) / 128)=((n / 128:Nat):Int) by omega]
   simpa using this
theorem zbsi {u:Int} (h1:0<=u) (b:Ow Int) (hl:b.xs.length+(grp u.toNat).length<=4294967296):Ev (fun q=>zl7 q b u) ⟨false,b.x,b.xs++grp u.toNat⟩:=by
 have:=zbsh u.toNat b.n b.xs b.x hl
 rw [Int.toNat_of_nonneg h1] at this
 exact Ev.su this
/-- What a number puts behind bytes. -/
def put (n:Int):List Int:=if n<0 then [] else if 4611686018427387904<=n then [] else grp n.toNat
theorem put_ok {n:Int} (h1:0<=n) (h2:n<4611686018427387904):put n=grp n.toNat:=by
 unfold put;rw [if_neg (by omega),if_neg (by omega)]
theorem zbsj (n:Int):(put n).length<=10:=by
 unfold put;split
 ·simp
 ·split
  ·simp
  ·exact zbsf (by omega)
theorem zbsk {n:Int} (b:Ow Int) (h1:0<=n) (h2:n<4611686018427387904) (hl:b.xs.length+10<=4294967296):Ev (fun q=>zl8 q b n) ⟨false,b.x,b.xs++put n⟩:=by
 refine Ev.su ?_
 rw [put_ok h1 h2]
 have hg:=zbsf (n:=n.toNat) (by omega)
 refine Ev.ne (Ev.neg (by omega) ?_)
 rw [zbsb h1 (by omega)]
 exact Ev.bind (zbsi h1 b (by omega)) (Ev.ret _)
/-- Zigzag. -/
def zig (n:Int):Nat:=if 0<=n then 2*n.toNat else 2*(-n).toNat - 1
theorem zig_lt {n:Int} (h:inR .i64 n):zig n<18446744073709551616:=by
 simp [inR,IntKind.min,IntKind.max,IntKind.signed,IntKind.bits] at h
 unfold zig;split<;>omega
def putS (n:Int):List Int:=grp (zig n)
theorem zbsl (k:IntKind) (n:Int):k.wrap n=wrp k n:=by unfold wrp;rfl
theorem xor0 {x:Int} (h1:0<=x) (h2:x<18446744073709551616):ibits .xor .u64 x 0=x:=by
 have e:ibits .xor .u64 x 0=IntKind.wrap .u64 (((BitVec.ofInt 64 x ^^^ 0#64:BitVec 64).toNat:Nat):Int):=by unfold ibits;rfl
 rw [e,BitVec.xor_zero,y49,zbsl,zbsb]<;>omega
theorem xor1 {x:Int} (h1:0<=x) (h2:x<18446744073709551616):ibits .xor .u64 x 18446744073709551615=18446744073709551615 - x:=by
 have e:ibits .xor .u64 x 18446744073709551615=IntKind.wrap .u64 (((BitVec.ofInt 64 x ^^^ BitVec.allOnes 64:BitVec 64).toNat:Nat):Int):=by unfold ibits;rfl
 rw [e,BitVec.xor_allOnes,BitVec.toNat_not,y49,zbsl,zbsb]<;>omega
theorem ishl1 {x:Int} (h1:0<=x):ishl .u64 x 1=(2*x) % 18446744073709551616:=by
 unfold ishl
 simp [IntKind.wrap,IntKind.signed,IntKind.bits]
 omega
theorem zbsm (x:Int):wrp .u64 x=x % 18446744073709551616:=by
 unfold wrp;simp [IntKind.wrap,IntKind.signed,IntKind.bits]
theorem ishr63 {x:Int} (h:inR .i64 x):ishr .i64 x 63=if 0<=x then 0 else -1:=by
 simp [inR,IntKind.min,IntKind.max,IntKind.signed,IntKind.bits] at h
 unfold ishr;simp [IntKind.bits]
 rw [y54 _ (by omega)]
 split<;>omega
theorem zbsn {n:Int} (h:inR .i64 n):Ev (fun q=>zl9 q n) ((zig n:Nat):Int):=by
 refine Ev.su (Ev.ret' ?_)
 have hr:=h
 simp [inR,IntKind.min,IntKind.max,IntKind.signed,IntKind.bits] at hr
 rw [ishr63 h]
 by_cases h0:0<=n
 ·rw [if_pos h0,zbsb h0 (by omega),ishl1 h0,zbsb (by omega) (by omega),xor0 (by omega) (by omega)]
  unfold zig;rw [if_pos h0];omega
 ·rw [if_neg h0,zbsm n,ishl1 (by omega),show wrp .u64 (-1)=18446744073709551615 by rw [zbsm];rfl,xor1 (by omega) (by omega)]
  unfold zig;rw [if_neg h0];omega
theorem zbso {n:Int} (b:Ow Int) (h:inR .i64 n) (hl:b.xs.length+10<=4294967296):Ev (fun q=>zma q b n) ⟨false,b.x,b.xs++putS n⟩:=by
 refine Ev.su ?_
 have hg:=zbsf (zig_lt h)
 have:=zbsi (u:=(zig n:Nat)) (by omega) b (by simpa using (by omega:b.xs.length+(grp (zig n)).length<=4294967296))
 rw [y28] at this
 exact Ev.bind (zbsn h) (Ev.bind this (Ev.ret _))
theorem inR64 {x:Int} (h:inR .i64 x): -9223372036854775808<=x/\x<=9223372036854775807:=by
 simp [inR,IntKind.min,IntKind.max,IntKind.signed,IntKind.bits] at h;omega
def cutI (n:Int):Int:=if n< -1099511627776 then -1099511627776 else if 1099511627776<n then 1099511627776 else n
theorem zbsp (n:Int):Ev (fun q=>zk4 q n) (cutI n):=by
 refine Ev.su (Ev.ret' ?_)
 unfold cutI;split<;>split<;>split<;>(try split)<;>omega
theorem zbsq (n:Int):Ev (fun q=>zky q n) (cutI n):=by
 refine Ev.su ?_
 unfold cutI
 refine Ev.ite (fun h=>?_) fun h=>Ev.ite (fun h1=>?_) fun h1=>?_
 ·rw [if_pos h];exact Ev.ret _
 ·rw [if_neg h,if_pos h1];exact Ev.ret _
 ·rw [if_neg h,if_neg h1];exact Ev.ret _
def fitsOp (o:zkp):Bool:=decide (0<=o.Code) && (decide (o.Code<=10) && (decide (o.A=cutI o.A) && decide (o.B=cutI o.B)))
theorem zbsr (o:zkp):Ev (fun q=>zk5 q o) (fitsOp o):=by
 refine Ev.su ?_
 unfold fitsOp
 refine Ev.ite (fun h=>Ev.ite (fun h1=>Ev.bind (zbsp _) (Ev.ite (fun h2=>Ev.bind (zbsp _) (Ev.ret' ?_)) fun h2=>Ev.ret' ?_)) fun h1=>Ev.ret' ?_) fun h=>Ev.ret' ?_
 ·rw [decide_eq_true h,decide_eq_true h1,decide_eq_true h2];rfl
 ·rw [decide_eq_true h,decide_eq_true h1,decide_eq_false h2];rfl
 ·rw [decide_eq_true h,decide_eq_false h1];rfl
 ·rw [decide_eq_false h];rfl
theorem zbss (o:zkp):Ev (fun q=>zpa q o) (fitsOp o):=by
 refine Ev.su ?_
 unfold fitsOp
 refine Ev.ite (fun h=>Ev.ite (fun h1=>Ev.bind (zbsq _) (Ev.ite (fun h2=>Ev.bind (zbsq _) (Ev.ret' ?_)) fun h2=>Ev.ret' ?_)) fun h1=>Ev.ret' ?_) fun h=>Ev.ret' ?_
 ·rw [decide_eq_true h,decide_eq_true h1,decide_eq_true h2];rfl
 ·rw [decide_eq_true h,decide_eq_true h1,decide_eq_false h2];rfl
 ·rw [decide_eq_true h,decide_eq_false h1];rfl
 ·rw [decide_eq_false h];rfl
theorem zbst {n:Int}:n=cutI n<-> -1099511627776<=n/\n<=1099511627776:=by
 unfold cutI
 by_cases h1:n< -1099511627776
 ·rw [if_pos h1];omega
 ·rw [if_neg h1]
  by_cases h2:1099511627776<n
  ·rw [if_pos h2];omega
  ·rw [if_neg h2];omega
theorem zbsu {o:zkp}:fitsOp o=true<->0<=o.Code/\o.Code<=10/\(-1099511627776<=o.A/\o.A<=1099511627776)/\(-1099511627776<=o.B/\o.B<=1099511627776):=by
 simp only [fitsOp,y6,decide_eq_true_eq,zbst]
def FitsR (r:zkq):Prop:=0<=r.Index/\r.Index<4611686018427387904/\0<=r.Proc/\r.Proc<=64/\0<=r.Seq/\r.Seq<4611686018427387904/\fitsOp r.Op=true/\ -1125899906842624<=r.Resp/\r.Resp<=1125899906842624
instance (r:zkq):Decidable (FitsR r):=by unfold FitsR;infer_instance
theorem zbsv (r:zkq):Ev (fun q=>zk6 q r) (decide (FitsR r)):=by
 refine Ev.su ?_
 refine Ev.ite (fun h1=>Ev.ite (fun h2=>Ev.ite (fun h3=>Ev.ite (fun h4=>Ev.ite (fun h5=>Ev.ite (fun h6=>Ev.bind (zbsr _) (Ev.ite (fun h7=>Ev.ite (fun h8=>Ev.ret' ?_) fun h8=>Ev.ret' ?_) fun h7=>Ev.ret' ?_)) fun h6=>Ev.ret' ?_) fun h5=>Ev.ret' ?_) fun h4=>Ev.ret' ?_) fun h3=>Ev.ret' ?_) fun h2=>Ev.ret' ?_) fun h1=>Ev.ret' ?_<;>simp only [FitsR, *]<;>simp
theorem zbsw (r:zkq):Ev (fun q=>zpd q r) (decide (FitsR r)):=by
 refine Ev.su ?_
 refine Ev.bind (zbss _) (Ev.ite (fun h1=>Ev.ite (fun h2=>Ev.ite (fun h3=>Ev.ite (fun h4=>Ev.ite (fun h5=>Ev.ite (fun h6=>Ev.ite (fun h7=>Ev.ite (fun h8=>Ev.ret' ?_) fun h8=>Ev.ret' ?_) fun h7=>Ev.ret' ?_) fun h6=>Ev.ret' ?_) fun h5=>Ev.ret' ?_) fun h4=>Ev.ret' ?_) fun h3=>Ev.ret' ?_) fun h2=>Ev.ret' ?_) fun h1=>Ev.ret' ?_)<;>simp only [FitsR, *]<;>simp
def opB (o:zkp):List Int:=put o.Code++(putS o.A++putS o.B)
theorem zbsx {n:Int} (h:inR .i64 n):(putS n).length<=10:=zbsf (zig_lt h)
theorem zbsy {n:Int} (h1: -9223372036854775808<=n) (h2:n<=9223372036854775807):inR .i64 n:=by
 simp [inR,IntKind.min,IntKind.max,IntKind.signed,IntKind.bits];omega
theorem zbsz {o:zkp} (h:fitsOp o=true):(opB o).length<=30:=by
 obtain ⟨h1,h2,h3,h4⟩:=zbsu.1 h
 have:=zbsj o.Code
 have:=zbsx (n:=o.A) (zbsy (by omega) (by omega))
 have:=zbsx (n:=o.B) (zbsy (by omega) (by omega))
 simp only [opB,y10];omega
theorem zbs0 {o:zkp} (b:Ow Int) (h:fitsOp o=true) (hl:b.xs.length+30<=4294967296):Ev (fun q=>zng q b o) (⟨false,b.x,b.xs++opB o⟩,0):=by
 obtain ⟨h1,h2,h3,h4⟩:=zbsu.1 h
 refine Ev.su ?_
 have:=zbsj o.Code
 have hA:inR .i64 o.A:=zbsy (by omega) (by omega)
 have hB:inR .i64 o.B:=zbsy (by omega) (by omega)
 have:=zbsx hA
 have:=zbsx hB
 refine Ev.bind (zbsr o) (Ev.pos h (Ev.bind (zbsk b h1 (by omega) (by omega)) (Ev.bind (zbso _ hA (by simp;omega)) (Ev.bind (zbso _ hB (by simp;omega)) (Ev.ret' ?_)))))
 simp [opB]
def fieldsOf (v:Int):List Int:=if v=1 then [1,2,4] else if v=2 then [1,2,3,4] else [1,2,3,4,5]
theorem zbs1 {v:Int} (h:v<1\/3<v):Ev (fun q=>zno q v) ⟨true,true,[]⟩:=by
 refine Ev.su (Ev.ite (fun h=>Ev.ret _) fun h1=>Ev.po (Ev.ret _))
theorem zbs2 {v:Int} (h1:1<=v) (h2:v<=3):Ev (fun q=>zno q v) ⟨false,true,fieldsOf v⟩:=by
 refine Ev.su (Ev.ne (Ev.ne (Ev.po (Ev.po (Ev.neg (by omega) ?_)))))
 unfold fieldsOf
 refine Ev.ite (fun h=>?_) fun h=>Ev.ite (fun h1=>?_) fun h1=>Ev.pos (by omega) ?_
 ·rw [if_pos (by omega)];exact Ev.ret _
 ·rw [if_neg (by omega),if_pos (by omega)];exact Ev.ret _
 ·rw [if_neg (by omega),if_neg (by omega)];exact Ev.ret _
theorem zbs3 {v:Int}:(∀f∈fieldsOf v,1<=f/\f<=5)/\(fieldsOf v).length<=5:=by
 unfold fieldsOf;split
 ·simp
 ·split<;>simp
/-- The first place of a number. -/
def idxI (x:Int):List Int->Nat->Int
 | [],_=> -1
 | a::l,i=>if x=a then (i:Int) else idxI x l (i+1)
theorem zbs4 {x:Int}: ∀{l:List Int} {i:Nat},0<=idxI x l i<->x∈l
 | [],i=>by simp [idxI]
 | a::l,i=>by
  simp only [idxI,List.mem_cons]
  by_cases h:x=a
  ·simp [h]
  ·rw [if_neg h,zbs4];simp [h]
theorem zbs5 (z:Bool) (L:List Int) (x:Int) (hL:L.length<=1000000): ∀(k i:Nat),L.length=i+k->Ev (fun q=>znp q z L x (L.length:Int) (i:Int)) (idxI x (L.drop i) i)
 | 0,i,hk=>by
  refine Ev.su (Ev.ne (Ev.ret' ?_))
  rw [y12 (by omega)];rfl
 | k+1,i,hk=>by
  have hi:i<L.length:=by omega
  have hg:L[(i:Int).toNat]? =some L[i]:=by simpa using y7 hi
  refine Ev.su (Ev.po (Ev.po (Ev.opt hg ?_)))
  rw [y9 hi]
  simp only [idxI]
  refine Ev.ite (fun h=>?_) fun h=>?_
  ·rw [if_pos h];exact Ev.ret _
  ·rw [if_neg h,zbsa (by omega) (by omega),show ((i:Int)+1)=((i+1:Nat):Int) by omega]
   exact zbs5 z L x hL k (i+1) (by omega)
theorem zbs6 (s:Sl Int) (x:Int) (hL:s.l.length<=1000000):Ev (fun q=>znq q s x) (idxI x s.l 0):=by
 have:=zbs5 s.z s.l x hL s.l.length 0 (by simp)
 rw [y38] at this
 exact Ev.su this
def noR:zkq:=⟨0,0,0,⟨0,0,0⟩,0⟩
theorem zbs7: ∀(n:Nat) (z:Bool) (l:List Int),n<18446744073709551616->l.length+(grp n).length<=4294967296->Ev (fun q=>zpp q (n:Int) z l) ⟨false,true,l++grp n⟩:=by
 intro n
 induction n using Nat.strongRecOn with
 | ind n ih=>
  intro z l hb hl
  refine Ev.su ?_
  by_cases hn:n<128
  ·rw [grp_lt hn] at hl ⊢
   refine Ev.ne (Ev.pos (by simpa using hl) (Ev.ret' ?_))
   rw [wrp_u8];congr 3;omega
  ·rw [grp_ge hn] at hl ⊢
   simp only [y21] at hl
   refine Ev.po (Ev.pos (by omega) ?_)
   have e1:Int.tdiv (n:Int) 128=((n / 128:Nat):Int):=by rw [Int.tdiv_eq_ediv_of_nonneg (by omega)];omega
   have e2:Int.tmod (n:Int) 128=((n % 128:Nat):Int):=by rw [y61 (by omega)];omega
   rw [e1,e2,zbsb (by omega) (by omega),zbsb (by omega) (by omega),wrp_u8]
   have:=ih (n / 128) (by omega) false (l++[((n % 128+128:Nat):Int)]) (by omega) (by simp;omega)
   rw [show (((n % 128:Nat):Int)+128) % 256=((n % 128+128:Nat):Int) by omega]
   simpa using this
theorem zbs8 {u:Int} (h1:0<=u) (h2:u<18446744073709551616):Ev (fun q=>zpq q u) ⟨false,true,grp u.toNat⟩:=by
 have hg:=zbsf (n:=u.toNat) (by omega)
 have:=zbs7 u.toNat true [] (by omega) (by simp;omega)
 rw [Int.toNat_of_nonneg h1] at this
 exact Ev.su this
theorem grp_ne (n:Nat):decide ((grp n).length=0)=false:=by have:=zbsg n;simp;intro h;rw [h] at this;simp at this
theorem zbs9 {n:Int} (s:Sl Int) (h1:0<=n) (h2:n<4611686018427387904) (hl:s.l.length+10<=4294967296):Ev (fun q=>zpr q s n) ⟨false,true,s.l++put n⟩:=by
 have hg:=zbsf (n:=n.toNat) (by omega)
 refine Ev.su (Ev.po (Ev.ne (Ev.neg (by omega) ?_)))
 rw [zbsb h1 (by omega),put_ok h1 h2]
 refine Ev.bind (zbs8 h1 (by omega)) (Ev.pos (by simp only;omega) (Ev.ret' ?_))
 simp only [grp_ne,Bool.and_false]
theorem zbta {n:Int} (h:inR .i64 n):Ev (fun q=>zps q n) ((zig n:Nat):Int):=by
 have hr:=inR64 h
 refine Ev.su (Ev.ite (fun h0=>Ev.ret' ?_) fun h0=>Ev.ret' ?_)
 ·rw [zbsb h0 (by omega),zbsb (by omega) (by omega)]
  unfold zig;rw [if_pos h0];omega
 ·rw [zbsa (x:=n+1) (by omega) (by omega),zbsa (by omega) (by omega),zbsb (x:=0 - (n+1)) (by omega) (by omega),zbsb (x:=(0 - (n+1))*2) (by omega) (by omega),zbsb (by omega) (by omega)]
  unfold zig;rw [if_neg h0];omega
theorem zbtb {n:Int} (s:Sl Int) (h:inR .i64 n) (hl:s.l.length+10<=4294967296):Ev (fun q=>zpt q s n) ⟨false,true,s.l++putS n⟩:=by
 have hz:=zig_lt h
 have hg:=zbsf hz
 refine Ev.su (Ev.po (Ev.bind (zbta h) (Ev.bind (zbs8 (by omega) (by omega)) (Ev.pos ?_ (Ev.ret' ?_)))))
 ·simp only [y28];omega
 ·simp only [grp_ne,Bool.and_false,y28];rfl
theorem zbtc {o:zkp} (s:Sl Int) (h:fitsOp o=true) (hl:s.l.length+30<=4294967296):Ev (fun q=>zpu q s o) (⟨false,true,s.l++opB o⟩,0):=by
 obtain ⟨h1,h2,h3,h4⟩:=zbsu.1 h
 have:=zbsj o.Code
 have hA:inR .i64 o.A:=zbsy (by omega) (by omega)
 have hB:inR .i64 o.B:=zbsy (by omega) (by omega)
 have:=zbsx hA
 have:=zbsx hB
 have e0:=zbs9 (n:=o.Code) ⟨decide (s.l.length=0),s.l⟩ h1 (by omega) (by simp only;omega)
 have e1:=zbtb ⟨false,s.l++put o.Code⟩ hA (by simp;omega)
 have e2:=zbtb ⟨false,s.l++put o.Code++putS o.A⟩ hB (by simp;omega)
 refine Ev.su (Ev.po (Ev.bind (zbss o) (Ev.pos h ?_)))
 refine Ev.bind e0 ?_
 refine Ev.bind e1 ?_
 refine Ev.bind e2 ?_
 refine Ev.ret' ?_
 simp [opB]
def hasB (v f:Int):Bool:=decide (f=1) || (decide (f=2) || (decide (f=4) || ((decide (f=3) && decide (2<=v)) || (decide (f=5) && decide (v=3)))))
theorem zbtd (v f:Int):Ev (fun q=>zo7 q v f) (hasB v f):=by
 refine Ev.su (Ev.ite (fun h=>Ev.ret' ?_) fun h=>Ev.ite (fun h1=>Ev.ret' ?_) fun h1=>Ev.ite (fun h2=>Ev.ret' ?_) fun h2=>Ev.ite (fun h3=>Ev.ite (fun h4=>Ev.ret' ?_) fun h4=>Ev.ite (fun h5=>Ev.ret' ?_) fun h5=>Ev.ret' ?_) fun h3=>Ev.ite (fun h5=>Ev.ret' ?_) fun h5=>Ev.ret' ?_)<;>first | (simp [hasB, *];done) | (simp [hasB, *];omega)
abbrev B32:=BitVec 32
def u (a:B32):Int:=(a.toNat:Int)
theorem u_nn (a:B32):0<=u a:=Int.natCast_nonneg _
theorem u_lt (a:B32):u a<4294967296:=by unfold u;have:=a.isLt;omega
theorem zbte (a:B32):BitVec.ofInt 32 (u a)=a:=by
 apply BitVec.eq_of_toNat_eq;rw [y49];unfold u;have:=a.isLt;omega
theorem wrp_u (a:B32):IntKind.wrap .u32 ((a.toNat:Nat):Int)=u a:=by
 have:=a.isLt
 rw [zbsl,zbsc (by omega) (by omega)];rfl
theorem xor_u (a b:B32):ibits .xor .u32 (u a) (u b)=u (a ^^^ b):=by
 have e:ibits .xor .u32 (u a) (u b)=IntKind.wrap .u32 (((BitVec.ofInt 32 (u a) ^^^ BitVec.ofInt 32 (u b):B32).toNat:Nat):Int):=by unfold ibits;rfl
 rw [e,zbte,zbte,wrp_u]
theorem and_u (a b:B32):ibits .and .u32 (u a) (u b)=u (a &&& b):=by
 have e:ibits .and .u32 (u a) (u b)=IntKind.wrap .u32 (((BitVec.ofInt 32 (u a) &&& BitVec.ofInt 32 (u b):B32).toNat:Nat):Int):=by unfold ibits;rfl
 rw [e,zbte,zbte,wrp_u]
theorem u_lit (n:Nat) (h:n<4294967296):u (BitVec.ofNat 32 n)=(n:Int):=by
 unfold u;rw [BitVec.toNat_ofNat];omega
theorem zbtf (x:Int):wrp .u32 x=x % 4294967296:=by
 unfold wrp;simp [IntKind.wrap,IntKind.signed,IntKind.bits]
theorem ishr_u (a:B32) (k:Nat) (hk:k<=32):ishr .u32 (u a) (k:Int)=u (a>>>k):=by
 unfold ishr u
 simp only [IntKind.bits,y28,Nat.min_eq_left hk]
 rw [y54 _ (by exact_mod_cast Nat.zero_le _),BitVec.toNat_ushiftRight,Nat.shiftRight_eq_div_pow]
 simp
theorem zbtg (a:B32):ishr .u32 (u a) 1=u (a>>>1):=ishr_u a 1 (by omega)
theorem zbth (a:B32):ishr .u32 (u a) 8=u (a>>>8):=ishr_u a 8 (by omega)
def poly:B32:=2197175160#32
def bstep (a:B32):B32:=if a &&& 1#32=1#32 then (a>>>1) ^^^ poly else a>>>1
theorem and1 (a:B32):a &&& 1#32=0#32\/a &&& 1#32=1#32:=by
 have:(a &&& 1#32).toNat=a.toNat % 2:=by rw [BitVec.toNat_and];exact Nat.and_one_is_mod _
 rcases Nat.mod_two_eq_zero_or_one a.toNat with h | h
 ·left;exact BitVec.eq_of_toNat_eq (by rw [this,h];rfl)
 ·right;exact BitVec.eq_of_toNat_eq (by rw [this,h];rfl)
theorem zbti (a:B32):a &&& 1#32=1#32<->u a % 2=1:=by
 have h:(a &&& 1#32).toNat=a.toNat % 2:=by rw [BitVec.toNat_and];exact Nat.and_one_is_mod _
 unfold u
 constructor
 ·intro e;rw [e] at h;simp at h;omega
 ·intro e;exact BitVec.eq_of_toNat_eq (by rw [h];simp;omega)
/-- The program's step. -/
theorem zbtj (a:B32):ibits .xor .u32 (ishr .u32 (u a) 1) (ibits .and .u32 2197175160 (wrp .u32 (0 - (ibits .and .u32 (u a) 1))))=u (bstep a):=by
 have e1:(1:Int)=u 1#32:=rfl
 have e2:(2197175160:Int)=u poly:=by unfold poly;rw [u_lit _ (by omega)];rfl
 rw [zbtg]
 conv=>lhs;arg 4;rw [e2];arg 4;rw [e1,and_u]
 unfold bstep
 rcases and1 a with h | h
 ·rw [h,if_neg (by decide)]
  have:wrp .u32 (0 - u 0#32)=u 0#32:=by rw [zbtf];rfl
  rw [this,and_u,BitVec.and_zero,xor_u,BitVec.xor_zero]
 ·rw [h,if_pos rfl]
  have:wrp .u32 (0 - u 1#32)=u (BitVec.allOnes 32):=by rw [zbtf];rfl
  rw [this,and_u,BitVec.and_allOnes,xor_u]
def biter:Nat->B32->B32
 | 0,a=>a
 | n+1,a=>biter n (bstep a)
def bentry (a:B32):B32:=biter 8 a
theorem zbtk (v2 v5:Int) (t0 t1:List Int) (r:List Int): ∀(k:Nat) (a:B32) (v10:Int),v10=8 - k->k<=8->0<=v2->v2.toNat<256->v2.toNat+1<=t1.length->
  Ev (fun q=>zmb q (wrp .i64 (v5+1)) t0 (List.set t1 v2.toNat (u (biter k a)))) r->Ev (fun q=>zmc q v2 (u a) v5 v10 t0 t1) r
 | 0,a,v10,h1,h2,h3,h4,h5,h=>Ev.su (Ev.ne (Ev.pos h3 (Ev.pos h4 (Ev.pos h5 h))))
 | k+1,a,v10,h1,h2,h3,h4,h5,h=>by
  refine Ev.su (Ev.pos (by omega) ?_)
  rw [zbtj,zbsa (by omega) (by omega)]
  exact zbtk v2 v5 t0 t1 r k (bstep a) (v10+1) (by omega) (by omega) h3 h4 h5 h
/-- The table. -/
def tabN (n:Nat):List Int:=(List.range n).map fun i=>u (bentry (BitVec.ofNat 32 i))
theorem zbtl {n i:Nat} (h:i<n):(tabN n)[i]? =some (u (bentry (BitVec.ofNat 32 i))):=by
 unfold tabN;rw [y42,List.getElem?_range h];rfl
theorem zbtm (n:Nat):(tabN n).length=n:=by simp [tabN]
theorem zbtn: ∀(k i:Nat) (t1:List Int),i+k=256->t1.length=256->(∀j,j<i->t1[j]? =(tabN 256)[j]?)->Ev (fun q=>zmb q (i:Int) (List.replicate 256 0) t1) (tabN 256)
 | 0,i,t1,hk,hl,ht=>by
  refine Ev.su (Ev.ne (Ev.po (Ev.po (Ev.pos (by simp) (Ev.pos (by simp) (Ev.ret' ?_))))))
  have e:t1=tabN 256:=by
   apply List.ext_getElem?
   intro j
   by_cases hj:j<256
   ·exact ht j (by omega)
   ·rw [y51 (by omega),y51 (by rw [zbtm];omega)]
  have h2:=zbtm 256
  rw [e,List.take_of_length_le (i:=256) (by omega:(tabN 256).length<=256),y12 (by simp),List.append_nil,List.take_of_length_le (by omega)]
 | k+1,i,t1,hk,hl,ht=>by
  refine Ev.su (Ev.pos (by omega) ?_)
  have e:wrp .u32 (i:Int)=u (BitVec.ofNat 32 i):=by rw [u_lit _ (by omega),zbsc]<;>omega
  rw [e]
  refine zbtk _ _ _ _ _ 8 _ 0 (by omega) (by omega) (by omega) (by omega) (by omega) ?_
  rw [zbsa (by omega) (by omega),show ((i:Int)+1)=((i+1:Nat):Int) by omega,y28]
  refine zbtn k (i+1) _ (by omega) (by simpa using hl) fun j hj=>?_
  by_cases e:i=j
  ·subst e;rw [y23 (by omega),zbtl (by omega)];rfl
  ·rw [y29 e];exact ht j (by omega)
theorem zbto:Ev (fun q=>zmd q) (tabN 256):=
 Ev.su (zbtn 256 0 (List.replicate 256 0) (by omega) (by simp) (fun j hj=>by omega))
/-- What a byte makes of a sum. -/
def bbyte (x:B32) (c:Int):B32:=bentry ((x ^^^ BitVec.ofInt 32 c) &&& 255#32) ^^^ (x>>>8)
def bmore (x:B32) (l:List Int):B32:=l.foldl bbyte x
def isB (l:List Int):Prop:= ∀c∈l,0<=c/\c<256
theorem xor8 {x:B32} {c:Int} (h1:0<=c) (h2:c<256):ibits .xor .u8 (wrp .u8 (u x)) c=u ((x ^^^ BitVec.ofInt 32 c) &&& 255#32):=by
 have e:ibits .xor .u8 (wrp .u8 (u x)) c=IntKind.wrap .u8 (((BitVec.ofInt 8 (wrp .u8 (u x)) ^^^ BitVec.ofInt 8 c:BitVec 8).toNat:Nat):Int):=by unfold ibits;rfl
 rw [e,zbsl,wrp_u8,wrp_u8]
 unfold u
 rw [BitVec.toNat_and,BitVec.toNat_xor,BitVec.toNat_xor,y49,y49,y49]
 obtain ⟨n,rfl⟩:=Int.eq_ofNat_of_zero_le h1
 have hn:n<256:=by omega
 have e1:(((x.toNat:Int) % 256 % ((2 ^ 8:Nat):Int)).toNat)=x.toNat % 256:=by omega
 have e2:(((n:Int) % ((2 ^ 8:Nat):Int)).toNat)=n:=by omega
 have e3:(((n:Int) % ((2 ^ 32:Nat):Int)).toNat)=n:=by omega
 rw [e1,e2,e3,show (255#32).toNat=2 ^ 8 - 1 from rfl,Nat.and_two_pow_sub_one_eq_mod]
 have h3:(x.toNat ^^^ n) % 2 ^ 8=(x.toNat % 2 ^ 8) ^^^ (n % 2 ^ 8):=Nat.xor_mod_two_pow
 rw [h3,Nat.mod_eq_of_lt (show n<2 ^ 8 by omega)]
 have h4:(x.toNat % 2 ^ 8) ^^^ n<2 ^ 8:=Nat.xor_lt_two_pow (Nat.mod_lt _ (by omega)) (by omega)
 simp only [Nat.reducePow] at h4 ⊢
 omega
theorem and255 (x:B32):u (x &&& 255#32)<256:=by
 unfold u
 rw [BitVec.toNat_and,show (255#32).toNat=2 ^ 8 - 1 from rfl,Nat.and_two_pow_sub_one_eq_mod];omega
theorem zbtp (a:B32):(u a).toNat=a.toNat:=by unfold u;omega
theorem ones:(4294967295:Int)=u (BitVec.allOnes 32):=rfl
theorem zbtq (z:Bool) (l:List Int) (hb:isB l) (hl:l.length<=1099511627776): ∀(k i:Nat) (x:B32),l.length=i+k->Ev (fun q=>zme q (u x) z l (l.length:Int) (i:Int) (tabN 256)) (u (~~~ bmore x (l.drop i)))
 | 0,i,x,hk=>by
  refine Ev.su (Ev.ne (Ev.ret' ?_))
  rw [y12 (by omega),ones,xor_u]
  simp only [bmore,List.foldl_nil,BitVec.allOnes_xor]
 | k+1,i,x,hk=>by
  have hi:i<l.length:=by omega
  have hg:l[(i:Int).toNat]? =some l[i]:=by simpa using y7 hi
  obtain ⟨b1,b2⟩:=hb l[i] (y26 hi)
  refine Ev.su (Ev.po (Ev.po (Ev.opt hg ?_)))
  rw [xor8 b1 b2]
  have h255:=and255 (x ^^^ BitVec.ofInt 32 l[i])
  have hnn:=u_nn ((x ^^^ BitVec.ofInt 32 l[i]) &&& 255#32)
  refine Ev.pos hnn (Ev.po (Ev.opt (zbtl (by omega)) ?_))
  rw [zbth,xor_u,zbsa (by omega) (by omega),show ((i:Int)+1)=((i+1:Nat):Int) by omega,zbtp]
  have:=zbtq z l hb hl k (i+1) (bentry ((x ^^^ BitVec.ofInt 32 l[i]) &&& 255#32) ^^^ (x>>>8)) (by omega)
  rw [y9 hi]
  simp only [bmore,List.foldl_cons,bbyte,BitVec.ofNat_toNat,BitVec.setWidth_eq] at this ⊢
  exact this
theorem zbtr (x:B32) (s:Sl Int) (hb:isB s.l) (hl:s.l.length<=1099511627776):Ev (fun q=>zmf q (u x) s) (u (~~~ bmore (~~~ x) s.l)):=by
 refine Ev.su (Ev.bind zbto (Ev.pos (zbtm 256) ?_))
 rw [ones,xor_u,BitVec.allOnes_xor]
 have:=zbtq s.z s.l hb hl s.l.length 0 (~~~ x) (by omega)
 rw [y38] at this
 exact this
/-- The sum of bytes. -/
def bsum (l:List Int):B32:= ~~~ bmore (BitVec.allOnes 32) l
theorem zbts (s:Sl Int) (hb:isB s.l) (hl:s.l.length<=1099511627776):Ev (fun q=>zmg q s) (u (bsum s.l)):=by
 have:=zbtr 0#32 s hb hl
 exact Ev.su (Ev.bind this (Ev.ret' (by simp [bsum])))
theorem zbtt (x:B32) (a b:List Int):bmore (bmore x a) b=bmore x (a++b):=by simp [bmore]
theorem zbtu {x:Int} (h:0<=x) (k:Nat) (hk:k<=64):ishr .u64 x (k:Int)=x / ((2 ^ k:Nat):Int):=by
 unfold ishr
 simp only [IntKind.bits,y28,Nat.min_eq_left hk]
 rw [y54 _ (by exact_mod_cast Nat.zero_le _)]
 simp
/-- A number in four bytes. -/
def fix4 (v:Nat):List Int:=[((v % 256:Nat):Int),((v / 256 % 256:Nat):Int),((v / 65536 % 256:Nat):Int),((v / 16777216 % 256:Nat):Int)]
theorem zbtv (v k:Nat) (hk:k<=8):wrp .u8 (ishr .u64 (v:Int) (wrp .i64 (8*(k:Int))))=((v / 2 ^ (8*k) % 256:Nat):Int):=by
 rw [zbsa (by omega) (by omega),show (8*(k:Int))=((8*k:Nat):Int) by omega,zbtu (by omega) _ (by omega),wrp_u8]
 exact_mod_cast rfl
def bytesFrom (v:Nat):Nat->Nat->List Int
 | _,0=>[]
 | i,k+1=>((v / 2 ^ (8*i) % 256:Nat):Int)::bytesFrom v (i+1) k
theorem zbtw {v m:Nat} (hm:m<=8): ∀(k i:Nat) (l:List Int),m=i+k->l.length+k<=4294967296->Ev (fun q=>zmh q (v:Int) (m:Int) (i:Int) false l) ⟨false,true,l++bytesFrom v i k⟩
 | 0,i,l,hk,hl=>Ev.su (Ev.ne (Ev.ret' (by simp [bytesFrom])))
 | k+1,i,l,hk,hl=>by
  have w:wrp .i64 (8*(i:Int))=8*(i:Int):=zbsa (by omega) (by omega)
  refine Ev.su (Ev.po (Ev.neg (by rw [w];omega) (Ev.pos (by omega) ?_)))
  rw [zbtv v i (by omega),zbsa (x:=(i:Int)+1) (by omega) (by omega),show ((i:Int)+1)=((i+1:Nat):Int) by omega]
  refine (zbtw hm k (i+1) _ (by omega) (by simp;omega)).cast ?_
  simp [bytesFrom]
theorem zbtx {v m:Nat} (h0:0<m) (hm:m<=8):Ev (fun q=>zmi q (v:Int) (m:Int)) ⟨false,true,bytesFrom v 0 m⟩:=by
 obtain ⟨k,rfl⟩: ∃k,m=k+1:=⟨m - 1,by omega⟩
 have w:wrp .i64 (8*((0:Nat):Int))=0:=zbsa (by omega) (by omega)
 have key: ∀i:Int,i=((0:Nat):Int)->Ev (fun q=>zmh q (v:Int) ((k+1:Nat):Int) i true []) ⟨false,true,bytesFrom v 0 (k+1)⟩:=by
  intro i hi
  refine Ev.su (Ev.po (Ev.neg (by rw [hi,w];omega) (Ev.pos (by simp) ?_)))
  rw [hi,zbtv v 0 (by omega),zbsa (x:=((0:Nat):Int)+1) (by omega) (by omega),show (((0:Nat):Int)+1)=((0+1:Nat):Int) by omega]
  refine (zbtw hm k 1 _ (by omega) (by simp;omega)).cast ?_
  simp [bytesFrom]
 exact Ev.su (key 0 rfl)
theorem bytes4 (v:Nat):bytesFrom v 0 4=fix4 v:=by simp [bytesFrom,fix4]
theorem zbty {v:Nat} (h:v<18446744073709551616):Ev (fun q=>zmi q (v:Int) 4) ⟨false,true,fix4 v⟩:=by
 have:=zbtx (v:=v) (m:=4) (by omega) (by omega)
 rw [bytes4] at this;exact this
theorem zbtz (a:B32):Ev (fun q=>zmj q (u a)) ⟨false,true,fix4 a.toNat⟩:=by
 have h1:=u_nn a;have h2:=u_lt a
 have e:wrp .u64 (u a)=((a.toNat:Nat):Int):=by rw [zbsb h1 (by omega)];rfl
 exact Ev.su (Ev.bind (by rw [e];exact zbty (by have:=a.isLt;omega)) (Ev.ret _))
theorem zbt0 (a b:Sl Int) (ha:isB a.l) (hb:isB b.l) (la:a.l.length<=1099511627776) (lb:b.l.length<=1099511627776):Ev (fun q=>zmk q a b) ⟨false,true,fix4 (bsum (a.l++b.l)).toNat⟩:=by
 have h2:=zbtr (bsum a.l) b hb lb
 have e: ~~~ bmore (~~~ bsum a.l) b.l=bsum (a.l++b.l):=by
  unfold bsum;rw [BitVec.not_not,zbtt]
 rw [e] at h2
 exact Ev.su (Ev.bind (zbts a ha la) (Ev.bind h2 (Ev.bind (zbtz _) (Ev.ret _))))
def flat (l:List (Sl Int)):List Int:=l.flatMap (·.l)
theorem zbt1 (a:Sl Int) (b:List (Sl Int)):flat (a::b)=a.l++flat b:=by simp [flat]
theorem zbt2 (z0:Bool) (L:List (Sl Int)) (z:Bool) (hL:L.length<=1099511627776): ∀(k i:Nat) (m:Nat) (l:List Int),L.length=i+k->m+(flat (L.drop i)).length<=l.length->
  Ev (fun q=>zml q m z0 L (L.length:Int) (i:Int) z l) ⟨z,true,l.take m++flat (L.drop i)⟩
 | 0,i,m,l,hk,hl=>by
  refine Ev.su (Ev.ne (Ev.ret' ?_))
  rw [y12 (by omega)];simp [flat]
 | k+1,i,m,l,hk,hl=>by
  have hi:i<L.length:=by omega
  have hg:L[(i:Int).toNat]? =some L[i]:=by simpa using y7 hi
  rw [y9 hi,zbt1,y10] at hl
  refine Ev.su (Ev.po (Ev.po (Ev.opt hg (Ev.pos (by omega) ?_))))
  rw [zbsa (by omega) (by omega),show ((i:Int)+1)=((i+1:Nat):Int) by omega]
  refine (zbt2 z0 L z hL k (i+1) (m+L[i].l.length) _ (by omega) ?_).cast ?_
  ·simp only [y10,y20,y13];omega
  ·congr 1
   rw [y9 hi,zbt1,<- y33]
   congr 1
   rw [List.take_append_of_le_length (by simp only [y10,y20];omega),List.take_of_length_le (by simp only [y10,y20];omega)]
theorem zbt3 (z0:Bool) (L:List (Sl Int)) (hL:L.length<=1099511627776): ∀(k i:Nat) (z:Bool) (l:List Int),L.length=i+k->l.length+(flat (L.drop i)).length<=4294967296->
  ∃z',Ev (fun q=>zmm q z0 L (L.length:Int) (i:Int) z l) ⟨z',true,l++flat (L.drop i)⟩
 | 0,i,z,l,hk,hl=>⟨z,by
  refine Ev.su (Ev.ne (Ev.ret' ?_))
  rw [y12 (by omega)];simp [flat]⟩
 | k+1,i,z,l,hk,hl=>by
  have hi:i<L.length:=by omega
  have hg:L[(i:Int).toNat]? =some L[i]:=by simpa using y7 hi
  rw [y9 hi,zbt1,y10] at hl
  obtain ⟨z',h⟩:=zbt3 z0 L hL k (i+1) (z && (decide (L[i].l.length=0))) (l++L[i].l) (by omega) (by simp only [y10];omega)
  refine ⟨z',Ev.su (Ev.po (Ev.po (Ev.opt hg (Ev.pos (by omega) ?_))))⟩
  rw [zbsa (by omega) (by omega),show ((i:Int)+1)=((i+1:Nat):Int) by omega]
  refine h.cast ?_
  rw [y9 hi,zbt1];simp
theorem zbt4 (z0 z9:Bool) (L:List (Sl Int)) (hL:L.length<=1099511627776) (hf:(flat L).length<=4294967296): ∀(k i:Nat) (m:Nat),L.length=i+k->m+(flat (L.drop i)).length=(flat L).length->
  ∃z',Ev (fun q=>zmo q z0 L (m:Int) z9 L (L.length:Int) (i:Int)) ⟨z',true,flat L⟩
 | 0,i,m,hk,hm=>by
  rw [y12 (by omega)] at hm
  have hm2:m=(flat L).length:=by simpa [flat] using hm
  have w:wrp .i64 ((m:Int) - wrp .i64 0)=(m:Int):=by rw [zbsa (x:=0) (by omega) (by omega),zbsa (by omega) (by omega)];omega
  by_cases h0:0<m
  ·refine ⟨decide (wrp .i64 ((m:Int) - wrp .i64 0)=0),Ev.su (Ev.ne (Ev.ne (Ev.pos (by rw [w];omega) (Ev.pos (by rw [w];omega) (Ev.pos (by rw [w];omega) (Ev.neg (by rw [w];omega) ?_))))))⟩
   rw [w]
   have:=zbt2 z0 L (decide ((m:Int)=0)) hL L.length 0 0 (List.replicate (m:Int).toNat 0) (by omega) (by simp;omega)
   rw [y38] at this
   exact this
  ·have hnil:flat L=[]:=y35 (by omega)
   match L,hk with
   | [],_=>
    refine ⟨true,Ev.su (Ev.neg (by simp) (Ev.neg (by omega) ?_))⟩
    rw [w]
    refine Ev.neg (by omega) ?_
    exact Ev.succ (g:=fun _=>some ⟨true,true,[]⟩) (Ev.ret' (by simp [flat])) (fun q=>rfl)
   | a::L',hk=>
    rw [zbt1] at hnil
    obtain ⟨z',h⟩:=zbt3 z0 (a::L') hL L'.length 1 (decide (a.l.length=0)) a.l (by simp;omega) (by
     have:flat (List.drop 1 (a::L'))=flat L':=rfl
     rw [this,<- y10,hnil];simp)
    refine ⟨z',Ev.su (Ev.ne (Ev.neg (by omega) ?_))⟩
    rw [w]
    refine Ev.ne (Ev.su (Ev.pos (by simp) (Ev.opt (s:=a) rfl (Ev.pos ?_ ?_))))
    ·have:a.l.length<=(a.l++flat L').length:=by simp
     rw [hnil] at this;simp at this;simp [this]
    ·rw [zbsa (by omega) (by omega)]
     refine h.cast ?_
     rw [zbt1];rfl
 | k+1,i,m,hk,hm=>by
  have hi:i<L.length:=by omega
  have hg:L[(i:Int).toNat]? =some L[i]:=by simpa using y7 hi
  rw [y9 hi,zbt1,y10] at hm
  obtain ⟨z',h⟩:=zbt4 z0 z9 L hL hf k (i+1) (m+L[i].l.length) (by omega) (by omega)
  refine ⟨z',Ev.su (Ev.po (Ev.po (Ev.opt hg ?_)))⟩
  have w:wrp .i64 ((m:Int)+(L[i].l.length:Int))=((m+L[i].l.length:Nat):Int):=by rw [zbsa (by omega) (by omega)];omega
  rw [w,zbsa (by omega) (by omega),show ((i:Int)+1)=((i+1:Nat):Int) by omega]
  exact Ev.neg (by omega) h
theorem zbt5 (s:Sl (Sl Int)) (hL:s.l.length<=1099511627776) (hf:(flat s.l).length<=4294967296): ∃z',Ev (fun q=>zmp q s) ⟨z',true,flat s.l⟩:=by
 obtain ⟨z',h⟩:=zbt4 s.z s.z s.l hL hf s.l.length 0 0 (by omega) (by simp)
 exact ⟨z',Ev.su h⟩
theorem zbt6: ∀n,isB (grp n):=by
 intro n
 induction n using Nat.strongRecOn with
 | ind n ih=>
  by_cases h:n<128
  ·rw [grp_lt h];intro c hc;simp at hc;omega
  ·rw [grp_ge h];intro c hc
   rcases List.mem_cons.1 hc with rfl | hc
   ·omega
   ·exact ih (n / 128) (by omega) c hc
theorem zbt7 (n:Int):isB (put n):=by
 unfold put;split
 ·intro c hc;simp at hc
 ·split
  ·intro c hc;simp at hc
  ·exact zbt6 _
theorem zbt8 {a b:List Int}:isB (a++b)<->isB a/\isB b:=by
 constructor
 ·intro h;exact ⟨fun c hc=>h c (List.mem_append.2 (.inl hc)),fun c hc=>h c (List.mem_append.2 (.inr hc))⟩
 ·rintro ⟨h1,h2⟩ c hc
  rcases List.mem_append.1 hc with h | h
  ·exact h1 c h
  ·exact h2 c h
/-- A frame. -/
def encF (l:List Int):List Int:=put (l.length:Int)++(l++fix4 (bsum (put (l.length:Int)++l)).toNat)
theorem zbt9 (s:Sl Int) (hb:isB s.l) (hl:s.l.length<=1048576): ∃z,Ev (fun q=>zmq q s) (⟨z,true,encF s.l⟩,0):=by
 have hp:=zbsj (s.l.length:Int)
 obtain ⟨z,h⟩:=zbt5 ⟨false,[⟨false,put (s.l.length:Int)⟩,s,⟨false,fix4 (bsum (put (s.l.length:Int)++s.l)).toNat⟩]⟩ (by simp) (by simp [flat,fix4];omega)
 refine ⟨z,Ev.su (Ev.neg (by omega) ?_)⟩
 refine Ev.bind (zbsk ⟨true,true,[]⟩ (by omega) (by omega) (by simp)) ?_
 refine Ev.bind (zbt0 ⟨false,put (s.l.length:Int)⟩ s (zbt7 (s.l.length:Int)) hb (by simp only;omega) (by omega)) ?_
 refine Ev.bind h ?_
 exact Ev.ret' (by simp [encF,flat])
/-- The number that bytes begin with, from the i-th group on. -/
def rd:Nat->List Int->Option (Nat×Nat)
 | _,[]=>none
 | i,c::l=>if 10<=i then none else if i=9/\1<c then none else if c=0/\0<i then none else if c<128 then some (c.toNat,1) else (rd (i+1) l).map fun p=>((c % 128).toNat+128*p.1,p.2+1)
def resN:Option (Nat×Nat)->Int×Int
 | none=>(0,0)
 | some p=>(p.1,p.2)
theorem and127 {x:Int} (h1:0<=x) (h2:x<256):ibits .and .u8 x 127=x % 128:=by
 obtain ⟨n,rfl⟩:=Int.eq_ofNat_of_zero_le h1
 have hn:n<256:=by omega
 have: ∀m:Fin 256,ibits .and .u8 (m.val:Int) 127=(m.val:Int) % 128:=by unfold ibits;decide+kernel
 exact this ⟨n,hn⟩
theorem or64 {a b:Nat} (ha:a<18446744073709551616) (hb:b<18446744073709551616):ibits .or .u64 (a:Int) (b:Int)=((a ||| b:Nat):Int):=by
 have e:ibits .or .u64 (a:Int) (b:Int)=IntKind.wrap .u64 (((BitVec.ofInt 64 (a:Int) ||| BitVec.ofInt 64 (b:Int):BitVec 64).toNat:Nat):Int):=by unfold ibits;rfl
 have e1:(BitVec.ofInt 64 (a:Int)).toNat=a:=by rw [y49];omega
 have e2:(BitVec.ofInt 64 (b:Int)).toNat=b:=by rw [y49];omega
 have e3:a ||| b<2 ^ 64:=Nat.or_lt_two_pow (by omega) (by omega)
 rw [e,BitVec.toNat_or,e1,e2,zbsl,zbsb (by omega) (by omega)]
theorem ishl64 {x k:Nat} (hk:k<=64):ishl .u64 (x:Int) (k:Int)=((x*2 ^ k % 18446744073709551616:Nat):Int):=by
 unfold ishl
 simp only [IntKind.bits,y28,Nat.min_eq_left hk]
 rw [zbsl,zbsm]
 have:((x:Int)*2 ^ k)=((x*2 ^ k:Nat):Int):=by rw [Int.natCast_mul,Int.natCast_pow];rfl
 rw [this]
 exact (Int.natCast_emod _ _).symm
theorem zbua {acc i:Nat} {c:Int} (hi:i<=9) (h1:0<=c) (h2:c<256) (ha:acc<2 ^ (7*i)) (h9:i=9->c<=1):
  ibits .or .u64 (acc:Int) (ishl .u64 (wrp .u64 (ibits .and .u8 c 127)) (wrp .i64 (7*(i:Int))))=((acc+(c % 128).toNat*2 ^ (7*i):Nat):Int)/\acc+(c % 128).toNat*2 ^ (7*i)<18446744073709551616/\acc+(c % 128).toNat*2 ^ (7*i)<2 ^ (7*(i+1)):=by
 have hm:(c % 128).toNat<128:=by omega
 have hp:2 ^ (7*i)<=2 ^ 63:=Nat.pow_le_pow_right (by omega) (by omega)
 have hp1:2 ^ (7*(i+1))=128*2 ^ (7*i):=by rw [show 7*(i+1)=7+7*i by omega,Nat.pow_add]
 have h4:acc+(c % 128).toNat*2 ^ (7*i)<2 ^ (7*(i+1)):=by
  rw [hp1]
  have:((c % 128).toNat+1)*2 ^ (7*i)<=128*2 ^ (7*i):=y17 _ (by omega)
  rw [y31] at this;omega
 have h5:acc+(c % 128).toNat*2 ^ (7*i)<18446744073709551616:=by
  by_cases e:i=9
  ·have hc:=h9 e
   have:(c % 128).toNat<=1:=by omega
   subst e
   have h6:(c % 128).toNat*2 ^ (7*9)<=1*2 ^ (7*9):=y17 _ this
   simp only [Nat.reduceMul,Nat.reducePow] at ha h6 ⊢
   omega
  ·have:2 ^ (7*(i+1))<=2 ^ 63:=Nat.pow_le_pow_right (by omega) (by omega)
   simp only [Nat.reducePow] at this
   omega
 refine ⟨?_,h5,h4⟩
 rw [and127 h1 h2,zbsb (by omega) (by omega),zbsa (by omega) (by omega),show (7*(i:Int))=((7*i:Nat):Int) by omega,show (c % 128)=(((c % 128).toNat:Nat):Int) by omega,ishl64 (by omega)]
 have h6:(c % 128).toNat*2 ^ (7*i)<18446744073709551616:=by omega
 simp only [y28]
 rw [Nat.mod_eq_of_lt h6,or64 (by omega) h6]
 congr 1
 have:=Nat.two_pow_add_eq_or_of_lt ha (c % 128).toNat
 rw [Nat.or_comm,Nat.mul_comm,<- this];omega
theorem zbub (z:Bool) (L:List Int) (hb:isB L) (m:Nat) (hm:m=min 10 L.length): ∀(k i acc:Nat),m=i+k->acc<2 ^ (7*i)->
  Ev (fun q=>zmv q z L (acc:Int) (m:Int) (i:Int)) (match rd i (L.drop i) with | none=>(0,0) | some p=>(((acc+p.1*2 ^ (7*i):Nat):Int),((i+p.2:Nat):Int)))
 | 0,i,acc,hk,ha=>by
  refine Ev.su (Ev.ne (Ev.ret' ?_))
  have:rd i (L.drop i)=none:=by
   cases h:L.drop i with
   | nil=>rfl
   | cons c l=>
    have:(L.drop i).length=l.length+1:=by rw [h];rfl
    rw [y13] at this
    simp only [rd];rw [if_pos (by omega)]
  rw [this]
 | k+1,i,acc,hk,ha=>by
  have hi:i<L.length:=by omega
  have hi9:i<=9:=by omega
  have hg:L[(i:Int).toNat]? =some L[i]:=by simpa using y7 hi
  obtain ⟨b1,b2⟩:=hb L[i] (y26 hi)
  have w7:wrp .i64 (7*(i:Int))=7*(i:Int):=zbsa (by omega) (by omega)
  have wi:wrp .i64 ((i:Int)+1)=((i+1:Nat):Int):=by rw [zbsa (by omega) (by omega)];omega
  rw [y9 hi]
  simp only [rd]
  rw [if_neg (by omega)]
  generalize hc:L[i]=c at hg b1 b2
  -- the ends
  have done:(i=9->c<=1)->c<128->(((ibits .or .u64 (acc:Int) (ishl .u64 (wrp .u64 (ibits .and .u8 c 127)) (wrp .i64 (7*(i:Int))))),(wrp .i64 ((i:Int)+1))):Int×Int)=(((acc+c.toNat*2 ^ (7*i):Nat):Int),((i+1:Nat):Int)):=by
   intro h9 h128
   rw [(zbua hi9 b1 b2 ha h9).1,wi,show (c % 128).toNat=c.toNat by omega]
  have rest:i≠9-> ¬c<128->Ev (fun q=>zmv q z L (ibits .or .u64 (acc:Int) (ishl .u64 (wrp .u64 (ibits .and .u8 c 127)) (wrp .i64 (7*(i:Int))))) (m:Int) (wrp .i64 ((i:Int)+1))) (match (rd (i+1) (L.drop (i+1))).map (fun p=>((c % 128).toNat+128*p.1,p.2+1)) with | none=>(0,0) | some p=>(((acc+p.1*2 ^ (7*i):Nat):Int),((i+p.2:Nat):Int))):=by
   intro h9 h128
   obtain ⟨g1,g2,g3⟩:=zbua hi9 b1 b2 ha (fun e=>absurd e h9)
   rw [g1,wi]
   refine (zbub z L hb m hm k (i+1) _ (by omega) g3).cast ?_
   cases rd (i+1) (L.drop (i+1)) with
   | none=>rfl
   | some p=>
    simp only [y39]
    have:2 ^ (7*(i+1))=128*2 ^ (7*i):=by rw [show 7*(i+1)=7+7*i by omega,Nat.pow_add]
    rw [this]
    congr 2
    ·rw [y31,Nat.mul_assoc 128,Nat.mul_left_comm p.1 128];omega
    ·omega
  refine Ev.su (Ev.po (Ev.po (Ev.opt hg (Ev.neg (by rw [w7];omega) ?_))))
  refine Ev.ite (fun h9=>Ev.ite (fun h1=>?_) fun h1=>Ev.ite (fun h0=>Ev.pos (by omega) ?_) fun h0=>Ev.pos (by omega) ?_) fun h9=>Ev.ite (fun h0=>Ev.ite (fun hp=>?_) fun hp=>Ev.pos (by omega) ?_) fun h0=>Ev.ite (fun h128=>?_) fun h128=>?_
  ·rw [if_pos ⟨by omega,h1⟩];exact Ev.ret _
  ·rw [if_neg (by omega),if_pos ⟨h0,by omega⟩];exact Ev.ret _
  ·rw [if_neg (by omega),if_neg (by omega),if_pos (by omega)];exact Ev.ret' (done (by omega) (by omega))
  ·rw [if_neg (by omega),if_pos ⟨h0,by omega⟩];exact Ev.ret _
  ·rw [if_neg (by omega),if_neg (by omega),if_pos (by omega)];exact Ev.ret' (done (by omega) (by omega))
  ·rw [if_neg (by omega),if_neg (by omega),if_pos h128];exact Ev.ret' (done (by omega) h128)
  ·rw [if_neg (by omega),if_neg (by omega),if_neg h128];exact rest (by omega) h128
theorem zbuc (s:Sl Int) (hb:isB s.l):Ev (fun q=>zmw q s) (resN (rd 0 s.l)):=by
 have h:=zbub s.z s.l hb (min 10 s.l.length) rfl (min 10 s.l.length) 0 0 (by omega) (by simp)
 have e:(if 10<(s.l.length:Int) then 10 else (s.l.length:Int))=((min 10 s.l.length:Nat):Int):=by split<;>omega
 refine Ev.succ (g:=fun q=>zmv q s.z s.l 0 (if 10<(s.l.length:Int) then 10 else (s.l.length:Int)) 0) ?_ (fun q=>rfl)
 rw [e]
 refine h.cast ?_
 rw [y38]
 cases rd 0 s.l with
 | none=>rfl
 | some p=>simp [resN]
def getN (l:List Int):Int×Int:=match rd 0 l with
 | none=>(0,0)
 | some p=>if 4611686018427387904<=p.1 then (0,0) else ((p.1:Int),(p.2:Int))
theorem zbud (s:Sl Int) (hb:isB s.l):Ev (fun q=>zmx q s) (getN s.l):=by
 refine Ev.su (Ev.bind (zbuc s hb) ?_)
 unfold getN
 cases rd 0 s.l with
 | none=>exact Ev.neg (by simp [resN]) (Ev.ret' (by rw [zbsa]<;>simp [resN]))
 | some p=>
  simp only [resN]
  refine Ev.ite (fun h=>?_) fun h=>?_
  ·rw [if_pos (by omega)];exact Ev.ret _
  ·rw [if_neg (by omega),zbsa (by omega) (by omega)];exact Ev.ret _
theorem rd_len: ∀{l:List Int} {i:Nat} {p:Nat×Nat},rd i l=some p->1<=p.2/\p.2<=l.length/\i+p.2<=10
 | [],i,p,h=>by simp [rd] at h
 | c ::l,i,p,h=>by
  simp only [rd] at h
  split at h
  ·cases h
  ·split at h
   ·cases h
   ·split at h
    ·cases h
    ·split at h
     ·simp at h;subst h;simp;omega
     ·cases hr:rd (i+1) l with
      | none=>simp [hr] at h
      | some r=>
       simp [hr] at h;subst h
       have:=rd_len hr
       simp;omega
theorem zbue {l:List Int}:0<=(getN l).2/\(getN l).2<=l.length/\(getN l).2<=10/\0<=(getN l).1/\(getN l).1<4611686018427387904:=by
 unfold getN
 cases h:rd 0 l with
 | none=>simp
 | some p=>
  have:=rd_len h
  simp only
  split<;>simp<;>omega
/-- What was put is read. -/
theorem rd_grp: ∀{n:Nat} {i:Nat} {x:List Int},n<2 ^ (64 - 7*i)->i<=9->(0<i->n≠0)->rd i (grp n++x)=some (n,(grp n).length):=by
 intro n
 induction n using Nat.strongRecOn with
 | ind n ih=>
  intro i x h hi h0
  by_cases hn:n<128
  ·rw [grp_lt hn]
   simp only [List.cons_append,y47,rd,y21,y25]
   rw [if_neg (by omega),if_neg ?_,if_neg (by omega),if_pos (by omega)]
   ·simp
   ·rintro ⟨rfl,h1⟩
    simp at h;omega
  ·rw [grp_ge hn]
   simp only [List.cons_append,rd,y21]
   have hi8:i≠9:=by rintro rfl;simp at h;omega
   rw [if_neg (by omega),if_neg (by omega),if_neg (by omega),if_neg (by omega)]
   have hd:n / 128<2 ^ (64 - 7*(i+1)):=by
    rw [Nat.div_lt_iff_lt_mul (by omega),show (128:Nat)=2 ^ 7 from rfl,<- Nat.pow_add]
    by_cases e:i<=8
    ·rw [show 64 - 7*(i+1)+7=64 - 7*i by omega];exact h
    ·omega
   rw [ih (n / 128) (by omega) hd (by omega) (by omega)]
   simp only [y39,y4,y8,and_true]
   omega
/-- Where the first byte below 128 stands. -/
def idxLow:List Int->Nat->Int
 | [],_=> -1
 | a::l,i=>if a<128 then (i:Int) else idxLow l (i+1)
def allHi (l:List Int):Prop:= ∀c∈l,128<=c
instance (l:List Int):Decidable (allHi l):=by unfold allHi;infer_instance
theorem zbuf: ∀{l:List Int} {i:Nat},¬0<=idxLow l i<->allHi l
 | [],i=>by simp [idxLow,allHi]
 | a::l,i=>by
  have ih:=zbuf (l:=l) (i:=i+1)
  simp only [idxLow,allHi,List.mem_cons,forall_eq_or_imp] at ih ⊢
  by_cases h:a<128
  ·rw [if_pos h];constructor
   ·intro h';omega
   ·rintro ⟨h1,_⟩;omega
  ·rw [if_neg h,ih]
   constructor
   ·intro h';exact ⟨by omega,h'⟩
   ·exact fun h'=>h'.2
theorem zbug (z:Bool) (L:List Int) (hL:L.length<=1099511627776): ∀(k i:Nat),L.length=i+k->Ev (fun q=>zms q z L (L.length:Int) (i:Int)) (idxLow (L.drop i) i)
 | 0,i,hk=>by
  refine Ev.su (Ev.ne (Ev.ret' ?_))
  rw [y12 (by omega)];rfl
 | k+1,i,hk=>by
  have hi:i<L.length:=by omega
  have hg:L[(i:Int).toNat]? =some L[i]:=by simpa using y7 hi
  have h1:Ev (fun q=>zmr q L[i]) (decide (L[i]<128)):=Ev.su (Ev.ret _)
  refine Ev.su (Ev.po (Ev.po (Ev.opt hg (Ev.bind h1 ?_))))
  rw [y9 hi]
  simp only [idxLow]
  refine Ev.ite (fun h=>?_) fun h=>?_
  ·rw [if_pos (by simpa using h)];exact Ev.ret _
  ·rw [if_neg (by simpa using h),zbsa (by omega) (by omega),show ((i:Int)+1)=((i+1:Nat):Int) by omega]
   exact zbug z L hL k (i+1) (by omega)
def openB (l:List Int):Bool:=decide (l.length<10/\allHi l)
theorem zbuh (s:Sl Int):Ev (fun q=>zmu q s) (openB s.l):=by
 refine Ev.su (Ev.ite (fun h=>?_) fun h=>Ev.ret' ?_)
 ·have:=zbug s.z s.l (by omega) s.l.length 0 (by omega)
  rw [y38] at this
  refine Ev.bind (Ev.su this) (Ev.ret' ?_)
  unfold openB
  rw [<- decide_not,decide_eq_decide,zbuf]
  exact ⟨fun h1=>⟨by omega,h1⟩,fun h1=>h1.2⟩
 ·unfold openB
  symm;rw [decide_eq_false_iff_not];omega
theorem zbui (z z2:Bool) (A B:List Int) (hl:A.length=B.length) (hL:A.length<=1099511627776): ∀(k i:Nat),A.length=i+k->Ev (fun q=>zmy q z A z2 B (A.length:Int) (i:Int)) (decide (A.drop i=B.drop i))
 | 0,i,hk=>by
  refine Ev.su (Ev.ne (Ev.ret' ?_))
  rw [y12 (by omega),y12 (by omega)];simp
 | k+1,i,hk=>by
  have hi:i<A.length:=by omega
  have hi2:i<B.length:=by omega
  have hg:A[(i:Int).toNat]? =some A[i]:=by simpa using y7 hi
  have hg2:B[(i:Int).toNat]? =some B[i]:=by simpa using y7 hi2
  refine Ev.su (Ev.po (Ev.po (Ev.opt hg (Ev.opt hg2 ?_))))
  rw [y9 hi,y9 hi2]
  refine Ev.ite (fun h=>?_) fun h=>Ev.ret' (by symm;rw [decide_eq_false_iff_not];intro e;exact h (List.cons.inj e).1)
  rw [zbsa (by omega) (by omega),show ((i:Int)+1)=((i+1:Nat):Int) by omega]
  refine (zbui z z2 A B hl hL k (i+1) (by omega)).cast ?_
  rw [decide_eq_decide,List.cons.injEq];simp only [h,true_and]
theorem zbuj (a b:Sl Int) (hL:a.l.length<=1099511627776):Ev (fun q=>zmz q a b) (decide (a.l=b.l)):=by
 refine Ev.su (Ev.ite (fun h=>?_) fun h=>Ev.ret' ?_)
 ·have:=zbui a.z b.z a.l b.l (by omega) hL a.l.length 0 (by omega)
  rw [y38,y38] at this;exact this
 ·symm;rw [decide_eq_false_iff_not];intro e;rw [e] at h;exact h rfl
/-- The data of the frame that bytes begin with, how many bytes it has, and the error. -/
def decF (l:List Int):List Int×Int×Int:=
 if openB l=true then ([],0,2) else if (getN l).2=0 then ([],0,3) else if 1048576<(getN l).1 then ([],0,5) else if (l.length:Int)<(getN l).2+4+(getN l).1 then ([],0,2)
 else if (l.drop ((getN l).2+(getN l).1).toNat).take 4=fix4 (bsum (l.take ((getN l).2+(getN l).1).toNat)).toNat then ((l.take ((getN l).2+(getN l).1).toNat).drop (getN l).2.toNat,(getN l).2+(getN l).1+4,0) else ([],0,4)
theorem zbuk {l:List Int} (h:isB l) (n:Nat):isB (l.take n):=fun c hc=>h c (y44 hc)
theorem zbul {l:List Int} (h:isB l) (n:Nat):isB (l.drop n):=fun c hc=>h c (y53 hc)
theorem zbum (s:Sl Int) (hz:s.z=true->s.l=[]) (hb:isB s.l) (hl:s.l.length<=4294967296): ∃z,Ev (fun q=>zm1 q s) (⟨z,true,(decF s.l).1⟩,(decF s.l).2.1,(decF s.l).2.2):=by
 unfold decF
 by_cases h1:openB s.l=true
 ·rw [if_pos h1]
  exact ⟨true,Ev.su (Ev.bind (zbuh s) (Ev.pos h1 (Ev.ret _)))⟩
 rw [if_neg h1]
 by_cases h2:(getN s.l).2=0
 ·rw [if_pos h2]
  exact ⟨true,Ev.su (Ev.bind (zbuh s) (Ev.neg h1 (Ev.bind (zbud s hb) (Ev.pos h2 (Ev.ret _)))))⟩
 rw [if_neg h2]
 by_cases h3:1048576<(getN s.l).1
 ·rw [if_pos h3]
  exact ⟨true,Ev.su (Ev.bind (zbuh s) (Ev.neg h1 (Ev.bind (zbud s hb) (Ev.neg h2 (Ev.pos h3 (Ev.ret _))))))⟩
 rw [if_neg h3]
 obtain ⟨g1,g2,g3,g4,g5⟩:=zbue (l:=s.l)
 generalize hk:(getN s.l).2=k at*
 generalize hn:(getN s.l).1=n at*
 have hg:getN s.l=(n,k):=by rw [<- hk,<- hn]
 have hget:=zbud s hb
 rw [hg] at hget
 have w1:wrp .i64 (k+4)=k+4:=zbsa (by omega) (by omega)
 have w2:wrp .i64 (k+4+n)=k+4+n:=zbsa (by omega) (by omega)
 have w3:wrp .i64 (k+n)=k+n:=zbsa (by omega) (by omega)
 have w4:wrp .i64 (k+n+4)=k+n+4:=zbsa (by omega) (by omega)
 by_cases h4:(s.l.length:Int)<k+4+n
 ·rw [if_pos h4]
  exact ⟨true,Ev.su (Ev.bind (zbuh s) (Ev.neg h1 (Ev.bind hget (Ev.neg h2 (Ev.neg h3 (Ev.pos (by simp only;rw [w1,w2];exact h4) (Ev.ret _)))))))⟩
 rw [if_neg h4]
 have hzf:s.z=false:=by
  cases hz':s.z
  ·rfl
  ·have:=hz hz';rw [this] at h4;simp at h4;omega
 have hsum:=zbt0 ⟨s.z,List.take k.toNat s.l⟩ ⟨s.z,List.drop k.toNat (List.take (k+n).toNat s.l)⟩ (zbuk hb _) (zbul (zbuk hb _) _) (by simp;omega) (by simp;omega)
 have heq:=zbuj ⟨s.z,List.drop (k+n).toNat (List.take (k+n+4).toNat s.l)⟩ ⟨false,fix4 (bsum (List.take k.toNat s.l++List.drop k.toNat (List.take (k+n).toNat s.l))).toNat⟩ (by simp;omega)
 have hcl:Ev (fun q=>zm0 q ⟨s.z,List.drop k.toNat (List.take (k+n).toNat s.l)⟩) ⟨false,true,List.drop k.toNat (List.take (k+n).toNat s.l)⟩:=
  Ev.su (Ev.neg (by simp [hzf]) (Ev.pos (by simp;omega) (Ev.ret _)))
 have ht:List.take k.toNat s.l++List.drop k.toNat (List.take (k+n).toNat s.l)=List.take (k+n).toNat s.l:=by
  have:=List.take_append_drop k.toNat (List.take (k+n).toNat s.l)
  rw [List.take_take,Nat.min_eq_left (by omega)] at this;exact this
 rw [ht] at heq hsum
 have hd:List.drop (k+n).toNat (List.take (k+n+4).toNat s.l)=List.take 4 (List.drop (k+n).toNat s.l):=by
  rw [List.drop_take];congr 1;omega
 rw [hd] at heq
 have pre: ∀{r:Ow Int×Int×Int},Ev (fun q=>(zmz q ⟨s.z,List.take 4 (List.drop (k+n).toNat s.l)⟩ ⟨false,fix4 (bsum (List.take (k+n).toNat s.l)).toNat⟩).bind fun r4=>(if r4=true then ((zm0 q ⟨s.z,(List.drop k.toNat (List.take (k+n).toNat s.l))⟩).bind fun r5=>(some (r5,k+n+4,0))) else (some (⟨true,true,[]⟩,0,4)))) r->Ev (fun q=>zm1 q s) r:=by
  intro r h
  refine Ev.su (Ev.bind (zbuh s) (Ev.neg h1 (Ev.bind hget (Ev.neg h2 (Ev.neg h3 ?_)))))
  simp only [w1,w2,w3,w4]
  refine Ev.neg h4 (Ev.po (Ev.po (Ev.po (Ev.po (Ev.po (Ev.po (Ev.po (Ev.po (Ev.po (Ev.bind hsum ?_))))))))))
  rw [hd]
  exact h
 by_cases h5:List.take 4 (List.drop (k+n).toNat s.l)=fix4 (bsum (List.take (k+n).toNat s.l)).toNat
 ·rw [if_pos h5]
  exact ⟨false,pre (Ev.bind heq (Ev.pos (by simpa using h5) (Ev.bind hcl (Ev.ret _))))⟩
 ·rw [if_neg h5]
  exact ⟨true,pre (Ev.bind heq (Ev.neg (by simpa using h5) (Ev.ret _)))⟩
theorem rd_put {n:Int} {x:List Int} (h1:0<=n) (h2:n<4611686018427387904):rd 0 (put n++x)=some (n.toNat,(put n).length):=by
 rw [put_ok h1 h2];exact rd_grp (by simp;omega) (by omega) (by omega)
theorem zbun {n:Int} {x:List Int} (h1:0<=n) (h2:n<4611686018427387904):getN (put n++x)=(n,((put n).length:Int)):=by
 unfold getN;rw [rd_put h1 h2];simp only;rw [if_neg (by omega)];simp;omega
theorem zbuo: ∀n,∃c∈grp n,c<128:=by
 intro n
 induction n using Nat.strongRecOn with
 | ind n ih=>
  by_cases h:n<128
  ·rw [grp_lt h];exact ⟨_,y32,by omega⟩
  ·rw [grp_ge h]
   obtain ⟨c,h1,h2⟩:=ih (n / 128) (by omega)
   exact ⟨c,y36 _ h1,h2⟩
theorem zbup {n:Int} {x:List Int} (h1:0<=n) (h2:n<4611686018427387904):openB (put n++x)=false:=by
 unfold openB;rw [decide_eq_false_iff_not]
 rintro ⟨_,h⟩
 obtain ⟨c,hc,hl⟩:=zbuo n.toNat
 rw [put_ok h1 h2] at h
 have:=h c (List.mem_append.2 (.inl hc));omega
/-- A frame is decoded as what was framed. -/
theorem zbuq {l x:List Int} (hl:l.length<=1048576):decF (encF l++x)=(l,((encF l).length:Int),0):=by
 have hp:=zbsj (l.length:Int)
 unfold decF
 have e:encF l++x=put (l.length:Int)++(l++(fix4 (bsum (put (l.length:Int)++l)).toNat++x)):=by simp [encF]
 rw [e,zbup (by omega) (by omega),zbun (by omega) (by omega)]
 have ht:List.take (((put (l.length:Int)).length:Int)+(l.length:Int)).toNat (put (l.length:Int)++(l++(fix4 (bsum (put (l.length:Int)++l)).toNat++x)))=put (l.length:Int)++l:=by
  rw [<- y33,List.take_left' (by simp;omega)]
 have hd:List.drop (((put (l.length:Int)).length:Int)+(l.length:Int)).toNat (put (l.length:Int)++(l++(fix4 (bsum (put (l.length:Int)++l)).toNat++x)))=fix4 (bsum (put (l.length:Int)++l)).toNat++x:=by
  rw [<- y33,List.drop_left' (by simp;omega)]
 have hg:=zbsg l.length
 have hpp:1<=(put (l.length:Int)).length:=by rw [put_ok (by omega) (by omega)];simpa using hg
 simp only [ht,hd]
 rw [if_neg (by simp),if_neg (by omega),if_neg (by omega),if_neg (by simp [fix4];omega),if_pos (by simp [fix4])]
 simp [encF,fix4]
 omega
theorem isB_of {s:Sl Int} (h:okSl (fun x=>inR .u8 x) s):isB s.l:=fun c hc=>by
 have:=h.2.2 c hc
 simp [inR,IntKind.min,IntKind.max,IntKind.signed,IntKind.bits] at this;omega
theorem rd_inv: ∀{l:List Int} {i v k:Nat},isB l->rd i l=some (v,k)->l.take k=grp v/\(0<i->v≠0)
 | [],i,v,k,hb,h=>by simp [rd] at h
 | c ::l,i,v,k,hb,h=>by
  obtain ⟨b1,b2⟩:=hb c y32
  simp only [rd] at h
  split at h
  ·cases h
  ·split at h
   ·cases h
   ·split at h
    ·cases h
    ·rename_i h1 h2 h3
     split at h
     ·simp at h;obtain ⟨rfl,rfl⟩:=h
      refine ⟨?_,fun hi e=>h3 ⟨by omega,hi⟩⟩
      rw [grp_lt (by omega)];simp;omega
     ·cases hr:rd (i+1) l with
      | none=>simp [hr] at h
      | some r=>
       obtain ⟨v',k'⟩:=r
       simp [hr] at h
       obtain ⟨rfl,rfl⟩:=h
       obtain ⟨e1,e2⟩:=rd_inv (fun c hc=>hb c (y36 _ hc)) hr
       have hv:=e2 (by omega)
       refine ⟨?_,fun _=>by omega⟩
       rw [grp_ge (by omega),List.take_succ_cons,e1]
       congr 1
       ·omega
       ·congr 1;omega
theorem zbur {l x:List Int} {n:Int} (hb:isB l) (h:decF l=(x,n,0)):x.length<=1048576/\0<=n/\n.toNat<=l.length/\5<=n/\encF x=l.take n.toNat:=by
 unfold decF at h
 split at h
 ·simp at h
 split at h
 ·simp at h
 split at h
 ·simp at h
 split at h
 ·simp at h
 split at h
 ·rename_i h1 h2 h3 h4 h5
  obtain ⟨g1,g2,g3,g4,g5⟩:=zbue (l:=l)
  have hrd:rd 0 l=some ((getN l).1.toNat,(getN l).2.toNat):=by
   unfold getN at h2 ⊢
   cases hr:rd 0 l with
   | none=>rw [hr] at h2;simp at h2
   | some p=>
    rw [hr] at h2;simp only at h2 ⊢
    split at h2
    ·simp at h2
    ·rename_i hlt;rw [if_neg hlt];simp
  obtain ⟨e1,_⟩:=rd_inv hb hrd
  generalize (getN l).2=k at*
  generalize (getN l).1=m at*
  simp only [y8,and_true] at h
  obtain ⟨hx,hn⟩:=h
  have hlx:x.length=m.toNat:=by rw [<- hx];simp;omega
  refine ⟨by omega,by omega,by omega,by omega,?_⟩
  have hput:put (x.length:Int)=l.take k.toNat:=by
   rw [put_ok (by omega) (by omega),e1];congr 1
  have hcat:l.take k.toNat++x=l.take (k+m).toNat:=by
   rw [<- hx]
   have:=List.take_append_drop k.toNat (List.take (k+m).toNat l)
   rw [List.take_take,Nat.min_eq_left (by omega)] at this;exact this
  unfold encF
  rw [hput,hcat,<- h5,<- y33,hcat,<- hn,show (k+m+4).toNat=(k+m).toNat+4 by omega,List.take_add]
 ·simp at h
theorem zbus {l:List Int} (hb:isB l):isB (decF l).1:=by
 have nil:isB []:=fun c hc=>by simp at hc
 unfold decF
 split;exact nil
 split;exact nil
 split;exact nil
 split;exact nil
 split
 ·exact zbul (zbuk hb _) _
 ·exact nil
theorem tdiv_u (a:B32) (k:Nat):Int.tdiv (u a) ((2 ^ k:Nat):Int)=u (a>>>k):=by
 rw [Int.tdiv_eq_ediv_of_nonneg (u_nn a)]
 unfold u
 rw [BitVec.toNat_ushiftRight,Nat.shiftRight_eq_div_pow]
 exact (Int.natCast_ediv _ _).symm
theorem wrp_uu (a:B32):wrp .u32 (u a)=u a:=zbsc (u_nn a) (by have:=u_lt a;omega)
theorem zbut: ∀(k:Nat) (a:B32) (i:Int),i=8 - k->k<=8->Ev (fun q=>zow q (u a) i) (u (biter k a))
 | 0,a,i,h1,h2=>Ev.su (Ev.ne (Ev.ret _))
 | k+1,a,i,h1,h2=>by
  have e1:Int.tdiv (u a) 2=u (a>>>1):=tdiv_u a 1
  have e2:Int.tmod (u a) 2=u a % 2:=y61 (u_nn a)
  have hp:(2197175160:Int)=u poly:=by unfold poly;rw [u_lit _ (by omega)];rfl
  have wi:wrp .i64 (i+1)=i+1:=zbsa (by omega) (by omega)
  have ih:=zbut k (bstep a) (i+1) (by omega) (by omega)
  refine Ev.su (Ev.pos (by omega) ?_)
  simp only [biter]
  rw [e1,wrp_uu,hp,xor_u,wi,e2]
  unfold bstep at ih ⊢
  refine Ev.ite (fun h=>?_) fun h=>?_
  ·rw [if_pos ((zbti a).2 h)] at ih ⊢;exact ih
  ·rw [if_neg (fun e=>h ((zbti a).1 e))] at ih ⊢;exact ih
theorem zbuu (a:B32):Ev (fun q=>zox q (u a)) (u (bentry a)):=by
 have:=zbut 8 a 0 (by omega) (by omega)
 refine Ev.succ (g:=fun q=>zow q (wrp .u32 (u a)) 0) ?_ (fun q=>rfl)
 rw [wrp_uu];exact this
theorem zbuv (z:Bool) (l:List Int) (hb:isB l) (hl:l.length<=1099511627776): ∀(k i:Nat) (x:B32),l.length=i+k->Ev (fun q=>zoy q z l (u x) (i:Int)) (u (~~~ bmore x (l.drop i)))
 | 0,i,x,hk=>by
  refine Ev.su (Ev.ne (Ev.ret' ?_))
  rw [y12 (by omega),ones,xor_u]
  simp only [bmore,List.foldl_nil,BitVec.allOnes_xor]
 | k+1,i,x,hk=>by
  have hi:i<l.length:=by omega
  have hg:l[(i:Int).toNat]? =some l[i]:=by simpa using y7 hi
  obtain ⟨b1,b2⟩:=hb l[i] (y26 hi)
  have e8:Int.tdiv (u x) 256=u (x>>>8):=tdiv_u x 8
  have wi:wrp .i64 ((i:Int)+1)=((i+1:Nat):Int):=by rw [zbsa (by omega) (by omega)];omega
  refine Ev.su (Ev.po (Ev.po (Ev.opt hg (Ev.bind (by rw [xor8 b1 b2];exact zbuu _) ?_))))
  rw [e8,wrp_uu,xor_u,wi]
  have:=zbuv z l hb hl k (i+1) (bentry ((x ^^^ BitVec.ofInt 32 l[i]) &&& 255#32) ^^^ (x>>>8)) (by omega)
  rw [y9 hi]
  simp only [bmore,List.foldl_cons,bbyte] at this ⊢
  exact this
theorem zbuw (x:B32) (s:Sl Int) (hb:isB s.l) (hl:s.l.length<=1099511627776):Ev (fun q=>zoz q (u x) s) (u (~~~ bmore (~~~ x) s.l)):=by
 have:=zbuv s.z s.l hb hl s.l.length 0 (~~~ x) (by omega)
 rw [y38] at this
 refine Ev.succ (g:=fun q=>zoy q s.z s.l (ibits .xor .u32 4294967295 (u x)) 0) ?_ (fun q=>rfl)
 rw [ones,xor_u,BitVec.allOnes_xor]
 exact this
theorem zbux (s:Sl Int) (hb:isB s.l) (hl:s.l.length<=1099511627776):Ev (fun q=>zo0 q s) (u (bsum s.l)):=by
 have:=zbuw 0#32 s hb hl
 exact Ev.su (Ev.bind this (Ev.ret' (by simp [bsum])))
theorem zbuy (v m:Nat) (hm:m<=8) (hv:v<18446744073709551616): ∀(k i:Nat) (z:Bool) (l:List Int),m=i+k->0<k->l.length+k<=4294967296->Ev (fun q=>zp3 q ((v / 2 ^ (8*i):Nat):Int) (m:Int) (i:Int) z l) ⟨false,true,l++bytesFrom v i k⟩
 | 0,i,z,l,hk,h0,hl=>by omega
 | k+1,i,z,l,hk,h0,hl=>by
  have hle:v / 2 ^ (8*i)<=v:=Nat.div_le_self _ _
  have e1:Int.tdiv ((v / 2 ^ (8*i):Nat):Int) 256=((v / 2 ^ (8*(i+1)):Nat):Int):=by
   rw [Int.tdiv_eq_ediv_of_nonneg (Int.natCast_nonneg _),show 8*(i+1)=8*i+8 by omega,Nat.pow_add,<- Nat.div_div_eq_div_mul]
   exact (Int.natCast_ediv _ _).symm
  have e2:Int.tmod ((v / 2 ^ (8*i):Nat):Int) 256=((v / 2 ^ (8*i) % 256:Nat):Int):=by
   rw [y61 (Int.natCast_nonneg _)];exact (Int.natCast_emod _ _).symm
  have hle2:v / 2 ^ (8*(i+1))<=v:=Nat.div_le_self _ _
  have wi:wrp .i64 ((i:Int)+1)=((i+1:Nat):Int):=by rw [zbsa (by omega) (by omega)];omega
  refine Ev.su (Ev.po (Ev.pos (by omega) ?_))
  have w1:wrp .u64 ((v / 2 ^ (8*(i+1)):Nat):Int)=((v / 2 ^ (8*(i+1)):Nat):Int):=by
   generalize v / 2 ^ (8*(i+1))=B at hle2
   exact zbsb (by omega) (by omega)
  have w2:((v / 2 ^ (8*i) % 256:Nat):Int) % 256=((v / 2 ^ (8*i) % 256:Nat):Int):=by
   generalize v / 2 ^ (8*i)=B
   omega
  rw [e1,e2,w1,wrp_u8,wi,w2]
  by_cases hk0:k=0
  ·subst hk0
   exact Ev.su (Ev.ne (Ev.ret' (by simp [bytesFrom])))
  ·refine (zbuy v m hm hv k (i+1) false _ (by omega) (by omega) (by simp;omega)).cast ?_
   simp [bytesFrom]
theorem zbuz (a:B32):Ev (fun q=>zp4 q (wrp .u64 (u a)) 4) ⟨false,true,fix4 a.toNat⟩:=by
 have h1:=u_nn a;have h2:=u_lt a
 have:=zbuy a.toNat 4 (by omega) (by omega) 4 0 true [] (by omega) (by omega) (by simp)
 rw [bytes4] at this
 refine Ev.succ (g:=fun q=>zp3 q (wrp .u64 (u a)) 4 0 true []) ?_ (fun q=>rfl)
 rw [zbsb h1 (by omega)]
 simpa [u] using this
theorem zbu0 (s:Sl Int) (hb:isB s.l) (hl:s.l.length<=1048576): ∃z,Ev (fun q=>zp5 q s) (⟨z,true,encF s.l⟩,0):=by
 have hp:=zbsj (s.l.length:Int)
 have h2:=zbuw (bsum (put (s.l.length:Int))) s hb (by omega)
 have e: ~~~ bmore (~~~ bsum (put (s.l.length:Int))) s.l=bsum (put (s.l.length:Int)++s.l):=by
  unfold bsum;rw [BitVec.not_not,zbtt]
 rw [e] at h2
 refine ⟨(((decide ((put (s.l.length:Int)).length=0)) && (decide (s.l.length=0))) && (decide ((fix4 (bsum (put (s.l.length:Int)++s.l)).toNat).length=0))),Ev.su (Ev.ne (Ev.bind (zbs9 ⟨true,[]⟩ (by omega) (by omega) (by simp)) (Ev.bind (zbux ⟨false,put (s.l.length:Int)⟩ (zbt7 (s.l.length:Int)) (by simp only;omega)) (Ev.bind h2 ?_))))⟩
 ·simp only [y47]
  refine Ev.po (Ev.po (Ev.bind (zbuz _) (Ev.pos (by simp [fix4];omega) (Ev.ret' ?_))))
  simp [encF]
theorem zbu1 (z:Bool) (L:List Int) (hL:L.length<=1099511627776): ∀(k i:Nat),L.length=i+k->Ev (fun q=>zor q z L (i:Int)) (decide (L.length<10/\allHi (L.drop i)))
 | 0,i,hk=>by
  refine Ev.su (Ev.ne (Ev.ret' ?_))
  rw [y12 (by omega),decide_eq_decide]
  simp [allHi];omega
 | k+1,i,hk=>by
  have hi:i<L.length:=by omega
  have hg:L[(i:Int).toNat]? =some L[i]:=by simpa using y7 hi
  refine Ev.su (Ev.po (Ev.po (Ev.opt hg ?_)))
  rw [y9 hi]
  refine Ev.ite (fun h=>Ev.ret' ?_) fun h=>?_
  ·symm;rw [decide_eq_false_iff_not]
   rintro ⟨_,h1⟩
   have:=h1 _ y32;omega
  ·rw [zbsa (by omega) (by omega),show ((i:Int)+1)=((i+1:Nat):Int) by omega]
   refine (zbu1 z L hL k (i+1) (by omega)).cast ?_
   rw [decide_eq_decide]
   constructor
   ·rintro ⟨h1,h2⟩
    refine ⟨h1,fun c hc=>?_⟩
    rcases List.mem_cons.1 hc with rfl | hc
    ·omega
    ·exact h2 c hc
   ·rintro ⟨h1,h2⟩;exact ⟨h1,fun c hc=>h2 c (y36 _ hc)⟩
theorem zbu2 (s:Sl Int) (hL:s.l.length<=1099511627776):Ev (fun q=>zos q s) (openB s.l):=by
 have:=zbu1 s.z s.l hL s.l.length 0 (by omega)
 rw [y38] at this
 exact Ev.su this
theorem zbu3 (z:Bool) (L:List Int) (hb:isB L) (hL:L.length<=1099511627776): ∀(k i acc:Nat),10=i+k->i<=L.length->acc<2 ^ (7*i)-> ∀one:Int,(i<=9->one=((2 ^ (7*i):Nat):Int))->
  Ev (fun q=>zot q z L (acc:Int) one (i:Int)) (match rd i (L.drop i) with | none=>(0,0) | some p=>(((acc+p.1*2 ^ (7*i):Nat):Int),((i+p.2:Nat):Int)))
 | 0,i,acc,hk,hi,ha,one,ho=>by
  have hi10:i=10:=by omega
  have:rd i (L.drop i)=none:=by
   cases h:L.drop i with
   | nil=>rfl
   | cons c l=>simp only [rd];rw [if_pos (by omega)]
  rw [this]
  exact Ev.su (Ev.ite (fun h=>Ev.ne (Ev.ret _)) fun h=>Ev.ret _)
 | k +1,i,acc,hk,hi,ha,one,ho=>by
  have hi9:i<=9:=by omega
  have ho':=ho hi9
  by_cases hlt:i<L.length
  ·have hg:L[(i:Int).toNat]? =some L[i]:=by simpa using y7 hlt
   obtain ⟨b1,b2⟩:=hb L[i] (y26 hlt)
   have wi:wrp .i64 ((i:Int)+1)=((i+1:Nat):Int):=by rw [zbsa (by omega) (by omega)];omega
   rw [y9 hlt]
   simp only [rd]
   rw [if_neg (by omega)]
   generalize hc:L[i]=c at hg b1 b2
   have em:Int.tmod c 128=c % 128:=y61 b1
   have wm:wrp .u64 (Int.tmod c 128)=c % 128:=by rw [em];exact zbsb (by omega) (by omega)
   have hm:(c % 128).toNat<128:=by omega
   -- the value
   have val:(i=9->c % 128<=1)->wrp .u64 ((acc:Int)+wrp .u64 (c % 128*one))=((acc+(c % 128).toNat*2 ^ (7*i):Nat):Int)/\acc+(c % 128).toNat*2 ^ (7*i)<2 ^ (7*(i+1)):=by
    intro h9
    have hp1:2 ^ (7*(i+1))=128*2 ^ (7*i):=by rw [show 7*(i+1)=7+7*i by omega,Nat.pow_add]
    have h4:acc+(c % 128).toNat*2 ^ (7*i)<2 ^ (7*(i+1)):=by
     rw [hp1]
     have:((c % 128).toNat+1)*2 ^ (7*i)<=128*2 ^ (7*i):=y17 _ (by omega)
     rw [y31] at this;omega
    have h5:acc+(c % 128).toNat*2 ^ (7*i)<18446744073709551616:=by
     by_cases e:i=9
     ·have hc:=h9 e
      have:(c % 128).toNat<=1:=by omega
      subst e
      have h6:(c % 128).toNat*2 ^ (7*9)<=1*2 ^ (7*9):=y17 _ this
      simp only [Nat.reduceMul,Nat.reducePow] at ha h6 ⊢
      omega
     ·have:2 ^ (7*(i+1))<=2 ^ 63:=Nat.pow_le_pow_right (by omega) (by omega)
      simp only [Nat.reducePow] at this
      omega
    refine ⟨?_,h4⟩
    have hmul:c % 128*one=(((c % 128).toNat*2 ^ (7*i):Nat):Int):=by
     rw [ho',Int.natCast_mul];congr 1;omega
    rw [hmul]
    generalize (c % 128).toNat*2 ^ (7*i)=X at h5
    rw [zbsb (x:=(X:Int)) (by omega) (by omega),zbsb (by omega) (by omega)];omega
   refine Ev.su (Ev.po (Ev.po (Ev.po (Ev.opt hg ?_))))
   rw [wm]
   have rest:(i=9->c % 128<=1)-> ¬c<128->Ev (fun q=>zot q z L (wrp .u64 ((acc:Int)+wrp .u64 (c % 128*one))) (wrp .u64 (one*128)) (wrp .i64 ((i:Int)+1))) (match (rd (i+1) (L.drop (i+1))).map (fun p=>((c % 128).toNat+128*p.1,p.2+1)) with | none=>(0,0) | some p=>(((acc+p.1*2 ^ (7*i):Nat):Int),((i+p.2:Nat):Int))):=by
    intro h9 h128
    obtain ⟨v1,v2⟩:=val h9
    rw [v1,wi]
    refine (zbu3 z L hb hL k (i+1) _ (by omega) (by omega) v2 (wrp .u64 (one*128)) (fun h10=>?_)).cast ?_
    ·have hp1:2 ^ (7*(i+1))=2 ^ (7*i)*128:=by rw [show 7*(i+1)=7*i+7 by omega,Nat.pow_add]
     have hlt:2 ^ (7*(i+1))<=2 ^ 63:=Nat.pow_le_pow_right (by omega) (by omega)
     have e:one*128=((2 ^ (7*(i+1)):Nat):Int):=by rw [ho',hp1,Int.natCast_mul];rfl
     rw [e]
     generalize 2 ^ (7*(i+1))=X at hlt
     simp only [Nat.reducePow] at hlt
     exact zbsb (by omega) (by omega)
    ·cases rd (i+1) (L.drop (i+1)) with
     | none=>rfl
     | some p=>
      simp only [y39]
      have:2 ^ (7*(i+1))=128*2 ^ (7*i):=by rw [show 7*(i+1)=7+7*i by omega,Nat.pow_add]
      rw [this]
      congr 2
      ·rw [y31,Nat.mul_assoc 128,Nat.mul_left_comm p.1 128];omega
      ·omega
   have done:(i=9->c<=1)->c<128->((wrp .u64 ((acc:Int)+wrp .u64 (c % 128*one)),wrp .i64 ((i:Int)+1)):Int×Int)=(((acc+c.toNat*2 ^ (7*i):Nat):Int),((i+1:Nat):Int)):=by
    intro h9 h128
    rw [(val (by omega)).1,wi,show (c % 128).toNat=c.toNat by omega]
   refine Ev.ite (fun h9=>Ev.ite (fun h1=>?_) fun h1=>Ev.ite (fun h128=>Ev.po (Ev.ite (fun h0=>?_) fun h0=>?_)) fun h128=>?_) fun h9=>Ev.ite (fun h128=>Ev.ite (fun hp=>Ev.ite (fun h0=>?_) fun h0=>?_) fun hp=>?_) fun h128=>?_
   ·rw [if_pos ⟨by omega,by omega⟩];exact Ev.ret _
   ·rw [if_neg (by omega),if_pos ⟨by omega,by omega⟩];exact Ev.ret _
   ·rw [if_neg (by omega),if_neg (by omega),if_pos h128];exact Ev.ret' (done (by omega) h128)
   ·-- the tenth, and it goes on
    rw [if_pos ⟨by omega,by omega⟩]
    obtain ⟨v1,v2⟩:=val (by omega)
    rw [v1,wi]
    have hk0:k=0:=by omega
    subst hk0
    refine (zbu3 z L hb hL 0 (i+1) _ (by omega) (by omega) v2 (wrp .u64 (one*128)) (fun h10=>by omega)).cast ?_
    have:rd (i+1) (L.drop (i+1))=none:=by
     cases h:L.drop (i+1) with
     | nil=>rfl
     | cons c l=>simp only [rd];rw [if_pos (by omega)]
    rw [this]
   ·rw [if_neg (by omega),if_pos ⟨by omega,by omega⟩];exact Ev.ret _
   ·rw [if_neg (by omega),if_neg (by omega),if_pos h128];exact Ev.ret' (done (by omega) h128)
   ·rw [if_neg (by omega),if_neg (by omega),if_pos h128];exact Ev.ret' (done (by omega) h128)
   ·rw [if_neg (by omega),if_neg (by omega),if_neg h128];exact rest (by omega) h128
  ·rw [y12 (by omega)]
   exact Ev.su (Ev.ne (Ev.ret _))
theorem zbu4 (s:Sl Int) (hb:isB s.l) (hL:s.l.length<=1099511627776):Ev (fun q=>zou q s) (resN (rd 0 s.l)):=by
 have h:=zbu3 s.z s.l hb hL 10 0 0 (by omega) (by omega) (by simp) 1 (by simp)
 refine Ev.succ (g:=fun q=>zot q s.z s.l 0 1 0) ?_ (fun q=>rfl)
 refine h.cast ?_
 rw [y38]
 cases rd 0 s.l with
 | none=>rfl
 | some p=>simp [resN]
theorem zbu5 (s:Sl Int) (hb:isB s.l) (hL:s.l.length<=1099511627776):Ev (fun q=>zov q s) (getN s.l):=by
 refine Ev.su (Ev.bind (zbu4 s hb hL) ?_)
 unfold getN
 cases h:rd 0 s.l with
 | none=>exact Ev.pos (by simp [resN]) (Ev.ret' rfl)
 | some p=>
  have:=rd_len h
  simp only [resN]
  refine Ev.ne (Ev.ite (fun h=>?_) fun h=>?_)
  ·rw [if_pos (by omega)];exact Ev.ret _
  ·rw [if_neg (by omega),zbsa (by omega) (by omega)];exact Ev.ret _
/-- The number of bytes, the lowest first. -/
def numB:List Int->Nat
 | []=>0
 | c::l=>c.toNat+256*numB l
theorem zbu6: ∀{l:List Int},isB l->numB l<256 ^ l.length
 | [],_=>by simp [numB]
 | c::l,h=>by
  have h1:=h c y32
  have h2:=zbu6 (l:=l) fun c hc=>h c (y36 _ hc)
  simp only [numB,y21,Nat.pow_succ]
  generalize 256 ^ l.length=X at h2
  omega
theorem zbu7 (z:Bool) (L:List Int) (hb:isB L) (hL:L.length<=8): ∀(k:Nat),k<=8->Ev (fun q=>zo1 q z L ((numB (L.drop k):Nat):Int) ((k:Int) - 1)) ((numB L:Nat):Int)
 | 0,hk=>Ev.su (Ev.ne (Ev.ret' (by simp)))
 | k+1,hk=>by
  have e:((k+1:Nat):Int) - 1=(k:Int):=by omega
  rw [e]
  have wi:wrp .i64 ((k:Int) - 1)=(k:Int) - 1:=zbsa (by omega) (by omega)
  have ih:=zbu7 z L hb hL k (by omega)
  by_cases hi:k<L.length
  ·have hg:L[(k:Int).toNat]? =some L[k]:=by simpa using y7 hi
   obtain ⟨b1,b2⟩:=hb L[k] (y26 hi)
   have hlt:=zbu6 (l:=L.drop (k+1)) (zbul hb _)
   have hle:256 ^ (L.drop (k+1)).length<=256 ^ 7:=Nat.pow_le_pow_right (by omega) (by rw [y13];omega)
   have hlt2:numB (L.drop (k+1))<256 ^ 7:=y62 hlt hle
   rw [y9 hi] at ih
   simp only [numB] at ih
   generalize numB (L.drop (k+1))=X at hlt2 ih ⊢
   generalize L[k]=c at hg b1 b2 ih
   simp only [Nat.reducePow] at hlt2
   refine Ev.su (Ev.po (Ev.po (Ev.opt hg ?_)))
   rw [zbsb (x:=(X:Int)*256) (by omega) (by omega),zbsb (x:=c) (by omega) (by omega),zbsb (by omega) (by omega),wi]
   rw [show ((c.toNat+256*X:Nat):Int)=(X:Int)*256+c by omega] at ih
   exact ih
  ·rw [y12 (by omega)] at ih ⊢
   refine Ev.su (Ev.po (Ev.neg (by omega) ?_))
   rw [wi];exact ih
theorem zbu8 (s:Sl Int) (hb:isB s.l) (hL:s.l.length<=8):Ev (fun q=>zo2 q s) ((numB s.l:Nat):Int):=by
 have:=zbu7 s.z s.l hb hL 8 (by omega)
 rw [y12 hL] at this
 exact Ev.succ (g:=fun q=>zo1 q s.z s.l 0 7) this (fun q=>rfl)
theorem zbu9 {l:List Int} {v:Nat} (hb:isB l) (hl:l.length=4) (hv:v<4294967296):numB l=v<->l=fix4 v:=by
 match l,hl with
 | [a,b,c,d],_=>
  have h1:=hb a (by simp);have h2:=hb b (by simp);have h3:=hb c (by simp);have h4:=hb d (by simp)
  simp only [numB,fix4,List.cons.injEq,and_true]
  constructor
  ·intro h;refine ⟨?_,?_,?_,?_⟩<;>omega
  ·rintro ⟨e1,e2,e3,e4⟩;omega
theorem zbva (s:Sl Int) (hb:isB s.l) (hl:s.l.length<=4294967296): ∃z,Ev (fun q=>zo3 q s) (⟨z,true,(decF s.l).1⟩,(decF s.l).2.1,(decF s.l).2.2):=by
 unfold decF
 have hop:=zbu2 s (by omega)
 have hget:=zbu5 s hb (by omega)
 by_cases h1:openB s.l=true
 ·rw [if_pos h1]
  exact ⟨true,Ev.su (Ev.bind hop (Ev.pos h1 (Ev.ret _)))⟩
 rw [if_neg h1]
 by_cases h2:(getN s.l).2=0
 ·rw [if_pos h2]
  exact ⟨true,Ev.su (Ev.bind hop (Ev.neg h1 (Ev.bind hget (Ev.pos h2 (Ev.ret _)))))⟩
 rw [if_neg h2]
 by_cases h3:1048576<(getN s.l).1
 ·rw [if_pos h3]
  exact ⟨true,Ev.su (Ev.bind hop (Ev.neg h1 (Ev.bind hget (Ev.neg h2 (Ev.pos h3 (Ev.ret _))))))⟩
 rw [if_neg h3]
 obtain ⟨g1,g2,g3,g4,g5⟩:=zbue (l:=s.l)
 generalize hk:(getN s.l).2=k at*
 generalize hn:(getN s.l).1=n at*
 have hg:getN s.l=(n,k):=by rw [<- hk,<- hn]
 rw [hg] at hget
 have w1:wrp .i64 (k+4)=k+4:=zbsa (by omega) (by omega)
 have w2:wrp .i64 (k+4+n)=k+4+n:=zbsa (by omega) (by omega)
 have w3:wrp .i64 (k+n)=k+n:=zbsa (by omega) (by omega)
 have w4:wrp .i64 (k+n+4)=k+n+4:=zbsa (by omega) (by omega)
 by_cases h4:(s.l.length:Int)<k+4+n
 ·rw [if_pos h4]
  exact ⟨true,Ev.su (Ev.bind hop (Ev.neg h1 (Ev.bind hget (Ev.neg h2 (Ev.neg h3 (Ev.pos (by simp only;rw [w1,w2];exact h4) (Ev.ret _)))))))⟩
 rw [if_neg h4]
 have hsum:=zbux ⟨s.z,List.take (k+n).toNat s.l⟩ (zbuk hb _) (by simp;omega)
 have hd:List.drop (k+n).toNat (List.take (k+n+4).toNat s.l)=List.take 4 (List.drop (k+n).toNat s.l):=by
  rw [List.drop_take];congr 1;omega
 have h4l:(List.take 4 (List.drop (k+n).toNat s.l)).length=4:=by simp;omega
 have hfix:=zbu8 ⟨s.z,List.take 4 (List.drop (k+n).toNat s.l)⟩ (zbuk (zbul hb _) _) (by simp only;omega)
 have hw:wrp .u64 (u (bsum (List.take (k+n).toNat s.l)))=(((bsum (List.take (k+n).toNat s.l)).toNat:Nat):Int):=by
  rw [zbsb (u_nn _) (by have:=u_lt (bsum (List.take (k+n).toNat s.l));omega)];rfl
 have heq:=zbu9 (zbuk (zbul hb (k+n).toNat) 4) h4l (v:=(bsum (List.take (k+n).toNat s.l)).toNat) (by have:=(bsum (List.take (k+n).toNat s.l)).isLt;omega)
 have pre: ∀{r:Ow Int×Int×Int},Ev (fun q=>(if ((numB (List.take 4 (List.drop (k+n).toNat s.l)):Nat):Int)=(((bsum (List.take (k+n).toNat s.l)).toNat:Nat):Int) then (if ((min ((k+n).toNat) s.l.length) - k.toNat)<=4294967296 then (some ((⟨(decide (((min ((k+n).toNat) s.l.length) - k.toNat)=0)),true,(List.drop k.toNat (List.take ((k+n).toNat) s.l))⟩,k+4+n,0):Ow Int×Int×Int)) else none) else (some (⟨true,true,[]⟩,0,4)))) r->Ev (fun q=>zo3 q s) r:=by
  intro r h
  refine Ev.su (Ev.bind hop (Ev.neg h1 (Ev.bind hget (Ev.neg h2 (Ev.neg h3 ?_)))))
  simp only [w1,w2,w3,w4]
  refine Ev.neg h4 (Ev.po (Ev.po (Ev.po (Ev.po (Ev.bind hsum (Ev.po (Ev.po (Ev.bind (by rw [hd];exact hfix) ?_))))))))
  rw [hw]
  exact h
 by_cases h5:List.take 4 (List.drop (k+n).toNat s.l)=fix4 (bsum (List.take (k+n).toNat s.l)).toNat
 ·rw [if_pos h5]
  refine ⟨decide (((min ((k+n).toNat) s.l.length) - k.toNat)=0),pre (Ev.pos ?_ (Ev.po (Ev.ret' ?_)))⟩
  ·have:=heq.2 h5;rw [this]
  ·rw [show k+4+n=k+n+4 by omega]
 ·rw [if_neg h5]
  refine ⟨true,pre (Ev.neg ?_ (Ev.ret _))⟩
  intro e;exact h5 (heq.1 (by omega))
/-- The frames that bytes begin with, how many bytes these have, and what ends them. -/
def walkF:Nat->List Int->List (List Int)×Nat×Int
 | 0,_=>([],0,0)
 | f+1,l=>if l=[] then ([],0,0) else if (decF l).2.2=0 then let w:=walkF f (l.drop (decF l).2.1.toNat);((decF l).1::w.1,(decF l).2.1.toNat+w.2.1,w.2.2) else ([],0,(decF l).2.2)
theorem zbvb {l:List Int} (hb:isB l) (h:(decF l).2.2=0):5<=(decF l).2.1/\(decF l).2.1.toNat<=l.length:=by
 generalize hr:decF l=r at h
 obtain ⟨x,n,e⟩:=r
 simp only at h;subst h
 obtain ⟨k1,k2,k3,k4,k5⟩:=zbur hb hr
 exact ⟨k4,k3⟩
/-- A loop over frames, whoever decodes. -/
theorem zbvc {D:Nat->Sl Int->Option (Ow Int×Int×Int)} {W:Nat->Bool->List Int->Int->Bool->List (Sl Int)->Option (Ow (Sl Int)×Int×Int)}
  (hW: ∀q z L i z2 h,W (q+1) z L i z2 h=if i<(L.length:Int) then (if 0<=i then (if i<=(L.length:Int) then ((D q ⟨z,(List.drop i.toNat L)⟩).bind fun r1=>(if r1.2.2=0 then (if (h.length+1)<=4294967296 then (W q z L (wrp .i64 (i+r1.2.1)) false (h++[⟨r1.1.n,r1.1.xs⟩])) else none) else (some (⟨z2,true,h⟩,i,r1.2.2)))) else none) else none) else (some (⟨z2,true,h⟩,i,0)))
  (z:Bool) (L:List Int) (hb:isB L) (hL:L.length<=4294967296)
  (hD: ∀i:Nat,i<L.length-> ∃z',Ev (fun q=>D q ⟨z,L.drop i⟩) (⟨z',true,(decF (L.drop i)).1⟩,(decF (L.drop i)).2.1,(decF (L.drop i)).2.2)):
  ∀(f i:Nat) (z2:Bool) (h:List (Sl Int)),i<=L.length->L.length - i<f->h.length<=i-> ∃z3 X,Ev (fun q=>W q z L (i:Int) z2 h) (⟨z3,true,h++X⟩,((i+(walkF f (L.drop i)).2.1:Nat):Int),(walkF f (L.drop i)).2.2)/\X.map (·.l)=(walkF f (L.drop i)).1
 | 0,i,z2,h,hi,hf,hh=>by omega
 | f +1,i,z2,h,hi,hf,hh=>by
  by_cases hlt:i<L.length
  ·have hne:L.drop i≠[]:=by intro e;have:=congrArg List.length e;simp at this;omega
   obtain ⟨z',hd⟩:=hD i hlt
   simp only [walkF]
   rw [if_neg hne]
   by_cases he:(decF (L.drop i)).2.2=0
   ·rw [if_pos he]
    obtain ⟨k1,k2⟩:=zbvb (zbul hb i) he
    rw [y13] at k2
    obtain ⟨z3,X,hx,hm⟩:=zbvc hW z L hb hL hD f (i+(decF (L.drop i)).2.1.toNat) false (h++[⟨z',(decF (L.drop i)).1⟩]) (by omega) (by omega) (by simp;omega)
    rw [<- y50] at hx hm
    refine ⟨z3,⟨z',(decF (L.drop i)).1⟩::X,?_,?_⟩
    ·refine Ev.succ (Ev.po (Ev.po (Ev.po (Ev.bind hd (Ev.pos he (Ev.pos (by omega) ?_)))))) (fun q=>hW q _ _ _ _ _)
     have wi:wrp .i64 ((i:Int)+(decF (L.drop i)).2.1)=((i+(decF (L.drop i)).2.1.toNat:Nat):Int):=by
      rw [zbsa (by omega) (by omega)];omega
     simp only [wi]
     refine hx.cast ?_
     simp only [y33,List.cons_append,y47,y57]
    ·simp [hm]
   ·rw [if_neg he]
    refine ⟨z2,[],Ev.succ (Ev.po (Ev.po (Ev.po (Ev.bind hd (Ev.neg he (Ev.ret' (by simp))))))) (fun q=>hW q _ _ _ _ _),rfl⟩
  ·rw [y12 (by omega)]
   simp only [walkF,if_true]
   exact ⟨z2,[],Ev.succ (Ev.ne (Ev.ret' (by simp))) (fun q=>hW q _ _ _ _ _),rfl⟩
def allF (l:List Int):List (List Int)×Nat×Int:=walkF (l.length+1) l
theorem zbvd (s:Sl Int) (hz:s.z=true->s.l=[]) (hb:isB s.l) (hl:s.l.length<=4294967296): ∃z X,Ev (fun q=>zm8 q s) (⟨z,true,X⟩,(((allF s.l).2.1:Nat):Int),(allF s.l).2.2)/\X.map (·.l)=(allF s.l).1:=by
 obtain ⟨z,X,h,hm⟩:=zbvc (D:=fun q s=>zm1 q s) (W:=zm7) (fun q z L i z2 h=>rfl) s.z s.l hb hl (fun i hi=>zbum ⟨s.z,s.l.drop i⟩ (fun h=>by rw [hz h];simp) (zbul hb i) (by simp;omega)) (s.l.length+1) 0 true [] (by omega) (by omega) (by simp)
 rw [y38] at h hm
 refine ⟨z,X,Ev.su h |>.cast ?_,hm⟩
 simp [allF]
theorem zbve (s:Sl Int) (hb:isB s.l) (hl:s.l.length<=4294967296): ∃z X,Ev (fun q=>zo5 q s) (⟨z,true,X⟩,(((allF s.l).2.1:Nat):Int),(allF s.l).2.2)/\X.map (·.l)=(allF s.l).1:=by
 obtain ⟨z,X,h,hm⟩:=zbvc (D:=fun q s=>zo3 q s) (W:=zo4) (fun q z L i z2 h=>rfl) s.z s.l hb hl (fun i hi=>zbva ⟨s.z,s.l.drop i⟩ (zbul hb i) (by simp;omega)) (s.l.length+1) 0 true [] (by omega) (by omega) (by simp)
 rw [y38] at h hm
 refine ⟨z,X,Ev.su h |>.cast ?_,hm⟩
 simp [allF]
def allE (l:List Int):List (List Int)×Int:=if (allF l).2.2=0 then ((allF l).1,0) else ([],(allF l).2.2)
theorem zbvf (s:Sl Int) (hz:s.z=true->s.l=[]) (hb:isB s.l) (hl:s.l.length<=4294967296): ∃z X,Ev (fun q=>zm9 q s) (⟨z,true,X⟩,(allE s.l).2)/\X.map (·.l)=(allE s.l).1:=by
 obtain ⟨z,X,h,hm⟩:=zbvd s hz hb hl
 unfold allE
 by_cases he:(allF s.l).2.2=0
 ·rw [if_pos he];exact ⟨z,X,Ev.su (Ev.bind h (Ev.pos he (Ev.ret _))),hm⟩
 ·rw [if_neg he];exact ⟨true,[],Ev.su (Ev.bind h (Ev.neg he (Ev.ret _))),rfl⟩
theorem zbvg (s:Sl Int) (hb:isB s.l) (hl:s.l.length<=4294967296): ∃z X,Ev (fun q=>zo6 q s) (⟨z,true,X⟩,(allE s.l).2)/\X.map (·.l)=(allE s.l).1:=by
 obtain ⟨z,X,h,hm⟩:=zbve s hb hl
 unfold allE
 by_cases he:(allF s.l).2.2=0
 ·rw [if_pos he];exact ⟨z,X,Ev.su (Ev.bind h (Ev.pos he (Ev.ret _))),hm⟩
 ·rw [if_neg he];exact ⟨true,[],Ev.su (Ev.bind h (Ev.neg he (Ev.ret _))),rfl⟩
theorem zbvh: ∀{f:Nat} {l:List Int},isB l->(walkF f l).1.length<=l.length
 | 0,l,hb=>by simp [walkF]
 | f+1,l,hb=>by
  simp only [walkF]
  split
  ·simp
  ·split
   ·rename_i h1 h2
    obtain ⟨k1,k2⟩:=zbvb hb h2
    have:=zbvh (f:=f) (zbul hb (decF l).2.1.toNat)
    simp only [y21]
    rw [y13] at this
    omega
   ·simp
def BB (D:List (List Int)):List Int:=D.flatMap encF
theorem zbvi (d:List Int) (D:List (List Int)):BB (d::D)=encF d++BB D:=by simp [BB]
def zag (u:Nat):Int:=if u % 2=0 then ((u / 2:Nat):Int) else -((u / 2:Nat):Int) - 1
theorem zbvj (u:Nat):zig (zag u)=u:=by unfold zag zig;split<;>split<;>omega
theorem ixor0 {x:Int} (h1:0<=x) (h2:x<9223372036854775808):ibits .xor .i64 x 0=x:=by
 have e:ibits .xor .i64 x 0=IntKind.wrap .i64 (((BitVec.ofInt 64 x ^^^ 0#64:BitVec 64).toNat:Nat):Int):=by unfold ibits;rfl
 rw [e,BitVec.xor_zero,y49,zbsl,zbsa]<;>omega
theorem zbvk {x:Int} (h1:9223372036854775808<=x) (h2:x<18446744073709551616):wrp .i64 x=x - 18446744073709551616:=by
 unfold wrp;simp [IntKind.wrap,IntKind.min,IntKind.max,IntKind.signed,IntKind.bits]<;>omega
theorem ixor1 {x:Int} (h1:0<=x) (h2:x<9223372036854775808):ibits .xor .i64 x (-1)= -x - 1:=by
 have e:ibits .xor .i64 x (-1)=IntKind.wrap .i64 (((BitVec.ofInt 64 x ^^^ BitVec.allOnes 64:BitVec 64).toNat:Nat):Int):=by unfold ibits;rfl
 rw [e,BitVec.xor_allOnes,BitVec.toNat_not,y49,zbsl,zbvk]<;>omega
theorem and1u {u:Nat} (h:u<18446744073709551616):ibits .and .u64 (u:Int) 1=((u % 2:Nat):Int):=by
 have e:ibits .and .u64 (u:Int) 1=IntKind.wrap .u64 (((BitVec.ofInt 64 (u:Int) &&& 1#64:BitVec 64).toNat:Nat):Int):=by unfold ibits;rfl
 have e1:(BitVec.ofInt 64 (u:Int)).toNat=u:=by rw [y49];omega
 rw [e,BitVec.toNat_and,e1,show (1#64:BitVec 64).toNat=1 from rfl,Nat.and_one_is_mod,zbsl,zbsb (by omega) (by omega)]
theorem ishr1 {x:Int} (h1:0<=x):ishr .u64 x 1=x / 2:=by
 unfold ishr;simp [IntKind.bits]
 rw [y54];omega
theorem zbvl {u:Nat} (h:u<18446744073709551616):Ev (fun q=>zm2 q (u:Int)) (zag u):=by
 refine Ev.su (Ev.ret' ?_)
 rw [ishr1 (by omega),and1u h,zbsa (by omega) (by omega)]
 unfold zag
 split
 ·rename_i e
  rw [e,show wrp .i64 ((0:Nat):Int)=0 from zbsa (by omega) (by omega),show wrp .i64 (0 - 0)=0 from zbsa (by omega) (by omega),ixor0 (by omega) (by omega)];omega
 ·rename_i e
  rw [show u % 2=1 by omega,show wrp .i64 ((1:Nat):Int)=1 from zbsa (by omega) (by omega),show wrp .i64 (0 - 1)= -1 from zbsa (by omega) (by omega),ixor1 (by omega) (by omega)];omega
theorem rd_lt: ∀{l:List Int} {i:Nat} {p:Nat×Nat},isB l->i<=9->rd i l=some p->p.1<2 ^ (64 - 7*i)
 | [],i,p,hb,hi,h=>by simp [rd] at h
 | c :: l,i,p,hb,hi,h=>by
  obtain ⟨b1,b2⟩:=hb c y32
  simp only [rd] at h
  split at h
  ·cases h
  ·split at h
   ·cases h
   ·rename_i h9
    split at h
    ·cases h
    ·split at h
     ·simp at h;subst h
      simp only
      by_cases e:i=9
      ·subst e;simp;omega
      ·have:2 ^ 7<=2 ^ (64 - 7*i):=Nat.pow_le_pow_right (by omega) (by omega)
       omega
     ·cases hr:rd (i+1) l with
      | none=>simp [hr] at h
      | some r=>
       simp [hr] at h;subst h
       by_cases e:i=9
       ·exfalso;subst e;exact h9 ⟨rfl,by omega⟩
       ·have:=rd_lt (fun c hc=>hb c (y36 _ hc)) (by omega) hr
        have e2:2 ^ (64 - 7*i)=128*2 ^ (64 - 7*(i+1)):=by rw [show 64 - 7*i=7+(64 - 7*(i+1)) by omega,Nat.pow_add]
        simp only
        rw [e2];omega
def getS (l:List Int):Int×Int:=match rd 0 l with
 | none=>(0,0)
 | some p=>(zag p.1,(p.2:Int))
theorem zbvm (s:Sl Int) (hb:isB s.l):Ev (fun q=>zm3 q s) (getS s.l):=by
 refine Ev.su (Ev.bind (zbuc s hb) ?_)
 unfold getS
 cases h:rd 0 s.l with
 | none=>exact Ev.pos (by simp [resN]) (Ev.ret _)
 | some p=>
  have h1:=rd_len h
  have h2:=rd_lt hb (by omega) h
  simp only [resN]
  exact Ev.neg (by simp;omega) (Ev.bind (zbvl (by simpa using h2)) (Ev.ret _))
theorem zbvn {l:List Int}:0<=(getS l).2/\(getS l).2<=l.length/\(getS l).2<=10:=by
 unfold getS
 cases h:rd 0 l with
 | none=>simp
 | some p=>
  have:=rd_len h
  simp only;omega
/-- The operation that bytes begin with. -/
def getO (l:List Int):zkp×Int:=
 let x:=getN l
 let y:=getS (l.drop x.2.toNat)
 let z:=getS ((l.drop x.2.toNat).drop y.2.toNat)
 if 0<x.2/\0<y.2/\0<z.2/\fitsOp ⟨x.1,y.1,z.1⟩=true then (⟨x.1,y.1,z.1⟩,x.2+y.2+z.2) else (⟨0,0,0⟩,0)
theorem isB_dr {l:List Int} (h:isB l) (n:Nat):isB (l.drop n):=fun c hc=>h c (y53 hc)
theorem zbvo (s:Sl Int) (hb:isB s.l) (hl:s.l.length<=4294967296):Ev (fun q=>znb q s) (getO s.l):=by
 have hx:=zbue (l:=s.l)
 have hy:=zbvn (l:=s.l.drop (getN s.l).2.toNat)
 have hz:=zbvn (l:=(s.l.drop (getN s.l).2.toNat).drop (getS (s.l.drop (getN s.l).2.toNat)).2.toNat)
 simp only [y13] at hy hz
 refine Ev.su (Ev.bind (zbud s hb) (Ev.pos hx.1 (Ev.pos hx.2.1 (Ev.bind (zbvm _ (isB_dr hb _)) ?_))))
 unfold getO
 refine Ev.ite (fun h1=>Ev.pos hy.1 (Ev.pos hy.2.1 (Ev.bind (zbvm _ (isB_dr (isB_dr hb _) _)) ?_))) fun h1=>Ev.pos hy.1 (Ev.pos hy.2.1 (Ev.bind (zbvm _ (isB_dr (isB_dr hb _) _)) ?_))
 ·refine Ev.ite (fun h2=>Ev.pos hz.1 (Ev.pos hz.2.1 ?_)) fun h2=>Ev.pos hz.1 (Ev.pos hz.2.1 ?_)
  ·refine Ev.ite (fun h3=>Ev.bind (zbsr _) (Ev.ite (fun h4=>Ev.ret' ?_) fun h4=>Ev.ret' ?_)) fun h3=>Ev.ret' ?_
   ·rw [if_pos ⟨h1,h2,h3,h4⟩,zbsa (by omega) (by omega)]
    congr 1;dsimp only;dsimp only at h1 h2 h3;omega
   ·rw [if_neg (fun h=>h4 h.2.2.2)]
   ·rw [if_neg (fun h=>h3 h.2.2.1)]
  ·refine Ev.ret' ?_
   rw [if_neg (fun h=>h2 h.2.1)]
 ·refine Ev.pos hz.1 (Ev.pos hz.2.1 (Ev.ret' ?_))
  rw [if_neg (fun h=>h1 h.1)]
theorem zbvp {l:List Int}:0<=(getO l).2/\(getO l).2<=l.length/\(getO l).2<=30:=by
 have hx:=zbue (l:=l)
 have hy:=zbvn (l:=l.drop (getN l).2.toNat)
 have hz:=zbvn (l:=(l.drop (getN l).2.toNat).drop (getS (l.drop (getN l).2.toNat)).2.toNat)
 simp only [y13] at hy hz
 simp only [getO]
 split
 ·simp only;omega
 ·simp
/-- How many bytes a strange field has. -/
def passN (l:List Int):Int:=if (getN l).2=0 then 0 else if (l.length:Int) - (getN l).2<(getN l).1 then 0 else (getN l).2+(getN l).1
theorem zbvq (s:Sl Int) (hb:isB s.l) (hl:s.l.length<=4294967296):Ev (fun q=>znr q s) (passN s.l):=by
 have hx:=zbue (l:=s.l)
 refine Ev.su (Ev.bind (zbud s hb) ?_)
 unfold passN
 refine Ev.ite (fun h=>?_) fun h=>?_
 ·rw [if_pos h];exact Ev.ret _
 ·rw [if_neg h]
  have hw:wrp .i64 ((s.l.length:Int) - (getN s.l).2)=(s.l.length:Int) - (getN s.l).2:=zbsa (by omega) (by omega)
  refine Ev.ite (fun h2=>?_) fun h2=>?_
  ·rw [hw] at h2;rw [if_pos h2];exact Ev.ret _
  ·rw [hw] at h2;rw [if_neg h2,zbsa (by omega) (by omega)];exact Ev.ret _
theorem zbvr {l:List Int}:0<=passN l/\passN l<=l.length:=by
 have hx:=zbue (l:=l)
 unfold passN
 split
 ·simp
 ·split
  ·simp
  ·omega
theorem zbvs (s:Sl Int) (hz:s.z=false) (hl:s.l.length<=4294967296):Ev (fun q=>zle q s) ⟨false,true,s.l⟩:=
 Ev.su (Ev.neg (by simp [hz]) (Ev.pos hl (Ev.ret _)))
theorem zbvt {l:List Int} {i:Int} (h0:0<=i) (h1:i<l.length) (hl:l.length<=1000000):Ev (fun q=>zlf q ⟨false,true,l⟩ i (i+1)) ⟨false,true,l.eraseIdx i.toNat⟩:=by
 have ht:(i+1).toNat=i.toNat+1:=by omega
 refine Ev.su ?_
 refine Ev.pos h0 ?_
 refine Ev.pos (by omega) ?_
 refine Ev.pos (by simp only;omega) ?_
 refine Ev.neg (by omega) ?_
 refine Ev.pos (by simp only;omega) ?_
 refine Ev.neg (by simp) ?_
 refine Ev.pos (by omega) ?_
 refine Ev.pos (by simp only;omega) ?_
 refine Ev.pos (by simp only;omega) ?_
 refine Ev.pos rfl ?_
 refine Ev.pos (by simp only;omega) ?_
 refine Ev.pos (by simp only;omega) ?_
 refine Ev.ret' ?_
 congr 1
 simp only [ht]
 have hm:(l.take i.toNat).length=i.toNat:=by simp;omega
 have hd:(l.drop (i.toNat+1)).length=l.length - (i.toNat+1):=by simp
 rw [List.eraseIdx_eq_take_drop_succ]
 generalize l.take i.toNat=A at*
 generalize l.drop (i.toNat+1)=B at*
 have hAB:i.toNat+(l.length - (i.toNat+1))=(A++B).length:=by simp;omega
 rw [hAB]
 have e1: ∀C:List Int,List.take (A++B).length (A++B++C)=A++B:=fun C=>List.take_left' rfl
 rw [e1,y33,e1]
theorem zbvu (x:Int): ∀(l:List Int) (i:Nat),x∈l->idxI x l i=(i:Int)+idxI x l 0/\idxI x l i<i+l.length
 | [],i,h=>by simp at h
 | a::l,i,h=>by
  simp only [idxI]
  by_cases e:x=a
  ·rw [if_pos e,if_pos e];simp;omega
  ·rw [if_neg e,if_neg e]
   have hm:x∈l:=by
    rcases List.mem_cons.1 h with h | h
    ·exact absurd h e
    ·exact h
   have h1:=zbvu x l (i+1) hm
   have h2:=zbvu x l (0+1) hm
   simp only [y21]
   omega
theorem zbvv (x:Int): ∀(l:List Int),x∈l->l.eraseIdx (idxI x l 0).toNat=l.erase x
 | [],h=>by simp at h
 | a::l,h=>by
  simp only [idxI]
  by_cases e:x=a
  ·rw [if_pos e];subst e;simp
  ·rw [if_neg e]
   have hm:x∈l:=by
    rcases List.mem_cons.1 h with h | h
    ·exact absurd h e
    ·exact h
   have h2:=zbvu x l (0+1) hm
   have h3:=(zbs4 (x:=x) (l:=l) (i:=0)).2 hm
   rw [show (idxI x l (0+1)).toNat=(idxI x l 0).toNat+1 by omega,List.eraseIdx_cons_succ,zbvv x l hm,List.erase_cons_tail (by simpa using fun h=>e h.symm)]
/-- A field's value, taken into a record. -/
def rdVal (f:Int) (r:zkq) (b:List Int):zkq×Int:=
 if f=1 then (⟨(getN b).1,r.Proc,r.Seq,r.Op,r.Resp⟩,(getN b).2)
 else if f=2 then (⟨r.Index,(getN b).1,r.Seq,r.Op,r.Resp⟩,(getN b).2)
 else if f=3 then (⟨r.Index,r.Proc,(getN b).1,r.Op,r.Resp⟩,(getN b).2)
 else if f=4 then (⟨r.Index,r.Proc,r.Seq,(getO b).1,r.Resp⟩,(getO b).2)
 else (⟨r.Index,r.Proc,r.Seq,r.Op,(getS b).1⟩,(getS b).2)
theorem zbvw (f:Int) (r:zkq) (b:List Int):0<=(rdVal f r b).2/\(rdVal f r b).2<=b.length:=by
 have h1:=zbue (l:=b)
 have h2:=zbvp (l:=b)
 have h3:=zbvn (l:=b)
 unfold rdVal
 split
 ·exact ⟨h1.1,h1.2.1⟩
 ·split
  ·exact ⟨h1.1,h1.2.1⟩
  ·split
   ·exact ⟨h1.1,h1.2.1⟩
   ·split
    ·exact ⟨h2.1,h2.2.1⟩
    ·exact ⟨h3.1,h3.2.1⟩
/-- The fields of bytes. -/
def rdR (v:Int):Nat->List Int->Int->zkq->List Int->zkq×Int
 | 0,_,_,r,_=>(r,3)
 | k+1,b,last,r,l=>
  if b.length=0 then (if l.length=0 then (if FitsR r then (r,0) else (r,1)) else (r,7))
  else if (getN b).2=0\/(getN b).1<=last then (r,3)
  else if (getN b).1∈l then
   (if (rdVal (getN b).1 r (b.drop (getN b).2.toNat)).2=0 then ((rdVal (getN b).1 r (b.drop (getN b).2.toNat)).1,3)
   else rdR v k ((b.drop (getN b).2.toNat).drop (rdVal (getN b).1 r (b.drop (getN b).2.toNat)).2.toNat) (getN b).1 (rdVal (getN b).1 r (b.drop (getN b).2.toNat)).1 (l.erase (getN b).1))
  else if (getN b).1<16\/v=3 then (r,7)
  else if passN (b.drop (getN b).2.toNat)=0 then (r,3)
  else rdR v k ((b.drop (getN b).2.toNat).drop (passN (b.drop (getN b).2.toNat)).toNat) (getN b).1 r l
theorem zbvx (v:Int) (z:Bool): ∀(k:Nat) (b:List Int) (last:Int) (r:zkq) (l:List Int),b.length<k->isB b->b.length<=4294967296->l.length<=1000000->(∀f∈l,1<=f/\f<=5)->
  Ev (fun q=>zns q v z b last r.Index r.Proc r.Seq r.Op.Code r.Op.A r.Op.B r.Resp false l true) (rdR v k b last r l)
 | 0,b,last,r,l,hk,hb,hl,hll,hf=>by omega
 | k +1,b,last,r,l,hk,hb,hl,hll,hf=>by
  refine Ev.su ?_
  simp only [rdR]
  refine Ev.ite (fun h0=>?_) fun h0=>?_
  ·rw [if_neg (by omega)]
   have hg:=zbue (l:=b)
   refine Ev.bind (zbud ⟨z,b⟩ hb) ?_
   have hb1:=isB_dr hb (getN b).2.toNat
   have hl1:(b.drop (getN b).2.toNat).length=b.length - (getN b).2.toNat:=by simp
   refine Ev.ite (fun h1=>?_) fun h1=>Ev.ite (fun h2=>?_) fun h2=>Ev.pos hg.1 (Ev.pos hg.2.1 (Ev.bind (zbs6 ⟨false,l⟩ (getN b).1 hll) ?_))
   ·rw [if_pos (.inl h1)];exact Ev.ret _
   ·rw [if_pos (.inr h2)];exact Ev.ret _
   ·rw [if_neg (by rintro (h | h)<;>contradiction)]
    dsimp only at h1 h2 ⊢
    refine Ev.ite (fun h3=>?_) fun h3=>?_
    ·have hm:=(zbs4 (x:=(getN b).1)).1 h3
     have hsh:=zbvu (getN b).1 l 0 hm
     have hfm:=hf _ hm
     rw [if_pos hm,show wrp .i64 (idxI (getN b).1 l 0+1)=idxI (getN b).1 l 0+1 from zbsa (by omega) (by omega)]
     refine Ev.bind (zbvt h3 (by omega) hll) ?_
     rw [zbvv _ _ hm]
     have hle:=List.length_erase_le (a:=(getN b).1) (l:=l)
     have hfe: ∀f∈l.erase (getN b).1,1<=f/\f<=5:=fun f h=>hf f (List.mem_of_mem_erase h)
     generalize l.erase (getN b).1=l' at*
     generalize hB:b.drop (getN b).2.toNat=B at*
     have hB2:B.length<k:=by omega
     refine Ev.ite (fun e=>?_) fun e=>Ev.ite (fun e2=>?_) fun e2=>Ev.ite (fun e3=>?_) fun e3=>Ev.ite (fun e4=>?_) fun e4=>Ev.pos (by omega) ?_
     ·have hx:=zbue (l:=B)
      have hr:rdVal (getN b).1 r B=(⟨(getN B).1,r.Proc,r.Seq,r.Op,r.Resp⟩,(getN B).2):=by rw [rdVal,if_pos e]
      rw [hr]
      refine Ev.bind (zbud ⟨z,B⟩ hb1) (Ev.ite (fun h=>?_) fun h=>Ev.pos hx.1 (Ev.pos (by simp only [hl1] at hx ⊢;omega) ?_))
      ·rw [if_pos h];exact Ev.ret _
      ·rw [if_neg h];exact zbvx v z k (B.drop (getN B).2.toNat) (getN b).1 ⟨(getN B).1,r.Proc,r.Seq,r.Op,r.Resp⟩ l' (by simp;omega) (isB_dr hb1 _) (by simp;omega) (by omega) hfe
     ·have hx:=zbue (l:=B)
      have hr:rdVal (getN b).1 r B=(⟨r.Index,(getN B).1,r.Seq,r.Op,r.Resp⟩,(getN B).2):=by rw [rdVal,if_neg e,if_pos e2]
      rw [hr]
      refine Ev.bind (zbud ⟨z,B⟩ hb1) (Ev.ite (fun h=>?_) fun h=>Ev.pos hx.1 (Ev.pos (by simp only [hl1] at hx ⊢;omega) ?_))
      ·rw [if_pos h];exact Ev.ret _
      ·rw [if_neg h];exact zbvx v z k (B.drop (getN B).2.toNat) (getN b).1 ⟨r.Index,(getN B).1,r.Seq,r.Op,r.Resp⟩ l' (by simp;omega) (isB_dr hb1 _) (by simp;omega) (by omega) hfe
     ·have hx:=zbue (l:=B)
      have hr:rdVal (getN b).1 r B=(⟨r.Index,r.Proc,(getN B).1,r.Op,r.Resp⟩,(getN B).2):=by rw [rdVal,if_neg e,if_neg e2,if_pos e3]
      rw [hr]
      refine Ev.bind (zbud ⟨z,B⟩ hb1) (Ev.ite (fun h=>?_) fun h=>Ev.pos hx.1 (Ev.pos (by simp only [hl1] at hx ⊢;omega) ?_))
      ·rw [if_pos h];exact Ev.ret _
      ·rw [if_neg h];exact zbvx v z k (B.drop (getN B).2.toNat) (getN b).1 ⟨r.Index,r.Proc,(getN B).1,r.Op,r.Resp⟩ l' (by simp;omega) (isB_dr hb1 _) (by simp;omega) (by omega) hfe
     ·have hx:=zbvp (l:=B)
      have hr:rdVal (getN b).1 r B=(⟨r.Index,r.Proc,r.Seq,(getO B).1,r.Resp⟩,(getO B).2):=by rw [rdVal,if_neg e,if_neg e2,if_neg e3,if_pos e4]
      rw [hr]
      refine Ev.bind (zbvo ⟨z,B⟩ hb1 (by simp only;omega)) (Ev.ite (fun h=>?_) fun h=>Ev.pos hx.1 (Ev.pos (by simp only [hl1] at hx ⊢;omega) ?_))
      ·rw [if_pos h];exact Ev.ret _
      ·rw [if_neg h];exact zbvx v z k (B.drop (getO B).2.toNat) (getN b).1 ⟨r.Index,r.Proc,r.Seq,(getO B).1,r.Resp⟩ l' (by simp;omega) (isB_dr hb1 _) (by simp;omega) (by omega) hfe
     ·have hx:=zbvn (l:=B)
      have hr:rdVal (getN b).1 r B=(⟨r.Index,r.Proc,r.Seq,r.Op,(getS B).1⟩,(getS B).2):=by rw [rdVal,if_neg e,if_neg e2,if_neg e3,if_neg e4]
      rw [hr]
      refine Ev.bind (zbvm ⟨z,B⟩ hb1) (Ev.ite (fun h=>?_) fun h=>Ev.pos hx.1 (Ev.pos (by simp only [hl1] at hx ⊢;omega) ?_))
      ·rw [if_pos h];exact Ev.ret _
      ·rw [if_neg h];exact zbvx v z k (B.drop (getS B).2.toNat) (getN b).1 ⟨r.Index,r.Proc,r.Seq,r.Op,(getS B).1⟩ l' (by simp;omega) (isB_dr hb1 _) (by simp;omega) (by omega) hfe
    ·have hm: ¬(getN b).1∈l:=fun h=>h3 (zbs4.2 h)
     rw [if_neg hm]
     generalize hB:b.drop (getN b).2.toNat=B at*
     have hx:=zbvr (l:=B)
     refine Ev.ite (fun e=>?_) fun e=>Ev.ite (fun e2=>?_) fun e2=>Ev.bind (zbvq ⟨z,B⟩ hb1 (by simp only;omega)) (Ev.ite (fun h=>?_) fun h=>Ev.pos hx.1 (Ev.pos (by dsimp only;omega) ?_))
     ·rw [if_pos (.inl e)];exact Ev.ret _
     ·rw [if_pos (.inr e2)];exact Ev.ret _
     ·rw [if_neg (by rintro (h | h)<;>contradiction),if_pos h];exact Ev.ret _
     ·rw [if_neg (by rintro (h | h)<;>contradiction),if_neg h]
      exact zbvx v z k (B.drop (passN B).toNat) (getN b).1 r l (by simp;omega) (isB_dr hb1 _) (by simp;omega) hll hf
  ·rw [if_pos (by omega)]
   refine Ev.ite (fun h1=>?_) fun h1=>Ev.bind (zbsv r) ?_
   ·rw [if_neg (by omega)];exact Ev.ret _
   ·rw [if_pos (show l.length=0 by omega)]
    refine Ev.ite (fun h=>?_) fun h=>?_
    ·rw [if_pos (by simpa using h)];exact Ev.ret _
    ·rw [if_neg (by simpa using h)];exact Ev.ret _
/-- The record of bytes. -/
def decR (b:List Int):zkq×Int:=
 if b.length=0 then (noR,2) else if (getN b).2=0 then (noR,3) else if (getN b).1<1\/3<(getN b).1 then (noR,6)
 else if (rdR (getN b).1 (b.length+1) (b.drop (getN b).2.toNat) (-1) noR (fieldsOf (getN b).1)).2=0 then ((rdR (getN b).1 (b.length+1) (b.drop (getN b).2.toNat) (-1) noR (fieldsOf (getN b).1)).1,0)
 else (noR,(rdR (getN b).1 (b.length+1) (b.drop (getN b).2.toNat) (-1) noR (fieldsOf (getN b).1)).2)
theorem zbvy (s:Sl Int) (hb:isB s.l) (hl:s.l.length<=4294967296):Ev (fun q=>znu q s) (decR s.l):=by
 refine Ev.su ?_
 unfold decR
 refine Ev.ite (fun h=>?_) fun h=>?_
 ·rw [if_pos (by omega)];exact Ev.ret _
 ·rw [if_neg (by omega)]
  have hg:=zbue (l:=s.l)
  refine Ev.bind (zbud s hb) (Ev.ite (fun h1=>?_) fun h1=>?_)
  ·rw [if_pos h1];exact Ev.ret _
  ·rw [if_neg h1]
   by_cases hv:(getN s.l).1<1\/3<(getN s.l).1
   ·rw [if_pos hv];exact Ev.bind (zbs1 hv) (Ev.pos rfl (Ev.ret _))
   ·rw [if_neg hv]
    have hm:=zbs3 (v:=(getN s.l).1)
    refine Ev.bind (zbs2 (by omega) (by omega)) (Ev.neg (by simp) (Ev.pos hg.1 (Ev.pos hg.2.1 ?_)))
    have hr:Ev (fun q=>znt q (getN s.l).1 ⟨s.z,s.l.drop (getN s.l).2.toNat⟩) (rdR (getN s.l).1 (s.l.length+1) (s.l.drop (getN s.l).2.toNat) (-1) noR (fieldsOf (getN s.l).1)):=by
     refine Ev.su (Ev.bind (zbs2 (by omega) (by omega)) (Ev.bind (zbvs ⟨false,fieldsOf (getN s.l).1⟩ rfl (by simp only;omega)) ?_))
     exact zbvx (getN s.l).1 s.z (s.l.length+1) (s.l.drop (getN s.l).2.toNat) (-1) noR (fieldsOf (getN s.l).1) (by simp;omega) (isB_dr hb _) (by simp;omega) (by omega) hm.1
    refine Ev.bind hr (Ev.ite (fun h=>?_) fun h=>?_)
    ·rw [if_pos h];exact Ev.ret _
    ·rw [if_neg h];exact Ev.ret _
theorem zbvz {u:Nat} (h:u<18446744073709551616):Ev (fun q=>zo8 q (u:Int)) (zag u):=by
 have e1:Int.tmod (u:Int) 2=((u % 2:Nat):Int):=by rw [y61 (by omega)];omega
 have e2:Int.tdiv (u:Int) 2=((u / 2:Nat):Int):=by rw [Int.tdiv_eq_ediv_of_nonneg (by omega)];omega
 have e3:wrp .i64 (wrp .u64 ((u / 2:Nat):Int))=((u / 2:Nat):Int):=by rw [zbsb (by omega) (by omega),zbsa (by omega) (by omega)]
 refine Ev.succ (g:=fun _=>if (Int.tmod (u:Int) 2)=0 then (some (wrp .i64 (wrp .u64 (Int.tdiv (u:Int) 2)))) else (some (wrp .i64 ((wrp .i64 (0 - (wrp .i64 (wrp .u64 (Int.tdiv (u:Int) 2))))) - 1)))) ?_ (fun q=>rfl)
 simp only [e1,e2,e3]
 unfold zag
 refine Ev.ite (fun h=>Ev.ret' ?_) fun h=>Ev.ret' ?_
 ·rw [if_pos (by omega)]
 ·rw [if_neg (by omega),zbsa (x:=0 - ((u / 2:Nat):Int)) (by omega) (by omega),zbsa (by omega) (by omega)];omega
theorem zbv0 (s:Sl Int) (hb:isB s.l) (hL:s.l.length<=1099511627776):Ev (fun q=>zo9 q s) (getS s.l):=by
 refine Ev.su (Ev.bind (zbu4 s hb hL) ?_)
 unfold getS
 cases h:rd 0 s.l with
 | none=>exact Ev.pos (by simp [resN]) (Ev.ret _)
 | some p=>
  have h1:=rd_len h
  have h2:=rd_lt hb (by omega) h
  simp only [resN]
  exact Ev.neg (by simp;omega) (Ev.bind (zbvz (by simpa using h2)) (Ev.ret _))
theorem zbv1 (s:Sl Int) (hb:isB s.l) (hl:s.l.length<=4294967296):Ev (fun q=>zpb q s) (getO s.l):=by
 have hx:=zbue (l:=s.l)
 have hy:=zbvn (l:=s.l.drop (getN s.l).2.toNat)
 have hz:=zbvn (l:=(s.l.drop (getN s.l).2.toNat).drop (getS (s.l.drop (getN s.l).2.toNat)).2.toNat)
 simp only [y13] at hy hz
 have hw:wrp .i64 ((getN s.l).2+(getS (s.l.drop (getN s.l).2.toNat)).2)=(getN s.l).2+(getS (s.l.drop (getN s.l).2.toNat)).2:=zbsa (by omega) (by omega)
 have hdd:s.l.drop ((getN s.l).2+(getS (s.l.drop (getN s.l).2.toNat)).2).toNat=(s.l.drop (getN s.l).2.toNat).drop (getS (s.l.drop (getN s.l).2.toNat)).2.toNat:=by
  rw [y50];congr 1;omega
 refine Ev.su (Ev.bind (zbu5 s hb (by omega)) (Ev.pos hx.1 (Ev.pos hx.2.1 (Ev.bind (zbv0 _ (isB_dr hb _) (by simp only [y13];omega)) ?_))))
 simp only [hw,hdd]
 refine Ev.po (Ev.po (Ev.bind (zbv0 _ (isB_dr (isB_dr hb _) _) (by simp only [y13];omega)) (Ev.bind (zbss _) ?_)))
 simp only [getO]
 refine Ev.ite (fun h=>?_) fun h=>Ev.ite (fun h2=>?_) fun h2=>Ev.ite (fun h3=>?_) fun h3=>Ev.ite (fun h4=>?_) fun h4=>?_
 ·rw [if_neg (by omega)];exact Ev.ret _
 ·rw [if_neg (by omega)];exact Ev.ret _
 ·rw [if_neg (by omega)];exact Ev.ret _
 ·rw [if_pos ⟨by omega,by omega,by omega,h4⟩,zbsa (by omega) (by omega)];exact Ev.ret _
 ·rw [if_neg (fun h=>h4 h.2.2.2)];exact Ev.ret _
theorem zbv2 {f:Int} {r:zkq} (s:Sl Int) (hb:isB s.l) (hl:s.l.length<=4294967296) (f1:1<=f) (f5:f<=5):Ev (fun q=>zpc q r f s) (rdVal f r s.l):=by
 refine Ev.su (Ev.bind (zbu5 s hb (by omega)) ?_)
 unfold rdVal
 refine Ev.ite (fun e=>?_) fun e=>Ev.ite (fun e2=>?_) fun e2=>Ev.ite (fun e3=>?_) fun e3=>Ev.ite (fun e4=>?_) fun e4=>Ev.pos (by omega) ?_
 ·rw [if_pos e];exact Ev.ret _
 ·rw [if_neg e,if_pos e2];exact Ev.ret _
 ·rw [if_neg e,if_neg e2,if_pos e3];exact Ev.ret _
 ·rw [if_neg e,if_neg e2,if_neg e3,if_pos e4]
  exact Ev.bind (zbv1 s hb hl) (Ev.ret _)
 ·rw [if_neg e,if_neg e2,if_neg e3,if_neg e4]
  exact Ev.bind (zbv0 s hb (by omega)) (Ev.ret _)
def finR (x:zkq×Int):zkq×Int:=if x.2=0 then x else (noR,x.2)
theorem zbv3 {v f:Int}:hasB v f=true<->f=1\/f=2\/f=4\/(f=3/\2<=v)\/(f=5/\v=3):=by simp [hasB]
theorem zbv4 {v:Int} (z:Bool) (L:List Int) (hb:isB L) (hL:L.length<=4294967296) (v1:1<=v) (v3:v<=3): ∀(k:Nat) (at_:Nat) (last found:Int) (r:zkq) (l:List Int),L.length - at_<k->at_<=L.length->(∀f,last<f->(f∈l<->hasB v f=true))->found+l.length=v+2->0<=found->
  Ev (fun q=>zpe q z L v (at_:Int) last found r.Index r.Proc r.Seq r.Op.Code r.Op.A r.Op.B r.Resp) (finR (rdR v k (L.drop at_) last r l))
 | 0,at_,last,found,r,l,hk,ha,hf,hn,h0=>by omega
 | k + 1,at_,last,found,r,l,hk,ha,hf,hn,hn0=>by
  refine Ev.su ?_
  have hdl:(L.drop at_).length=L.length - at_:=by simp
  have hbd:=isB_dr hb at_
  simp only [rdR]
  refine Ev.ite (fun h0=>Ev.po (Ev.pos (by omega) ?_)) fun h0=>?_
  ·rw [if_neg (by omega)]
   simp only [y28]
   have hg:=zbue (l:=L.drop at_)
   refine Ev.bind (zbu5 ⟨z,L.drop at_⟩ hbd (by simp only [hdl];omega)) ?_
   have hw:wrp .i64 ((at_:Int)+(getN (L.drop at_)).2)=((at_+(getN (L.drop at_)).2.toNat:Nat):Int):=by rw [zbsa (by omega) (by omega)];omega
   have hdd:L.drop (at_+(getN (L.drop at_)).2.toNat)=(L.drop at_).drop (getN (L.drop at_)).2.toNat:=by rw [y50]
   refine Ev.ite (fun h1=>?_) fun h1=>Ev.ite (fun h2=>?_) fun h2=>Ev.bind (zbtd v (getN (L.drop at_)).1) ?_
   ·rw [if_pos (.inl h1)];exact Ev.ret _
   ·rw [if_pos (.inr h2)];exact Ev.ret _
   ·rw [if_neg (by rintro (h | h)<;>contradiction)]
    dsimp only at h1 h2 ⊢
    have hiff:=hf (getN (L.drop at_)).1 (by omega)
    simp only [hw,y28,hdd]
    have hb1:=isB_dr hbd (getN (L.drop at_)).2.toNat
    have hl1:((L.drop at_).drop (getN (L.drop at_)).2.toNat).length=L.length - at_ - (getN (L.drop at_)).2.toNat:=by simp;omega
    refine Ev.ite (fun h3=>?_) fun h3=>?_
    ·have hm:=hiff.2 h3
     rw [if_pos hm]
     have hfr:=zbv3.1 h3
     have hle:=List.length_erase_of_mem hm
     have hpos:0<l.length:=List.length_pos_of_mem hm
     have hvl:=zbvw (getN (L.drop at_)).1 r ((L.drop at_).drop (getN (L.drop at_)).2.toNat)
     refine Ev.po (Ev.po (Ev.bind (zbv2 ⟨z,(L.drop at_).drop (getN (L.drop at_)).2.toNat⟩ hb1 (by simp only [hl1];omega) (by omega) (by omega)) ?_))
     refine Ev.ite (fun h4=>?_) fun h4=>?_
     ·rw [if_pos h4];exact Ev.ret _
     ·rw [if_neg h4]
      have hw2:wrp .i64 (((at_+(getN (L.drop at_)).2.toNat:Nat):Int)+(rdVal (getN (L.drop at_)).1 r ((L.drop at_).drop (getN (L.drop at_)).2.toNat)).2)=((at_+(getN (L.drop at_)).2.toNat+(rdVal (getN (L.drop at_)).1 r ((L.drop at_).drop (getN (L.drop at_)).2.toNat)).2.toNat:Nat):Int):=by rw [zbsa (by omega) (by omega)];omega
      have hdd2:((L.drop at_).drop (getN (L.drop at_)).2.toNat).drop (rdVal (getN (L.drop at_)).1 r ((L.drop at_).drop (getN (L.drop at_)).2.toNat)).2.toNat=L.drop (at_+(getN (L.drop at_)).2.toNat+(rdVal (getN (L.drop at_)).1 r ((L.drop at_).drop (getN (L.drop at_)).2.toNat)).2.toNat):=by rw [<- hdd,y50]
      simp only [hw2,show wrp .i64 (found+1)=found+1 from zbsa (by omega) (by omega),hdd2]
      refine zbv4 z L hb hL v1 v3 k _ _ (found+1) _ (l.erase (getN (L.drop at_)).1) (by omega) (by omega) (fun g hg2=>?_) (by omega) (by omega)
      rw [List.mem_erase_of_ne (by omega)]
      exact hf g (by omega)
    ·have hm: ¬(getN (L.drop at_)).1∈l:=fun h=>h3 (hiff.1 h)
     rw [if_neg hm]
     refine Ev.ite (fun e=>?_) fun e=>Ev.ite (fun e2=>?_) fun e2=>Ev.po (Ev.po (Ev.bind (zbu5 ⟨z,(L.drop at_).drop (getN (L.drop at_)).2.toNat⟩ hb1 (by simp only [hl1];omega)) ?_))
     ·rw [if_pos (.inl e)];exact Ev.ret _
     ·rw [if_pos (.inr e2)];exact Ev.ret _
     ·rw [if_neg (by rintro (h | h)<;>contradiction)]
      generalize hB:(L.drop at_).drop (getN (L.drop at_)).2.toNat=B at*
      have hgB:=zbue (l:=B)
      dsimp only
      unfold passN
      refine Ev.ite (fun h4=>?_) fun h4=>?_
      ·rw [if_pos h4,if_pos rfl];exact Ev.ret _
      ·rw [if_neg h4]
       have hw3:wrp .i64 (wrp .i64 ((L.length:Int) - ((at_+(getN (L.drop at_)).2.toNat:Nat):Int)) - (getN B).2)=(B.length:Int) - (getN B).2:=by
        rw [zbsa (x:=(L.length:Int) - ((at_+(getN (L.drop at_)).2.toNat:Nat):Int)) (by omega) (by omega),zbsa (by omega) (by omega)];omega
       rw [hw3]
       refine Ev.ite (fun h5=>?_) fun h5=>?_
       ·rw [if_pos h5,if_pos rfl];exact Ev.ret _
       ·rw [if_neg h5,if_neg (by omega)]
        have hw4:wrp .i64 (wrp .i64 (((at_+(getN (L.drop at_)).2.toNat:Nat):Int)+(getN B).2)+(getN B).1)=((at_+(getN (L.drop at_)).2.toNat+((getN B).2+(getN B).1).toNat:Nat):Int):=by
         rw [zbsa (x:=((at_+(getN (L.drop at_)).2.toNat:Nat):Int)+(getN B).2) (by omega) (by omega),zbsa (by omega) (by omega)];omega
        have hdd3:B.drop ((getN B).2+(getN B).1).toNat=L.drop (at_+(getN (L.drop at_)).2.toNat+((getN B).2+(getN B).1).toNat):=by rw [<- y50,hdd]
        rw [hw4,hdd3]
        exact zbv4 z L hb hL v1 v3 k _ _ found r l (by omega) (by omega) (fun g hg2=>hf g (by omega)) hn hn0
  ·rw [if_pos (by omega),show wrp .i64 (v+2)=v+2 from zbsa (by omega) (by omega)]
   refine Ev.ite (fun h1=>Ev.bind (zbsw r) ?_) fun h1=>?_
   ·rw [if_pos (show l.length=0 by omega)]
    refine Ev.ite (fun h=>?_) fun h=>?_
    ·rw [if_pos (by simpa using h)];exact Ev.ret _
    ·rw [if_neg (by simpa using h)];exact Ev.ret _
   ·rw [if_neg (show¬l.length=0 by omega)];exact Ev.ret _
theorem zbv5 {v f:Int} (v1:1<=v) (v3:v<=3):f∈fieldsOf v<->hasB v f=true:=by
 rw [zbv3]
 have:v=1\/v=2\/v=3:=by omega
 rcases this with rfl | rfl | rfl<;>simp [fieldsOf]<;>omega
theorem zbv6 {v:Int} (v1:1<=v) (v3:v<=3):((fieldsOf v).length:Int)=v+2:=by
 have:v=1\/v=2\/v=3:=by omega
 rcases this with rfl | rfl | rfl<;>simp [fieldsOf]
theorem zbv7 (s:Sl Int) (hb:isB s.l) (hl:s.l.length<=4294967296):Ev (fun q=>zpf q s) (decR s.l):=by
 refine Ev.su ?_
 unfold decR
 refine Ev.ite (fun h=>?_) fun h=>?_
 ·rw [if_pos (by omega)];exact Ev.ret _
 ·rw [if_neg (by omega)]
  have hg:=zbue (l:=s.l)
  refine Ev.bind (zbu5 s hb (by omega)) (Ev.ite (fun h1=>?_) fun h1=>Ev.ite (fun h2=>?_) fun h2=>Ev.ite (fun h3=>?_) fun h3=>?_)
  ·rw [if_pos h1];exact Ev.ret _
  ·rw [if_neg h1,if_pos (.inl h2)];exact Ev.ret _
  ·rw [if_neg h1,if_pos (.inr h3)];exact Ev.ret _
  ·rw [if_neg h1,if_neg (by omega)]
   have hfl:=zbv6 (v:=(getN s.l).1) (by omega) (by omega)
   have:=zbv4 s.z s.l hb hl (show 1<=(getN s.l).1 by omega) (by omega) (s.l.length+1) (getN s.l).2.toNat (-1) 0 noR (fieldsOf (getN s.l).1) (by omega) (by omega) (fun f _=>zbv5 (by omega) (by omega)) (by omega) (by omega)
   have hc:(((getN s.l).2.toNat:Nat):Int)=(getN s.l).2:=by omega
   rw [hc] at this
   refine Ev.cast this ?_
   unfold finR
   split
   ·rename_i h4;rw [<- h4]
   ·rfl
def chainB:List zkq->Int->Bool
 | [],_=>true
 | r::l,f=>decide (FitsR r) && (decide (r.Index=f) && chainB l (f+1))
theorem zbv8 {r:zkq} (h:FitsR r):0<=r.Index/\r.Index<4611686018427387904:=⟨h.1,h.2.1⟩
/-- The number of the last record of a process. -/
def lastS:List zkq->Int->Int
 | [],_=>0
 | r::l,p=>if p=r.Proc then r.Seq else lastS l p
/-- A map that has, of each process, the last one's number: by the records turned round. -/
def mapR:List zkq->List (Int×Int)
 | []=>[]
 | r::l=>mset (mapR l) r.Proc r.Seq
theorem zbv9 (m:List (Int×Int)) (n y p:Int):mget (mset m n y) p=if p=n then y else mget m p:=by
 induction m with
 | nil=>simp [mset,mget]
 | cons e m ih=>
  obtain ⟨k,v⟩:=e
  simp only [mset]
  by_cases h:n=k
  ·subst h
   rw [if_pos rfl]
   simp only [mget]
   by_cases hp:p=n
   ·rw [if_pos hp,if_pos hp]
   ·rw [if_neg hp,if_neg hp,if_neg hp]
  ·rw [if_neg h]
   simp only [mget]
   by_cases hp:p=k
   ·rw [if_pos hp,if_pos hp,if_neg (fun e=>h (by rw [<- e,hp]))]
   ·rw [if_neg hp,if_neg hp,ih]
theorem zbwa (l:List zkq) (p:Int):mget (mapR l) p=lastS l p:=by
 induction l with
 | nil=>rfl
 | cons r l ih=>simp only [mapR,zbv9,lastS,ih]
/-- A block's records as bytes, behind others (these turned round). -/
def blkB:List zkq->List zkq->List Int
 | _,[]=>[]
 | pr,r::l=>(put r.Proc++(putS (r.Seq - lastS pr r.Proc)++(opB r.Op++putS r.Resp)))++blkB (r::pr) l
theorem zbwb {l:List zkq} (h: ∀r∈l,FitsR r) (p:Int):0<=lastS l p/\lastS l p<4611686018427387904:=by
 induction l with
 | nil=>simp [lastS]
 | cons r l ih=>
  simp only [lastS]
  split
  ·have:=h r y32
   exact ⟨this.2.2.2.2.1,this.2.2.2.2.2.1⟩
  ·exact ih fun r hr=>h r (y36 _ hr)
theorem zbwc (z:Bool) (L:List zkq) (hf: ∀r∈L,FitsR r) (hL:L.length<=1000000): ∀(k i:Nat) (l:List Int),L.length=i+k->l.length+60*k<=4294967296->
  Ev (fun q=>znh q z L (L.length:Int) (i:Int) (mapR (L.take i).reverse) false l true) (⟨false,true,l++blkB (L.take i).reverse (L.drop i)⟩,0)
 | 0,i,l,hk,hl=>by
  refine Ev.su (Ev.ne (Ev.ret' ?_))
  rw [y12 (by omega)];simp [blkB]
 | k+1,i,l,hk,hl=>by
  have hi:i<L.length:=by omega
  have he:L[((i:Int)).toNat]? =some L[i]:=by simp [hi]
  have hfit:=hf L[i] (y26 hi)
  have hr:=hfit
  obtain ⟨h1,h2,h3,h4,h5,h6,h7,h8,h9⟩:=hfit
  have hpr: ∀r∈(L.take i).reverse,FitsR r:=fun r hr=>hf r (y44 (List.mem_reverse.1 hr))
  have hlast:=zbwb hpr L[i].Proc
  have hw:wrp .i64 (L[i].Seq - mget (mapR (L.take i).reverse) L[i].Proc)=L[i].Seq - lastS (L.take i).reverse L[i].Proc:=by
   rw [zbwa,zbsa (by omega) (by omega)]
  have p1:=zbsj L[i].Proc
  have i1:inR .i64 (L[i].Seq - lastS (L.take i).reverse L[i].Proc):=zbsy (by omega) (by omega)
  have i2:inR .i64 L[i].Resp:=zbsy (by omega) (by omega)
  have p2:=zbsx i1
  have p3:=zbsz h7
  have p4:=zbsx i2
  refine Ev.su (Ev.po (Ev.po (Ev.opt he (Ev.bind (zbsk ⟨false,true,l⟩ h3 (by omega) (by simp only;omega)) ?_))))
  simp only [hw]
  refine Ev.bind (zbso _ i1 (by simp only [y10];omega)) (Ev.bind (zbs0 _ h7 (by simp only [y10];omega)) (Ev.bind (zbso _ i2 (by simp only [y10];omega)) ?_))
  rw [show wrp .i64 ((i:Int)+1)=((i+1:Nat):Int) by rw [zbsa (by omega) (by omega)];omega]
  have ht:(L.take (i+1)).reverse=L[i]::(L.take i).reverse:=by
   rw [List.take_succ,y7 hi];simp
  have ih:=zbwc z L hf hL k (i+1) (((l++put L[i].Proc)++putS (L[i].Seq - lastS (L.take i).reverse L[i].Proc))++opB L[i].Op++putS L[i].Resp) (by omega) (by simp only [y10];omega)
  rw [ht] at ih
  simp only [mapR] at ih
  refine Ev.cast ih ?_
  rw [y9 hi]
  simp [blkB]
theorem zbwd {l:List zkq} {f:Int} (h:chainB l f=true): ∀r∈l,FitsR r:=by
 induction l generalizing f with
 | nil=>intro r hr;simp at hr
 | cons a l ih=>
  simp only [chainB,y6,decide_eq_true_eq] at h
  intro r hr
  rcases List.mem_cons.1 hr with e | e
  ·rw [e];exact h.1
  ·exact ih h.2.2 r e
/-- May records stand in one block? -/
def blkOk (l:List zkq):Bool:=match l with
 | []=>false
 | r::_=>chainB l r.Index && decide ((l.length:Int)<=256)
def blkE (l:List zkq):List Int:=match l with
 | []=>[]
 | r::_=>put r.Index++(put (l.length:Int)++blkB [] l)
theorem zbwe (z:Bool) (e:zkq) (L':List zkq) (hL:(e::L').length<=1000000): ∀(k i:Nat),(e::L').length=i+k->(0<i->FitsR e)->
  Ev (fun q=>zne q z (e::L') z (e::L') ((e::L').length:Int) (i:Int)) (chainB ((e::L').drop i) (e.Index+i) && decide (((e::L').length:Int)<=256))
 | 0,i,hk,hE=>by
  refine Ev.su (Ev.ne (Ev.pos (by simp) (Ev.ret' ?_)))
  rw [y12 (by omega)];rfl
 | k+1,i,hk,hE=>by
  have hi:i<(e::L').length:=by omega
  have hE':decide (FitsR (e::L')[i])=true->FitsR e:=by
   intro h
   by_cases h0:0<i
   ·exact hE h0
   ·have:i=0:=by omega
    subst this;simpa using h
  have he:(e::L')[((i:Int)).toNat]? =some (e::L')[i]:=by simp [hi]
  refine Ev.su (Ev.po (Ev.po (Ev.opt he (Ev.bind (zbsv _) ?_))))
  rw [y9 hi]
  simp only [chainB]
  refine Ev.ite (fun h=>Ev.opt (s:=e) rfl (Ev.ite (fun h2=>?_) fun h2=>Ev.ret' ?_)) fun h=>Ev.ret' ?_
  ·have hfe:=zbv8 (hE' h)
   rw [zbsa (by omega) (by omega)] at h2
   have h':FitsR (e::L')[i]:=by simpa using h
   have:=zbwe z e L' hL k (i+1) (by omega) (fun _=>hE' h)
   rw [show wrp .i64 ((i:Int)+1)=((i+1:Nat):Int) by rw [zbsa (by omega) (by omega)];omega]
   refine Ev.cast this ?_
   simp only [h',decide_true,y64,h2]
   rw [show e.Index+((i+1:Nat):Int)=e.Index+(i:Int)+1 by omega]
  ·have hfe:=zbv8 (hE' h)
   rw [zbsa (by omega) (by omega)] at h2
   simp [h2]
  ·have h': ¬FitsR (e::L')[i]:=by simpa using h
   simp [h']
theorem zbwf (s:Sl zkq) (hL:s.l.length<=1000000):Ev (fun q=>znf q s) (blkOk s.l):=by
 obtain ⟨z,l⟩:=s
 cases l with
 | nil=>
  refine Ev.succ (g:=fun q=>zne q z [] z [] ((([]:List zkq).length:Nat):Int) 0) ?_ (fun q=>rfl)
  refine ⟨1,fun q hq=>?_⟩
  obtain ⟨n,rfl⟩: ∃n,q=n+1:=⟨q - 1,by omega⟩
  simp [zne,blkOk]
 | cons e L'=>
  have:=zbwe z e L' hL (e::L').length 0 (by simp) (by omega)
  refine Ev.su (Ev.cast this ?_)
  simp [blkOk]
theorem zbwg (s:Sl zkq) (hL:s.l.length<=1000000):Ev (fun q=>zni q s) (if blkOk s.l=true then (⟨false,true,blkE s.l⟩,0) else (⟨true,true,[]⟩,1)):=by
 refine Ev.su (Ev.bind (zbwf s hL) (Ev.ite (fun h=>?_) fun h=>?_))
 ·rw [if_pos h]
  obtain ⟨z,l⟩:=s
  cases l with
  | nil=>simp [blkOk] at h
  | cons e L'=>
   have hf:=zbwd (l:=e::L') (f:=e.Index) (by simp only [blkOk,y6] at h;exact h.1)
   have hl256:((e::L').length:Int)<=256:=by simp only [blkOk,y6,decide_eq_true_eq] at h;exact h.2
   have hfe:=zbv8 (hf e y32)
   have p1:=zbsj e.Index
   have p2:=zbsj ((e::L').length:Int)
   refine Ev.opt (s:=e) rfl (Ev.bind (zbsk _ hfe.1 hfe.2 (by simp)) (Ev.bind (zbsk _ (by omega) (by omega) (by simp only [y47];omega)) ?_))
   have:=zbwc z (e::L') hf hL (e::L').length 0 (([]++put e.Index)++put ((e::L').length:Int)) (by simp) (by simp only [y10,y25];omega)
   refine Ev.cast this ?_
   simp [blkE]
 ·rw [if_neg h];exact Ev.ret _
theorem zbwh (z:Bool) (L:List zkq) (p:Int) (hL:L.length<=1000000): ∀(k:Nat),k<=L.length->Ev (fun q=>zpk q z L p ((k:Int) - 1)) (lastS (L.take k).reverse p)
 | 0,hk=>Ev.su (Ev.ne (Ev.ret' (by simp [lastS])))
 | k+1,hk=>by
  have hi:k<L.length:=by omega
  have hc:(((k+1:Nat):Int) - 1)=(k:Int):=by omega
  rw [hc]
  have he:L[((k:Int)).toNat]? =some L[k]:=by simp [hi]
  have ht:(L.take (k+1)).reverse=L[k]::(L.take k).reverse:=by
   rw [List.take_succ,y7 hi];simp
  refine Ev.su (Ev.po (Ev.opt he ?_))
  rw [ht]
  simp only [lastS]
  refine Ev.ite (fun h=>?_) fun h=>?_
  ·rw [if_pos h.symm];exact Ev.ret _
  ·rw [if_neg (fun e=>h e.symm),zbsa (by omega) (by omega)]
   exact zbwh z L p hL k (by omega)
theorem zbwi (s:Sl zkq) (p:Int) (hL:s.l.length<=1000000):Ev (fun q=>zpl q s p) (lastS s.l.reverse p):=by
 have:=zbwh s.z s.l p hL s.l.length (y14 _)
 rw [List.take_length] at this
 refine Ev.succ (g:=fun q=>zpk q s.z s.l p (wrp .i64 ((s.l.length:Int) - 1))) ?_ (fun q=>rfl)
 rw [zbsa (by omega) (by omega)]
 exact this
theorem zbwj (z:Bool) (L:List zkq) (hL:L.length<=1000000): ∀(k i:Nat) (f:Int),L.length=i+k->(∀r,0<i->L[i - 1]? =some r->FitsR r/\r.Index+1=f)->(∀r,i=0->L[0]? =some r->r.Index=f)->
  Ev (fun q=>zpn q z L (i:Int)) (chainB (L.drop i) f)
 | 0,i,f,hk,h1,h2=>by
  refine Ev.su (Ev.ne (Ev.ret' ?_))
  rw [y12 (by omega)];rfl
 | k +1,i,f,hk,h1,h2=>by
  have hi:i<L.length:=by omega
  have he:L[((i:Int)).toNat]? =some L[i]:=by simp [hi]
  have hw:wrp .i64 ((i:Int)+1)=((i+1:Nat):Int):=by rw [zbsa (by omega) (by omega)];omega
  refine Ev.su (Ev.po (Ev.po (Ev.opt he (Ev.bind (zbsw _) ?_))))
  rw [y9 hi]
  simp only [chainB]
  refine Ev.ite (fun h=>?_) fun h=>Ev.ret' ?_
  ·have h':FitsR L[i]:=by simpa using h
   have next:L[i].Index=f->Ev (fun q=>zpn q z L (wrp .i64 ((i:Int)+1))) (chainB (L.drop (i+1)) (f+1)):=fun e=>by
    rw [hw]
    refine zbwj z L hL k (i+1) (f+1) (by omega) (fun r _ hr=>?_) (fun r h0=>by omega)
    rw [Nat.add_sub_cancel,y7 hi] at hr
    simp only [y4] at hr
    rw [<- hr];exact ⟨h',by omega⟩
   refine Ev.ite (fun h0=>Ev.pos (by rw [zbsa (by omega) (by omega)];omega) ?_) fun h0=>?_
   ·have hm:i - 1<L.length:=by omega
    have he2:L[(wrp .i64 ((i:Int) - 1)).toNat]? =some L[i - 1]:=by
     rw [zbsa (by omega) (by omega),show ((i:Int) - 1).toNat=i - 1 by omega];simp [hm]
    obtain ⟨q1,q2⟩:=h1 L[i - 1] (by omega) (y7 hm)
    have q3:=zbv8 q1
    refine Ev.opt he2 (Ev.ite (fun e=>?_) fun e=>Ev.ret' ?_)
    ·rw [zbsa (by omega) (by omega)] at e
     refine Ev.cast (next (by omega)) ?_
     simp [h',show L[i].Index=f by omega]
    ·rw [zbsa (by omega) (by omega)] at e
     simp [show¬L[i].Index=f by omega]
   ·have hi0:i=0:=by omega
    have e:L[i].Index=f:=h2 L[i] hi0 (by subst hi0;exact y7 hi)
    refine Ev.cast (next e) ?_
    simp [h',e]
  ·have h': ¬FitsR L[i]:=by simpa using h
   simp [h']
theorem zbwk (s:Sl zkq) (hL:s.l.length<=1000000):Ev (fun q=>zpo q s) (blkOk s.l):=by
 obtain ⟨z,l⟩:=s
 refine Ev.succ (g:=fun q=>if (l.length:Int)<1 then some false else if 256<(l.length:Int) then some false else zpn q z l 0) ?_ (fun q=>rfl)
 refine Ev.ite (fun h=>Ev.ret' ?_) fun h=>Ev.ite (fun h2=>Ev.ret' ?_) fun h2=>?_
 ·rw [y35 (l:=l) (by omega)];rfl
 ·cases l with
  | nil=>simp at h
  | cons e L'=>
   simp only [blkOk]
   rw [show decide (((e::L').length:Int)<=256)=false by simp only [decide_eq_false_iff_not];omega]
   simp
 ·cases l with
  | nil=>simp at h
  | cons e L'=>
   have:=zbwj z (e::L') hL (e::L').length 0 e.Index (by simp) (fun r h=>by omega) (fun r _ hr=>by simp at hr;rw [hr])
   refine Ev.cast this ?_
   simp only [blkOk,y38]
   rw [show decide (((e::L').length:Int)<=256)=true by simp only [decide_eq_true_eq];omega]
   simp
theorem zbwl (z:Bool) (L:List zkq) (hf: ∀r∈L,FitsR r) (hL:L.length<=1000000): ∀(k i:Nat) (l:List Int),L.length=i+k->l.length+60*k<=4294967296->
  Ev (fun q=>zpv q z L (i:Int) false l true) (⟨false,true,l++blkB (L.take i).reverse (L.drop i)⟩,0)
 | 0,i,l,hk,hl=>by
  refine Ev.su (Ev.ne (Ev.ret' ?_))
  rw [y12 (by omega)];simp [blkB]
 | k+1,i,l,hk,hl=>by
  have hi:i<L.length:=by omega
  have he:L[((i:Int)).toNat]? =some L[i]:=by simp [hi]
  have hfit:=hf L[i] (y26 hi)
  obtain ⟨h1,h2,h3,h4,h5,h6,h7,h8,h9⟩:=hfit
  have hpr: ∀r∈(L.take i).reverse,FitsR r:=fun r hr=>hf r (y44 (List.mem_reverse.1 hr))
  have hlast:=zbwb hpr L[i].Proc
  have hw:wrp .i64 (L[i].Seq - lastS (L.take i).reverse L[i].Proc)=L[i].Seq - lastS (L.take i).reverse L[i].Proc:=zbsa (by omega) (by omega)
  have p1:=zbsj L[i].Proc
  have i1:inR .i64 (L[i].Seq - lastS (L.take i).reverse L[i].Proc):=zbsy (by omega) (by omega)
  have i2:inR .i64 L[i].Resp:=zbsy (by omega) (by omega)
  have p2:=zbsx i1
  have p3:=zbsz h7
  have p4:=zbsx i2
  refine Ev.su (Ev.po (Ev.po (Ev.opt he (Ev.bind (zbs9 ⟨false,l⟩ h3 (by omega) (by simp only;omega)) (Ev.po (Ev.bind (zbwi ⟨z,L.take ((i:Int)).toNat⟩ L[i].Proc (by simp only [y20];omega)) ?_))))))
  simp only [y28,hw]
  refine Ev.bind (zbtb _ i1 (by simp only [y10];omega)) (Ev.bind (zbtc _ h7 (by simp only [y10];omega)) (Ev.bind (zbtb _ i2 (by simp only [y10];omega)) ?_))
  rw [show wrp .i64 ((i:Int)+1)=((i+1:Nat):Int) by rw [zbsa (by omega) (by omega)];omega]
  have ht:(L.take (i+1)).reverse=L[i]::(L.take i).reverse:=by
   rw [List.take_succ,y7 hi];simp
  have ih:=zbwl z L hf hL k (i+1) (((l++put L[i].Proc)++putS (L[i].Seq - lastS (L.take i).reverse L[i].Proc))++opB L[i].Op++putS L[i].Resp) (by omega) (by simp only [y10];omega)
  rw [ht] at ih
  refine Ev.cast ih ?_
  rw [y9 hi]
  simp [blkB]
theorem zbwm (s:Sl zkq) (hL:s.l.length<=1000000):Ev (fun q=>zpw q s) (if blkOk s.l=true then (⟨false,true,blkE s.l⟩,0) else (⟨true,true,[]⟩,1)):=by
 refine Ev.su (Ev.bind (zbwk s hL) (Ev.ite (fun h=>?_) fun h=>?_))
 ·rw [if_pos h]
  obtain ⟨z,l⟩:=s
  cases l with
  | nil=>simp [blkOk] at h
  | cons e L'=>
   have hf:=zbwd (l:=e::L') (f:=e.Index) (by simp only [blkOk,y6] at h;exact h.1)
   have hl256:((e::L').length:Int)<=256:=by simp only [blkOk,y6,decide_eq_true_eq] at h;exact h.2
   have hfe:=zbv8 (hf e y32)
   have p1:=zbsj e.Index
   have p2:=zbsj ((e::L').length:Int)
   refine Ev.opt (s:=e) rfl (Ev.bind (zbs9 _ hfe.1 hfe.2 (by simp)) (Ev.bind (zbs9 _ (by omega) (by omega) (by simp only [y47];omega)) ?_))
   have:=zbwl z (e::L') hf hL (e::L').length 0 (([]++put e.Index)++put ((e::L').length:Int)) (by simp) (by simp only [y10,y25];omega)
   refine Ev.cast this ?_
   simp [blkE]
 ·rw [if_neg h];exact Ev.ret _
theorem zbwn (s:Sl Int) (hb:isB s.l) (hl:s.l.length<=1048576): ∃z,Ev (fun q=>znx q s) ⟨z,true,encF s.l⟩:=by
 obtain ⟨z,h⟩:=zbt9 s hb hl
 exact ⟨z,Ev.su (Ev.bind h (Ev.ret _))⟩
def headD (v kind first:Int):List Int:=(([108]++put v)++put kind)++put first
theorem zbwo (v:Int):Ev (fun q=>zna q v) (decide (1<=v/\v<=3)):=
 Ev.su (Ev.ite (fun h=>Ev.ret' (by simp [h])) fun h=>Ev.ret' (by simp [h]))
theorem zbwp (z z7:Bool) (L:List zkq) (first:Int) (hr:inR .i64 first) (hL:L.length<=1000000): ∀(k i:Nat),L.length=i+k->(0<i->0<=first/\first<4611686018427387904)->
  Ev (fun q=>znm q z L first z7 L (L.length:Int) (i:Int)) (chainB (L.drop i) (first+i) && decide ((L.length:Int)<=4096))
 | 0,i,hk,h0=>by
  refine Ev.su (Ev.ne (Ev.ret' ?_))
  rw [y12 (by omega)];rfl
 | k+1,i,hk,h0=>by
  have hi:i<L.length:=by omega
  have he:L[((i:Int)).toNat]? =some L[i]:=by simp [hi]
  have hR:=inR64 hr
  have hw:wrp .i64 (first+(i:Int))=first+(i:Int):=by
   by_cases h:0<i
   ·have:=h0 h;rw [zbsa (by omega) (by omega)]
   ·rw [zbsa (by omega) (by omega)]
  refine Ev.su (Ev.po (Ev.po (Ev.opt he (Ev.bind (zbsv _) ?_))))
  rw [y9 hi]
  simp only [chainB]
  refine Ev.ite (fun h=>Ev.ite (fun h2=>?_) fun h2=>Ev.ret' ?_) fun h=>Ev.ret' ?_
  ·rw [hw] at h2
   have h':FitsR L[i]:=by simpa using h
   have hfi:=zbv8 h'
   have:=zbwp z z7 L first hr hL k (i+1) (by omega) (fun _=>by
    by_cases h:0<i
    ·exact h0 h
    ·omega)
   rw [show wrp .i64 ((i:Int)+1)=((i+1:Nat):Int) by rw [zbsa (by omega) (by omega)];omega]
   refine Ev.cast this ?_
   simp only [h',decide_true,y64,h2]
   rw [show first+((i+1:Nat):Int)=first+(i:Int)+1 by omega]
  ·rw [hw] at h2
   simp [h2]
  ·have h': ¬FitsR L[i]:=by simpa using h
   simp [h']
theorem zbwq (s:Sl zkq) (first:Int) (hr:inR .i64 first) (hL:s.l.length<=1000000):Ev (fun q=>znn q s first) (chainB s.l first && decide ((s.l.length:Int)<=4096)):=by
 have:=zbwp s.z s.z s.l first hr hL s.l.length 0 (by simp) (by omega)
 refine Ev.su (Ev.cast this ?_)
 simp
theorem zbwr (z:Bool) (L:List zkq) (first:Int) (hr:inR .i64 first) (hL:L.length<=1000000): ∀(k i:Nat),L.length=i+k->(0<i->0<=first/\first<4611686018427387904)->
  Ev (fun q=>zpi q z L first (i:Int)) (chainB (L.drop i) (first+i))
 | 0,i,hk,h0=>by
  refine Ev.su (Ev.ne (Ev.ret' ?_))
  rw [y12 (by omega)];rfl
 | k+1,i,hk,h0=>by
  have hi:i<L.length:=by omega
  have he:L[((i:Int)).toNat]? =some L[i]:=by simp [hi]
  have hR:=inR64 hr
  have hw:wrp .i64 (first+(i:Int))=first+(i:Int):=by
   by_cases h:0<i
   ·have:=h0 h;rw [zbsa (by omega) (by omega)]
   ·rw [zbsa (by omega) (by omega)]
  refine Ev.su (Ev.po (Ev.po (Ev.opt he (Ev.bind (zbsw _) ?_))))
  rw [y9 hi]
  simp only [chainB]
  refine Ev.ite (fun h=>Ev.ite (fun h2=>?_) fun h2=>Ev.ret' ?_) fun h=>Ev.ret' ?_
  ·rw [hw] at h2
   have h':FitsR L[i]:=by simpa using h
   have hfi:=zbv8 h'
   have:=zbwr z L first hr hL k (i+1) (by omega) (fun _=>by
    by_cases h:0<i
    ·exact h0 h
    ·omega)
   rw [show wrp .i64 ((i:Int)+1)=((i+1:Nat):Int) by rw [zbsa (by omega) (by omega)];omega]
   refine Ev.cast this ?_
   simp only [h',decide_true,y64,h2]
   rw [show first+((i+1:Nat):Int)=first+(i:Int)+1 by omega]
  ·rw [hw] at h2
   simp [h2]
  ·have h': ¬FitsR L[i]:=by simpa using h
   simp [h']
theorem zbws (s:Sl zkq) (first:Int) (hr:inR .i64 first) (hL:s.l.length<=1000000):Ev (fun q=>zpj q s first) (chainB s.l first && decide ((s.l.length:Int)<=4096)):=by
 have:=zbwr s.z s.l first hr hL s.l.length 0 (by simp) (by omega)
 refine Ev.su (Ev.ite (fun h=>Ev.ret' ?_) fun h=>Ev.cast this ?_)
 ·rw [show decide ((s.l.length:Int)<=4096)=false by simp only [decide_eq_false_iff_not];omega];simp
 ·rw [show decide ((s.l.length:Int)<=4096)=true by simp only [decide_eq_true_eq];omega];simp
theorem zbwt (l:List Int):(encF l).length<=l.length+14/\4<=(encF l).length:=by
 have:=zbsj (l.length:Int)
 unfold encF fix4
 simp only [y10,y21,y25];omega
def lensB (F:List (List Int)):List Int:=F.flatMap fun f=>put (f.length:Int)
theorem zbwu (f:List Int) (F:List (List Int)):lensB (f::F)=put (f.length:Int)++lensB F:=by simp [lensB]
theorem zbwv (F:List (List Int)):(lensB F).length<=10*F.length:=by
 induction F with
 | nil=>simp [lensB]
 | cons f F ih=>
  have:=zbsj (f.length:Int)
  rw [zbwu,y10,y21];omega
/-- The data of a footer, by the frames ahead of it. -/
def footD (F:List (List Int)):List Int:=put ((F.length:Int) - 1)++lensB F.dropLast
theorem zbww (F:List (List Int)):(footD F).length<=10*F.length+10:=by
 have h1:=zbsj ((F.length:Int) - 1)
 have h2:=zbwv F.dropLast
 rw [List.length_dropLast] at h2
 unfold footD;rw [y10];omega
theorem zbwx (z:Bool) (L:List (Sl Int)) (hL:L.length<=100000) (he: ∀e∈L,e.l.length<=4294967296): ∀(k i:Nat) (n:Bool) (l:List Int),L.length=i+k->l.length<=10*i+10->isB l->
  ∃z',Ev (fun q=>zn0 q z L (L.length:Int) (i:Int) n l true) ⟨z',true,encF (l++lensB ((L.drop i).map (·.l)))⟩
 | 0,i,n,l,hk,hl,hb=>by
  rw [y12 (by omega)]
  obtain ⟨z',h⟩:=zbwn ⟨n,l⟩ hb (by simp only;omega)
  refine ⟨z',Ev.su (Ev.ne (Ev.bind h (Ev.ret' ?_)))⟩
  simp [lensB]
 | k+1,i,n,l,hk,hl,hb=>by
  have hi:i<L.length:=by omega
  have hg:L[((i:Int)).toNat]? =some L[i]:=by simp [hi]
  have hm:=he L[i] (y26 hi)
  have hp:=zbsj (L[i].l.length:Int)
  obtain ⟨z',ih⟩:=zbwx z L hL he k (i+1) false (l++put (L[i].l.length:Int)) (by omega) (by rw [y10];omega) (zbt8.2 ⟨hb,zbt7 _⟩)
  rw [show ((i+1:Nat):Int)=wrp .i64 ((i:Int)+1) by rw [zbsa (by omega) (by omega)];omega] at ih
  refine ⟨z',Ev.su (Ev.po (Ev.po (Ev.opt hg (Ev.bind (zbsk ⟨n,true,l⟩ (by omega) (by omega) (by simp only;omega)) (Ev.cast ih ?_)))))⟩
  rw [y9 hi,y34,zbwu,y33]
theorem zbwy (s:Sl (Sl Int)) (h1:1<=s.l.length) (h2:s.l.length<=100000) (h3: ∀e∈s.l,e.l.length<=4294967296): ∃z,Ev (fun q=>zn1 q s) ⟨z,true,encF (footD (s.l.map (·.l)))⟩:=by
 have hw:wrp .i64 ((s.l.length:Int) - 1)=((s.l.length - 1:Nat):Int):=by rw [zbsa (by omega) (by omega)];omega
 have hp:=zbsj ((s.l.length - 1:Nat):Int)
 have ht:(s.l.take (s.l.length - 1)).length=s.l.length - 1:=by rw [y20];omega
 obtain ⟨z,h⟩:=zbwx s.z (s.l.take (s.l.length - 1)) (by omega) (fun e he=>h3 e (y44 he)) (s.l.length - 1) 0 false ([]++put ((s.l.length - 1:Nat):Int)) (by omega) (by simpa using hp) (by simpa using zbt7 _)
 rw [ht] at h
 refine ⟨z,Ev.succ (g:=fun q=>(zl8 q ⟨true,true,[]⟩ (wrp .i64 ((s.l.length:Int) - 1))).bind fun r1=>(if 0<=(wrp .i64 ((s.l.length:Int) - 1)) then (if (wrp .i64 ((s.l.length:Int) - 1)).toNat<=s.l.length then (zn0 q s.z (List.take ((wrp .i64 ((s.l.length:Int) - 1)).toNat) s.l) (((min ((wrp .i64 ((s.l.length:Int) - 1)).toNat) s.l.length):Nat):Int) 0 r1.n r1.xs r1.x) else none) else none)) ?_ (fun q=>rfl)⟩
 rw [hw]
 simp only [y28]
 refine Ev.bind (zbsk ⟨true,true,[]⟩ (by omega) (by omega) (by simp)) (Ev.po (Ev.pos (by omega) ?_))
 rw [Nat.min_eq_left (by omega)]
 refine Ev.cast h ?_
 simp only [footD,y47,y38,y24,<- List.map_dropLast,List.dropLast_eq_take,<- List.map_take]
 rw [show (s.l.length:Int) - 1=((s.l.length - 1:Nat):Int) by omega]
theorem zbwz (z:Bool) (L:List (Sl Int)) (hL:L.length<=100000) (he: ∀e∈L,e.l.length<=4294967296): ∀(k i:Nat) (f l:List Int),L.length=i+k->f.length<=4294967296->l.length<=10*i+10->
  Ev (fun q=>zp8 q z L (f.length:Int) (i:Int) false l true) ⟨false,true,l++lensB ((f::(L.drop i).map (·.l)).dropLast)⟩
 | 0,i,f,l,hk,hf,hl=>by
  refine Ev.su (Ev.ne (Ev.ret' ?_))
  rw [y12 (by omega)];simp [lensB]
 | k+1,i,f,l,hk,hf,hl=>by
  have hi:i<L.length:=by omega
  have hg:L[((i:Int)).toNat]? =some L[i]:=by simp [hi]
  have hm:=he L[i] (y26 hi)
  have hp:=zbsj (f.length:Int)
  have ih:=zbwz z L hL he k (i+1) L[i].l (l++put (f.length:Int)) (by omega) hm (by rw [y10];omega)
  rw [show ((i+1:Nat):Int)=wrp .i64 ((i:Int)+1) by rw [zbsa (by omega) (by omega)];omega] at ih
  refine Ev.su (Ev.po (Ev.bind (zbs9 ⟨false,l⟩ (by omega) (by omega) (by simp only;omega)) (Ev.po (Ev.opt hg (Ev.cast ih ?_)))))
  rw [y9 hi,y34,List.dropLast_cons_cons,zbwu,y33]
theorem zbw0 (h:Sl Int) (s:Sl (Sl Int)) (h0:h.l.length<=4294967296) (h2:s.l.length<=90000) (h3: ∀e∈s.l,e.l.length<=4294967296):Ev (fun q=>zp9 q h s) ⟨false,true,footD (h.l::s.l.map (·.l))⟩:=by
 have hp:=zbsj (s.l.length:Int)
 have:=zbwz s.z s.l (by omega) h3 s.l.length 0 h.l ([]++put (s.l.length:Int)) (by omega) h0 (by simpa using hp)
 refine Ev.su (Ev.bind (zbs9 ⟨true,[]⟩ (by omega) (by omega) (by simp)) (Ev.cast this ?_))
 simp only [footD,y47,y38,y21,y24]
 rw [show ((s.l.length+1:Nat):Int) - 1=(s.l.length:Int) by omega]
/-- The record that bytes begin with (its number is what is told), and how many bytes it has. -/
def rec1 (b:List Int):zkq×Int:=
  if (getN b).2=0 then (noR,0) else
  if (getS (b.drop (getN b).2.toNat)).2=0 then (noR,0) else
  if (getO ((b.drop (getN b).2.toNat).drop (getS (b.drop (getN b).2.toNat)).2.toNat)).2=0 then (noR,0) else
  if (getS (((b.drop (getN b).2.toNat).drop (getS (b.drop (getN b).2.toNat)).2.toNat).drop (getO ((b.drop (getN b).2.toNat).drop (getS (b.drop (getN b).2.toNat)).2.toNat)).2.toNat)).2=0 then (noR,0) else
  (⟨0,(getN b).1,(getS (b.drop (getN b).2.toNat)).1,(getO ((b.drop (getN b).2.toNat).drop (getS (b.drop (getN b).2.toNat)).2.toNat)).1,(getS (((b.drop (getN b).2.toNat).drop (getS (b.drop (getN b).2.toNat)).2.toNat).drop (getO ((b.drop (getN b).2.toNat).drop (getS (b.drop (getN b).2.toNat)).2.toNat)).2.toNat)).1⟩,
   (getN b).2+(getS (b.drop (getN b).2.toNat)).2+(getO ((b.drop (getN b).2.toNat).drop (getS (b.drop (getN b).2.toNat)).2.toNat)).2+(getS (((b.drop (getN b).2.toNat).drop (getS (b.drop (getN b).2.toNat)).2.toNat).drop (getO ((b.drop (getN b).2.toNat).drop (getS (b.drop (getN b).2.toNat)).2.toNat)).2.toNat)).2)
theorem zbw1 (a b c d h1 h2 h3 h4 h5 h6:Int) (ha:0<=a/\a<=100) (hb:0<=b/\b<=100) (hc:0<=c/\c<=100) (hd:0<=d/\d<=100):
  Ev (fun q=>znc q 0 a b c d 0 h1 h2 h3 h4 h5 h6) (if a=0 then (noR,0) else if b=0 then (noR,0) else if c=0 then (noR,0) else if d=0 then (noR,0) else (⟨0,h1,h2,⟨h3,h4,h5⟩,h6⟩,a+b+c+d)):=by
 have w1:wrp .i64 ((0:Int)+1)=1:=by rw [zbsa (by omega) (by omega)];rfl
 have w2:wrp .i64 ((1:Int)+1)=2:=by rw [zbsa (by omega) (by omega)];rfl
 have w3:wrp .i64 ((2:Int)+1)=3:=by rw [zbsa (by omega) (by omega)];rfl
 have w4:wrp .i64 ((3:Int)+1)=4:=by rw [zbsa (by omega) (by omega)];rfl
 have s1:wrp .i64 (0+a)=a:=by rw [zbsa (by omega) (by omega)];omega
 have s2:wrp .i64 (a+b)=a+b:=by rw [zbsa (by omega) (by omega)]
 have s3:wrp .i64 (a+b+c)=a+b+c:=by rw [zbsa (by omega) (by omega)]
 have s4:wrp .i64 (a+b+c+d)=a+b+c+d:=by rw [zbsa (by omega) (by omega)]
 refine Ev.succ (g:=fun q=>if a=0 then some (noR,0) else znc q (wrp .i64 (0+a)) a b c d (wrp .i64 (0+1)) h1 h2 h3 h4 h5 h6) ?_ (fun q=>rfl)
 refine Ev.ite (fun h=>?_) fun h=>?_
 ·rw [if_pos h];exact Ev.ret _
 rw [if_neg h,w1,s1]
 refine Ev.succ (g:=fun q=>if b=0 then some (noR,0) else znc q (wrp .i64 (a+b)) a b c d (wrp .i64 (1+1)) h1 h2 h3 h4 h5 h6) ?_ (fun q=>rfl)
 refine Ev.ite (fun h=>?_) fun h=>?_
 ·rw [if_pos h];exact Ev.ret _
 rw [if_neg h,w2,s2]
 refine Ev.succ (g:=fun q=>if c=0 then some (noR,0) else znc q (wrp .i64 (a+b+c)) a b c d (wrp .i64 (2+1)) h1 h2 h3 h4 h5 h6) ?_ (fun q=>rfl)
 refine Ev.ite (fun h=>?_) fun h=>?_
 ·rw [if_pos h];exact Ev.ret _
 rw [if_neg h,w3,s3]
 refine Ev.succ (g:=fun q=>if d=0 then some (noR,0) else znc q (wrp .i64 (a+b+c+d)) a b c d (wrp .i64 (3+1)) h1 h2 h3 h4 h5 h6) ?_ (fun q=>rfl)
 refine Ev.ite (fun h=>?_) fun h=>?_
 ·rw [if_pos h];exact Ev.ret _
 rw [if_neg h,w4,s4]
 exact Ev.succ (g:=fun q=>some (⟨0,h1,h2,⟨h3,h4,h5⟩,h6⟩,a+b+c+d)) (Ev.ret _) (fun q=>rfl)
theorem zbw2 (s:Sl Int) (hb:isB s.l) (hl:s.l.length<=4294967296):Ev (fun q=>znd q s) (rec1 s.l):=by
 have n1:=zbue (l:=s.l)
 have b1:=zbul hb (getN s.l).2.toNat
 have n2:=zbvn (l:=s.l.drop (getN s.l).2.toNat)
 have b2:=zbul b1 (getS (s.l.drop (getN s.l).2.toNat)).2.toNat
 have n3:=zbvp (l:=(s.l.drop (getN s.l).2.toNat).drop (getS (s.l.drop (getN s.l).2.toNat)).2.toNat)
 have b3:=zbul b2 (getO ((s.l.drop (getN s.l).2.toNat).drop (getS (s.l.drop (getN s.l).2.toNat)).2.toNat)).2.toNat
 have n4:=zbvn (l:=((s.l.drop (getN s.l).2.toNat).drop (getS (s.l.drop (getN s.l).2.toNat)).2.toNat).drop (getO ((s.l.drop (getN s.l).2.toNat).drop (getS (s.l.drop (getN s.l).2.toNat)).2.toNat)).2.toNat)
 simp only [y13] at n2 n3 n4
 refine Ev.su (Ev.bind (zbud s hb) (Ev.po (Ev.po (Ev.bind (zbvm ⟨s.z,_⟩ b1) (Ev.pos (by simp only;omega) (Ev.pos (by simp only;omega) (Ev.bind (zbvo ⟨s.z,_⟩ b2 (by simp only [y13];omega)) (Ev.pos (by simp only;omega) (Ev.pos (by simp only;omega) (Ev.bind (zbvm ⟨s.z,_⟩ b3) ?_))))))))))
 exact zbw1 _ _ _ _ _ _ _ _ _ _ (by omega) (by simp only;omega) (by simp only;omega) (by simp only;omega)
theorem zbw3 (b:List Int):0<=(rec1 b).2/\(rec1 b).2<=b.length:=by
 have n1:=zbue (l:=b)
 have n2:=zbvn (l:=b.drop (getN b).2.toNat)
 have n3:=zbvp (l:=(b.drop (getN b).2.toNat).drop (getS (b.drop (getN b).2.toNat)).2.toNat)
 have n4:=zbvn (l:=((b.drop (getN b).2.toNat).drop (getS (b.drop (getN b).2.toNat)).2.toNat).drop (getO ((b.drop (getN b).2.toNat).drop (getS (b.drop (getN b).2.toNat)).2.toNat)).2.toNat)
 simp only [y13] at n2 n3 n4
 unfold rec1
 split
 ·simp
 split
 ·simp
 split
 ·simp
 split
 ·simp
 simp only;omega
/-- Records read one behind the other (those ahead turned round). -/
def rdK:Nat->Int->List Int->List zkq->Option (List zkq)
 | 0,_,_,pr=>some pr.reverse
 | k+1,ix,b,pr=>if (rec1 b).2=0 then none else
  rdK k (ix+1) (b.drop (rec1 b).2.toNat) (⟨ix,(rec1 b).1.Proc,wrp .i64 ((rec1 b).1.Seq+lastS pr (rec1 b).1.Proc),(rec1 b).1.Op,(rec1 b).1.Resp⟩::pr)
def fin7 (b:List Int) (r:Option (List zkq)):Option (List zkq):=r.bind fun l=>if blkOk l=true/\blkE l=b then some l else none
def resB:Option (List zkq)->(Ow zkq)×Int
 | some l=>(⟨false,false,l⟩,0)
 | none=>(⟨true,true,[]⟩,3)
theorem zbw4 (z:Bool) (B:List Int) (first:Int) (hf:0<=first/\first<4611686018427387904) (many:Nat) (hm:many<=256) (zz:Bool): ∀(k i:Nat) (b:List Int) (pr:List zkq) (h1z:Bool),many=i+k->pr.length=i->isB b->b.length<=4294967296->(0<i->h1z=false)->
  Ev (fun q=>znk q z B first zz b (many:Int) (i:Int) (mapR pr) h1z pr.reverse) (resB (fin7 B (rdK k (first+i) b pr)))
 | 0,i,b,pr,h1z,hk,hp,hb,hl,hz=>by
  have hlen:pr.reverse.length<=1000000:=by rw [List.length_reverse];omega
  refine Ev.su (Ev.ne (Ev.bind (zbwg ⟨h1z,pr.reverse⟩ hlen) ?_))
  simp only [rdK,fin7,y5]
  by_cases ho:blkOk pr.reverse=true
  ·rw [if_pos ho]
   refine Ev.pos rfl (Ev.bind (Ev.succ (g:=fun _=>some (decide (blkE pr.reverse=B))) (Ev.ret _) (fun q=>rfl)) (Ev.ite (fun h=>?_) fun h=>?_))
   ·have h':blkE pr.reverse=B:=by simpa using h
    rw [if_pos ⟨ho,h'⟩]
    refine Ev.ret' ?_
    have:0<i:=by
     cases pr with
     | nil=>simp [blkOk] at ho
     | cons a l=>rw [<- hp];simp
    rw [hz this];rfl
   ·have h': ¬blkE pr.reverse=B:=by simpa using h
    rw [if_neg (fun e=>h' e.2)];exact Ev.ret _
  ·rw [if_neg ho]
   rw [if_neg (fun e=>ho e.1)]
   exact Ev.neg (by decide) (Ev.ret _)
 | k+1,i,b,pr,h1z,hk,hp,hb,hl,hz=>by
  have hr:=zbw3 b
  refine Ev.su (Ev.po (Ev.bind (zbw2 ⟨zz,b⟩ hb hl) ?_))
  simp only [rdK]
  refine Ev.ite (fun h=>?_) fun h=>?_
  ·rw [if_pos h];exact Ev.ret _
  ·rw [if_neg h]
   have wi:wrp .i64 ((i:Int)+1)=((i+1:Nat):Int):=by rw [zbsa (by omega) (by omega)];omega
   have wx:wrp .i64 (first+(i:Int))=first+(i:Int):=by rw [zbsa (by omega) (by omega)]
   have ih:=zbw4 z B first hf many hm zz k (i+1) (b.drop (rec1 b).2.toNat) (⟨first+i,(rec1 b).1.Proc,wrp .i64 ((rec1 b).1.Seq+lastS pr (rec1 b).1.Proc),(rec1 b).1.Op,(rec1 b).1.Resp⟩::pr) false (by omega) (by rw [y21,hp]) (zbul hb _) (by rw [y13];omega) (fun _=>rfl)
   refine Ev.pos (by rw [List.length_reverse];omega) (Ev.po (Ev.pos (by omega) ?_))
   rw [wi,wx,zbwa]
   simp only [mapR,List.reverse_cons] at ih
   rw [show first+((i+1:Nat):Int)=first+(i:Int)+1 by omega] at ih
   exact ih
/-- The records of a block's bytes. -/
def blkD (b:List Int):Option (List zkq):=
 if (getN b).2=0 then none else if (getN (b.drop (getN b).2.toNat)).2=0 then none else if 256<(getN (b.drop (getN b).2.toNat)).1 then none else
 fin7 b (rdK (getN (b.drop (getN b).2.toNat)).1.toNat (getN b).1 ((b.drop (getN b).2.toNat).drop (getN (b.drop (getN b).2.toNat)).2.toNat) [])
theorem zbw5 (s:Sl Int) (hb:isB s.l) (hl:s.l.length<=4294967296):Ev (fun q=>znl q s) (resB (blkD s.l)):=by
 have n1:=zbue (l:=s.l)
 have b1:=zbul hb (getN s.l).2.toNat
 have n2:=zbue (l:=s.l.drop (getN s.l).2.toNat)
 have b2:=zbul b1 (getN (s.l.drop (getN s.l).2.toNat)).2.toNat
 have n2':=n2.2.1
 rw [y13] at n2'
 have hw:wrp .i64 ((getN s.l).2+(getN (s.l.drop (getN s.l).2.toNat)).2)=(getN s.l).2+(getN (s.l.drop (getN s.l).2.toNat)).2:=by rw [zbsa (by omega) (by omega)]
 unfold blkD
 refine Ev.su (Ev.bind (zbud s hb) (Ev.po (Ev.po (Ev.bind (zbud ⟨s.z,_⟩ b1) (Ev.ite (fun h=>?_) fun h=>Ev.ite (fun h2=>?_) fun h2=>Ev.ite (fun h3=>?_) fun h3=>?_)))))
 ·rw [if_pos h];exact Ev.ret _
 ·rw [if_neg h,if_pos h2];exact Ev.ret _
 ·rw [if_neg h,if_neg h2,if_pos h3];exact Ev.ret _
 rw [if_neg h,if_neg h2,if_neg h3]
 rw [hw]
 simp only at h2 h3
 have e1:(s.l.drop ((getN s.l).2+(getN (s.l.drop (getN s.l).2.toNat)).2).toNat)=(s.l.drop (getN s.l).2.toNat).drop (getN (s.l.drop (getN s.l).2.toNat)).2.toNat:=by
  rw [y50];congr 1;omega
 rw [e1]
 have:=zbw4 s.z s.l (getN s.l).1 ⟨n1.2.2.2.1,n1.2.2.2.2⟩ (getN (s.l.drop (getN s.l).2.toNat)).1.toNat (by omega) s.z (getN (s.l.drop (getN s.l).2.toNat)).1.toNat 0 ((s.l.drop (getN s.l).2.toNat).drop (getN (s.l.drop (getN s.l).2.toNat)).2.toNat) [] true (by omega) rfl b2 (by simp only [y13];omega) (by omega)
 rw [Int.toNat_of_nonneg (by omega)] at this
 refine Ev.po (Ev.po (Ev.cast this ?_))
 simp
theorem zbw6 {b:List Int} {l:List zkq} (h:blkD b=some l):blkOk l=true/\blkE l=b:=by
 unfold blkD at h
 split at h
 ·cases h
 split at h
 ·cases h
 split at h
 ·cases h
 unfold fin7 at h
 revert h
 generalize rdK _ _ _ _=r
 intro h
 cases r with
 | none=>cases h
 | some l'=>
  simp only [y5] at h
  split at h
  ·rename_i h2;cases h;exact h2
  ·cases h
/-- The records of a block of an elder version. -/
def eldD (v:Int):Nat->List Int->List zkq->Option (List zkq)
 | 0,_,_=>none
 | k+1,d,acc=>if d.length=0 then some acc else
  if (getN d).2=0 then none else if (getN d).1=0 then none else if (d.length:Int) - (getN d).2<(getN d).1 then none else
  if d[(getN d).2.toNat]? =some v then
   (if (decR ((d.drop (getN d).2.toNat).take (getN d).1.toNat)).2=0 then eldD v k (d.drop ((getN d).2+(getN d).1).toNat) (acc++[(decR ((d.drop (getN d).2.toNat).take (getN d).1.toNat)).1]) else none)
  else none
def resE (z:Bool):Option (List zkq)->(Ow zkq)×Bool
 | some l=>(⟨z,true,l⟩,true)
 | none=>(⟨true,true,[]⟩,false)
theorem zbw7 {v:Int} (v1:1<=v) (v3:v<=3) (zz:Bool): ∀(k:Nat) (d:List Int) (acc:List zkq) (h0z:Bool),d.length<k->isB d->d.length<=4294967296->acc.length+d.length<=4294967296->
  ∃z,Ev (fun q=>znv q v zz d h0z acc) (resE z (eldD v k d acc))
 | 0,d,acc,h0z,hk,hb,hl,ha=>by omega
 | k +1,d,acc,h0z,hk,hb,hl,ha=>by
  have n1:=zbue (l:=d)
  by_cases h0:d.length=0
  ·refine ⟨h0z,Ev.su (Ev.ne (Ev.ret' ?_))⟩
   simp only [eldD,h0,if_true,resE]
  ·have w1:wrp .i64 ((d.length:Int) - (getN d).2)=(d.length:Int) - (getN d).2:=by rw [zbsa (by omega) (by omega)]
   by_cases hg:(getN d).2=0
   ·refine ⟨true,Ev.su (Ev.po (Ev.bind (zbud ⟨zz,d⟩ hb) (Ev.pos hg (Ev.ret' ?_))))⟩
    simp only [eldD,h0,hg,if_true,if_false,resE]
   by_cases hn:(getN d).1=0
   ·refine ⟨true,Ev.su (Ev.po (Ev.bind (zbud ⟨zz,d⟩ hb) (Ev.neg hg (Ev.pos hn (Ev.ret' ?_)))))⟩
    simp only [eldD,h0,hg,hn,if_true,if_false,resE]
   by_cases ht:(d.length:Int) - (getN d).2<(getN d).1
   ·refine ⟨true,Ev.su (Ev.po (Ev.bind (zbud ⟨zz,d⟩ hb) (Ev.neg hg (Ev.neg hn (Ev.pos (by rw [w1];exact ht) (Ev.ret' ?_))))))⟩
    simp only [eldD,h0,hg,hn,ht,if_true,if_false,resE]
   have hi:(getN d).2.toNat<d.length:=by omega
   have w2:wrp .i64 ((getN d).2+(getN d).1)=(getN d).2+(getN d).1:=by rw [zbsa (by omega) (by omega)]
   have w3:wrp .u8 v=v:=by rw [wrp_u8];omega
   have he:d[(getN d).2.toNat]? =some d[(getN d).2.toNat]:=by simp [hi]
   by_cases hv:d[(getN d).2.toNat]=v
   ·have es:List.drop (getN d).2.toNat (List.take ((getN d).2+(getN d).1).toNat d)=(d.drop (getN d).2.toNat).take (getN d).1.toNat:=by
     rw [List.drop_take];congr 1;omega
    have hbs:isB ((d.drop (getN d).2.toNat).take (getN d).1.toNat):=zbuk (zbul hb _) _
    by_cases hr:(decR ((d.drop (getN d).2.toNat).take (getN d).1.toNat)).2=0
    ·obtain ⟨z,ih⟩:=zbw7 v1 v3 zz k (d.drop ((getN d).2+(getN d).1).toNat) (acc++[(decR ((d.drop (getN d).2.toNat).take (getN d).1.toNat)).1]) false (by rw [y13];omega) (zbul hb _) (by rw [y13];omega) (by simp only [y13,y10,y21,y25];omega)
     refine ⟨z,Ev.su (Ev.po (Ev.bind (zbud ⟨zz,d⟩ hb) (Ev.neg hg (Ev.neg hn (Ev.neg (by rw [w1];exact ht) (Ev.pos (by simp only;omega) (Ev.opt he (Ev.pos (by rw [w3];exact hv) ?_))))))))⟩
     simp only [w2,es]
     refine Ev.po (Ev.po (Ev.bind (zbvy ⟨zz,_⟩ hbs (by simp only [y20,y13];omega)) (Ev.pos hr (Ev.po (Ev.po (Ev.po (Ev.cast ih ?_)))))))
     simp only [eldD,h0,hg,hn,ht,he,hv,hr,if_true,if_false]
    ·refine ⟨true,Ev.su (Ev.po (Ev.bind (zbud ⟨zz,d⟩ hb) (Ev.neg hg (Ev.neg hn (Ev.neg (by rw [w1];exact ht) (Ev.pos (by simp only;omega) (Ev.opt he (Ev.pos (by rw [w3];exact hv) ?_))))))))⟩
     simp only [w2,es]
     refine Ev.po (Ev.po (Ev.bind (zbvy ⟨zz,_⟩ hbs (by simp only [y20,y13];omega)) (Ev.neg hr (Ev.ret' ?_))))
     simp only [eldD,h0,hg,hn,ht,he,hv,hr,if_true,if_false,resE]
   ·refine ⟨true,Ev.su (Ev.po (Ev.bind (zbud ⟨zz,d⟩ hb) (Ev.neg hg (Ev.neg hn (Ev.neg (by rw [w1];exact ht) (Ev.pos (by simp only;omega) (Ev.opt he (Ev.neg (by rw [w3];exact hv) (Ev.ret' ?_)))))))))⟩
    simp only [eldD,h0,hg,hn,ht,he,y4,hv,if_false,resE]
theorem zbw8 {v:Int} (v1:1<=v) (v3:v<=3) (s:Sl Int) (hb:isB s.l) (hl:s.l.length<=4294967296): ∃z,Ev (fun q=>znw q v s) (resE z (eldD v (s.l.length+1) s.l [])):=by
 obtain ⟨z,h⟩:=zbw7 v1 v3 s.z (s.l.length+1) s.l [] true (by omega) hb hl (by simpa using hl)
 exact ⟨z,Ev.su h⟩
theorem zbw9 {v:Int}: ∀{k:Nat} {d:List Int} {acc l:List zkq},eldD v k d acc=some l->l.length<=acc.length+d.length
 | 0,d,acc,l,h=>by simp [eldD] at h
 | k+1,d,acc,l,h=>by
  have n1:=zbue (l:=d)
  simp only [eldD] at h
  split at h
  ·cases h;omega
  split at h
  ·cases h
  split at h
  ·cases h
  split at h
  ·cases h
  split at h
  ·split at h
   ·have:=zbw9 h
    simp only [y10,y21,y25,y13] at this
    omega
   ·cases h
  ·cases h
/-- The records of a block's data. -/
def blockR (v:Int) (d:List Int):Option (List zkq):=if v=3 then blkD d else eldD v (d.length+1) d []
theorem zbxa {v:Int} {d:List Int} {l:List zkq} (h:blockR v d=some l):l.length<=d.length+256:=by
 unfold blockR at h
 split at h
 ·have h2:=(zbw6 h).1
  cases l with
  | nil=>simp
  | cons a l=>simp only [blkOk,y6,decide_eq_true_eq] at h2;omega
 ·have:=zbw9 h;rw [y25] at this;omega
def stepW (first:Int) (acc:List zkq) (full:Bool) (l:List zkq):Int:=
 if full=true/\l.length≠0/\l.length<=16/\chainB l (first+acc.length)=true then (if 4096<acc.length+l.length then 5 else 0) else 3
theorem zbxb {R:Type} {full:Bool} {s:Sl zkq} {first nx tot:Int} {acc:List zkq} {cap:Prop} [Decidable cap] {E3 E5:R} {rec:Nat->Option R} {res:R} (hf:0<=first/\first<4611686018427387904) (ha:acc.length<=4096) (hs:s.l.length<=100000000)
  (hnx:nx=first+acc.length) (htot:tot=acc.length+s.l.length) (hcap:acc.length+s.l.length<=4294967296->cap)
  (h3:stepW first acc full s.l=3->res=E3) (h5:stepW first acc full s.l=5->res=E5) (h0:stepW first acc full s.l=0->Ev rec res):
  Ev (fun q=>if full=true then (if (s.l.length:Int)=0 then some E3 else (if 16<(s.l.length:Int) then some E3 else ((znn q s (wrp .i64 nx)).bind fun r=>(if r=true then (if 4096<(wrp .i64 tot) then some E5 else (if cap then rec q else none)) else some E3)))) else some E3) res:=by
 unfold stepW at h3 h5 h0
 refine Ev.ite (fun hfull=>?_) fun hfull=>?_
 ·by_cases hc:full=true/\s.l.length≠0/\s.l.length<=16/\chainB s.l (first+acc.length)=true
  ·rw [if_pos hc] at h3 h5 h0
   have w1:wrp .i64 nx=first+acc.length:=by rw [hnx,zbsa (by omega) (by omega)]
   have w2:wrp .i64 tot=acc.length+s.l.length:=by rw [htot,zbsa (by omega) (by omega)]
   rw [w1,w2]
   refine Ev.ne (Ev.ne (Ev.bind (zbwq s _ (zbsy (by omega) (by omega)) (by omega)) (Ev.pos ?_ (Ev.ite (fun h=>?_) fun h=>?_))))
   ·rw [hc.2.2.2];simp only [y64,decide_eq_true_eq];omega
   ·exact Ev.ret' (h5 (if_pos (by omega))).symm
   ·exact Ev.pos (hcap (by omega)) (h0 (if_neg (by omega)))
  ·rw [if_neg hc] at h3
   refine Ev.ite (fun h=>Ev.ret' (h3 rfl).symm) fun h=>Ev.ite (fun h'=>Ev.ret' (h3 rfl).symm) fun h'=>?_
   have w1:wrp .i64 nx=first+acc.length:=by rw [hnx,zbsa (by omega) (by omega)]
   rw [w1]
   refine Ev.bind (zbwq s _ (zbsy (by omega) (by omega)) (by omega)) (Ev.neg ?_ (Ev.ret' (h3 rfl).symm))
   intro e
   simp only [y6] at e
   exact hc ⟨hfull,by omega,by omega,e.1⟩
 ·rw [if_neg (fun h=>hfull h.1)] at h3
  exact Ev.ret' (h3 rfl).symm
/-- A walk over frames' data: how many are of it, the first error, the records, is the last block full? -/
def walkS (v first:Int):List (List Int)->Nat->List zkq->Bool->Nat×Int×List zkq×Bool
 | [],i,acc,full=>(i,0,acc,full)
 | d::D,i,acc,full=>match blockR v d with
  | none=>(i,3,acc,full)
  | some l=>if stepW first acc full l=0 then walkS v first D (i+1) (acc++l) (decide (l.length=16)) else (i,stepW first acc full l,acc,full)
def T0 (n:Nat) (e v k f:Int) (full:Bool):Nat×Int×Int×Int×Int×Int×Bool×Int×Int×Int×Int×Int×Nat×Bool×Bool×(List zkq):=(0,(n:Int),e,v,k,f,full,0,0,0,0,0,0,false,false,[])
def T1 (n:Nat) (e v k f:Int) (full z:Bool) (l:List zkq):Nat×Int×Int×Int×Int×Int×Bool×Int×Int×Int×Int×Int×Nat×Bool×Bool×(List zkq):=(1,0,0,0,0,0,false,(n:Int),e,v,k,f,l.length,full,z,l)
theorem zbxc {first:Int} {acc:List zkq} {full:Bool} {l:List zkq} (h:stepW first acc full l=0):full=true/\l.length≠0/\l.length<=16/\chainB l (first+acc.length)=true/\acc.length+l.length<=4096:=by
 unfold stepW at h
 split at h
 ·rename_i hc
  split at h
  ·omega
  ·exact ⟨hc.1,hc.2.1,hc.2.2.1,hc.2.2.2,by omega⟩
 ·omega
/-- A head's data. -/
def headR (d:List Int):Int×Int×Int×Int×Bool:=
  if d.length=0 then (3,0,0,0,false) else if d[0]? =some 108 then
    (if (getN (d.drop 1)).2=0 then (3,0,0,0,false) else
     if (getN ((d.drop 1).drop (getN (d.drop 1)).2.toNat)).2=0 then (3,0,0,0,false) else
     if (getN (((d.drop 1).drop (getN (d.drop 1)).2.toNat).drop (getN ((d.drop 1).drop (getN (d.drop 1)).2.toNat)).2.toNat)).2=0 then (3,0,0,0,false) else
     if 0<((((d.drop 1).drop (getN (d.drop 1)).2.toNat).drop (getN ((d.drop 1).drop (getN (d.drop 1)).2.toNat)).2.toNat).drop (getN (((d.drop 1).drop (getN (d.drop 1)).2.toNat).drop (getN ((d.drop 1).drop (getN (d.drop 1)).2.toNat)).2.toNat)).2.toNat).length then (3,0,0,0,false) else
     if 1<=(getN (d.drop 1)).1/\(getN (d.drop 1)).1<=3 then
       (if 6<=(getN ((d.drop 1).drop (getN (d.drop 1)).2.toNat)).1 then (1,0,0,0,false) else (0,(getN (d.drop 1)).1,(getN ((d.drop 1).drop (getN (d.drop 1)).2.toNat)).1,(getN (((d.drop 1).drop (getN (d.drop 1)).2.toNat).drop (getN ((d.drop 1).drop (getN (d.drop 1)).2.toNat)).2.toNat)).1,true))
     else (6,0,0,0,false)) else (3,0,0,0,false)
theorem zbxd {d:List Int} (h:(headR d).1=0):1<=(headR d).2.1/\(headR d).2.1<=3/\0<=(headR d).2.2.1/\(headR d).2.2.1<6/\0<=(headR d).2.2.2.1/\(headR d).2.2.2.1<4611686018427387904/\(headR d).2.2.2.2=true:=by
 have n2:=zbue (l:=(d.drop 1).drop (getN (d.drop 1)).2.toNat)
 have n3:=zbue (l:=((d.drop 1).drop (getN (d.drop 1)).2.toNat).drop (getN ((d.drop 1).drop (getN (d.drop 1)).2.toNat)).2.toNat)
 unfold headR at h ⊢
 repeat' split at h
 all_goals first | (simp only at h;omega) | skip
 rename_i c1 c2 c3 c4 c5 c6 c7 c8
 rw [if_neg c1,if_pos c2,if_neg c3,if_neg c4,if_neg c5,if_neg c6,if_pos c7,if_neg c8]
 simp only
 exact ⟨c7.1,c7.2,by omega,by omega,by omega,by omega,trivial⟩
theorem zbxe (d:Sl Int) (hb:isB d.l) (hl:d.l.length<=4294967296) (h1z:Bool) (h1l:List (Sl Int)) (h1x:Bool):Ev (fun q=>zn8 q d.z d.l h1z h1l h1x) (headR d.l):=by
 obtain ⟨z,l⟩:=d
 simp only at hb hl ⊢
 have w1:wrp .i64 ((0:Int)+1)=1:=by rw [zbsa (by omega) (by omega)];rfl
 have w2:wrp .i64 ((1:Int)+1)=2:=by rw [zbsa (by omega) (by omega)];rfl
 have w3:wrp .i64 ((2:Int)+1)=3:=by rw [zbsa (by omega) (by omega)];rfl
 unfold headR
 by_cases h0:l.length=0
 ·rw [if_pos h0]
  exact Ev.su (Ev.po (Ev.ret _))
 rw [if_neg h0]
 have he:l[0]? =some l[0]:=y7 (by omega)
 by_cases hm:l[0]=108
 ·rw [if_pos (by rw [he,hm])]
  refine Ev.su (Ev.ne (Ev.opt he (Ev.pos hm (Ev.pos (by omega) ?_))))
  have b0:=zbul hb 1
  generalize l.drop 1=l0 at b0 ⊢
  have n1:=zbue (l:=l0)
  refine Ev.succ (g:=fun q=>(zmx q ⟨z,l0⟩).bind fun r2=>if r2.2=0 then some (3,0,0,0,false) else if 0<=r2.2 then (if r2.2<=(l0.length:Int) then zn7 q z (List.drop r2.2.toNat l0) (wrp .i64 (0+1)) h1z h1l h1x r2.1 0 0 else none) else none) ?_ (fun q=>rfl)
  refine Ev.bind (zbud ⟨z,l0⟩ b0) (Ev.ite (fun h=>?_) fun h=>?_)
  ·rw [if_pos h];exact Ev.ret _
  rw [if_neg h,w1]
  refine Ev.pos (by simp only;omega) (Ev.pos (by simp only;omega) ?_)
  have b1:=zbul b0 (getN l0).2.toNat
  simp only
  generalize l0.drop (getN l0).2.toNat=l1 at b1 ⊢
  have n2:=zbue (l:=l1)
  refine Ev.succ (g:=fun q=>(zmx q ⟨z,l1⟩).bind fun r2=>if r2.2=0 then some (3,0,0,0,false) else if 0<=r2.2 then (if r2.2<=(l1.length:Int) then zn7 q z (List.drop r2.2.toNat l1) (wrp .i64 (1+1)) h1z h1l h1x (getN l0).1 r2.1 0 else none) else none) ?_ (fun q=>rfl)
  refine Ev.bind (zbud ⟨z,l1⟩ b1) (Ev.ite (fun h=>?_) fun h=>?_)
  ·rw [if_pos h];exact Ev.ret _
  rw [if_neg h,w2]
  refine Ev.pos (by simp only;omega) (Ev.pos (by simp only;omega) ?_)
  have b2:=zbul b1 (getN l1).2.toNat
  simp only
  generalize l1.drop (getN l1).2.toNat=l2 at b2 ⊢
  have n3:=zbue (l:=l2)
  refine Ev.succ (g:=fun q=>(zmx q ⟨z,l2⟩).bind fun r2=>if r2.2=0 then some (3,0,0,0,false) else if 0<=r2.2 then (if r2.2<=(l2.length:Int) then zn7 q z (List.drop r2.2.toNat l2) (wrp .i64 (2+1)) h1z h1l h1x (getN l0).1 (getN l1).1 r2.1 else none) else none) ?_ (fun q=>rfl)
  refine Ev.bind (zbud ⟨z,l2⟩ b2) (Ev.ite (fun h=>?_) fun h=>?_)
  ·rw [if_pos h];exact Ev.ret _
  rw [if_neg h,w3]
  refine Ev.pos (by simp only;omega) (Ev.pos (by simp only;omega) ?_)
  simp only
  generalize l2.drop (getN l2).2.toNat=l3
  refine Ev.succ (g:=fun q=>if 0<(l3.length:Int) then some (3,0,0,0,false) else (zna q (getN l0).1).bind fun r3=>if r3=true then (if 6<=(getN l1).1 then some (1,0,0,0,false) else some (0,(getN l0).1,(getN l1).1,(getN l2).1,true)) else some (6,0,0,0,false)) ?_ (fun q=>rfl)
  refine Ev.ite (fun h=>?_) fun h=>?_
  ·rw [if_pos (show 0<l3.length by omega)];exact Ev.ret _
  rw [if_neg (show¬0<l3.length by omega)]
  refine Ev.bind (zbwo _) (Ev.ite (fun h=>?_) fun h=>?_)
  ·rw [if_pos (show 1<=(getN l0).1/\(getN l0).1<=3 by simpa using h)]
   refine Ev.ite (fun h=>?_) fun h=>?_
   ·rw [if_pos h];exact Ev.ret _
   ·rw [if_neg h];exact Ev.ret _
  ·rw [if_neg (show¬(1<=(getN l0).1/\(getN l0).1<=3) by simpa using h)];exact Ev.ret _
 ·rw [if_neg (by rw [he];simpa using hm)]
  exact Ev.su (Ev.ne (Ev.opt he (Ev.neg hm (Ev.ret _))))
theorem zbxf {v k f:Int} (v1:1<=v) (v3:v<=3) (hf:0<=f/\f<4611686018427387904) (m:Nat) (h1z:Bool) (h1l:List (Sl Int)) (h1x:Bool) (hm1:1<=m) (hm:m<=h1l.length) (hB: ∀e∈h1l,isB e.l/\e.l.length<=10000000) (hL:m<=1000000000): ∀(n i:Nat) (acc:List zkq) (full z:Bool),m - 1=i+n->acc.length<=4096->
  ∃z',Ev (fun q=>zn9 q m (m - 1) ((m - 1:Nat):Int) (i:Int) h1z h1l h1x v k f full z acc) (T1 (walkS v f (((h1l.take m).drop (1+i)).map (·.l)) (1+i) acc full).1 (walkS v f (((h1l.take m).drop (1+i)).map (·.l)) (1+i) acc full).2.1 v k f (walkS v f (((h1l.take m).drop (1+i)).map (·.l)) (1+i) acc full).2.2.2 z' (walkS v f (((h1l.take m).drop (1+i)).map (·.l)) (1+i) acc full).2.2.1)
 | 0,i,acc,full,z,hk,ha=>by
  refine ⟨z,Ev.su (Ev.ne (Ev.ret' ?_))⟩
  rw [y12 (by rw [y20];omega)]
  simp only [y63,walkS,T1]
  rw [show 1+i=m by omega]
 | n+1,i,acc,full,z,hk,ha=>by
  have hi:1+i<h1l.length:=by omega
  have hd:(h1l.take m).drop (1+i)=h1l[1+i]::(h1l.take m).drop (1+(i+1)):=by
   rw [y9 (by rw [y20];omega)]
   congr 1
   exact List.getElem_take
  have hg:h1l[1+(((i:Nat):Int)).toNat]? =some h1l[1+i]:=by rw [y28];exact y7 hi
  obtain ⟨hb,hl⟩:=hB h1l[1+i] (y26 hi)
  have wi:wrp .i64 ((i:Int)+1)=((1+i:Nat):Int):=by rw [zbsa (by omega) (by omega)];omega
  have wi':wrp .i64 ((i:Int)+1)=((i+1:Nat):Int):=by rw [zbsa (by omega) (by omega)];omega
  rw [hd,y34]
  have body: ∀(l:List zkq) (zz:Bool),blockR v h1l[1+i].l=some l-> ∃z',Ev (fun q=>if full=true then (if (l.length:Int)=0 then some (T1 (1+i) 3 v k f full z acc) else (if 16<(l.length:Int) then some (T1 (1+i) 3 v k f full z acc) else ((znn q ⟨zz,l⟩ (wrp .i64 (f+(acc.length:Int)))).bind fun r=>(if r=true then (if 4096<(wrp .i64 ((acc.length:Int)+(l.length:Int))) then some (T1 (1+i) 5 v k f full z acc) else (if (acc.length+l.length)<=4294967296 then zn9 q m (m - 1) ((m - 1:Nat):Int) (wrp .i64 ((i:Int)+1)) h1z h1l h1x v k f (decide ((l.length:Int)=16)) (z && (decide (l.length=0))) (acc++l) else none)) else some (T1 (1+i) 3 v k f full z acc))))) else some (T1 (1+i) 3 v k f full z acc)) (T1 (walkS v f (h1l[1+i].l::((h1l.take m).drop (1+(i+1))).map (·.l)) (1+i) acc full).1 (walkS v f (h1l[1+i].l::((h1l.take m).drop (1+(i+1))).map (·.l)) (1+i) acc full).2.1 v k f (walkS v f (h1l[1+i].l::((h1l.take m).drop (1+(i+1))).map (·.l)) (1+i) acc full).2.2.2 z' (walkS v f (h1l[1+i].l::((h1l.take m).drop (1+(i+1))).map (·.l)) (1+i) acc full).2.2.1):=fun l zz hR=>by
   have hll:=zbxa hR
   simp only [walkS,hR]
   by_cases h0:stepW f acc full l=0
   ·obtain ⟨c1,c2,c3,c4,c5⟩:=zbxc h0
    obtain ⟨z',ih⟩:=zbxf (k:=k) v1 v3 hf m h1z h1l h1x hm1 hm hB hL  n (i+1) (acc++l) (decide (l.length=16)) (z && (decide (l.length=0))) (by omega) (by rw [y10];omega)
    refine ⟨z',zbxb (s:=⟨zz,l⟩) (acc:=acc) hf ha (by simp only;omega) rfl rfl (fun h=>h) (fun h=>absurd (h0.symm.trans h) (by decide)) (fun h=>absurd (h0.symm.trans h) (by decide)) (fun _=>?_)⟩
    rw [if_pos h0,wi',show (decide ((l.length:Int)=16))=decide (l.length=16) by by_cases h:l.length=16<;>simp [h]<;>omega,show 1+i+1=1+(i+1) by omega]
    exact ih
   ·rw [if_neg h0]
    refine ⟨z,zbxb (s:=⟨zz,l⟩) (acc:=acc) hf ha (by simp only;omega) rfl rfl (fun h=>h) (fun h=>?_) (fun h=>?_) (fun h=>absurd h h0)⟩
    ·simp only [h]
    ·simp only [h]
  have none_:blockR v h1l[1+i].l=none->(T1 (1+i) 3 v k f full z acc)=(T1 (walkS v f (h1l[1+i].l::((h1l.take m).drop (1+(i+1))).map (·.l)) (1+i) acc full).1 (walkS v f (h1l[1+i].l::((h1l.take m).drop (1+(i+1))).map (·.l)) (1+i) acc full).2.1 v k f (walkS v f (h1l[1+i].l::((h1l.take m).drop (1+(i+1))).map (·.l)) (1+i) acc full).2.2.2 z (walkS v f (h1l[1+i].l::((h1l.take m).drop (1+(i+1))).map (·.l)) (1+i) acc full).2.2.1):=fun h=>by simp only [walkS,h]
  by_cases h3:v=3
  ·have hE:=zbw5 h1l[1+i] hb (by omega)
   cases hR:blkD h1l[1+i].l with
   | none=>
    rw [hR] at hE
    refine ⟨z,Ev.su (Ev.po (Ev.po (Ev.po (Ev.opt hg (Ev.pos h3 (Ev.bind hE (Ev.neg (by simp only [resB];omega) (Ev.ret' ?_))))))))⟩
    rw [wi];exact none_ (by unfold blockR;rw [if_pos h3,hR])
   | some l=>
    rw [hR] at hE
    obtain ⟨z',hBd⟩:=body l false (by unfold blockR;rw [if_pos h3,hR])
    refine ⟨z',Ev.su (Ev.po (Ev.po (Ev.po (Ev.opt hg (Ev.pos h3 (Ev.bind hE (Ev.pos rfl ?_)))))))⟩
    unfold T1 at hBd;rw [<- wi] at hBd
    exact hBd
  ·obtain ⟨ze,hE⟩:=zbw8 v1 v3 h1l[1+i] hb (by omega)
   cases hR:eldD v (h1l[1+i].l.length+1) h1l[1+i].l [] with
   | none=>
    rw [hR] at hE
    refine ⟨z,Ev.su (Ev.po (Ev.po (Ev.po (Ev.opt hg (Ev.neg h3 (Ev.bind hE (Ev.neg (by simp only [resE];decide) (Ev.ret' ?_))))))))⟩
    rw [wi];exact none_ (by unfold blockR;rw [if_neg h3,hR])
   | some l=>
    rw [hR] at hE
    obtain ⟨z',hBd⟩:=body l ze (by unfold blockR;rw [if_neg h3,hR])
    refine ⟨z',Ev.su (Ev.po (Ev.po (Ev.po (Ev.opt hg (Ev.neg h3 (Ev.bind hE (Ev.pos rfl ?_)))))))⟩
    unfold T1 at hBd;rw [<- wi] at hBd
    exact hBd
theorem zbxg {d:List Int} (h:(headR d).1≠0):headR d=((headR d).1,0,0,0,false):=by
 unfold headR at h ⊢
 repeat' split
 all_goals first | rfl | skip
 rename_i c1 c2 c3 c4 c5 c6 c7 c8
 rw [if_neg c1,if_pos c2,if_neg c3,if_neg c4,if_neg c5,if_neg c6,if_pos c7,if_neg c8] at h
 exact absurd rfl h
def IsT (T:Nat×Int×Int×Int×Int×Int×Bool×Int×Int×Int×Int×Int×Nat×Bool×Bool×(List zkq)) (w:Nat×Int×List zkq×Bool) (v k f:Int):Prop:=
 (T=T0 w.1 w.2.1 v k f w.2.2.2/\w.2.2.1=[])\/ ∃z,T=T1 w.1 w.2.1 v k f w.2.2.2 z w.2.2.1
/-- A walk over frames' data, the head's first: how many, the first error, the version, the kind, the first index, the records. -/
def walkA:List (List Int)->Nat×Int×Int×Int×Int×List zkq
 | []=>(0,0,0,0,0,[])
 | d::D=>if (headR d).1=0 then ((walkS (headR d).2.1 (headR d).2.2.2.1 D 1 [] true).1,(walkS (headR d).2.1 (headR d).2.2.2.1 D 1 [] true).2.1,(headR d).2.1,(headR d).2.2.1,(headR d).2.2.2.1,(walkS (headR d).2.1 (headR d).2.2.2.1 D 1 [] true).2.2.1) else (0,(headR d).1,0,0,0,[])
def IsA (T:Nat×Int×Int×Int×Int×Int×Bool×Int×Int×Int×Int×Int×Nat×Bool×Bool×(List zkq)) (w:Nat×Int×Int×Int×Int×List zkq):Prop:=
 (∃full,T=T0 w.1 w.2.1 w.2.2.1 w.2.2.2.1 w.2.2.2.2.1 full/\w.2.2.2.2.2=[])\/ ∃full z,T=T1 w.1 w.2.1 w.2.2.1 w.2.2.2.1 w.2.2.2.2.1 full z w.2.2.2.2.2
theorem zbxh {v k f:Int} (v1:1<=v) (v3:v<=3) (hf:0<=f/\f<4611686018427387904) (m:Nat) (h1z:Bool) (h1l:List (Sl Int)) (h1x:Bool) (hm1:1<=m) (hm:m<=h1l.length) (hB: ∀e∈h1l,isB e.l/\e.l.length<=10000000) (hL:m<=1000000000):
  ∃T,Ev (fun q=>zoa q m (m - 1) ((m - 1:Nat):Int) h1z h1l h1x v k f true) T/\IsT T (walkS v f (((h1l.take m).drop 1).map (·.l)) 1 [] true) v k f:=by
 have w1:wrp .i64 1=1:=by rw [zbsa (by omega) (by omega)]
 by_cases hm2:m=1
 ·refine ⟨_,Ev.su (Ev.ne (Ev.ret _)),?_⟩
  rw [y12 (by rw [y20];omega)]
  refine .inl ⟨?_,rfl⟩
  simp only [y63,walkS,T0]
  rw [hm2]
 ·have hi:1<h1l.length:=by omega
  have hd:(h1l.take m).drop 1=h1l[1]::(h1l.take m).drop (1+1):=by
   rw [y9 (by rw [y20];omega)]
   congr 1
   exact List.getElem_take
  have hg:h1l[1]? =some h1l[1]:=y7 hi
  obtain ⟨hb,hl⟩:=hB h1l[1] (y26 hi)
  rw [hd,y34]
  have body: ∀(l:List zkq) (zz:Bool),blockR v h1l[1].l=some l-> ∃T,Ev (fun q=>if true=true then (if (l.length:Int)=0 then some (T0 1 3 v k f true) else (if 16<(l.length:Int) then some (T0 1 3 v k f true) else ((znn q ⟨zz,l⟩ (wrp .i64 (f+0))).bind fun r=>(if r=true then (if 4096<(wrp .i64 (0+(l.length:Int))) then some (T0 1 5 v k f true) else (if l.length<=4294967296 then zn9 q m (m - 1) ((m - 1:Nat):Int) (wrp .i64 1) h1z h1l h1x v k f (decide ((l.length:Int)=16)) (decide (l.length=0)) l else none)) else some (T0 1 3 v k f true))))) else some (T0 1 3 v k f true)) T/\IsT T (walkS v f (h1l[1].l::((h1l.take m).drop (1+1)).map (·.l)) 1 [] true) v k f:=fun l zz hR=>by
   have hll:=zbxa hR
   simp only [walkS,hR]
   by_cases h0:stepW f [] true l=0
   ·obtain ⟨c1,c2,c3,c4,c5⟩:=zbxc h0
    rw [y25] at c5
    obtain ⟨z',ih⟩:=zbxf (k:=k) v1 v3 hf m h1z h1l h1x hm1 hm hB hL (m - 2) 1 l (decide (l.length=16)) (decide (l.length=0)) (by omega) (by omega)
    refine ⟨_,zbxb (s:=⟨zz,l⟩) (acc:=[]) (full:=true) hf (by simp) (by simp only;omega) (by simp) (by simp) (fun h=>by simpa using h) (fun h=>absurd (h0.symm.trans h) (by decide)) (fun h=>absurd (h0.symm.trans h) (by decide)) (fun _=>?_), .inr ⟨z',rfl⟩⟩
    rw [if_pos h0,w1,show (decide ((l.length:Int)=16))=decide (l.length=16) by by_cases h:l.length=16<;>simp [h]<;>omega]
    exact ih
   ·rw [if_neg h0]
    refine ⟨_,zbxb (s:=⟨zz,l⟩) (acc:=[]) (full:=true) (res:=T0 1 (stepW f [] true l) v k f true) hf (by simp) (by simp only;omega) (by simp) (by simp) (fun h=>by simpa using h) (fun h=>?_) (fun h=>?_) (fun h=>absurd h h0), .inl ⟨rfl,rfl⟩⟩
    ·simp only [h]
    ·simp only [h]
  have none_:blockR v h1l[1].l=none->IsT (T0 1 3 v k f true) (walkS v f (h1l[1].l::((h1l.take m).drop (1+1)).map (·.l)) 1 [] true) v k f:=fun h=>by simp only [walkS,h];exact .inl ⟨rfl,rfl⟩
  by_cases h3:v=3
  ·have hE:=zbw5 h1l[1] hb (by omega)
   cases hR:blkD h1l[1].l with
   | none=>
    rw [hR] at hE
    refine ⟨_,Ev.su (Ev.po (Ev.po (Ev.opt hg (Ev.pos h3 (Ev.bind hE (Ev.neg (by simp only [resB];omega) (Ev.ret' ?_))))))),none_ (by unfold blockR;rw [if_pos h3,hR])⟩
    rw [w1];rfl
   | some l=>
    rw [hR] at hE
    obtain ⟨T,hBd,hT⟩:=body l false (by unfold blockR;rw [if_pos h3,hR])
    refine ⟨T,Ev.su (Ev.po (Ev.po (Ev.opt hg (Ev.pos h3 (Ev.bind hE (Ev.pos rfl ?_)))))),hT⟩
    rw [w1] at hBd ⊢
    exact hBd
  ·obtain ⟨ze,hE⟩:=zbw8 v1 v3 h1l[1] hb (by omega)
   cases hR:eldD v (h1l[1].l.length+1) h1l[1].l [] with
   | none=>
    rw [hR] at hE
    refine ⟨_,Ev.su (Ev.po (Ev.po (Ev.opt hg (Ev.neg h3 (Ev.bind hE (Ev.neg (by simp only [resE];decide) (Ev.ret' ?_))))))),none_ (by unfold blockR;rw [if_neg h3,hR])⟩
    rw [w1];rfl
   | some l=>
    rw [hR] at hE
    obtain ⟨T,hBd,hT⟩:=body l ze (by unfold blockR;rw [if_neg h3,hR])
    refine ⟨T,Ev.su (Ev.po (Ev.po (Ev.opt hg (Ev.neg h3 (Ev.bind hE (Ev.pos rfl ?_)))))),hT⟩
    rw [w1] at hBd ⊢
    exact hBd
theorem zbxi (m:Nat) (h1z:Bool) (h1l:List (Sl Int)) (h1x:Bool) (hm1:1<=m) (hm:m<=h1l.length) (hB: ∀e∈h1l,isB e.l/\e.l.length<=10000000) (hL:m<=1000000000):
  ∃T,Ev (fun q=>zob q m h1z h1l h1x) T/\IsA T (walkA ((h1l.take m).map (·.l))):=by
 have hi:0<h1l.length:=by omega
 have hg:h1l[0]? =some h1l[0]:=y7 hi
 obtain ⟨hb,hl⟩:=hB h1l[0] (y26 hi)
 have hd:h1l.take m=h1l[0]::(h1l.take m).drop 1:=by
  have:=y9 (l:=h1l.take m) (i:=0) (by rw [y20];omega)
  rw [y38] at this
  refine this.trans ?_
  congr 1
  exact List.getElem_take
 rw [hd,y34]
 have hH:=zbxe h1l[0] hb (by omega) h1z h1l h1x
 by_cases he:(headR h1l[0].l).1=0
 ·obtain ⟨o1,o2,o3,o4,o5,o6,o7⟩:=zbxd he
  obtain ⟨T,hT,hI⟩:=zbxh (k:=(headR h1l[0].l).2.2.1) o1 o2 ⟨o5,o6⟩ m h1z h1l h1x hm1 hm hB hL
  refine ⟨T,Ev.su (Ev.po (Ev.opt hg (Ev.bind hH (Ev.pos he (Ev.pos (by omega) ?_))))),?_⟩
  ·rw [o7];exact hT
  ·simp only [walkA]
   rw [if_pos he]
   rcases hI with ⟨h1,h2⟩ | ⟨z,h1⟩
   ·exact .inl ⟨_,h1,h2⟩
   ·exact .inr ⟨_,z,h1⟩
 ·refine ⟨_,Ev.su (Ev.po (Ev.opt hg (Ev.bind hH (Ev.neg he (Ev.ret _))))),?_⟩
  simp only [walkA]
  rw [if_neg he,zbxg he]
  exact .inl ⟨false,rfl,rfl⟩
theorem zbxj {D:Nat->Sl Int->Option (Ow Int×Int×Int)} {W:Nat->Bool->List Int->Int->Bool->List (Sl Int)->Option (Ow (Sl Int)×Int×Int)}
  (hW: ∀q z L i z2 h,W (q+1) z L i z2 h=if i<(L.length:Int) then (if 0<=i then (if i<=(L.length:Int) then ((D q ⟨z,(List.drop i.toNat L)⟩).bind fun r1=>(if r1.2.2=0 then (if (h.length+1)<=4294967296 then (W q z L (wrp .i64 (i+r1.2.1)) false (h++[⟨r1.1.n,r1.1.xs⟩])) else none) else (some (⟨z2,true,h⟩,i,r1.2.2)))) else none) else none) else (some (⟨z2,true,h⟩,i,0)))
  (z:Bool) (L:List Int) (hb:isB L) (hL:L.length<=4294967296)
  (hD: ∀i:Nat,i<L.length-> ∃z',Ev (fun q=>D q ⟨z,L.drop i⟩) (⟨z',true,(decF (L.drop i)).1⟩,(decF (L.drop i)).2.1,(decF (L.drop i)).2.2)):
  ∀(f i:Nat) (z2:Bool) (h:List (Sl Int)),i<=L.length->L.length - i<f->h.length<=i-> ∃z3 X,Ev (fun q=>W q z L (i:Int) z2 h) (⟨z3,true,h++X⟩,((i+(walkF f (L.drop i)).2.1:Nat):Int),(walkF f (L.drop i)).2.2)/\X.map (·.l)=(walkF f (L.drop i)).1/\(z2=false\/X≠[]->z3=false)
 | 0,i,z2,h,hi,hf,hh=>by omega
 | f +1,i,z2,h,hi,hf,hh=>by
  by_cases hlt:i<L.length
  ·have hne:L.drop i≠[]:=by intro e;have:=congrArg List.length e;simp at this;omega
   obtain ⟨z',hd⟩:=hD i hlt
   simp only [walkF]
   rw [if_neg hne]
   by_cases he:(decF (L.drop i)).2.2=0
   ·rw [if_pos he]
    obtain ⟨k1,k2⟩:=zbvb (zbul hb i) he
    rw [y13] at k2
    obtain ⟨z3,X,hx,hm,hz⟩:=zbxj hW z L hb hL hD f (i+(decF (L.drop i)).2.1.toNat) false (h++[⟨z',(decF (L.drop i)).1⟩]) (by omega) (by omega) (by simp;omega)
    rw [<- y50] at hx hm
    refine ⟨z3,⟨z',(decF (L.drop i)).1⟩::X,?_,?_,fun _=>hz (.inl rfl)⟩
    ·refine Ev.succ (Ev.po (Ev.po (Ev.po (Ev.bind hd (Ev.pos he (Ev.pos (by omega) ?_)))))) (fun q=>hW q _ _ _ _ _)
     have wi:wrp .i64 ((i:Int)+(decF (L.drop i)).2.1)=((i+(decF (L.drop i)).2.1.toNat:Nat):Int):=by
      rw [zbsa (by omega) (by omega)];omega
     simp only [wi]
     refine hx.cast ?_
     simp only [y33,List.cons_append,y47,y57]
    ·simp [hm]
   ·rw [if_neg he]
    refine ⟨z2,[],Ev.succ (Ev.po (Ev.po (Ev.po (Ev.bind hd (Ev.neg he (Ev.ret' (by simp))))))) (fun q=>hW q _ _ _ _ _),rfl,fun h=>h.elim id (fun h=>absurd rfl h)⟩
  ·rw [y12 (by omega)]
   simp only [walkF,if_true]
   exact ⟨z2,[],Ev.succ (Ev.ne (Ev.ret' (by simp))) (fun q=>hW q _ _ _ _ _),rfl,fun h=>h.elim id (fun h=>absurd rfl h)⟩
theorem zbxk (s:Sl Int) (hz:s.z=true->s.l=[]) (hb:isB s.l) (hl:s.l.length<=4294967296): ∃z X,Ev (fun q=>zm8 q s) (⟨z,true,X⟩,(((allF s.l).2.1:Nat):Int),(allF s.l).2.2)/\X.map (·.l)=(allF s.l).1/\(X≠[]->z=false):=by
 obtain ⟨z,X,h,hm,hz3⟩:=zbxj (D:=fun q s=>zm1 q s) (W:=zm7) (fun q z L i z2 h=>rfl) s.z s.l hb hl (fun i hi=>zbum ⟨s.z,s.l.drop i⟩ (fun h=>by rw [hz h];simp) (zbul hb i) (by simp;omega)) (s.l.length+1) 0 true [] (by omega) (by omega) (by simp)
 rw [y38] at h hm
 refine ⟨z,X,Ev.su h |>.cast ?_,hm,fun h=>hz3 (.inr h)⟩
 simp [allF]
theorem zbxl (s:Sl Int) (hz:s.z=true->s.l=[]) (hb:isB s.l) (hl:s.l.length<=4294967296): ∃z X,Ev (fun q=>zm9 q s) (⟨z,true,X⟩,(allE s.l).2)/\X.map (·.l)=(allE s.l).1/\(X≠[]->z=false):=by
 obtain ⟨z,X,h,hm,h3⟩:=zbxk s hz hb hl
 unfold allE
 by_cases he:(allF s.l).2.2=0
 ·rw [if_pos he];exact ⟨z,X,Ev.su (Ev.bind h (Ev.pos he (Ev.ret _))),hm,h3⟩
 ·rw [if_neg he];exact ⟨true,[],Ev.su (Ev.bind h (Ev.neg he (Ev.ret _))),rfl,fun h=>absurd rfl h⟩
theorem zbxm: ∀{f:Nat} {l:List Int},isB l-> ∀d∈(walkF f l).1,isB d/\d.length<=1048576
 | 0,l,hb,d,h=>by simp [walkF] at h
 | f +1,l,hb,d,h=>by
  simp only [walkF] at h
  split at h
  ·simp at h
  ·split at h
   ·rename_i h1 h2
    rcases List.mem_cons.1 h with e | e
    ·rw [e]
     exact ⟨zbus hb,(zbur (l:=l) (x:=(decF l).1) (n:=(decF l).2.1) hb (by rw [<- h2])).1⟩
    ·exact zbxm (zbul hb _) d e
   ·simp at h
theorem zbxn {l:List Int} (hb:isB l):(∀d∈(allE l).1,isB d/\d.length<=1048576)/\(allE l).1.length<=l.length:=by
 unfold allE
 split
 ·exact ⟨zbxm hb,zbvh hb⟩
 ·simp
theorem zbxo (z:Bool) (L:List (Sl Int)) (hL:L.length<=1000000000) (hB: ∀e∈L,isB e.l/\e.l.length<=1048576): ∀(k i:Nat) (h0z:Bool) (h0l:List (Sl Int)),L.length=i+k->h0l.length=i->
  ∃z' X,Ev (fun q=>zny q z L (L.length:Int) (i:Int) h0z h0l) ⟨z',true,h0l++X⟩/\X.map (·.l)=(L.drop i).map fun e=>encF e.l
 | 0,i,h0z,h0l,hk,hh=>by
  refine ⟨h0z,[],Ev.su (Ev.ne (Ev.ret' (by simp))),?_⟩
  rw [y12 (by omega)];rfl
 | k+1,i,h0z,h0l,hk,hh=>by
  have hi:i<L.length:=by omega
  have he:L[((i:Int)).toNat]? =some L[i]:=by simp [hi]
  obtain ⟨hb,hl⟩:=hB L[i] (y26 hi)
  obtain ⟨zf,hf⟩:=zbwn L[i] hb hl
  obtain ⟨z',X,ih,hX⟩:=zbxo z L hL hB k (i+1) false (h0l++[⟨zf,encF L[i].l⟩]) (by omega) (by simp [hh])
  rw [show ((i+1:Nat):Int)=wrp .i64 ((i:Int)+1) by rw [zbsa (by omega) (by omega)];omega] at ih
  refine ⟨z',⟨zf,encF L[i].l⟩::X,Ev.su (Ev.po (Ev.po (Ev.opt he (Ev.bind hf (Ev.po (Ev.cast ih ?_)))))),?_⟩
  ·simp
  ·rw [y9 hi,y34,y34,hX]
theorem zbxp (s:Sl (Sl Int)) (hL:s.l.length<=1000000000) (hB: ∀e∈s.l,isB e.l/\e.l.length<=1048576): ∃z' X,Ev (fun q=>znz q s) ⟨z',true,X⟩/\X.map (·.l)=s.l.map fun e=>encF e.l:=by
 obtain ⟨z',X,h,hX⟩:=zbxo s.z s.l hL hB s.l.length 0 true [] (by omega) rfl
 exact ⟨z',X,Ev.su (Ev.cast h (by simp)),by simpa using hX⟩
/-- A segment's reading: kind, first index, records; the frames ahead of the footer; the error. -/
def segD (b:List Int):(Int×Int×List zkq)×List (List Int)×Int:=
 if (allE b).2=0 then
  if (allE b).1.length<2 then ((0,0,[]),[],16) else
  if (walkA ((allE b).1.take ((allE b).1.length - 1))).2.1=0 then
   if encF (footD (((allE b).1.take ((allE b).1.length - 1)).map encF))=encF ((allE b).1.getD ((allE b).1.length - 1) []) then
    (((walkA ((allE b).1.take ((allE b).1.length - 1))).2.2.2.1,(walkA ((allE b).1.take ((allE b).1.length - 1))).2.2.2.2.1,(walkA ((allE b).1.take ((allE b).1.length - 1))).2.2.2.2.2),((allE b).1.take ((allE b).1.length - 1)).map encF,0)
   else ((0,0,[]),[],16)
  else ((0,0,[]),[],(walkA ((allE b).1.take ((allE b).1.length - 1))).2.1)
 else ((0,0,[]),[],(allE b).2)
theorem zbxq (s:Sl Int) (hz:s.z=true->s.l=[]) (hb:isB s.l) (hl:s.l.length<=90000): ∃sz z x X,Ev (fun q=>zoc q s) (⟨(segD s.l).1.1,(segD s.l).1.2.1,⟨sz,(segD s.l).1.2.2⟩⟩,⟨z,x,X⟩,(segD s.l).2.2)/\X.map (·.l)=(segD s.l).2.1:=by
 obtain ⟨z0,X,hA,hX,hz0⟩:=zbxl s hz hb (by omega)
 obtain ⟨hM,hMl⟩:=zbxn hb
 have hXl:X.length=(allE s.l).1.length:=by rw [<- hX,y24]
 unfold segD
 by_cases he:(allE s.l).2=0
 ·simp only [if_pos he]
  by_cases h2:(allE s.l).1.length<2
  ·simp only [if_pos h2]
   exact ⟨true,true,true,[],Ev.su (Ev.bind hA (Ev.pos he (Ev.pos (by simp only;omega) (Ev.ret _)))),rfl⟩
  ·simp only [if_neg h2]
   have hw:wrp .i64 ((X.length:Int) - 1)=((X.length - 1:Nat):Int):=by rw [zbsa (by omega) (by omega)];omega
   have hzf:z0=false:=hz0 (fun e=>by rw [e] at hXl;simp at hXl;omega)
   have hB: ∀e∈X,isB e.l/\e.l.length<=1048576:=fun e he=>hM e.l (by rw [<- hX];exact y60 (f:=fun x:Sl Int=>x.l) he)
   obtain ⟨T,hT,hI⟩:=zbxi (X.length - 1) false X true (by omega) (by omega) (fun e he=>⟨(hB e he).1,by have:=(hB e he).2;omega⟩) (by omega)
   have htk:(X.take (X.length - 1)).map (·.l)=(allE s.l).1.take ((allE s.l).1.length - 1):=by rw [List.map_take,hX,hXl]
   rw [htk] at hI
   subst hzf
   -- how it goes on
   have go: ∀(S:zks),(walkA ((allE s.l).1.take ((allE s.l).1.length - 1))).2.1=0->
     ∃z x Y,Ev (fun q=>(znz q ⟨false,(List.take (X.length - 1) X)⟩).bind fun r14=>((zn1 q ⟨r14.n,r14.xs⟩).bind fun r15=>(if (X.length - 1)<X.length then ((X[(X.length - 1)]?).bind fun e16=>((znx q e16).bind fun r17=>((znj q ⟨r15.n,r15.xs⟩ ⟨r17.n,r17.xs⟩).bind fun r18=>(if r18=true then (some (S,(⟨r14.n,false,r14.xs⟩:Ow (Sl Int)),(0:Int))) else (some ((⟨0,0,⟨true,[]⟩⟩:zks),⟨true,true,[]⟩,16)))))) else none)))
      (if encF (footD (((allE s.l).1.take ((allE s.l).1.length - 1)).map encF))=encF ((allE s.l).1.getD ((allE s.l).1.length - 1) []) then (S,⟨z,x,Y⟩,0) else ((⟨0,0,⟨true,[]⟩⟩:zks),⟨true,true,[]⟩,16))/\Y.map (·.l)=((allE s.l).1.take ((allE s.l).1.length - 1)).map encF:=fun S _=>by
    have hB': ∀e∈X.take (X.length - 1),isB e.l/\e.l.length<=1048576:=fun e he=>hB e (y44 he)
    obtain ⟨zf,Y,hF,hY⟩:=zbxp ⟨false,X.take (X.length - 1)⟩ (by simp only [y20];omega) hB'
    have hYm:Y.map (·.l)=((allE s.l).1.take ((allE s.l).1.length - 1)).map encF:=by rw [hY,<- htk,List.map_map];rfl
    have hYl:Y.length=X.length - 1:=by
     have:=congrArg List.length hY
     rw [y24,y24,y20] at this;omega
    obtain ⟨zt,hFt⟩:=zbwy ⟨zf,Y⟩ (by simp only;omega) (by simp only;omega) (fun e he=>by
     have:e.l∈Y.map (·.l):=y60 (f:=fun x:Sl Int=>x.l) he
     rw [hY] at this
     obtain ⟨a,ha,hae⟩:=List.mem_map.1 this
     have h1:=(hB' a ha).2
     have h2:=(zbwt a.l).1
     rw [<- hae];omega)
    simp only [hYm] at hFt
    have hg:X[X.length - 1]? =some X[X.length - 1]:=y7 (by omega)
    obtain ⟨b1,b2⟩:=hB X[X.length - 1] (y26 (by omega))
    obtain ⟨zl,hLf⟩:=zbwn X[X.length - 1] b1 b2
    have hlast:X[X.length - 1].l=(allE s.l).1.getD ((allE s.l).1.length - 1) []:=by
     rw [<- hXl,<- hX,y15,y42,hg];rfl
    refine ⟨zf,false,Y,Ev.bind hF (Ev.bind hFt (Ev.po (Ev.opt hg (Ev.bind hLf (Ev.bind (Ev.succ (g:=fun _=>some (decide (encF (footD (((allE s.l).1.take ((allE s.l).1.length - 1)).map encF))=encF X[X.length - 1].l))) (Ev.ret _) (fun q=>rfl)) (Ev.ite (fun h=>?_) fun h=>?_)))))),hYm⟩
    ·rw [hlast] at h
     rw [if_pos (by simpa using h)];exact Ev.ret _
    ·rw [hlast] at h
     rw [if_neg (by simpa using h)];exact Ev.ret _
   have pre: ∀{r},Ev (fun q=>if T.1=0 then (if T.2.2.1=0 then ((znz q ⟨false,(List.take (X.length - 1) X)⟩).bind fun r14=>((zn1 q ⟨r14.n,r14.xs⟩).bind fun r15=>(if (X.length - 1)<X.length then ((X[(X.length - 1)]?).bind fun e16=>((znx q e16).bind fun r17=>((znj q ⟨r15.n,r15.xs⟩ ⟨r17.n,r17.xs⟩).bind fun r18=>(if r18=true then (some ((⟨T.2.2.2.2.1,T.2.2.2.2.2.1,⟨true,[]⟩⟩:zks),(⟨r14.n,false,r14.xs⟩:Ow (Sl Int)),(0:Int))) else (some ((⟨0,0,⟨true,[]⟩⟩:zks),⟨true,true,[]⟩,16)))))) else none))) else (some ((⟨0,0,⟨true,[]⟩⟩:zks),⟨true,true,[]⟩,T.2.2.1))) else (if T.2.2.2.2.2.2.2.2.1=0 then ((znz q ⟨false,(List.take (X.length - 1) X)⟩).bind fun r14=>((zn1 q ⟨r14.n,r14.xs⟩).bind fun r15=>(if (X.length - 1)<X.length then ((X[(X.length - 1)]?).bind fun e16=>((znx q e16).bind fun r17=>((znj q ⟨r15.n,r15.xs⟩ ⟨r17.n,r17.xs⟩).bind fun r18=>(if r18=true then (some ((⟨T.2.2.2.2.2.2.2.2.2.2.1,T.2.2.2.2.2.2.2.2.2.2.2.1,⟨T.2.2.2.2.2.2.2.2.2.2.2.2.2.2.1,T.2.2.2.2.2.2.2.2.2.2.2.2.2.2.2⟩⟩:zks),(⟨r14.n,false,r14.xs⟩:Ow (Sl Int)),(0:Int))) else (some ((⟨0,0,⟨true,[]⟩⟩:zks),⟨true,true,[]⟩,16)))))) else none))) else (some ((⟨0,0,⟨true,[]⟩⟩:zks),⟨true,true,[]⟩,T.2.2.2.2.2.2.2.2.1)))) r->Ev (fun q=>zoc q s) r:=fun {r} h=>by
    refine Ev.su (Ev.bind hA (Ev.pos he (Ev.neg (by simp only;omega) (Ev.pos ?_ (Ev.pos ?_ (Ev.neg (show¬(false=true) by decide) (Ev.bind (s:=T) ?_ ?_)))))))
    ·simp only [hw];omega
    ·simp only [hw,y28];omega
    ·simp only [hw,y28];exact hT
    ·simp only [hw,y28];exact h
   rcases hI with ⟨full,hTe,hr⟩ | ⟨full,zr,hTe⟩
   ·by_cases hw0:(walkA ((allE s.l).1.take ((allE s.l).1.length - 1))).2.1=0
    ·simp only [if_pos hw0]
     obtain ⟨z,x,Y,hg,hY⟩:=go ⟨T.2.2.2.2.1,T.2.2.2.2.2.1,⟨true,[]⟩⟩ hw0
     by_cases hc:encF (footD (((allE s.l).1.take ((allE s.l).1.length - 1)).map encF))=encF ((allE s.l).1.getD ((allE s.l).1.length - 1) [])
     ·simp only [if_pos hc] at hg ⊢
      refine ⟨true,z,x,Y,pre (Ev.pos (by rw [hTe];rfl) (Ev.pos (by rw [hTe];exact hw0) (Ev.cast hg ?_))),hY⟩
      rw [hr,hTe];rfl
     ·simp only [if_neg hc] at hg ⊢
      exact ⟨true,true,true,[],pre (Ev.pos (by rw [hTe];rfl) (Ev.pos (by rw [hTe];exact hw0) hg)),rfl⟩
    ·simp only [if_neg hw0]
     refine ⟨true,true,true,[],pre (Ev.pos (by rw [hTe];rfl) (Ev.neg (by rw [hTe];exact hw0) (Ev.ret' ?_))),rfl⟩
     rw [hTe];rfl
   ·by_cases hw0:(walkA ((allE s.l).1.take ((allE s.l).1.length - 1))).2.1=0
    ·simp only [if_pos hw0]
     obtain ⟨z,x,Y,hg,hY⟩:=go ⟨T.2.2.2.2.2.2.2.2.2.2.1,T.2.2.2.2.2.2.2.2.2.2.2.1,⟨T.2.2.2.2.2.2.2.2.2.2.2.2.2.2.1,T.2.2.2.2.2.2.2.2.2.2.2.2.2.2.2⟩⟩ hw0
     by_cases hc:encF (footD (((allE s.l).1.take ((allE s.l).1.length - 1)).map encF))=encF ((allE s.l).1.getD ((allE s.l).1.length - 1) [])
     ·simp only [if_pos hc] at hg ⊢
      refine ⟨zr,z,x,Y,pre (Ev.neg (by rw [hTe];exact Nat.one_ne_zero) (Ev.pos (by rw [hTe];exact hw0) (Ev.cast hg ?_))),hY⟩
      rw [hTe];rfl
     ·simp only [if_neg hc] at hg ⊢
      exact ⟨true,true,true,[],pre (Ev.neg (by rw [hTe];exact Nat.one_ne_zero) (Ev.pos (by rw [hTe];exact hw0) hg)),rfl⟩
    ·simp only [if_neg hw0]
     refine ⟨true,true,true,[],pre (Ev.neg (by rw [hTe];exact Nat.one_ne_zero) (Ev.neg (by rw [hTe];exact hw0) (Ev.ret' ?_))),rfl⟩
     rw [hTe];rfl
 ·simp only [if_neg he]
  exact ⟨true,true,true,[],Ev.su (Ev.bind hA (Ev.neg he (Ev.ret _))),rfl⟩
theorem zbxr (s:Sl Int) (hz:s.z=true->s.l=[]) (hb:isB s.l) (hl:s.l.length<=90000): ∃sz,Ev (fun q=>zod q s) (⟨(segD s.l).1.1,(segD s.l).1.2.1,⟨sz,(segD s.l).1.2.2⟩⟩,(segD s.l).2.2):=by
 obtain ⟨sz,z,x,X,h,_⟩:=zbxq s hz hb hl
 exact ⟨sz,Ev.su (Ev.bind h (Ev.ret _))⟩
instance:DecidableEq zkp:=fun a b=>if h:a.Code=b.Code/\a.A=b.A/\a.B=b.B then isTrue (by cases a;cases b;simp_all) else isFalse (fun e=>h (by rw [e];exact ⟨rfl,rfl,rfl⟩))
instance:DecidableEq zkq:=fun a b=>if h:a.Index=b.Index/\a.Proc=b.Proc/\a.Seq=b.Seq/\a.Op=b.Op/\a.Resp=b.Resp then isTrue (by cases a;cases b;simp_all) else isFalse (fun e=>h (by rw [e];exact ⟨rfl,rfl,rfl,rfl,rfl⟩))
def one7 (pr:List zkq) (b:List Int):zkq×Int:=
 if (rec1 b).2=0 then (noR,0) else (⟨0,(rec1 b).1.Proc,wrp .i64 ((rec1 b).1.Seq+lastS pr (rec1 b).1.Proc),(rec1 b).1.Op,(rec1 b).1.Resp⟩,(rec1 b).2)
theorem zbxs (pr:List zkq) (z:Bool) (hp:pr.length<=1000000) (s:Sl Int) (hb:isB s.l) (hl:s.l.length<=4294967296):Ev (fun q=>zpm q ⟨z,pr.reverse⟩ s) (one7 pr s.l):=by
 have n1:=zbue (l:=s.l)
 have b1:=zbul hb (getN s.l).2.toNat
 have n2:=zbvn (l:=s.l.drop (getN s.l).2.toNat)
 have b2:=zbul b1 (getS (s.l.drop (getN s.l).2.toNat)).2.toNat
 have n3:=zbvp (l:=(s.l.drop (getN s.l).2.toNat).drop (getS (s.l.drop (getN s.l).2.toNat)).2.toNat)
 have b3:=zbul b2 (getO ((s.l.drop (getN s.l).2.toNat).drop (getS (s.l.drop (getN s.l).2.toNat)).2.toNat)).2.toNat
 have n4:=zbvn (l:=((s.l.drop (getN s.l).2.toNat).drop (getS (s.l.drop (getN s.l).2.toNat)).2.toNat).drop (getO ((s.l.drop (getN s.l).2.toNat).drop (getS (s.l.drop (getN s.l).2.toNat)).2.toNat)).2.toNat)
 simp only [y13] at n2 n3 n4
 have w1:wrp .i64 ((getN s.l).2+(getS (s.l.drop (getN s.l).2.toNat)).2)=(getN s.l).2+(getS (s.l.drop (getN s.l).2.toNat)).2:=by rw [zbsa (by omega) (by omega)]
 have d1:s.l.drop ((getN s.l).2+(getS (s.l.drop (getN s.l).2.toNat)).2).toNat=(s.l.drop (getN s.l).2.toNat).drop (getS (s.l.drop (getN s.l).2.toNat)).2.toNat:=by
  rw [y50];congr 1;omega
 have hlast:=zbwi ⟨z,pr.reverse⟩ (getN s.l).1 (by simpa using hp)
 simp only [List.reverse_reverse] at hlast
 refine Ev.su (Ev.bind (zbu5 s hb (by omega)) (Ev.po (Ev.po (Ev.bind (zbv0 ⟨s.z,_⟩ b1 (by simp only [y13];omega)) ?_))))
 simp only [w1,d1]
 have hO:=zbv1 ⟨s.z,(s.l.drop (getN s.l).2.toNat).drop (getS (s.l.drop (getN s.l).2.toNat)).2.toNat⟩ b2 (by simp only [y13];omega)
 refine Ev.po (Ev.po (Ev.bind hO ?_))
 have w2:wrp .i64 ((getN s.l).2+(getS (s.l.drop (getN s.l).2.toNat)).2+(getO ((s.l.drop (getN s.l).2.toNat).drop (getS (s.l.drop (getN s.l).2.toNat)).2.toNat)).2)=(getN s.l).2+(getS (s.l.drop (getN s.l).2.toNat)).2+(getO ((s.l.drop (getN s.l).2.toNat).drop (getS (s.l.drop (getN s.l).2.toNat)).2.toNat)).2:=by rw [zbsa (by omega) (by omega)]
 have d2:s.l.drop ((getN s.l).2+(getS (s.l.drop (getN s.l).2.toNat)).2+(getO ((s.l.drop (getN s.l).2.toNat).drop (getS (s.l.drop (getN s.l).2.toNat)).2.toNat)).2).toNat=((s.l.drop (getN s.l).2.toNat).drop (getS (s.l.drop (getN s.l).2.toNat)).2.toNat).drop (getO ((s.l.drop (getN s.l).2.toNat).drop (getS (s.l.drop (getN s.l).2.toNat)).2.toNat)).2.toNat:=by
  have g: ∀(a b c:Nat),s.l.drop (a+b+c)=((s.l.drop a).drop b).drop c:=fun a b c=>by rw [y50,y50,y57]
  rw [<- g];congr 1;omega
 simp only [w2,d2]
 refine Ev.po (Ev.po (Ev.bind (zbv0 ⟨s.z,_⟩ b3 (by simp only [y13];omega)) ?_))
 unfold one7 rec1
 refine Ev.ite (fun h=>Ev.ret' ?_) fun h=>Ev.ite (fun h2=>Ev.ret' ?_) fun h2=>Ev.ite (fun h3=>Ev.ret' ?_) fun h3=>Ev.ite (fun h4=>Ev.ret' ?_) fun h4=>Ev.bind hlast (Ev.ret' ?_)
 ·simp only [if_pos h,if_true];rfl
 ·try simp only at h2
  simp only [if_neg h,if_pos h2,if_true];rfl
 ·try simp only at h2 h3
  simp only [if_neg h,if_neg h2,if_pos h3,if_true];rfl
 ·try simp only at h2 h3 h4
  simp only [if_neg h,if_neg h2,if_neg h3,if_pos h4,if_true];rfl
 ·try simp only at h2 h3 h4
  simp only [if_neg h,if_neg h2,if_neg h3,if_neg h4]
  rw [if_neg (by omega),Int.add_comm (lastS pr _),zbsa (x:=(getN s.l).2+(getS (s.l.drop (getN s.l).2.toNat)).2+(getO ((s.l.drop (getN s.l).2.toNat).drop (getS (s.l.drop (getN s.l).2.toNat)).2.toNat)).2+_) (by omega) (by omega)]
theorem zbxt (z:Bool) (B:List Int) (hB:isB B) (hBl:B.length<=4294967296) (first:Int) (hf:0<=first/\first<4611686018427387904) (many:Nat) (hm:many<=256): ∀(k i at_:Nat) (pr:List zkq) (h1z:Bool),many=i+k->pr.length=i->at_<=B.length->(0<i->h1z=false)->
  Ev (fun q=>zpx q z B first (many:Int) (at_:Int) (i:Int) h1z pr.reverse) (resB (fin7 B (rdK k (first+i) (B.drop at_) pr)))
 | 0,i,at_,pr,h1z,hk,hp,ha,hz=>by
  have hlen:pr.reverse.length<=1000000:=by rw [List.length_reverse];omega
  refine Ev.su (Ev.ne (Ev.bind (zbwm ⟨h1z,pr.reverse⟩ hlen) ?_))
  simp only [rdK,fin7,y5]
  by_cases ho:blkOk pr.reverse=true
  ·rw [if_pos ho]
   refine Ev.pos rfl (Ev.ite (fun h=>?_) fun h=>?_)
   ·simp only at h
    rw [if_pos ⟨ho,h⟩]
    refine Ev.ret' ?_
    have:0<i:=by
     cases pr with
     | nil=>simp [blkOk] at ho
     | cons a l=>rw [<- hp];simp
    rw [hz this];rfl
   ·simp only at h
    rw [if_neg (fun e=>h e.2)];exact Ev.ret _
  ·rw [if_neg ho]
   rw [if_neg (show¬(blkOk pr.reverse=true/\blkE pr.reverse=B) from fun e=>ho e.1)]
   exact Ev.neg (show¬((1:Int)=0) by decide) (Ev.ret _)
 | k+1,i,at_,pr,h1z,hk,hp,ha,hz=>by
  have hr:=zbw3 (B.drop at_)
  rw [y13] at hr
  refine Ev.su (Ev.po (Ev.po (Ev.po (Ev.bind (zbxs pr h1z (by omega) ⟨z,List.drop (at_:Int).toNat B⟩ (zbul hB _) (by simp only [y13];omega)) ?_))))
  simp only [y28,rdK,one7]
  by_cases h:(rec1 (B.drop at_)).2=0
  ·simp only [if_pos h]
   exact Ev.pos trivial (Ev.ret _)
  ·simp only [if_neg h]
   have wi:wrp .i64 ((i:Int)+1)=((i+1:Nat):Int):=by rw [zbsa (by omega) (by omega)];omega
   have wx:wrp .i64 (first+(i:Int))=first+(i:Int):=by rw [zbsa (by omega) (by omega)]
   have wa:wrp .i64 ((at_:Int)+(rec1 (B.drop at_)).2)=((at_+(rec1 (B.drop at_)).2.toNat:Nat):Int):=by rw [zbsa (by omega) (by omega)];omega
   have ih:=zbxt z B hB hBl first hf many hm k (i+1) (at_+(rec1 (B.drop at_)).2.toNat) (⟨first+i,(rec1 (B.drop at_)).1.Proc,wrp .i64 ((rec1 (B.drop at_)).1.Seq+lastS pr (rec1 (B.drop at_)).1.Proc),(rec1 (B.drop at_)).1.Op,(rec1 (B.drop at_)).1.Resp⟩::pr) false (by omega) (by rw [y21,hp]) (by omega) (fun _=>rfl)
   refine Ev.pos (by rw [List.length_reverse];omega) ?_
   rw [wi,wx,wa]
   simp only [List.reverse_cons] at ih
   rw [show first+((i+1:Nat):Int)=first+(i:Int)+1 by omega,<- y50] at ih
   exact ih
theorem zbxu (s:Sl Int) (hb:isB s.l) (hl:s.l.length<=4294967296):Ev (fun q=>zpy q s) (resB (blkD s.l)):=by
 have n1:=zbue (l:=s.l)
 have b1:=zbul hb (getN s.l).2.toNat
 have n2:=zbue (l:=s.l.drop (getN s.l).2.toNat)
 have n2':=n2.2.1
 rw [y13] at n2'
 have hw:wrp .i64 ((getN s.l).2+(getN (s.l.drop (getN s.l).2.toNat)).2)=(((getN s.l).2+(getN (s.l.drop (getN s.l).2.toNat)).2).toNat:Int):=by rw [zbsa (by omega) (by omega)];omega
 unfold blkD
 refine Ev.su (Ev.bind (zbu5 s hb (by omega)) (Ev.po (Ev.po (Ev.bind (zbu5 ⟨s.z,_⟩ b1 (by simp only [y13];omega)) (Ev.ite (fun h=>?_) fun h=>Ev.ite (fun h2=>?_) fun h2=>Ev.ite (fun h4=>?_) fun h4=>Ev.ite (fun h3=>?_) fun h3=>?_)))))
 ·rw [if_pos h];exact Ev.ret _
 ·rw [if_neg h,if_pos h2];exact Ev.ret _
 ·simp only at h2 h4
  rw [if_neg h,if_neg h2,if_neg (by omega)]
  have:(getN (s.l.drop (getN s.l).2.toNat)).1.toNat=0:=by omega
  rw [this]
  simp only [rdK,fin7,y5,List.reverse_nil]
  rw [if_neg (fun e=>by have:=e.1;simp [blkOk] at this)]
  exact Ev.ret _
 ·rw [if_neg h,if_neg h2,if_pos h3];exact Ev.ret _
 rw [if_neg h,if_neg h2,if_neg h3]
 simp only at h2 h3 h4
 simp only [hw]
 have e1:(s.l.drop ((getN s.l).2+(getN (s.l.drop (getN s.l).2.toNat)).2).toNat)=(s.l.drop (getN s.l).2.toNat).drop (getN (s.l.drop (getN s.l).2.toNat)).2.toNat:=by
  rw [y50];congr 1;omega
 have:=zbxt s.z s.l hb hl (getN s.l).1 ⟨n1.2.2.2.1,n1.2.2.2.2⟩ (getN (s.l.drop (getN s.l).2.toNat)).1.toNat (by omega) (getN (s.l.drop (getN s.l).2.toNat)).1.toNat 0 ((getN s.l).2+(getN (s.l.drop (getN s.l).2.toNat)).2).toNat [] true (by omega) rfl (by omega) (by omega)
 rw [Int.toNat_of_nonneg (by omega)] at this
 rw [e1] at this
 refine Ev.cast this ?_
 simp
theorem zbxv {v:Int} (v1:1<=v) (v3:v<=3) (zz:Bool): ∀(k:Nat) (d:List Int) (acc:List zkq) (h0z:Bool),d.length<k->isB d->d.length<=4294967296->acc.length+d.length<=4294967296->
  ∃z,Ev (fun q=>zpg q v zz d h0z acc) (resE z (eldD v k d acc))
 | 0,d,acc,h0z,hk,hb,hl,ha=>by omega
 | k +1,d,acc,h0z,hk,hb,hl,ha=>by
  have n1:=zbue (l:=d)
  by_cases h0:d.length=0
  ·refine ⟨h0z,Ev.su (Ev.ne (Ev.ret' ?_))⟩
   simp only [eldD,h0,if_true,resE]
  ·have w1:wrp .i64 ((d.length:Int) - (getN d).2)=(d.length:Int) - (getN d).2:=by rw [zbsa (by omega) (by omega)]
   have hG:=zbu5 ⟨zz,d⟩ hb (by simp only;omega)
   by_cases hg:(getN d).2=0
   ·refine ⟨true,Ev.su (Ev.po (Ev.bind hG (Ev.pos hg (Ev.ret' ?_))))⟩
    simp only [eldD,h0,hg,if_true,if_false,resE]
   by_cases ht:(d.length:Int) - (getN d).2<(getN d).1
   ·refine ⟨true,Ev.su (Ev.po (Ev.bind hG (Ev.neg hg (Ev.pos (by rw [w1];exact ht) (Ev.ret' ?_)))))⟩
    simp only [eldD,h0,hg,ht,if_true,if_false]
    by_cases hn:(getN d).1=0
    ·simp only [hn,if_true,resE]
    ·simp only [hn,if_false,resE]
   by_cases hn:(getN d).1=0
   ·refine ⟨true,Ev.su (Ev.po (Ev.bind hG (Ev.neg hg (Ev.neg (by rw [w1];exact ht) (Ev.pos (by simp only;omega) (Ev.ret' ?_))))))⟩
    simp only [eldD,h0,hg,hn,if_true,if_false,resE]
   have hi:(getN d).2.toNat<d.length:=by omega
   have w2:wrp .i64 ((getN d).2+(getN d).1)=(getN d).2+(getN d).1:=by rw [zbsa (by omega) (by omega)]
   have w3:wrp .u8 v=v:=by rw [wrp_u8];omega
   have he:d[(getN d).2.toNat]? =some d[(getN d).2.toNat]:=by simp [hi]
   by_cases hv:d[(getN d).2.toNat]=v
   ·have es:List.drop (getN d).2.toNat (List.take ((getN d).2+(getN d).1).toNat d)=(d.drop (getN d).2.toNat).take (getN d).1.toNat:=by
     rw [List.drop_take];congr 1;omega
    have hbs:isB ((d.drop (getN d).2.toNat).take (getN d).1.toNat):=zbuk (zbul hb _) _
    by_cases hr:(decR ((d.drop (getN d).2.toNat).take (getN d).1.toNat)).2=0
    ·obtain ⟨z,ih⟩:=zbxv v1 v3 zz k (d.drop ((getN d).2+(getN d).1).toNat) (acc++[(decR ((d.drop (getN d).2.toNat).take (getN d).1.toNat)).1]) false (by rw [y13];omega) (zbul hb _) (by rw [y13];omega) (by simp only [y13,y10,y21,y25];omega)
     refine ⟨z,Ev.su (Ev.po (Ev.bind hG (Ev.neg hg (Ev.neg (by rw [w1];exact ht) (Ev.neg (by simp only;omega) (Ev.pos (by simp only;omega) (Ev.opt he (Ev.pos (by rw [w3];exact hv) ?_))))))))⟩
     simp only [w2,es]
     refine Ev.po (Ev.po (Ev.bind (zbv7 ⟨zz,_⟩ hbs (by simp only [y20,y13];omega)) (Ev.pos hr (Ev.po (Ev.po (Ev.po (Ev.cast ih ?_)))))))
     simp only [eldD,h0,hg,hn,ht,he,hv,hr,if_true,if_false]
    ·refine ⟨true,Ev.su (Ev.po (Ev.bind hG (Ev.neg hg (Ev.neg (by rw [w1];exact ht) (Ev.neg (by simp only;omega) (Ev.pos (by simp only;omega) (Ev.opt he (Ev.pos (by rw [w3];exact hv) ?_))))))))⟩
     simp only [w2,es]
     refine Ev.po (Ev.po (Ev.bind (zbv7 ⟨zz,_⟩ hbs (by simp only [y20,y13];omega)) (Ev.neg hr (Ev.ret' ?_))))
     simp only [eldD,h0,hg,hn,ht,he,hv,hr,if_true,if_false,resE]
   ·refine ⟨true,Ev.su (Ev.po (Ev.bind hG (Ev.neg hg (Ev.neg (by rw [w1];exact ht) (Ev.neg (by simp only;omega) (Ev.pos (by simp only;omega) (Ev.opt he (Ev.neg (by rw [w3];exact hv) (Ev.ret' ?_)))))))))⟩
    simp only [eldD,h0,hg,hn,ht,he,y4,hv,if_false,resE]
theorem zbxw {v:Int} (v1:1<=v) (v3:v<=3) (s:Sl Int) (hb:isB s.l) (hl:s.l.length<=4294967296): ∃z,Ev (fun q=>zph q v s) (resE z (eldD v (s.l.length+1) s.l [])):=by
 obtain ⟨z,h⟩:=zbxv v1 v3 s.z (s.l.length+1) s.l [] true (by omega) hb hl (by simpa using hl)
 exact ⟨z,Ev.su h⟩
/-- A block's records that go on from an index. -/
def readB (v:Int) (d:List Int) (next:Int):Option (List zkq):=(blockR v d).bind fun l=>if l.length≠0/\l.length<=16/\chainB l next=true then some l else none
theorem zbxx {v:Int} (v1:1<=v) (v3:v<=3) (s:Sl Int) (hb:isB s.l) (hl:s.l.length<=10000000) (next:Int) (hr:inR .i64 next): ∃r,Ev (fun q=>zpz q v s next) r/\r.2=(readB v s.l next).isSome/\ ∀l,readB v s.l next=some l->r.1.xs=l:=by
 have body: ∀(o:Ow zkq),o.xs.length<=11000000->blockR v s.l=some o.xs-> ∃r,Ev (fun q=>if (o.xs.length:Int)<1 then (some ((⟨true,true,[]⟩:Ow zkq),false)) else (if 16<(o.xs.length:Int) then (some (⟨true,true,[]⟩,false)) else ((zpj q ⟨o.n,o.xs⟩ next).bind fun r2=>(some (o,r2))))) r/\r.2=(readB v s.l next).isSome/\ ∀l,readB v s.l next=some l->r.1.xs=l:=fun o ho hR=>by
  unfold readB
  rw [hR,y5]
  by_cases h0:(o.xs.length:Int)<1
  ·refine ⟨_,Ev.pos h0 (Ev.ret _),?_,fun l h=>?_⟩
   ·rw [if_neg (by omega)];rfl
   ·rw [if_neg (by omega)] at h;cases h
  by_cases h1:16<(o.xs.length:Int)
  ·refine ⟨_,Ev.neg h0 (Ev.pos h1 (Ev.ret _)),?_,fun l h=>?_⟩
   ·rw [if_neg (by omega)];rfl
   ·rw [if_neg (by omega)] at h;cases h
  ·refine ⟨_,Ev.neg h0 (Ev.neg h1 (Ev.bind (zbws ⟨o.n,o.xs⟩ next hr (by simp only;omega)) (Ev.ret _))),?_,fun l h=>?_⟩
   ·by_cases hc:chainB o.xs next=true
    ·rw [if_pos ⟨by omega,by omega,hc⟩];simp [hc];omega
    ·rw [if_neg (fun e=>hc e.2.2)];simp [hc]
   ·split at h
    ·cases h;rfl
    ·cases h
 by_cases h3:v<3
 ·obtain ⟨z,hE⟩:=zbxw v1 v3 s hb (by omega)
  cases hR:eldD v (s.l.length+1) s.l [] with
  | none=>
   rw [hR] at hE
   have:readB v s.l next=none:=by unfold readB blockR;rw [if_neg (by omega),hR];rfl
   refine ⟨_,Ev.su (Ev.pos h3 (Ev.bind hE (Ev.neg (by simp only [resE];decide) (Ev.ret _)))),?_,fun l h=>?_⟩
   ·rw [this];rfl
   ·rw [this] at h;cases h
  | some l=>
   rw [hR] at hE
   have hlen:=zbw9 hR
   rw [y25] at hlen
   obtain ⟨r,h1,h2⟩:=body ⟨z,true,l⟩ (by simp only;omega) (by unfold blockR;rw [if_neg (by omega),hR])
   exact ⟨r,Ev.su (Ev.pos h3 (Ev.bind hE (Ev.pos rfl h1))),h2⟩
 ·have hE:=zbxu s hb (by omega)
  have hv:v=3:=by omega
  cases hR:blkD s.l with
  | none=>
   rw [hR] at hE
   have:readB v s.l next=none:=by unfold readB blockR;rw [if_pos hv,hR];rfl
   refine ⟨_,Ev.su (Ev.neg h3 (Ev.bind hE (Ev.neg (by simp only [resB];omega) (Ev.ret _)))),?_,fun l h=>?_⟩
   ·rw [this];rfl
   ·rw [this] at h;cases h
  | some l=>
   rw [hR] at hE
   have hlen:l.length<=256:=by
    have h2:=(zbw6 hR).1
    cases l with
    | nil=>simp
    | cons a l=>simp only [blkOk,y6,decide_eq_true_eq] at h2;omega
   obtain ⟨r,h1,h2⟩:=body ⟨false,false,l⟩ (by simp only;omega) (by unfold blockR;rw [if_pos hv,hR])
   exact ⟨r,Ev.su (Ev.neg h3 (Ev.bind hE (Ev.pos rfl h1))),h2⟩
theorem zbxy {v f:Int} {d:List Int} {acc:List zkq} {i:Nat} {D:List (List Int)} {full:Bool}:
  (readB v d (f+acc.length)=none->walkS v f (d::D) i acc full=(i,3,acc,full))/\
  (∀l,readB v d (f+acc.length)=some l->l.length<=16/\l.length≠0/\walkS v f (d::D) i acc full=if full=true then (if 4096<acc.length+l.length then (i,5,acc,full) else walkS v f D (i+1) (acc++l) (decide (l.length=16))) else (i,3,acc,full)):=by
 unfold readB
 constructor
 ·intro h
  simp only [walkS]
  cases hR:blockR v d with
  | none=>rfl
  | some l=>
   rw [hR,y5] at h
   split at h
   ·cases h
   ·rename_i hc
    have:stepW f acc full l=3:=by unfold stepW;rw [if_neg (fun e=>hc e.2)]
    simp only [this];rw [if_neg (by decide)]
 ·intro l h
  cases hR:blockR v d with
  | none=>rw [hR] at h;cases h
  | some l'=>
   rw [hR,y5] at h
   split at h
   ·rename_i hc
    cases h
    refine ⟨hc.2.1,hc.1,?_⟩
    simp only [walkS,hR]
    by_cases hf:full=true
    ·rw [if_pos hf]
     have hs:stepW f acc full l=if 4096<acc.length+l.length then 5 else 0:=by unfold stepW;rw [if_pos ⟨hf,hc⟩]
     rw [hs]
     by_cases h4:4096<acc.length+l.length
     ·simp only [if_pos h4]
      rw [if_neg (show¬((5:Int)=0) by decide)]
     ·simp only [if_neg h4,if_true]
    ·rw [if_neg hf]
     have:stepW f acc full l=3:=by unfold stepW;rw [if_neg (fun e=>hf e.1)]
     rw [this,if_neg (by decide)]
   ·cases h
theorem zbxz {v k f:Int} (v1:1<=v) (v3:v<=3) (hf:0<=f/\f<4611686018427387904) (z:Bool) (L:List (Sl Int)) (hB: ∀e∈L,isB e.l/\e.l.length<=10000000) (hL:L.length<=1000000000): ∀(n i:Nat) (acc:List zkq) (full za:Bool) (last:Int),L.length=i+n->acc.length<=4096->(last<16<->full=false)->
  ∃z',Ev (fun q=>zp0 q z L v last (i:Int) k f za acc) (v,⟨k,f,⟨z',(walkS v f ((L.drop i).map (·.l)) i acc full).2.2.1⟩⟩,((walkS v f ((L.drop i).map (·.l)) i acc full).1:Int),(walkS v f ((L.drop i).map (·.l)) i acc full).2.1)
 | 0,i,acc,full,za,last,hk,ha,hl=>by
  refine ⟨za,Ev.su (Ev.ne (Ev.ret' ?_))⟩
  rw [y12 (by omega)]
  simp only [y63,walkS]
  rw [show L.length=i by omega]
 | n +1,i,acc,full,za,last,hk,ha,hl=>by
  have hi:i<L.length:=by omega
  have hg:L[((i:Int)).toNat]? =some L[i]:=by simp [hi]
  obtain ⟨hb,hbl⟩:=hB L[i] (y26 hi)
  have wn:wrp .i64 (f+(acc.length:Int))=f+acc.length:=by rw [zbsa (by omega) (by omega)]
  have wi:wrp .i64 ((i:Int)+1)=((i+1:Nat):Int):=by rw [zbsa (by omega) (by omega)];omega
  obtain ⟨r,hr,hr2,hr3⟩:=zbxx v1 v3 L[i] hb hbl (f+acc.length) (zbsy (by omega) (by omega))
  have hr':Ev (fun q=>zpz q v L[i] (wrp .i64 (f+(acc.length:Int)))) r:=by rw [wn];exact hr
  obtain ⟨s1,s2⟩:=zbxy (v:=v) (f:=f) (d:=L[i].l) (acc:=acc) (i:=i) (D:=(L.drop (i+1)).map (·.l)) (full:=full)
  rw [y9 hi,y34]
  cases hR:readB v L[i].l (f+acc.length) with
  | none=>
   rw [hR] at hr2
   rw [s1 hR]
   refine ⟨za,Ev.su (Ev.po (Ev.po (Ev.opt hg (Ev.bind hr' (Ev.neg (by rw [hr2];decide) (Ev.ret _))))))⟩
  | some l=>
   rw [hR] at hr2
   have hx:=hr3 l hR
   obtain ⟨q1,q2,q3⟩:=s2 l hR
   rw [q3]
   by_cases hfull:full=true
   ·rw [if_pos hfull]
    have h16: ¬last<16:=fun e=>by rw [hl.1 e] at hfull;cases hfull
    have wt:wrp .i64 ((acc.length:Int)+(r.1.xs.length:Int))=acc.length+l.length:=by rw [hx,zbsa (by omega) (by omega)]
    by_cases h4:4096<acc.length+l.length
    ·rw [if_pos h4]
     refine ⟨za,Ev.su (Ev.po (Ev.po (Ev.opt hg (Ev.bind hr' (Ev.pos (by rw [hr2];rfl) (Ev.neg h16 (Ev.pos (by rw [wt];omega) (Ev.ret _))))))))⟩
    ·rw [if_neg h4]
     obtain ⟨z',ih⟩:=zbxz (k:=k) v1 v3 hf z L hB hL n (i+1) (acc++l) (decide (l.length=16)) (za && (decide (l.length=0))) (l.length:Int) (by omega) (by rw [y10];omega) (by simp only [decide_eq_false_iff_not];omega)
     refine ⟨z',Ev.su (Ev.po (Ev.po (Ev.opt hg (Ev.bind hr' (Ev.pos (by rw [hr2];rfl) (Ev.neg h16 (Ev.neg (by rw [wt];omega) (Ev.pos (by rw [hx];omega) ?_))))))))⟩
     rw [hx,wi];exact ih
   ·rw [if_neg hfull]
    have h16:last<16:=hl.2 (by simpa using hfull)
    refine ⟨za,Ev.su (Ev.po (Ev.po (Ev.opt hg (Ev.bind hr' (Ev.pos (by rw [hr2];rfl) (Ev.pos h16 (Ev.ret _)))))))⟩
theorem zbx0 {v k f:Int} (v1:1<=v) (v3:v<=3) (hf:0<=f/\f<4611686018427387904) (z:Bool) (L:List (Sl Int)) (hB: ∀e∈L,isB e.l/\e.l.length<=10000000) (hL:L.length<=1000000000) (h1:1<=L.length):
  ∃z',Ev (fun q=>zp1 q z L v k f) (v,⟨k,f,⟨z',(walkS v f ((L.drop 1).map (·.l)) 1 [] true).2.2.1⟩⟩,((walkS v f ((L.drop 1).map (·.l)) 1 [] true).1:Int),(walkS v f ((L.drop 1).map (·.l)) 1 [] true).2.1):=by
 by_cases h2:L.length=1
 ·refine ⟨true,Ev.su (Ev.ne (Ev.ret' ?_))⟩
  rw [y12 (by omega)]
  simp only [y63,walkS]
  rw [h2]
 ·have hi:1<L.length:=by omega
  have hg:L[1]? =some L[1]:=y7 hi
  obtain ⟨hb,hbl⟩:=hB L[1] (y26 hi)
  have wn:wrp .i64 (f+0)=f+(([]:List zkq).length:Int):=by rw [zbsa (by omega) (by omega)];simp
  have wi:wrp .i64 2=((1+1:Nat):Int):=by rw [zbsa (by omega) (by omega)];rfl
  obtain ⟨r,hr,hr2,hr3⟩:=zbxx v1 v3 L[1] hb hbl (f+(([]:List zkq).length:Int)) (zbsy (by simp;omega) (by simp;omega))
  have hr':Ev (fun q=>zpz q v L[1] (wrp .i64 (f+0))) r:=by rw [wn];exact hr
  obtain ⟨s1,s2⟩:=zbxy (v:=v) (f:=f) (d:=L[1].l) (acc:=[]) (i:=1) (D:=(L.drop (1+1)).map (·.l)) (full:=true)
  rw [y9 hi,y34]
  cases hR:readB v L[1].l (f+(([]:List zkq).length:Int)) with
  | none=>
   rw [hR] at hr2
   rw [s1 hR]
   refine ⟨true,Ev.su (Ev.po (Ev.opt hg (Ev.bind hr' (Ev.neg (by rw [hr2];decide) (Ev.ret _)))))⟩
  | some l=>
   rw [hR] at hr2
   have hx:=hr3 l hR
   obtain ⟨q1,q2,q3⟩:=s2 l hR
   rw [q3,if_pos rfl]
   have wt:wrp .i64 (0+(r.1.xs.length:Int))=(([]:List zkq).length:Int)+l.length:=by rw [hx,zbsa (by omega) (by omega)];simp
   rw [if_neg (by rw [y25];omega)]
   rw [y25] at wt
   obtain ⟨z',ih⟩:=zbxz (k:=k) v1 v3 hf z L hB hL (L.length - 2) (1+1) ([]++l) (decide (l.length=16)) (decide (l.length=0)) (l.length:Int) (by omega) (by rw [y47];omega) (by simp only [decide_eq_false_iff_not];omega)
   refine ⟨z',Ev.su (Ev.po (Ev.opt hg (Ev.bind hr' (Ev.pos (by rw [hr2];rfl) (Ev.neg (by rw [wt];omega) (Ev.pos (by rw [hx];omega) ?_))))))⟩
   rw [hx,wi];exact ih
theorem zbx1 (s:Sl (Sl Int)) (hB: ∀e∈s.l,isB e.l/\e.l.length<=10000000) (hL:s.l.length<=1000000000) (h1:1<=s.l.length):
  ∃z,Ev (fun q=>zp2 q s) ((walkA (s.l.map (·.l))).2.2.1,⟨(walkA (s.l.map (·.l))).2.2.2.1,(walkA (s.l.map (·.l))).2.2.2.2.1,⟨z,(walkA (s.l.map (·.l))).2.2.2.2.2⟩⟩,((walkA (s.l.map (·.l))).1:Int),(walkA (s.l.map (·.l))).2.1):=by
 obtain ⟨zs,L⟩:=s
 simp only at hB hL h1 ⊢
 have hg:L[0]? =some L[0]:=y7 (by omega)
 obtain ⟨hb,hbl⟩:=hB L[0] (y26 (by omega))
 have hd:L=L[0]::L.drop 1:=by
  have:=y9 (l:=L) (i:=0) (by omega)
  rwa [y38] at this
 have hm:L.map (·.l)=L[0].l::(L.drop 1).map (·.l):=by
  conv=>lhs;rw [hd]
  rw [y34]
 rw [hm]
 generalize hdl:L[0].l=d at*
 have main: ∀r:Int×Int×Int×Int×Bool,headR d=r->r.1≠0->walkA (d::(L.drop 1).map (·.l))=(0,r.1,0,0,0,[]):=fun r hr h0=>by
  simp only [walkA];rw [hr,if_neg h0]
 unfold headR at main
 by_cases c1:d.length=0
 ·refine ⟨true,Ev.su (Ev.opt hg (Ev.pos (by rw [hdl];omega) (Ev.ret' ?_)))⟩
  rw [main (3,0,0,0,false) (by rw [if_pos c1]) (by decide)];rfl
 have he:d[0]? =some d[0]:=y7 (by omega)
 have he':L[0].l[0]? =some d[0]:=by rw [hdl];exact he
 by_cases c2:d[0]=108
 ·have c2':d[0]? =some 108:=by rw [he,c2]
  have b0:=zbul hb 1
  have n1:=zbue (l:=d.drop 1)
  have n2:=zbue (l:=(d.drop 1).drop (getN (d.drop 1)).2.toNat)
  have b1:=zbul b0 (getN (d.drop 1)).2.toNat
  have n3:=zbue (l:=((d.drop 1).drop (getN (d.drop 1)).2.toNat).drop (getN ((d.drop 1).drop (getN (d.drop 1)).2.toNat)).2.toNat)
  have b2:=zbul b1 (getN ((d.drop 1).drop (getN (d.drop 1)).2.toNat)).2.toNat
  have n1':=n1.2.1
  have n2':=n2.2.1
  have n3':=n3.2.1
  rw [y13] at n1'
  rw [y13,y13] at n2'
  rw [y13,y13,y13] at n3'
  have w1:wrp .i64 (1+(getN (d.drop 1)).2)=1+(getN (d.drop 1)).2:=by rw [zbsa (by omega) (by omega)]
  have e1:d.drop (1+(getN (d.drop 1)).2).toNat=(d.drop 1).drop (getN (d.drop 1)).2.toNat:=by rw [y50];congr 1;omega
  have w2:wrp .i64 (1+(getN (d.drop 1)).2+(getN ((d.drop 1).drop (getN (d.drop 1)).2.toNat)).2)=1+(getN (d.drop 1)).2+(getN ((d.drop 1).drop (getN (d.drop 1)).2.toNat)).2:=by rw [zbsa (by omega) (by omega)]
  have e2:d.drop (1+(getN (d.drop 1)).2+(getN ((d.drop 1).drop (getN (d.drop 1)).2.toNat)).2).toNat=((d.drop 1).drop (getN (d.drop 1)).2.toNat).drop (getN ((d.drop 1).drop (getN (d.drop 1)).2.toNat)).2.toNat:=by
   have g: ∀(a b c:Nat),d.drop (a+b+c)=((d.drop a).drop b).drop c:=fun a b c=>by rw [y50,y50,y57]
   rw [<- g];congr 1;omega
  have w3:wrp .i64 (1+(getN (d.drop 1)).2+(getN ((d.drop 1).drop (getN (d.drop 1)).2.toNat)).2+(getN (((d.drop 1).drop (getN (d.drop 1)).2.toNat).drop (getN ((d.drop 1).drop (getN (d.drop 1)).2.toNat)).2.toNat)).2)=1+(getN (d.drop 1)).2+(getN ((d.drop 1).drop (getN (d.drop 1)).2.toNat)).2+(getN (((d.drop 1).drop (getN (d.drop 1)).2.toNat).drop (getN ((d.drop 1).drop (getN (d.drop 1)).2.toNat)).2.toNat)).2:=by rw [zbsa (by omega) (by omega)]
  have e3:((((d.drop 1).drop (getN (d.drop 1)).2.toNat).drop (getN ((d.drop 1).drop (getN (d.drop 1)).2.toNat)).2.toNat).drop (getN (((d.drop 1).drop (getN (d.drop 1)).2.toNat).drop (getN ((d.drop 1).drop (getN (d.drop 1)).2.toNat)).2.toNat)).2.toNat).length=d.length - (1+(getN (d.drop 1)).2+(getN ((d.drop 1).drop (getN (d.drop 1)).2.toNat)).2+(getN (((d.drop 1).drop (getN (d.drop 1)).2.toNat).drop (getN ((d.drop 1).drop (getN (d.drop 1)).2.toNat)).2.toNat)).2).toNat:=by
   rw [y13,y13,y13,y13];omega
  have pre: ∀{r},Ev (fun q=>if (getN (d.drop 1)).2=0 then (some (0,(⟨0,0,⟨true,[]⟩⟩:zks),0,3)) else (if (getN ((d.drop 1).drop (getN (d.drop 1)).2.toNat)).2=0 then (some (0,(⟨0,0,⟨true,[]⟩⟩:zks),0,3)) else (if (getN (((d.drop 1).drop (getN (d.drop 1)).2.toNat).drop (getN ((d.drop 1).drop (getN (d.drop 1)).2.toNat)).2.toNat)).2=0 then (some (0,(⟨0,0,⟨true,[]⟩⟩:zks),0,3)) else (if 1+(getN (d.drop 1)).2+(getN ((d.drop 1).drop (getN (d.drop 1)).2.toNat)).2+(getN (((d.drop 1).drop (getN (d.drop 1)).2.toNat).drop (getN ((d.drop 1).drop (getN (d.drop 1)).2.toNat)).2.toNat)).2=(d.length:Int) then (if (getN (d.drop 1)).1<1 then (some (0,(⟨0,0,⟨true,[]⟩⟩:zks),0,6)) else (if 3<(getN (d.drop 1)).1 then (some (0,(⟨0,0,⟨true,[]⟩⟩:zks),0,6)) else (if 6<=(getN ((d.drop 1).drop (getN (d.drop 1)).2.toNat)).1 then (some (0,(⟨0,0,⟨true,[]⟩⟩:zks),0,1)) else (zp1 q zs L (getN (d.drop 1)).1 (getN ((d.drop 1).drop (getN (d.drop 1)).2.toNat)).1 (getN (((d.drop 1).drop (getN (d.drop 1)).2.toNat).drop (getN ((d.drop 1).drop (getN (d.drop 1)).2.toNat)).2.toNat)).1)))) else (some (0,(⟨0,0,⟨true,[]⟩⟩:zks),0,3)))))) r->Ev (fun q=>zp2 q ⟨zs,L⟩) r:=fun {r} h=>by
   refine Ev.su (Ev.opt hg (Ev.neg (by rw [hdl];omega) (Ev.opt he' (Ev.pos c2 (Ev.pos (by rw [hdl];omega) (Ev.bind (s:=getN (d.drop 1)) ?_ ?_))))))
   ·rw [hdl];exact zbu5 ⟨L[0].z,d.drop 1⟩ b0 (by simp only [y13];omega)
   rw [hdl,w1,e1]
   refine Ev.po (Ev.po (Ev.bind (zbu5 ⟨L[0].z,_⟩ b1 (by simp only [y13];omega)) ?_))
   simp only [w2,e2]
   refine Ev.po (Ev.po (Ev.bind (zbu5 ⟨L[0].z,_⟩ b2 (by simp only [y13];omega)) ?_))
   simp only [w3]
   exact h
  by_cases c3:(getN (d.drop 1)).2=0
  ·refine ⟨true,pre (Ev.pos c3 (Ev.ret' ?_))⟩
   rw [main (3,0,0,0,false) (by rw [if_neg c1,if_pos c2',if_pos c3]) (by decide)];rfl
  by_cases c4:(getN ((d.drop 1).drop (getN (d.drop 1)).2.toNat)).2=0
  ·refine ⟨true,pre (Ev.neg c3 (Ev.pos c4 (Ev.ret' ?_)))⟩
   rw [main (3,0,0,0,false) (by rw [if_neg c1,if_pos c2',if_neg c3,if_pos c4]) (by decide)];rfl
  by_cases c5:(getN (((d.drop 1).drop (getN (d.drop 1)).2.toNat).drop (getN ((d.drop 1).drop (getN (d.drop 1)).2.toNat)).2.toNat)).2=0
  ·refine ⟨true,pre (Ev.neg c3 (Ev.neg c4 (Ev.pos c5 (Ev.ret' ?_))))⟩
   rw [main (3,0,0,0,false) (by rw [if_neg c1,if_pos c2',if_neg c3,if_neg c4,if_pos c5]) (by decide)];rfl
  by_cases c6:0<((((d.drop 1).drop (getN (d.drop 1)).2.toNat).drop (getN ((d.drop 1).drop (getN (d.drop 1)).2.toNat)).2.toNat).drop (getN (((d.drop 1).drop (getN (d.drop 1)).2.toNat).drop (getN ((d.drop 1).drop (getN (d.drop 1)).2.toNat)).2.toNat)).2.toNat).length
  ·have c6':=c6
   rw [e3] at c6'
   refine ⟨true,pre (Ev.neg c3 (Ev.neg c4 (Ev.neg c5 (Ev.ne (Ev.ret' ?_)))))⟩
   rw [main (3,0,0,0,false) (by rw [if_neg c1,if_pos c2',if_neg c3,if_neg c4,if_neg c5,if_pos c6]) (by decide)];rfl
  have c6':=c6
  rw [e3] at c6'
  by_cases c7:1<=(getN (d.drop 1)).1/\(getN (d.drop 1)).1<=3
  ·by_cases c8:6<=(getN ((d.drop 1).drop (getN (d.drop 1)).2.toNat)).1
   ·refine ⟨true,pre (Ev.neg c3 (Ev.neg c4 (Ev.neg c5 (Ev.po (Ev.ne (Ev.ne (Ev.pos c8 (Ev.ret' ?_))))))))⟩
    rw [main (1,0,0,0,false) (by rw [if_neg c1,if_pos c2',if_neg c3,if_neg c4,if_neg c5,if_neg c6,if_pos c7,if_pos c8]) (by decide)];rfl
   ·obtain ⟨z',hw⟩:=zbx0 (k:=(getN ((d.drop 1).drop (getN (d.drop 1)).2.toNat)).1) c7.1 c7.2 ⟨n3.2.2.2.1,n3.2.2.2.2⟩ zs L hB hL h1
    refine ⟨z',pre (Ev.neg c3 (Ev.neg c4 (Ev.neg c5 (Ev.po (Ev.ne (Ev.ne (Ev.neg c8 (Ev.cast hw ?_))))))))⟩
    have hh:headR d=(0,(getN (d.drop 1)).1,(getN ((d.drop 1).drop (getN (d.drop 1)).2.toNat)).1,(getN (((d.drop 1).drop (getN (d.drop 1)).2.toNat).drop (getN ((d.drop 1).drop (getN (d.drop 1)).2.toNat)).2.toNat)).1,true):=by
     unfold headR
     rw [if_neg c1,if_pos c2',if_neg c3,if_neg c4,if_neg c5,if_neg c6,if_pos c7,if_neg c8]
    simp only [walkA,hh,if_true]
  ·refine ⟨true,pre (Ev.neg c3 (Ev.neg c4 (Ev.neg c5 (Ev.po (Ev.ite (fun h=>Ev.ret' ?_) fun h=>Ev.po (Ev.ret' ?_))))))⟩
   ·rw [main (6,0,0,0,false) (by rw [if_neg c1,if_pos c2',if_neg c3,if_neg c4,if_neg c5,if_neg c6,if_neg c7]) (by decide)];rfl
   ·rw [main (6,0,0,0,false) (by rw [if_neg c1,if_pos c2',if_neg c3,if_neg c4,if_neg c5,if_neg c6,if_neg c7]) (by decide)];rfl
 ·refine ⟨true,Ev.su (Ev.opt hg (Ev.neg (by rw [hdl];omega) (Ev.opt he' (Ev.neg c2 (Ev.ret' ?_)))))⟩
  rw [main (3,0,0,0,false) (by rw [if_neg c1,if_neg (by rw [he];simpa using c2)]) (by decide)];rfl
theorem zbx2 (s:Sl Int) (hb:isB s.l) (hl:s.l.length<=4294967296): ∃z X,Ev (fun q=>zo5 q s) (⟨z,true,X⟩,(((allF s.l).2.1:Nat):Int),(allF s.l).2.2)/\X.map (·.l)=(allF s.l).1/\(X≠[]->z=false):=by
 obtain ⟨z,X,h,hm,h3⟩:=zbxj (D:=fun q s=>zo3 q s) (W:=zo4) (fun q z L i z2 h=>rfl) s.z s.l hb hl (fun i hi=>zbva ⟨s.z,s.l.drop i⟩ (zbul hb i) (by simp;omega)) (s.l.length+1) 0 true [] (by omega) (by omega) (by simp)
 rw [y38] at h hm
 refine ⟨z,X,Ev.su h |>.cast ?_,hm,fun h=>h3 (.inr h)⟩
 simp [allF]
theorem zbx3 (s:Sl Int) (hb:isB s.l) (hl:s.l.length<=4294967296): ∃z X,Ev (fun q=>zo6 q s) (⟨z,true,X⟩,(allE s.l).2)/\X.map (·.l)=(allE s.l).1/\(X≠[]->z=false):=by
 obtain ⟨z,X,h,hm,h3⟩:=zbx2 s hb hl
 unfold allE
 by_cases he:(allF s.l).2.2=0
 ·rw [if_pos he];exact ⟨z,X,Ev.su (Ev.bind h (Ev.pos he (Ev.ret _))),hm,h3⟩
 ·rw [if_neg he];exact ⟨true,[],Ev.su (Ev.bind h (Ev.neg he (Ev.ret _))),rfl,fun h=>absurd rfl h⟩
theorem zbx4 (z:Bool) (L:List (Sl Int)) (hL:L.length<=1000000000) (hB: ∀e∈L,isB e.l/\e.l.length<=1048576): ∀(k i:Nat) (h0z:Bool) (h0l:List (Sl Int)),L.length=i+k->h0l.length=i->
  ∃z' X,Ev (fun q=>zp6 q z L (i:Int) h0z h0l) ⟨z',true,h0l++X⟩/\X.map (·.l)=((L.drop i).map fun e=>encF e.l)/\(h0z=false\/X≠[]->z'=false)
 | 0,i,h0z,h0l,hk,hh=>by
  refine ⟨h0z,[],Ev.su (Ev.ne (Ev.ret' (by simp))),?_,fun h=>h.elim id (fun h=>absurd rfl h)⟩
  rw [y12 (by omega)];rfl
 | k+1,i,h0z,h0l,hk,hh=>by
  have hi:i<L.length:=by omega
  have he:L[((i:Int)).toNat]? =some L[i]:=by simp [hi]
  obtain ⟨hb,hl⟩:=hB L[i] (y26 hi)
  obtain ⟨zf,hf⟩:=zbu0 L[i] hb hl
  obtain ⟨z',X,ih,hX,hz⟩:=zbx4 z L hL hB k (i+1) false (h0l++[⟨zf,encF L[i].l⟩]) (by omega) (by simp [hh])
  rw [show ((i+1:Nat):Int)=wrp .i64 ((i:Int)+1) by rw [zbsa (by omega) (by omega)];omega] at ih
  refine ⟨z',⟨zf,encF L[i].l⟩::X,Ev.su (Ev.po (Ev.po (Ev.opt he (Ev.bind hf (Ev.po (Ev.cast ih ?_)))))),?_,fun _=>hz (.inl rfl)⟩
  ·simp
  ·rw [y9 hi,y34,y34,hX]
theorem zbx5 (s:Sl (Sl Int)) (hL:s.l.length<=1000000000) (hB: ∀e∈s.l,isB e.l/\e.l.length<=1048576): ∃z' X,Ev (fun q=>zp7 q s) ⟨z',true,X⟩/\X.map (·.l)=(s.l.map fun e=>encF e.l)/\(X≠[]->z'=false):=by
 obtain ⟨z',X,h,hX,hz⟩:=zbx4 s.z s.l hL hB s.l.length 0 true [] (by omega) rfl
 exact ⟨z',X,Ev.su (Ev.cast h (by simp)),by simpa using hX,fun h=>hz (.inr h)⟩
theorem zbx6 {a b:List Int} (ha:a.length<=1048576) (hb:b.length<=1048576) (h:encF a=encF b):a=b:=by
 have d1:=zbuq (l:=a) (x:=[]) ha
 have d2:=zbuq (l:=b) (x:=[]) hb
 rw [h,d2] at d1
 exact (congrArg Prod.fst d1).symm
theorem zbx7 (s:Sl Int) (hb:isB s.l) (hl:s.l.length<=80000): ∃sz,Ev (fun q=>zqa q s) (⟨(segD s.l).1.1,(segD s.l).1.2.1,⟨sz,(segD s.l).1.2.2⟩⟩,(segD s.l).2.2):=by
 obtain ⟨z0,X,hA,hX,hz0⟩:=zbx3 s hb (by omega)
 obtain ⟨hM,hMl⟩:=zbxn hb
 have hXl:X.length=(allE s.l).1.length:=by rw [<- hX,y24]
 unfold segD
 by_cases he:(allE s.l).2=0
 ·simp only [if_pos he]
  by_cases h2:(allE s.l).1.length<2
  ·simp only [if_pos h2]
   exact ⟨true,Ev.su (Ev.bind hA (Ev.pos he (Ev.pos (by simp only;omega) (Ev.ret _))))⟩
  ·simp only [if_neg h2]
   have hw:wrp .i64 ((X.length:Int) - 1)=((X.length - 1:Nat):Int):=by rw [zbsa (by omega) (by omega)];omega
   have hzf:z0=false:=hz0 (fun e=>by rw [e] at hXl;simp at hXl;omega)
   subst hzf
   have hB: ∀e∈X,isB e.l/\e.l.length<=1048576:=fun e he=>hM e.l (by rw [<- hX];exact y60 (f:=fun x:Sl Int=>x.l) he)
   have hB': ∀e∈X.take (X.length - 1),isB e.l/\e.l.length<=1048576:=fun e he=>hB e (y44 he)
   have hlt:(X.take (X.length - 1)).length=X.length - 1:=by rw [y20];omega
   have htk:(X.take (X.length - 1)).map (·.l)=(allE s.l).1.take ((allE s.l).1.length - 1):=by rw [List.map_take,hX,hXl]
   obtain ⟨zw,hW⟩:=zbx1 ⟨false,X.take (X.length - 1)⟩ (fun e he=>⟨(hB' e he).1,by have:=(hB' e he).2;omega⟩) (by simp only;omega) (by simp only;omega)
   simp only [htk] at hW
   have pre: ∀{r},Ev (fun q=>(zp2 q ⟨false,(List.take (X.length - 1) X)⟩).bind fun r7=>(if r7.2.2.2=0 then ((zp7 q ⟨false,(List.take (X.length - 1) X)⟩).bind fun r8=>(if 0<r8.xs.length then ((r8.xs[0]?).bind fun e9=>(if 1<=r8.xs.length then ((zp9 q e9 ⟨r8.n,(List.drop 1 r8.xs)⟩).bind fun r10=>(if (X.length - 1)<X.length then ((X[(X.length - 1)]?).bind fun e11=>(if r10.xs=e11.l then (some (r7.2.1,(0:Int))) else (some ((⟨0,0,⟨true,[]⟩⟩:zks),16)))) else none)) else none)) else none)) else (some ((⟨0,0,⟨true,[]⟩⟩:zks),r7.2.2.2)))) r->Ev (fun q=>zqa q s) r:=fun {r} h=>by
    refine Ev.su (Ev.bind hA (Ev.pos he (Ev.neg (by simp only;omega) (Ev.pos ?_ (Ev.pos ?_ (Ev.neg (show¬(false=true) by decide) ?_))))))
    ·simp only [hw];omega
    ·simp only [hw,y28];omega
    ·simp only [hw,y28];exact h
   by_cases hw0:(walkA ((allE s.l).1.take ((allE s.l).1.length - 1))).2.1=0
   ·simp only [if_pos hw0]
    obtain ⟨zf,Y,hF,hY,hzY⟩:=zbx5 ⟨false,X.take (X.length - 1)⟩ (by simp only;omega) hB'
    have hYm:Y.map (·.l)=((allE s.l).1.take ((allE s.l).1.length - 1)).map encF:=by rw [hY,<- htk,List.map_map];rfl
    have hYl:Y.length=X.length - 1:=by
     have:=congrArg List.length hY
     rw [y24,y24,hlt] at this;exact this
    have hg0:Y[0]? =some Y[0]:=y7 (by omega)
    have hYc:Y=Y[0]::Y.drop 1:=by
     have:=y9 (l:=Y) (i:=0) (by omega)
     rwa [y38] at this
    have hlenY: ∀e∈Y,e.l.length<=4294967296:=fun e he=>by
     have:e.l∈Y.map (·.l):=y60 (f:=fun x:Sl Int=>x.l) he
     rw [hY] at this
     obtain ⟨a,ha,hae⟩:=List.mem_map.1 this
     have h1:=(hB' a ha).2
     have h2:=(zbwt a.l).1
     rw [<- hae];omega
    have hFt:=zbw0 Y[0] ⟨zf,Y.drop 1⟩ (hlenY _ (y26 _)) (by simp only [y13];omega) (fun e he=>hlenY e (y53 he))
    have hcons:Y[0].l::(Y.drop 1).map (·.l)=((allE s.l).1.take ((allE s.l).1.length - 1)).map encF:=by
     rw [<- hYm]
     conv=>rhs;rw [hYc]
     rw [y34]
    simp only [hcons] at hFt
    have hg:X[X.length - 1]? =some X[X.length - 1]:=y7 (by omega)
    obtain ⟨b1,b2⟩:=hB X[X.length - 1] (y26 (by omega))
    have hlast:X[X.length - 1].l=(allE s.l).1.getD ((allE s.l).1.length - 1) []:=by
     rw [<- hXl,<- hX,y15,y42,hg];rfl
    have hfl:=zbww (((allE s.l).1.take ((allE s.l).1.length - 1)).map encF)
    rw [y24,y20] at hfl
    by_cases hc:footD (((allE s.l).1.take ((allE s.l).1.length - 1)).map encF)=X[X.length - 1].l
    ·rw [if_pos (by rw [hc,hlast])]
     exact ⟨zw,pre (Ev.bind hW (Ev.pos hw0 (Ev.bind hF (Ev.pos (by simp only;omega) (Ev.opt hg0 (Ev.pos (by simp only;omega) (Ev.bind hFt (Ev.po (Ev.opt hg (Ev.pos hc (Ev.ret _)))))))))))⟩
    ·rw [if_neg (fun e=>hc (by rw [hlast];exact zbx6 (by omega) (by rw [<- hlast];exact b2) e))]
     exact ⟨true,pre (Ev.bind hW (Ev.pos hw0 (Ev.bind hF (Ev.pos (by simp only;omega) (Ev.opt hg0 (Ev.pos (by simp only;omega) (Ev.bind hFt (Ev.po (Ev.opt hg (Ev.neg hc (Ev.ret _)))))))))))⟩
   ·simp only [if_neg hw0]
    exact ⟨true,pre (Ev.bind hW (Ev.neg hw0 (Ev.ret _)))⟩
 ·simp only [if_neg he]
  exact ⟨true,Ev.su (Ev.bind hA (Ev.neg he (Ev.ret _)))⟩
end Go.Dvm.I
