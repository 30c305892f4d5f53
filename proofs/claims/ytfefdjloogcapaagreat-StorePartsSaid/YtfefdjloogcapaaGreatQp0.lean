/- Plain laws of the functions: part 1. -/
import Derived.Test.YtfefdjloogcapaaGreatQi
set_option linter.all false
set_option maxRecDepth 100000
namespace Go.Dvm.I
open Go Go.Dvm
/-- With enough rounds. -/
def Ev {R:Type} (g:Nat->Option R) (r:R):Prop:= ∃N,∀q,N<=q->g q=some r
section
variable {R S:Type}
theorem Ev.ret (r:R):Ev (fun _=>some r) r:=⟨0,fun _ _=>rfl⟩
theorem Ev.ret' {r r':R} (h:r=r'):Ev (fun _=>some r) r':=⟨0,fun _ _=>by rw [h]⟩
theorem Ev.succ {f g:Nat->Option R} {r:R} (h:Ev g r) (e: ∀q,f (q+1)=g q):Ev f r:=by
 obtain ⟨N,h⟩:=h
 refine ⟨N+1,fun q hq=>?_⟩
 obtain ⟨q,rfl⟩: ∃p,q=p+1:=⟨q - 1,by omega⟩
 rw [e];exact h q (by omega)
theorem Ev.su {f:Nat->Option R} {r:R} (h:Ev (fun q=>f (q+1)) r):Ev f r:=Ev.succ h fun _=>rfl
theorem Ev.bind {g:Nat->Option S} {k:Nat->S->Option R} {s:S} {r:R} (h:Ev g s) (h2:Ev (fun q=>k q s) r):Ev (fun q=>(g q).bind (k q)) r:=by
 obtain ⟨N,h⟩:=h
 obtain ⟨M,h2⟩:=h2
 exact ⟨N+M,fun q hq=>by show (g q).bind (k q)=some r;rw [h q (by omega),y4];exact h2 q (by omega)⟩
theorem Ev.opt {o:Option S} {k:Nat->S->Option R} {s:S} {r:R} (h:o=some s) (h2:Ev (fun q=>k q s) r):Ev (fun q=>o.bind (k q)) r:=by
 subst h;exact h2
theorem Ev.pos {c:Prop} [Decidable c] {a b:Nat->Option R} {r:R} (hc:c) (h:Ev a r):Ev (fun q=>if c then a q else b q) r:=by
 obtain ⟨N,h⟩:=h
 exact ⟨N,fun q hq=>by show (if c then a q else b q)=some r;rw [if_pos hc];exact h q hq⟩
theorem Ev.neg {c:Prop} [Decidable c] {a b:Nat->Option R} {r:R} (hc: ¬c) (h:Ev b r):Ev (fun q=>if c then a q else b q) r:=by
 obtain ⟨N,h⟩:=h
 exact ⟨N,fun q hq=>by show (if c then a q else b q)=some r;rw [if_neg hc];exact h q hq⟩
theorem Ev.po {c:Prop} [Decidable c] {a b:Nat->Option R} {r:R} (h:Ev a r) (hc:c:=by omega):Ev (fun q=>if c then a q else b q) r:=Ev.pos hc h
theorem Ev.ne {c:Prop} [Decidable c] {a b:Nat->Option R} {r:R} (h:Ev b r) (hc: ¬c:=by omega):Ev (fun q=>if c then a q else b q) r:=Ev.neg hc h
theorem Ev.ite {c:Prop} [Decidable c] {a b:Nat->Option R} {r:R} (h1:c->Ev a r) (h2: ¬c->Ev b r):Ev (fun q=>if c then a q else b q) r:=by
 by_cases hc:c
 ·exact .pos hc (h1 hc)
 ·exact .neg hc (h2 hc)
theorem Ev.get {f:Nat->Option R} {r:R} (h:Ev f r): ∃q,f q=some r:=by
 obtain ⟨N,h⟩:=h;exact ⟨N,h N (y13 _)⟩
theorem Ev.cast {f:Nat->Option R} {r r':R} (h:Ev f r) (e:r=r'):Ev f r':=e▸h
end
theorem z27 {x:Int} (h1: -9223372036854775808<=x) (h2:x<=9223372036854775807):wrp .i64 x=x:=by
 unfold wrp;simp [IntKind.wrap,IntKind.min,IntKind.max,IntKind.signed,IntKind.bits]<;>omega
theorem z28 {x:Int} (h1:0<=x) (h2:x<=18446744073709551615):wrp .u64 x=x:=by
 unfold wrp;simp [IntKind.wrap,IntKind.min,IntKind.max,IntKind.signed,IntKind.bits]<;>omega
theorem z29 {x:Int} (h1:0<=x) (h2:x<=4294967295):wrp .u32 x=x:=by
 unfold wrp;simp [IntKind.wrap,IntKind.min,IntKind.max,IntKind.signed,IntKind.bits]<;>omega
theorem wrp_u8 (x:Int):wrp .u8 x=x % 256:=by
 unfold wrp;simp [IntKind.wrap,IntKind.min,IntKind.max,IntKind.signed,IntKind.bits]<;>omega
theorem z3a {x:Int} (h1:0<=x):ishr .u64 x 7=x / 128:=by
 unfold ishr;simp [IntKind.bits]
 rw [y50];omega
theorem or128 {x:Int} (h1:0<=x) (h2:x<256):ibits .or .u8 x 128=x % 128+128:=by
 obtain ⟨n,rfl⟩:=Int.eq_ofNat_of_zero_le h1
 have hn:n<256:=by omega
 have: ∀m:Fin 256,ibits .or .u8 (m.val:Int) 128=(m.val:Int) % 128+128:=by unfold ibits;decide+kernel
 exact this ⟨n,hn⟩
/-- A number's groups. -/
def grp (n:Nat):List Int:=if h:n<128 then [(n:Int)] else ((n % 128+128:Nat):Int)::grp (n / 128)
theorem grp_lt {n:Nat} (h:n<128):grp n=[(n:Int)]:=by rw [grp,dif_pos h]
theorem grp_ge {n:Nat} (h: ¬n<128):grp n=((n % 128+128:Nat):Int)::grp (n / 128):=by rw [grp,dif_neg h]
theorem z3b: ∀(k:Nat) {n:Nat},n<128 ^ (k+1)->(grp n).length<=k+1
 | 0,n,h=>by rw [grp_lt (by simpa using h)];simp
 | k+1,n,h=>by
  by_cases hn:n<128
  ·rw [grp_lt hn];simp
  ·rw [grp_ge hn]
   have:=z3b k (n:=n / 128) (by rw [Nat.div_lt_iff_lt_mul (by omega)];rw [Nat.pow_succ] at h;exact h)
   simp;omega
theorem z3c {n:Nat} (h:n<18446744073709551616):(grp n).length<=10:=z3b 9 (by omega)
theorem z3d: ∀(n:Nat) (z:Bool) (l:List Int) (x:Bool),l.length+(grp n).length<=4294967296->Ev (fun q=>zmy q (n:Int) z l x) ⟨false,x,l++grp n⟩:=by
 intro n
 induction n using Nat.strongRecOn with
 | ind n ih=>
  intro z l x hl
  refine Ev.su ?_
  by_cases hn:n<128
  ·rw [grp_lt hn] at hl ⊢
   refine Ev.ne (Ev.pos (by simpa using hl) (Ev.ret' ?_))
   rw [wrp_u8];congr 3;omega
  ·rw [grp_ge hn] at hl ⊢
   simp only [y20] at hl
   refine Ev.po (Ev.pos (by omega) ?_)
   rw [z3a (by omega),wrp_u8,or128 (by omega) (by omega)]
   have:=ih (n / 128) (by omega) false (l++[((n % 128+128:Nat):Int)]) x (by simp;omega)
   rw [show ((n:Int) % 256 % 128+128)=((n % 128+128:Nat):Int) by omega,show ((n:Int) / 128)=((n / 128:Nat):Int) by omega]
   simpa using this
theorem z3e {u:Int} (h1:0<=u) (b:Ow Int) (hl:b.xs.length+(grp u.toNat).length<=4294967296):Ev (fun q=>zmz q b u) ⟨false,b.x,b.xs++grp u.toNat⟩:=by
 have:=z3d u.toNat b.n b.xs b.x hl
 rw [Int.toNat_of_nonneg h1] at this
 exact Ev.su this
/-- What a number puts behind bytes. -/
def put (n:Int):List Int:=if n<0 then [] else if 4611686018427387904<=n then [] else grp n.toNat
theorem put_ok {n:Int} (h1:0<=n) (h2:n<4611686018427387904):put n=grp n.toNat:=by
 unfold put;rw [if_neg (by omega),if_neg (by omega)]
theorem z3f (n:Int):(put n).length<=10:=by
 unfold put;split
 ·simp
 ·split
  ·simp
  ·exact z3c (by omega)
theorem z3g {n:Int} (b:Ow Int) (h1:0<=n) (h2:n<4611686018427387904) (hl:b.xs.length+10<=4294967296):Ev (fun q=>zm0 q b n) ⟨false,b.x,b.xs++put n⟩:=by
 refine Ev.su ?_
 rw [put_ok h1 h2]
 have hg:=z3c (n:=n.toNat) (by omega)
 refine Ev.ne (Ev.neg (by omega) ?_)
 rw [z28 h1 (by omega)]
 exact Ev.bind (z3e h1 b (by omega)) (Ev.ret _)
/-- Zigzag. -/
def zig (n:Int):Nat:=if 0<=n then 2*n.toNat else 2*(-n).toNat - 1
theorem zig_lt {n:Int} (h:inR .i64 n):zig n<18446744073709551616:=by
 simp [inR,IntKind.min,IntKind.max,IntKind.signed,IntKind.bits] at h
 unfold zig;split<;>omega
def putS (n:Int):List Int:=grp (zig n)
theorem z3h (k:IntKind) (n:Int):k.wrap n=wrp k n:=by unfold wrp;rfl
theorem xor0 {x:Int} (h1:0<=x) (h2:x<18446744073709551616):ibits .xor .u64 x 0=x:=by
 have e:ibits .xor .u64 x 0=IntKind.wrap .u64 (((BitVec.ofInt 64 x ^^^ 0#64:BitVec 64).toNat:Nat):Int):=by unfold ibits;rfl
 rw [e,BitVec.xor_zero,y47,z3h,z28]<;>omega
theorem xor1 {x:Int} (h1:0<=x) (h2:x<18446744073709551616):ibits .xor .u64 x 18446744073709551615=18446744073709551615 - x:=by
 have e:ibits .xor .u64 x 18446744073709551615=IntKind.wrap .u64 (((BitVec.ofInt 64 x ^^^ BitVec.allOnes 64:BitVec 64).toNat:Nat):Int):=by unfold ibits;rfl
 rw [e,BitVec.xor_allOnes,BitVec.toNat_not,y47,z3h,z28]<;>omega
theorem ishl1 {x:Int} (h1:0<=x):ishl .u64 x 1=(2*x) % 18446744073709551616:=by
 unfold ishl
 simp [IntKind.wrap,IntKind.signed,IntKind.bits]
 omega
theorem z3i (x:Int):wrp .u64 x=x % 18446744073709551616:=by
 unfold wrp;simp [IntKind.wrap,IntKind.signed,IntKind.bits]
theorem ishr63 {x:Int} (h:inR .i64 x):ishr .i64 x 63=if 0<=x then 0 else -1:=by
 simp [inR,IntKind.min,IntKind.max,IntKind.signed,IntKind.bits] at h
 unfold ishr;simp [IntKind.bits]
 rw [y50 _ (by omega)]
 split<;>omega
theorem z3j {n:Int} (h:inR .i64 n):Ev (fun q=>zm1 q n) ((zig n:Nat):Int):=by
 refine Ev.su (Ev.ret' ?_)
 have hr:=h
 simp [inR,IntKind.min,IntKind.max,IntKind.signed,IntKind.bits] at hr
 rw [ishr63 h]
 by_cases h0:0<=n
 ·rw [if_pos h0,z28 h0 (by omega),ishl1 h0,z28 (by omega) (by omega),xor0 (by omega) (by omega)]
  unfold zig;rw [if_pos h0];omega
 ·rw [if_neg h0,z3i n,ishl1 (by omega),show wrp .u64 (-1)=18446744073709551615 by rw [z3i];rfl,xor1 (by omega) (by omega)]
  unfold zig;rw [if_neg h0];omega
theorem z3k {n:Int} (b:Ow Int) (h:inR .i64 n) (hl:b.xs.length+10<=4294967296):Ev (fun q=>zm2 q b n) ⟨false,b.x,b.xs++putS n⟩:=by
 refine Ev.su ?_
 have hg:=z3c (zig_lt h)
 have:=z3e (u:=(zig n:Nat)) (by omega) b (by simpa using (by omega:b.xs.length+(grp (zig n)).length<=4294967296))
 rw [y26] at this
 exact Ev.bind (z3j h) (Ev.bind this (Ev.ret _))
def cutI (n:Int):Int:=if n< -1099511627776 then -1099511627776 else if 1099511627776<n then 1099511627776 else n
theorem z3l (n:Int):Ev (fun q=>zly q n) (cutI n):=by
 refine Ev.su (Ev.ret' ?_)
 unfold cutI;split<;>split<;>split<;>(try split)<;>omega
def fitsOp (o:zld):Bool:=decide (0<=o.Code) && (decide (o.Code<=10) && (decide (o.A=cutI o.A) && decide (o.B=cutI o.B)))
theorem z3m (o:zld):Ev (fun q=>zlz q o) (fitsOp o):=by
 refine Ev.su ?_
 unfold fitsOp
 refine Ev.ite (fun h=>Ev.ite (fun h1=>Ev.bind (z3l _) (Ev.ite (fun h2=>Ev.bind (z3l _) (Ev.ret' ?_)) fun h2=>Ev.ret' ?_)) fun h1=>Ev.ret' ?_) fun h=>Ev.ret' ?_
 ·rw [decide_eq_true h,decide_eq_true h1,decide_eq_true h2];rfl
 ·rw [decide_eq_true h,decide_eq_true h1,decide_eq_false h2];rfl
 ·rw [decide_eq_true h,decide_eq_false h1];rfl
 ·rw [decide_eq_false h];rfl
theorem z3n {n:Int}:n=cutI n<-> -1099511627776<=n/\n<=1099511627776:=by
 unfold cutI
 by_cases h1:n< -1099511627776
 ·rw [if_pos h1];omega
 ·rw [if_neg h1]
  by_cases h2:1099511627776<n
  ·rw [if_pos h2];omega
  ·rw [if_neg h2];omega
theorem z3o {o:zld}:fitsOp o=true<->0<=o.Code/\o.Code<=10/\(-1099511627776<=o.A/\o.A<=1099511627776)/\(-1099511627776<=o.B/\o.B<=1099511627776):=by
 simp only [fitsOp,y5,decide_eq_true_eq,z3n]
def FitsR (r:zle):Prop:=0<=r.Index/\r.Index<4611686018427387904/\0<=r.Proc/\r.Proc<=64/\0<=r.Seq/\r.Seq<4611686018427387904/\fitsOp r.Op=true/\ -1125899906842624<=r.Resp/\r.Resp<=1125899906842624
instance (r:zle):Decidable (FitsR r):=by unfold FitsR;infer_instance
theorem z3p (r:zle):Ev (fun q=>zl0 q r) (decide (FitsR r)):=by
 refine Ev.su ?_
 refine Ev.ite (fun h1=>Ev.ite (fun h2=>Ev.ite (fun h3=>Ev.ite (fun h4=>Ev.ite (fun h5=>Ev.ite (fun h6=>Ev.bind (z3m _) (Ev.ite (fun h7=>Ev.ite (fun h8=>Ev.ret' ?_) fun h8=>Ev.ret' ?_) fun h7=>Ev.ret' ?_)) fun h6=>Ev.ret' ?_) fun h5=>Ev.ret' ?_) fun h4=>Ev.ret' ?_) fun h3=>Ev.ret' ?_) fun h2=>Ev.ret' ?_) fun h1=>Ev.ret' ?_<;>simp only [FitsR, *]<;>simp
def opB (o:zld):List Int:=put o.Code++(putS o.A++putS o.B)
theorem z3q {n:Int} (h:inR .i64 n):(putS n).length<=10:=z3c (zig_lt h)
theorem z3r {n:Int} (h1: -9223372036854775808<=n) (h2:n<=9223372036854775807):inR .i64 n:=by
 simp [inR,IntKind.min,IntKind.max,IntKind.signed,IntKind.bits];omega
theorem z3s {o:zld} (h:fitsOp o=true):(opB o).length<=30:=by
 obtain ⟨h1,h2,h3,h4⟩:=z3o.1 h
 have:=z3f o.Code
 have:=z3q (n:=o.A) (z3r (by omega) (by omega))
 have:=z3q (n:=o.B) (z3r (by omega) (by omega))
 simp only [opB,y9];omega
theorem z3t {o:zld} (b:Ow Int) (h:fitsOp o=true) (hl:b.xs.length+30<=4294967296):Ev (fun q=>zm3 q b o) (⟨false,b.x,b.xs++opB o⟩,0):=by
 obtain ⟨h1,h2,h3,h4⟩:=z3o.1 h
 refine Ev.su ?_
 have:=z3f o.Code
 have hA:inR .i64 o.A:=z3r (by omega) (by omega)
 have hB:inR .i64 o.B:=z3r (by omega) (by omega)
 have:=z3q hA
 have:=z3q hB
 refine Ev.bind (z3m o) (Ev.pos h (Ev.bind (z3g b h1 (by omega) (by omega)) (Ev.bind (z3k _ hA (by simp;omega)) (Ev.bind (z3k _ hB (by simp;omega)) (Ev.ret' ?_)))))
 simp [opB]
theorem z3u {a b:zle} (h1:a.Index=b.Index) (h2:a.Proc=b.Proc) (h3:a.Seq=b.Seq) (h4:a.Op=b.Op) (h5:a.Resp=b.Resp):a=b:=by cases a;cases b;simp_all
abbrev B32:=BitVec 32
def u (a:B32):Int:=(a.toNat:Int)
theorem u_nn (a:B32):0<=u a:=Int.natCast_nonneg _
theorem u_lt (a:B32):u a<4294967296:=by unfold u;have:=a.isLt;omega
theorem z3v (a:B32):BitVec.ofInt 32 (u a)=a:=by
 apply BitVec.eq_of_toNat_eq;rw [y47];unfold u;have:=a.isLt;omega
theorem wrp_u (a:B32):IntKind.wrap .u32 ((a.toNat:Nat):Int)=u a:=by
 have:=a.isLt
 rw [z3h,z29 (by omega) (by omega)];rfl
theorem xor_u (a b:B32):ibits .xor .u32 (u a) (u b)=u (a ^^^ b):=by
 have e:ibits .xor .u32 (u a) (u b)=IntKind.wrap .u32 (((BitVec.ofInt 32 (u a) ^^^ BitVec.ofInt 32 (u b):B32).toNat:Nat):Int):=by unfold ibits;rfl
 rw [e,z3v,z3v,wrp_u]
theorem and_u (a b:B32):ibits .and .u32 (u a) (u b)=u (a &&& b):=by
 have e:ibits .and .u32 (u a) (u b)=IntKind.wrap .u32 (((BitVec.ofInt 32 (u a) &&& BitVec.ofInt 32 (u b):B32).toNat:Nat):Int):=by unfold ibits;rfl
 rw [e,z3v,z3v,wrp_u]
theorem u_lit (n:Nat) (h:n<4294967296):u (BitVec.ofNat 32 n)=(n:Int):=by
 unfold u;rw [BitVec.toNat_ofNat];omega
theorem z3w (x:Int):wrp .u32 x=x % 4294967296:=by
 unfold wrp;simp [IntKind.wrap,IntKind.signed,IntKind.bits]
theorem ishr_u (a:B32) (k:Nat) (hk:k<=32):ishr .u32 (u a) (k:Int)=u (a>>>k):=by
 unfold ishr u
 simp only [IntKind.bits,y26,Nat.min_eq_left hk]
 rw [y50 _ (by exact_mod_cast Nat.zero_le _),BitVec.toNat_ushiftRight,Nat.shiftRight_eq_div_pow]
 simp
theorem z3x (a:B32):ishr .u32 (u a) 1=u (a>>>1):=ishr_u a 1 (by omega)
theorem z3y (a:B32):ishr .u32 (u a) 8=u (a>>>8):=ishr_u a 8 (by omega)
def poly:B32:=2197175160#32
def bstep (a:B32):B32:=if a &&& 1#32=1#32 then (a>>>1) ^^^ poly else a>>>1
theorem and1 (a:B32):a &&& 1#32=0#32\/a &&& 1#32=1#32:=by
 have:(a &&& 1#32).toNat=a.toNat % 2:=by rw [BitVec.toNat_and];exact Nat.and_one_is_mod _
 rcases Nat.mod_two_eq_zero_or_one a.toNat with h | h
 ·left;exact BitVec.eq_of_toNat_eq (by rw [this,h];rfl)
 ·right;exact BitVec.eq_of_toNat_eq (by rw [this,h];rfl)
/-- The program's step. -/
theorem z3z (a:B32):ibits .xor .u32 (ishr .u32 (u a) 1) (ibits .and .u32 2197175160 (wrp .u32 (0 - (ibits .and .u32 (u a) 1))))=u (bstep a):=by
 have e1:(1:Int)=u 1#32:=rfl
 have e2:(2197175160:Int)=u poly:=by unfold poly;rw [u_lit _ (by omega)];rfl
 rw [z3x]
 conv=>lhs;arg 4;rw [e2];arg 4;rw [e1,and_u]
 unfold bstep
 rcases and1 a with h | h
 ·rw [h,if_neg (by decide)]
  have:wrp .u32 (0 - u 0#32)=u 0#32:=by rw [z3w];rfl
  rw [this,and_u,BitVec.and_zero,xor_u,BitVec.xor_zero]
 ·rw [h,if_pos rfl]
  have:wrp .u32 (0 - u 1#32)=u (BitVec.allOnes 32):=by rw [z3w];rfl
  rw [this,and_u,BitVec.and_allOnes,xor_u]
def biter:Nat->B32->B32
 | 0,a=>a
 | n+1,a=>biter n (bstep a)
def bentry (a:B32):B32:=biter 8 a
theorem z30 (v2 v5:Int) (t0 t1:List Int) (r:List Int): ∀(k:Nat) (a:B32) (v10:Int),v10=8 - k->k<=8->0<=v2->v2.toNat<256->v2.toNat+1<=t1.length->
  Ev (fun q=>zm6 q (wrp .i64 (v5+1)) t0 (List.set t1 v2.toNat (u (biter k a)))) r->Ev (fun q=>zm7 q v2 (u a) v5 v10 t0 t1) r
 | 0,a,v10,h1,h2,h3,h4,h5,h=>Ev.su (Ev.ne (Ev.pos h3 (Ev.pos h4 (Ev.pos h5 h))))
 | k+1,a,v10,h1,h2,h3,h4,h5,h=>by
  refine Ev.su (Ev.pos (by omega) ?_)
  rw [z3z,z27 (by omega) (by omega)]
  exact z30 v2 v5 t0 t1 r k (bstep a) (v10+1) (by omega) (by omega) h3 h4 h5 h
/-- The table. -/
def tabN (n:Nat):List Int:=(List.range n).map fun i=>u (bentry (BitVec.ofNat 32 i))
theorem z31 {n i:Nat} (h:i<n):(tabN n)[i]? =some (u (bentry (BitVec.ofNat 32 i))):=by
 unfold tabN;rw [y40,List.getElem?_range h];rfl
theorem z32 (n:Nat):(tabN n).length=n:=by simp [tabN]
theorem z33: ∀(k i:Nat) (t1:List Int),i+k=256->t1.length=256->(∀j,j<i->t1[j]? =(tabN 256)[j]?)->Ev (fun q=>zm6 q (i:Int) (List.replicate 256 0) t1) (tabN 256)
 | 0,i,t1,hk,hl,ht=>by
  refine Ev.su (Ev.ne (Ev.po (Ev.po (Ev.pos (by simp) (Ev.pos (by simp) (Ev.ret' ?_))))))
  have e:t1=tabN 256:=by
   apply List.ext_getElem?
   intro j
   by_cases hj:j<256
   ·exact ht j (by omega)
   ·rw [y48 (by omega),y48 (by rw [z32];omega)]
  have h2:=z32 256
  rw [e,List.take_of_length_le (i:=256) (by omega:(tabN 256).length<=256),y11 (by simp),List.append_nil,List.take_of_length_le (by omega)]
 | k+1,i,t1,hk,hl,ht=>by
  refine Ev.su (Ev.pos (by omega) ?_)
  have e:wrp .u32 (i:Int)=u (BitVec.ofNat 32 i):=by rw [u_lit _ (by omega),z29]<;>omega
  rw [e]
  refine z30 _ _ _ _ _ 8 _ 0 (by omega) (by omega) (by omega) (by omega) (by omega) ?_
  rw [z27 (by omega) (by omega),show ((i:Int)+1)=((i+1:Nat):Int) by omega,y26]
  refine z33 k (i+1) _ (by omega) (by simpa using hl) fun j hj=>?_
  by_cases e:i=j
  ·subst e;rw [y22 (by omega),z31 (by omega)];rfl
  ·rw [y27 e];exact ht j (by omega)
theorem z34:Ev (fun q=>zm8 q) (tabN 256):=
 Ev.su (z33 256 0 (List.replicate 256 0) (by omega) (by simp) (fun j hj=>by omega))
/-- What a byte makes of a sum. -/
def bbyte (x:B32) (c:Int):B32:=bentry ((x ^^^ BitVec.ofInt 32 c) &&& 255#32) ^^^ (x>>>8)
def bmore (x:B32) (l:List Int):B32:=l.foldl bbyte x
def isB (l:List Int):Prop:= ∀c∈l,0<=c/\c<256
theorem xor8 {x:B32} {c:Int} (h1:0<=c) (h2:c<256):ibits .xor .u8 (wrp .u8 (u x)) c=u ((x ^^^ BitVec.ofInt 32 c) &&& 255#32):=by
 have e:ibits .xor .u8 (wrp .u8 (u x)) c=IntKind.wrap .u8 (((BitVec.ofInt 8 (wrp .u8 (u x)) ^^^ BitVec.ofInt 8 c:BitVec 8).toNat:Nat):Int):=by unfold ibits;rfl
 rw [e,z3h,wrp_u8,wrp_u8]
 unfold u
 rw [BitVec.toNat_and,BitVec.toNat_xor,BitVec.toNat_xor,y47,y47,y47]
 obtain ⟨n,rfl⟩:=Int.eq_ofNat_of_zero_le h1
 have hn:n<256:=by omega
 have e1:(((x.toNat:Int) % 256 % ((2 ^ 8:Nat):Int)).toNat)=x.toNat % 256:=by omega
 have e2:(((n:Int) % ((2 ^ 8:Nat):Int)).toNat)=n:=by omega
 have e3:(((n:Int) % ((2 ^ 32:Nat):Int)).toNat)=n:=by omega
 rw [e1,e2,e3,show (255#32).toNat=2 ^ 8 - 1 from rfl,Nat.and_two_pow_sub_one_eq_mod]
 have h3:(x.toNat ^^^ n) % 2 ^ 8=(x.toNat % 2 ^ 8) ^^^ (n % 2 ^ 8):=Nat.xor_mod_two_pow
 rw [h3,Nat.mod_eq_of_lt (show n<2 ^ 8 by omega)]
 have h4:(x.toNat % 2 ^ 8) ^^^ n<2 ^ 8:=Nat.xor_lt_two_pow (Nat.mod_lt _ (by omega)) (by omega)
 simp only [Nat.reducePow] at h4 ⊢
 omega
theorem and255 (x:B32):u (x &&& 255#32)<256:=by
 unfold u
 rw [BitVec.toNat_and,show (255#32).toNat=2 ^ 8 - 1 from rfl,Nat.and_two_pow_sub_one_eq_mod];omega
theorem z35 (a:B32):(u a).toNat=a.toNat:=by unfold u;omega
theorem ones:(4294967295:Int)=u (BitVec.allOnes 32):=rfl
theorem z36 (z:Bool) (l:List Int) (hb:isB l) (hl:l.length<=1099511627776): ∀(k i:Nat) (x:B32),l.length=i+k->Ev (fun q=>zm9 q (u x) z l (l.length:Int) (i:Int) (tabN 256)) (u (~~~ bmore x (l.drop i)))
 | 0,i,x,hk=>by
  refine Ev.su (Ev.ne (Ev.ret' ?_))
  rw [y11 (by omega),ones,xor_u]
  simp only [bmore,List.foldl_nil,BitVec.allOnes_xor]
 | k+1,i,x,hk=>by
  have hi:i<l.length:=by omega
  have hg:l[(i:Int).toNat]? =some l[i]:=by simpa using y6 hi
  obtain ⟨b1,b2⟩:=hb l[i] (List.getElem_mem hi)
  refine Ev.su (Ev.po (Ev.po (Ev.opt hg ?_)))
  rw [xor8 b1 b2]
  have h255:=and255 (x ^^^ BitVec.ofInt 32 l[i])
  have hnn:=u_nn ((x ^^^ BitVec.ofInt 32 l[i]) &&& 255#32)
  refine Ev.pos hnn (Ev.po (Ev.opt (z31 (by omega)) ?_))
  rw [z3y,xor_u,z27 (by omega) (by omega),show ((i:Int)+1)=((i+1:Nat):Int) by omega,z35]
  have:=z36 z l hb hl k (i+1) (bentry ((x ^^^ BitVec.ofInt 32 l[i]) &&& 255#32) ^^^ (x>>>8)) (by omega)
  rw [y8 hi]
  simp only [bmore,List.foldl_cons,bbyte,BitVec.ofNat_toNat,BitVec.setWidth_eq] at this ⊢
  exact this
theorem z37 (x:B32) (s:Sl Int) (hb:isB s.l) (hl:s.l.length<=1099511627776):Ev (fun q=>zna q (u x) s) (u (~~~ bmore (~~~ x) s.l)):=by
 refine Ev.su (Ev.bind z34 (Ev.pos (z32 256) ?_))
 rw [ones,xor_u,BitVec.allOnes_xor]
 have:=z36 s.z s.l hb hl s.l.length 0 (~~~ x) (by omega)
 rw [y36] at this
 exact this
/-- The sum of bytes. -/
def bsum (l:List Int):B32:= ~~~ bmore (BitVec.allOnes 32) l
theorem z38 (s:Sl Int) (hb:isB s.l) (hl:s.l.length<=1099511627776):Ev (fun q=>znb q s) (u (bsum s.l)):=by
 have:=z37 0#32 s hb hl
 exact Ev.su (Ev.bind this (Ev.ret' (by simp [bsum])))
theorem z39 (x:B32) (a b:List Int):bmore (bmore x a) b=bmore x (a++b):=by simp [bmore]
theorem z4a {x:Int} (h:0<=x) (k:Nat) (hk:k<=64):ishr .u64 x (k:Int)=x / ((2 ^ k:Nat):Int):=by
 unfold ishr
 simp only [IntKind.bits,y26,Nat.min_eq_left hk]
 rw [y50 _ (by exact_mod_cast Nat.zero_le _)]
 simp
/-- A number in four bytes. -/
def fix4 (v:Nat):List Int:=[((v % 256:Nat):Int),((v / 256 % 256:Nat):Int),((v / 65536 % 256:Nat):Int),((v / 16777216 % 256:Nat):Int)]
theorem z4b (v k:Nat) (hk:k<=8):wrp .u8 (ishr .u64 (v:Int) (wrp .i64 (8*(k:Int))))=((v / 2 ^ (8*k) % 256:Nat):Int):=by
 rw [z27 (by omega) (by omega),show (8*(k:Int))=((8*k:Nat):Int) by omega,z4a (by omega) _ (by omega),wrp_u8]
 exact_mod_cast rfl
def bytesFrom (v:Nat):Nat->Nat->List Int
 | _,0=>[]
 | i,k+1=>((v / 2 ^ (8*i) % 256:Nat):Int)::bytesFrom v (i+1) k
theorem z4c {v m:Nat} (hm:m<=8): ∀(k i:Nat) (l:List Int),m=i+k->l.length+k<=4294967296->Ev (fun q=>znc q (v:Int) (m:Int) (i:Int) false l) ⟨false,true,l++bytesFrom v i k⟩
 | 0,i,l,hk,hl=>Ev.su (Ev.ne (Ev.ret' (by simp [bytesFrom])))
 | k+1,i,l,hk,hl=>by
  have w:wrp .i64 (8*(i:Int))=8*(i:Int):=z27 (by omega) (by omega)
  refine Ev.su (Ev.po (Ev.neg (by rw [w];omega) (Ev.pos (by omega) ?_)))
  rw [z4b v i (by omega),z27 (x:=(i:Int)+1) (by omega) (by omega),show ((i:Int)+1)=((i+1:Nat):Int) by omega]
  refine (z4c hm k (i+1) _ (by omega) (by simp;omega)).cast ?_
  simp [bytesFrom]
theorem z4d {v m:Nat} (h0:0<m) (hm:m<=8):Ev (fun q=>znd q (v:Int) (m:Int)) ⟨false,true,bytesFrom v 0 m⟩:=by
 obtain ⟨k,rfl⟩: ∃k,m=k+1:=⟨m - 1,by omega⟩
 have w:wrp .i64 (8*((0:Nat):Int))=0:=z27 (by omega) (by omega)
 have key: ∀i:Int,i=((0:Nat):Int)->Ev (fun q=>znc q (v:Int) ((k+1:Nat):Int) i true []) ⟨false,true,bytesFrom v 0 (k+1)⟩:=by
  intro i hi
  refine Ev.su (Ev.po (Ev.neg (by rw [hi,w];omega) (Ev.pos (by simp) ?_)))
  rw [hi,z4b v 0 (by omega),z27 (x:=((0:Nat):Int)+1) (by omega) (by omega),show (((0:Nat):Int)+1)=((0+1:Nat):Int) by omega]
  refine (z4c hm k 1 _ (by omega) (by simp;omega)).cast ?_
  simp [bytesFrom]
 exact Ev.su (key 0 rfl)
theorem bytes4 (v:Nat):bytesFrom v 0 4=fix4 v:=by simp [bytesFrom,fix4]
theorem z4e {v:Nat} (h:v<18446744073709551616):Ev (fun q=>znd q (v:Int) 4) ⟨false,true,fix4 v⟩:=by
 have:=z4d (v:=v) (m:=4) (by omega) (by omega)
 rw [bytes4] at this;exact this
theorem z4f (a:B32):Ev (fun q=>zne q (u a)) ⟨false,true,fix4 a.toNat⟩:=by
 have h1:=u_nn a;have h2:=u_lt a
 have e:wrp .u64 (u a)=((a.toNat:Nat):Int):=by rw [z28 h1 (by omega)];rfl
 exact Ev.su (Ev.bind (by rw [e];exact z4e (by have:=a.isLt;omega)) (Ev.ret _))
theorem z4g (a b:Sl Int) (ha:isB a.l) (hb:isB b.l) (la:a.l.length<=1099511627776) (lb:b.l.length<=1099511627776):Ev (fun q=>znf q a b) ⟨false,true,fix4 (bsum (a.l++b.l)).toNat⟩:=by
 have h2:=z37 (bsum a.l) b hb lb
 have e: ~~~ bmore (~~~ bsum a.l) b.l=bsum (a.l++b.l):=by
  unfold bsum;rw [BitVec.not_not,z39]
 rw [e] at h2
 exact Ev.su (Ev.bind (z38 a ha la) (Ev.bind h2 (Ev.bind (z4f _) (Ev.ret _))))
def flat (l:List (Sl Int)):List Int:=l.flatMap (·.l)
theorem z4h (a:Sl Int) (b:List (Sl Int)):flat (a::b)=a.l++flat b:=by simp [flat]
theorem z4i (z0:Bool) (L:List (Sl Int)) (z:Bool) (hL:L.length<=1099511627776): ∀(k i:Nat) (m:Nat) (l:List Int),L.length=i+k->m+(flat (L.drop i)).length<=l.length->
  Ev (fun q=>zng q m z0 L (L.length:Int) (i:Int) z l) ⟨z,true,l.take m++flat (L.drop i)⟩
 | 0,i,m,l,hk,hl=>by
  refine Ev.su (Ev.ne (Ev.ret' ?_))
  rw [y11 (by omega)];simp [flat]
 | k+1,i,m,l,hk,hl=>by
  have hi:i<L.length:=by omega
  have hg:L[(i:Int).toNat]? =some L[i]:=by simpa using y6 hi
  rw [y8 hi,z4h,y9] at hl
  refine Ev.su (Ev.po (Ev.po (Ev.opt hg (Ev.pos (by omega) ?_))))
  rw [z27 (by omega) (by omega),show ((i:Int)+1)=((i+1:Nat):Int) by omega]
  refine (z4i z0 L z hL k (i+1) (m+L[i].l.length) _ (by omega) ?_).cast ?_
  ·simp only [y9,y19,y12];omega
  ·congr 1
   rw [y8 hi,z4h,<- y31]
   congr 1
   rw [List.take_append_of_le_length (by simp only [y9,y19];omega),List.take_of_length_le (by simp only [y9,y19];omega)]
theorem z4j (z0:Bool) (L:List (Sl Int)) (hL:L.length<=1099511627776): ∀(k i:Nat) (z:Bool) (l:List Int),L.length=i+k->l.length+(flat (L.drop i)).length<=4294967296->
  ∃z',Ev (fun q=>znh q z0 L (L.length:Int) (i:Int) z l) ⟨z',true,l++flat (L.drop i)⟩
 | 0,i,z,l,hk,hl=>⟨z,by
  refine Ev.su (Ev.ne (Ev.ret' ?_))
  rw [y11 (by omega)];simp [flat]⟩
 | k+1,i,z,l,hk,hl=>by
  have hi:i<L.length:=by omega
  have hg:L[(i:Int).toNat]? =some L[i]:=by simpa using y6 hi
  rw [y8 hi,z4h,y9] at hl
  obtain ⟨z',h⟩:=z4j z0 L hL k (i+1) (z && (decide (L[i].l.length=0))) (l++L[i].l) (by omega) (by simp only [y9];omega)
  refine ⟨z',Ev.su (Ev.po (Ev.po (Ev.opt hg (Ev.pos (by omega) ?_))))⟩
  rw [z27 (by omega) (by omega),show ((i:Int)+1)=((i+1:Nat):Int) by omega]
  refine h.cast ?_
  rw [y8 hi,z4h];simp
theorem z4k (z0 z9:Bool) (L:List (Sl Int)) (hL:L.length<=1099511627776) (hf:(flat L).length<=4294967296): ∀(k i:Nat) (m:Nat),L.length=i+k->m+(flat (L.drop i)).length=(flat L).length->
  ∃z',Ev (fun q=>znj q z0 L (m:Int) z9 L (L.length:Int) (i:Int)) ⟨z',true,flat L⟩
 | 0,i,m,hk,hm=>by
  rw [y11 (by omega)] at hm
  have hm2:m=(flat L).length:=by simpa [flat] using hm
  have w:wrp .i64 ((m:Int) - wrp .i64 0)=(m:Int):=by rw [z27 (x:=0) (by omega) (by omega),z27 (by omega) (by omega)];omega
  by_cases h0:0<m
  ·refine ⟨decide (wrp .i64 ((m:Int) - wrp .i64 0)=0),Ev.su (Ev.ne (Ev.ne (Ev.pos (by rw [w];omega) (Ev.pos (by rw [w];omega) (Ev.pos (by rw [w];omega) (Ev.neg (by rw [w];omega) ?_))))))⟩
   rw [w]
   have:=z4i z0 L (decide ((m:Int)=0)) hL L.length 0 0 (List.replicate (m:Int).toNat 0) (by omega) (by simp;omega)
   rw [y36] at this
   exact this
  ·have hnil:flat L=[]:=y33 (by omega)
   match L,hk with
   | [],_=>
    refine ⟨true,Ev.su (Ev.neg (by simp) (Ev.neg (by omega) ?_))⟩
    rw [w]
    refine Ev.neg (by omega) ?_
    exact Ev.succ (g:=fun _=>some ⟨true,true,[]⟩) (Ev.ret' (by simp [flat])) (fun q=>rfl)
   | a::L',hk=>
    rw [z4h] at hnil
    obtain ⟨z',h⟩:=z4j z0 (a::L') hL L'.length 1 (decide (a.l.length=0)) a.l (by simp;omega) (by
     have:flat (List.drop 1 (a::L'))=flat L':=rfl
     rw [this,<- y9,hnil];simp)
    refine ⟨z',Ev.su (Ev.ne (Ev.neg (by omega) ?_))⟩
    rw [w]
    refine Ev.ne (Ev.su (Ev.pos (by simp) (Ev.opt (s:=a) rfl (Ev.pos ?_ ?_))))
    ·have:a.l.length<=(a.l++flat L').length:=by simp
     rw [hnil] at this;simp at this;simp [this]
    ·rw [z27 (by omega) (by omega)]
     refine h.cast ?_
     rw [z4h];rfl
 | k+1,i,m,hk,hm=>by
  have hi:i<L.length:=by omega
  have hg:L[(i:Int).toNat]? =some L[i]:=by simpa using y6 hi
  rw [y8 hi,z4h,y9] at hm
  obtain ⟨z',h⟩:=z4k z0 z9 L hL hf k (i+1) (m+L[i].l.length) (by omega) (by omega)
  refine ⟨z',Ev.su (Ev.po (Ev.po (Ev.opt hg ?_)))⟩
  have w:wrp .i64 ((m:Int)+(L[i].l.length:Int))=((m+L[i].l.length:Nat):Int):=by rw [z27 (by omega) (by omega)];omega
  rw [w,z27 (by omega) (by omega),show ((i:Int)+1)=((i+1:Nat):Int) by omega]
  exact Ev.neg (by omega) h
theorem z4l (s:Sl (Sl Int)) (hL:s.l.length<=1099511627776) (hf:(flat s.l).length<=4294967296): ∃z',Ev (fun q=>znk q s) ⟨z',true,flat s.l⟩:=by
 obtain ⟨z',h⟩:=z4k s.z s.z s.l hL hf s.l.length 0 0 (by omega) (by simp)
 exact ⟨z',Ev.su h⟩
theorem z4m: ∀n,isB (grp n):=by
 intro n
 induction n using Nat.strongRecOn with
 | ind n ih=>
  by_cases h:n<128
  ·rw [grp_lt h];intro c hc;simp at hc;omega
  ·rw [grp_ge h];intro c hc
   rcases List.mem_cons.1 hc with rfl | hc
   ·omega
   ·exact ih (n / 128) (by omega) c hc
theorem z4n (n:Int):isB (put n):=by
 unfold put;split
 ·intro c hc;simp at hc
 ·split
  ·intro c hc;simp at hc
  ·exact z4m _
theorem z4o {a b:List Int}:isB (a++b)<->isB a/\isB b:=by
 constructor
 ·intro h;exact ⟨fun c hc=>h c (List.mem_append.2 (.inl hc)),fun c hc=>h c (List.mem_append.2 (.inr hc))⟩
 ·rintro ⟨h1,h2⟩ c hc
  rcases List.mem_append.1 hc with h | h
  ·exact h1 c h
  ·exact h2 c h
/-- A frame. -/
def encF (l:List Int):List Int:=put (l.length:Int)++(l++fix4 (bsum (put (l.length:Int)++l)).toNat)
theorem z4p (s:Sl Int) (hb:isB s.l) (hl:s.l.length<=1048576): ∃z,Ev (fun q=>znl q s) (⟨z,true,encF s.l⟩,0):=by
 have hp:=z3f (s.l.length:Int)
 obtain ⟨z,h⟩:=z4l ⟨false,[⟨false,put (s.l.length:Int)⟩,s,⟨false,fix4 (bsum (put (s.l.length:Int)++s.l)).toNat⟩]⟩ (by simp) (by simp [flat,fix4];omega)
 refine ⟨z,Ev.su (Ev.neg (by omega) ?_)⟩
 refine Ev.bind (z3g ⟨true,true,[]⟩ (by omega) (by omega) (by simp)) ?_
 refine Ev.bind (z4g ⟨false,put (s.l.length:Int)⟩ s (z4n (s.l.length:Int)) hb (by simp only;omega) (by omega)) ?_
 refine Ev.bind h ?_
 exact Ev.ret' (by simp [encF,flat])
theorem z4q (s:Sl Int) (hz:s.z=false) (hl:s.l.length<=4294967296):Ev (fun q=>zlv q s) ⟨false,true,s.l⟩:=
 Ev.su (Ev.neg (by simp [hz]) (Ev.pos hl (Ev.ret _)))
def chainB:List zle->Int->Bool
 | [],_=>true
 | r::l,f=>decide (FitsR r) && (decide (r.Index=f) && chainB l (f+1))
theorem z4r {r:zle} (h:FitsR r):0<=r.Index/\r.Index<4611686018427387904:=⟨h.1,h.2.1⟩
/-- The number of the last record of a process. -/
def lastS:List zle->Int->Int
 | [],_=>0
 | r::l,p=>if p=r.Proc then r.Seq else lastS l p
/-- A map that has, of each process, the last one's number: by the records turned round. -/
def mapR:List zle->List (Int×Int)
 | []=>[]
 | r::l=>mset (mapR l) r.Proc r.Seq
theorem z4s (m:List (Int×Int)) (n y p:Int):mget (mset m n y) p=if p=n then y else mget m p:=by
 induction m with
 | nil=>simp [mset,mget]
 | cons e m ih=>
  obtain ⟨k,v⟩:=e
  simp only [mset]
  by_cases h:n=k
  ·subst h
   rw [if_pos rfl]
   simp only [mget]
   by_cases hp:p=n
   ·rw [if_pos hp,if_pos hp]
   ·rw [if_neg hp,if_neg hp,if_neg hp]
  ·rw [if_neg h]
   simp only [mget]
   by_cases hp:p=k
   ·rw [if_pos hp,if_pos hp,if_neg (fun e=>h (by rw [<- e,hp]))]
   ·rw [if_neg hp,if_neg hp,ih]
theorem z4t (l:List zle) (p:Int):mget (mapR l) p=lastS l p:=by
 induction l with
 | nil=>rfl
 | cons r l ih=>simp only [mapR,z4s,lastS,ih]
/-- A block's records as bytes, behind others (these turned round). -/
def blkB:List zle->List zle->List Int
 | _,[]=>[]
 | pr,r::l=>(put r.Proc++(putS (r.Seq - lastS pr r.Proc)++(opB r.Op++putS r.Resp)))++blkB (r::pr) l
theorem z4u {l:List zle} (h: ∀r∈l,FitsR r) (p:Int):0<=lastS l p/\lastS l p<4611686018427387904:=by
 induction l with
 | nil=>simp [lastS]
 | cons r l ih=>
  simp only [lastS]
  split
  ·have:=h r y30
   exact ⟨this.2.2.2.2.1,this.2.2.2.2.2.1⟩
  ·exact ih fun r hr=>h r (y34 _ hr)
theorem z4v (z:Bool) (L:List zle) (hf: ∀r∈L,FitsR r) (hL:L.length<=1000000): ∀(k i:Nat) (l:List Int),L.length=i+k->l.length+60*k<=4294967296->
  Ev (fun q=>zm4 q z L (L.length:Int) (i:Int) (mapR (L.take i).reverse) false l true) (⟨false,true,l++blkB (L.take i).reverse (L.drop i)⟩,0)
 | 0,i,l,hk,hl=>by
  refine Ev.su (Ev.ne (Ev.ret' ?_))
  rw [y11 (by omega)];simp [blkB]
 | k+1,i,l,hk,hl=>by
  have hi:i<L.length:=by omega
  have he:L[((i:Int)).toNat]? =some L[i]:=by simp [hi]
  have hfit:=hf L[i] (List.getElem_mem hi)
  have hr:=hfit
  obtain ⟨h1,h2,h3,h4,h5,h6,h7,h8,h9⟩:=hfit
  have hpr: ∀r∈(L.take i).reverse,FitsR r:=fun r hr=>hf r (y42 (List.mem_reverse.1 hr))
  have hlast:=z4u hpr L[i].Proc
  have hw:wrp .i64 (L[i].Seq - mget (mapR (L.take i).reverse) L[i].Proc)=L[i].Seq - lastS (L.take i).reverse L[i].Proc:=by
   rw [z4t,z27 (by omega) (by omega)]
  have p1:=z3f L[i].Proc
  have i1:inR .i64 (L[i].Seq - lastS (L.take i).reverse L[i].Proc):=z3r (by omega) (by omega)
  have i2:inR .i64 L[i].Resp:=z3r (by omega) (by omega)
  have p2:=z3q i1
  have p3:=z3s h7
  have p4:=z3q i2
  refine Ev.su (Ev.po (Ev.po (Ev.opt he (Ev.bind (z3g ⟨false,true,l⟩ h3 (by omega) (by simp only;omega)) ?_))))
  simp only [hw]
  refine Ev.bind (z3k _ i1 (by simp only [y9];omega)) (Ev.bind (z3t _ h7 (by simp only [y9];omega)) (Ev.bind (z3k _ i2 (by simp only [y9];omega)) ?_))
  rw [show wrp .i64 ((i:Int)+1)=((i+1:Nat):Int) by rw [z27 (by omega) (by omega)];omega]
  have ht:(L.take (i+1)).reverse=L[i]::(L.take i).reverse:=by
   rw [List.take_succ,y6 hi];simp
  have ih:=z4v z L hf hL k (i+1) (((l++put L[i].Proc)++putS (L[i].Seq - lastS (L.take i).reverse L[i].Proc))++opB L[i].Op++putS L[i].Resp) (by omega) (by simp only [y9];omega)
  rw [ht] at ih
  simp only [mapR] at ih
  refine Ev.cast ih ?_
  rw [y8 hi]
  simp [blkB]
theorem z4w {l:List zle} {f:Int} (h:chainB l f=true): ∀r∈l,FitsR r:=by
 induction l generalizing f with
 | nil=>intro r hr;simp at hr
 | cons a l ih=>
  simp only [chainB,y5,decide_eq_true_eq] at h
  intro r hr
  rcases List.mem_cons.1 hr with e | e
  ·rw [e];exact h.1
  ·exact ih h.2.2 r e
/-- May records stand in one block? -/
def blkOk (l:List zle):Bool:=match l with
 | []=>false
 | r::_=>chainB l r.Index && decide ((l.length:Int)<=256)
def blkE (l:List zle):List Int:=match l with
 | []=>[]
 | r::_=>put r.Index++(put (l.length:Int)++blkB [] l)
theorem z4x (z:Bool) (e:zle) (L':List zle) (hL:(e::L').length<=1000000): ∀(k i:Nat),(e::L').length=i+k->(0<i->FitsR e)->
  Ev (fun q=>zmw q z (e::L') z (e::L') ((e::L').length:Int) (i:Int)) (chainB ((e::L').drop i) (e.Index+i) && decide (((e::L').length:Int)<=256))
 | 0,i,hk,hE=>by
  refine Ev.su (Ev.ne (Ev.pos (by simp) (Ev.ret' ?_)))
  rw [y11 (by omega)];rfl
 | k+1,i,hk,hE=>by
  have hi:i<(e::L').length:=by omega
  have hE':decide (FitsR (e::L')[i])=true->FitsR e:=by
   intro h
   by_cases h0:0<i
   ·exact hE h0
   ·have:i=0:=by omega
    subst this;simpa using h
  have he:(e::L')[((i:Int)).toNat]? =some (e::L')[i]:=by simp [hi]
  refine Ev.su (Ev.po (Ev.po (Ev.opt he (Ev.bind (z3p _) ?_))))
  rw [y8 hi]
  simp only [chainB]
  refine Ev.ite (fun h=>Ev.opt (s:=e) rfl (Ev.ite (fun h2=>?_) fun h2=>Ev.ret' ?_)) fun h=>Ev.ret' ?_
  ·have hfe:=z4r (hE' h)
   rw [z27 (by omega) (by omega)] at h2
   have h':FitsR (e::L')[i]:=by simpa using h
   have:=z4x z e L' hL k (i+1) (by omega) (fun _=>hE' h)
   rw [show wrp .i64 ((i:Int)+1)=((i+1:Nat):Int) by rw [z27 (by omega) (by omega)];omega]
   refine Ev.cast this ?_
   simp only [h',decide_true,y58,h2]
   rw [show e.Index+((i+1:Nat):Int)=e.Index+(i:Int)+1 by omega]
  ·have hfe:=z4r (hE' h)
   rw [z27 (by omega) (by omega)] at h2
   simp [h2]
  ·have h': ¬FitsR (e::L')[i]:=by simpa using h
   simp [h']
theorem z4y (s:Sl zle) (hL:s.l.length<=1000000):Ev (fun q=>zmx q s) (blkOk s.l):=by
 obtain ⟨z,l⟩:=s
 cases l with
 | nil=>
  refine Ev.succ (g:=fun q=>zmw q z [] z [] ((([]:List zle).length:Nat):Int) 0) ?_ (fun q=>rfl)
  refine ⟨1,fun q hq=>?_⟩
  obtain ⟨n,rfl⟩: ∃n,q=n+1:=⟨q - 1,by omega⟩
  simp [zmw,blkOk]
 | cons e L'=>
  have:=z4x z e L' hL (e::L').length 0 (by simp) (by omega)
  refine Ev.su (Ev.cast this ?_)
  simp [blkOk]
theorem z4z (s:Sl zle) (hL:s.l.length<=1000000):Ev (fun q=>zm5 q s) (if blkOk s.l=true then (⟨false,true,blkE s.l⟩,0) else (⟨true,true,[]⟩,1)):=by
 refine Ev.su (Ev.bind (z4y s hL) (Ev.ite (fun h=>?_) fun h=>?_))
 ·rw [if_pos h]
  obtain ⟨z,l⟩:=s
  cases l with
  | nil=>simp [blkOk] at h
  | cons e L'=>
   have hf:=z4w (l:=e::L') (f:=e.Index) (by simp only [blkOk,y5] at h;exact h.1)
   have hl256:((e::L').length:Int)<=256:=by simp only [blkOk,y5,decide_eq_true_eq] at h;exact h.2
   have hfe:=z4r (hf e y30)
   have p1:=z3f e.Index
   have p2:=z3f ((e::L').length:Int)
   refine Ev.opt (s:=e) rfl (Ev.bind (z3g _ hfe.1 hfe.2 (by simp)) (Ev.bind (z3g _ (by omega) (by omega) (by simp only [y45];omega)) ?_))
   have:=z4v z (e::L') hf hL (e::L').length 0 (([]++put e.Index)++put ((e::L').length:Int)) (by simp) (by simp only [y9,y24];omega)
   refine Ev.cast this ?_
   simp [blkE]
 ·rw [if_neg h];exact Ev.ret _
theorem z40 {l:List zle} {f:Int} (h:chainB l f=true) (n:Nat):chainB (l.take n) f=true:=by
 induction l generalizing f n with
 | nil=>simp [chainB]
 | cons a l ih=>
  simp only [chainB,y5,decide_eq_true_eq] at h
  cases n with
  | zero=>simp [chainB]
  | succ n=>simp only [List.take_succ_cons,chainB,y5,decide_eq_true_eq];exact ⟨h.1,h.2.1,ih h.2.2 n⟩
theorem z41 {l:List zle} {f:Int} (h:chainB l f=true) (n:Nat):chainB (l.drop n) (f+n)=true:=by
 induction l generalizing f n with
 | nil=>simp [chainB]
 | cons a l ih=>
  simp only [chainB,y5,decide_eq_true_eq] at h
  cases n with
  | zero=>simpa [chainB] using h
  | succ n=>
   have:=ih h.2.2 n
   rw [List.drop_succ_cons,show f+((n+1:Nat):Int)=f+1+(n:Int) by omega]
   exact this
theorem z42: ∀{l pr:List zle},(∀r∈l,FitsR r)->(∀r∈pr,FitsR r)->(blkB pr l).length<=60*l.length
 | [],pr,_,_=>by simp [blkB]
 | r::l,pr,hf,hp=>by
  have hr:=hf r y30
  obtain ⟨h1,h2,h3,h4,h5,h6,h7,h8,h9⟩:=hr
  have hlast:=z4u hp r.Proc
  have p1:=z3f r.Proc
  have p2:=z3q (show inR .i64 (r.Seq - lastS pr r.Proc) from z3r (by omega) (by omega))
  have p3:=z3s h7
  have p4:=z3q (show inR .i64 r.Resp from z3r (by omega) (by omega))
  have ih:=z42 (l:=l) (pr:=r::pr) (fun r hr=>hf r (y34 _ hr)) (fun q hq=>(List.mem_cons.1 hq).elim (fun e=>e▸hf r y30) (hp q))
  simp only [blkB,y9,y20];omega
theorem z43 (o:zld):isB (opB o):=z4o.2 ⟨z4n _,z4o.2 ⟨z4m _,z4m _⟩⟩
theorem z44: ∀(l pr:List zle),isB (blkB pr l)
 | [],pr=>by intro c hc;simp [blkB] at hc
 | r::l,pr=>z4o.2 ⟨z4o.2 ⟨z4n _,z4o.2 ⟨z4m _,z4o.2 ⟨z43 _,z4m _⟩⟩⟩,z44 l _⟩
theorem z45 (s:Sl Int) (hb:isB s.l) (hl:s.l.length<=1048576): ∃z,Ev (fun q=>znn q s) ⟨z,true,encF s.l⟩:=by
 obtain ⟨z,h⟩:=z4p s hb hl
 exact ⟨z,Ev.su (Ev.bind h (Ev.ret _))⟩
def headD (v kind first:Int):List Int:=(([108]++put v)++put kind)++put first
def headBad (kind first:Int):Prop:=kind<0\/6<=kind\/first<0\/4611686018427387904<=first
instance (k f:Int):Decidable (headBad k f):=by unfold headBad;infer_instance
theorem z46 (v kind first:Int):isB (headD v kind first)/\(headD v kind first).length<=31:=by
 have p1:=z3f v
 have p2:=z3f kind
 have p3:=z3f first
 refine ⟨z4o.2 ⟨z4o.2 ⟨z4o.2 ⟨by intro c hc;simp at hc;omega,z4n _⟩,z4n _⟩,z4n _⟩,?_⟩
 simp only [headD,y9,y20,y24];omega
theorem z47 (v:Int):Ev (fun q=>znm q v) (decide (1<=v/\v<=3)):=
 Ev.su (Ev.ite (fun h=>Ev.ret' (by simp [h])) fun h=>Ev.ret' (by simp [h]))
theorem z48 (v kind first:Int): ∃z,Ev (fun q=>zno q v kind first) (if v<1\/3<v then (⟨true,true,[]⟩,6) else if headBad kind first then (⟨true,true,[]⟩,1) else (⟨z,true,encF (headD v kind first)⟩,0)):=by
 obtain ⟨hb,hl⟩:=z46 v kind first
 obtain ⟨z,hfr⟩:=z45 ⟨false,headD v kind first⟩ hb (by simp only;omega)
 refine ⟨z,Ev.su (Ev.bind (z47 v) (Ev.ite (fun h=>?_) fun h=>?_))⟩
 ·simp only [decide_eq_true_eq] at h
  rw [if_neg (by omega)]
  have p1:=z3f v
  have p2:=z3f kind
  refine Ev.ite (fun h1=>?_) fun h1=>Ev.ite (fun h2=>?_) fun h2=>Ev.ite (fun h3=>?_) fun h3=>Ev.ite (fun h4=>?_) fun h4=>?_
  ·rw [if_pos (.inl h1)];exact Ev.ret _
  ·rw [if_pos (.inr (.inl h2))];exact Ev.ret _
  ·rw [if_pos (.inr (.inr (.inl h3)))];exact Ev.ret _
  ·rw [if_pos (.inr (.inr (.inr h4)))];exact Ev.ret _
  ·rw [if_neg (by unfold headBad;omega)]
   exact Ev.bind (z3g _ (by omega) (by omega) (by simp)) (Ev.bind (z3g _ (by omega) (by omega) (by simp only [y9,y20,y24];omega)) (Ev.bind (z3g _ (by omega) (by omega) (by simp only [y9,y20,y24];omega)) (Ev.bind hfr (Ev.ret _))))
 ·simp only [decide_eq_true_eq] at h
  rw [if_pos (by omega)];exact Ev.ret _
theorem z49 (l:List Int):(encF l).length<=l.length+14/\4<=(encF l).length:=by
 have:=z3f (l.length:Int)
 unfold encF fix4
 simp only [y9,y20,y24];omega
theorem z5a (v k f:Int):(encF (headD v k f)).length<=45:=by
 have h1:=(z46 v k f).2
 have h2:=(z49 (headD v k f)).1
 omega
instance:DecidableEq zld:=fun a b=>if h:a.Code=b.Code/\a.A=b.A/\a.B=b.B then isTrue (by cases a;cases b;simp_all) else isFalse (fun e=>h (by rw [e];exact ⟨rfl,rfl,rfl⟩))
instance:DecidableEq zle:=fun a b=>if h:a.Index=b.Index/\a.Proc=b.Proc/\a.Seq=b.Seq/\a.Op=b.Op/\a.Resp=b.Resp then isTrue (by cases a;cases b;simp_all) else isFalse (fun e=>h (by rw [e];exact ⟨rfl,rfl,rfl,rfl,rfl⟩))
theorem z5b (z z2:Bool) (A B:List zle) (hl:A.length=B.length) (hL:A.length<=1099511627776): ∀(k i:Nat),A.length=i+k->Ev (fun q=>znr q z A z2 B (i:Int)) (decide (A.drop i=B.drop i))
 | 0,i,hk=>by
  refine Ev.su (Ev.ne (Ev.ret' ?_))
  rw [y11 (by omega),y11 (by omega)];simp
 | k+1,i,hk=>by
  have hi:i<A.length:=by omega
  have hi2:i<B.length:=by omega
  have e1:A[((i:Int)).toNat]? =some A[i]:=by simp [hi]
  have e2:B[((i:Int)).toNat]? =some B[i]:=by simp [hi2]
  have no:A[i]≠B[i]->decide (A.drop i=B.drop i)=false:=fun h=>by
   rw [y8 hi,y8 hi2]
   simp only [decide_eq_false_iff_not]
   intro e;exact h (List.cons.inj e).1
  refine Ev.su (Ev.po (Ev.po (Ev.opt e1 (Ev.opt e2 ?_))))
  refine Ev.ite (fun h1=>Ev.ite (fun h2=>Ev.ite (fun h3=>Ev.ite (fun h4=>Ev.ite (fun h5=>Ev.ite (fun h6=>Ev.ite (fun h7=>?_) fun h7=>?_) fun h6=>?_) fun h5=>?_) fun h4=>?_) fun h3=>?_) fun h2=>?_) fun h1=>?_
  ·have e:A[i]=B[i]:=z3u h1 h2 h3 (by
    generalize A[i].Op=a at*
    generalize B[i].Op=b at*
    cases a;cases b;simp_all) h7
   rw [show wrp .i64 ((i:Int)+1)=((i+1:Nat):Int) by rw [z27 (by omega) (by omega)];omega]
   refine Ev.cast (z5b z z2 A B hl hL k (i+1) (by omega)) ?_
   rw [y8 hi,y8 hi2,e]
   simp only [List.cons.injEq,true_and]
  all_goals exact Ev.ret' (no (fun e=>by simp_all)).symm
theorem z5c (a b:Sl zle) (hL:a.l.length<=1099511627776):Ev (fun q=>zns q a b) (decide (a.l=b.l)):=by
 refine Ev.su (Ev.ite (fun h=>?_) fun h=>Ev.ret' ?_)
 ·have:=z5b a.z b.z a.l b.l (by omega) hL a.l.length 0 (by omega)
  simpa using this
 ·symm;simp only [decide_eq_false_iff_not];intro e;rw [e] at h;exact h rfl
def cutsB (l:List Int):Prop:= ∀n∈l,n=cutI n
instance (l:List Int):Decidable (cutsB l):=by unfold cutsB;infer_instance
theorem z5d (n:Int):Ev (fun q=>zl1 q n) (!(decide (n=cutI n))):=Ev.su (Ev.bind (z3l n) (Ev.ret _))
theorem z5e (z:Bool) (L:List Int) (h0:Int) (h1z:Bool) (h1l:List Int) (h2:Bool) (h3:Int) (hL:L.length<=1000000): ∀(k i:Nat),L.length=i+k->
  ∃r,Ev (fun q=>zl4 q z L (L.length:Int) (i:Int) h0 h1z h1l h2 h3) r/\(0<=r<-> ¬cutsB (L.drop i))
 | 0,i,hk=>by
  refine ⟨-1,Ev.su (Ev.ne (Ev.ret _)),?_⟩
  rw [y11 (by omega)];simp [cutsB]
 | k+1,i,hk=>by
  have hi:i<L.length:=by omega
  have he:L[((i:Int)).toNat]? =some L[i]:=by simp [hi]
  have hd:=y8 hi
  by_cases h:L[i]=cutI L[i]
  ·obtain ⟨r,hr,hi2⟩:=z5e z L h0 h1z h1l h2 h3 hL k (i+1) (by omega)
   rw [show ((i+1:Nat):Int)=wrp .i64 ((i:Int)+1) by rw [z27 (by omega) (by omega)];omega] at hr
   refine ⟨r,Ev.su (Ev.po (Ev.po (Ev.opt he (Ev.bind (z5d _) (Ev.neg (by simpa using h) hr))))),?_⟩
   rw [hi2,hd];unfold cutsB;simp only [List.mem_cons,forall_eq_or_imp]
   exact ⟨fun a b=>a b.2,fun a b=>a ⟨h,b⟩⟩
  ·refine ⟨i,Ev.su (Ev.po (Ev.po (Ev.opt he (Ev.bind (z5d _) (Ev.pos (by simpa using h) (Ev.ret _)))))),?_⟩
   rw [hd];unfold cutsB;simp only [List.mem_cons,forall_eq_or_imp]
   exact ⟨fun _ b=>h b.1,fun _=>by omega⟩
theorem z5f (z:Bool) (L:List Int) (h0:Int) (h1z:Bool) (h1l:List Int) (h2:Bool) (h3:Int) (hL:L.length<=1000000): ∃r,Ev (fun q=>zl5 q z L h0 h1z h1l h2 h3) r/\(0<=r<-> ¬cutsB L):=by
 obtain ⟨r,h,h4⟩:=z5e z L h0 h1z h1l h2 h3 hL L.length 0 (by omega)
 exact ⟨r,Ev.su h,by simpa using h4⟩
def prs (least:Int):Int->List Int->Bool
 | last,a::b::t=>decide (last<a) && (decide (a<=255) && (decide (least<=b) && (decide (b<=1099511627776) && prs least a t)))
 | _,_=>true
def pairsOk (least:Int) (l:List Int):Bool:=prs least (-1) l && (decide (l.length % 2=0) && decide (l.length<=128))
theorem z5g (z:Bool) (L:List Int) (least:Int) (hL:L.length<=1000000): ∀(k i:Nat) (last:Int),L.length<=i+2*k->i<=2000000->
  Ev (fun q=>zl2 q z L least last (i:Int)) (prs least last (L.drop i) && (decide (L.length % 2=0) && decide (L.length<=128)))
 | k,i,last,hk,hi9=>by
  have w1:wrp .i64 ((i:Int)+1)=((i+1:Nat):Int):=by rw [z27 (by omega) (by omega)];omega
  have w2:wrp .i64 ((i:Int)+2)=((i+2:Nat):Int):=by rw [z27 (by omega) (by omega)];omega
  by_cases h:i+1<L.length
  ·cases k with
   | zero=>omega
   | succ k=>
    have he:L[((i:Int)).toNat]? =some L[i]:=by rw [y26];exact y6 (by omega)
    have he2:L[(wrp .i64 ((i:Int)+1)).toNat]? =some L[i+1]:=by rw [w1,y26];exact y6 h
    have hd:L.drop i=L[i]::L[i+1]::L.drop (i+2):=by rw [y8 (by omega),y8 h]
    rw [hd]
    simp only [prs]
    refine Ev.su (Ev.pos (by rw [w1];omega) (Ev.po (Ev.opt he (Ev.ite (fun c=>Ev.ret' ?_) fun c=>Ev.ite (fun c2=>Ev.ret' ?_) fun c2=>Ev.pos (by rw [w1];omega) (Ev.opt he2 (Ev.ite (fun c3=>Ev.ret' ?_) fun c3=>Ev.ite (fun c4=>Ev.ret' ?_) fun c4=>?_))))))
    ·rw [decide_eq_false (show¬last<L[i] by omega)];rfl
    ·rw [decide_eq_false (show¬L[i]<=255 by omega)];simp
    ·rw [decide_eq_false (show¬least<=L[i+1] by omega)];simp
    ·rw [decide_eq_false (show¬L[i+1]<=1099511627776 by omega)];simp
    ·rw [decide_eq_true (show last<L[i] by omega),decide_eq_true (show L[i]<=255 by omega),decide_eq_true (show least<=L[i+1] by omega),decide_eq_true (show L[i+1]<=1099511627776 by omega),w2]
     simp only [y58]
     exact z5g z L least hL k (i+2) L[i] (by omega) (by omega)
  ·have hp:prs least last (L.drop i)=true:=by
    have hl:(L.drop i).length<=1:=by rw [y12];omega
    generalize L.drop i=X at hl
    match X,hl with
    | [],_=>rfl
    | [a],_=>rfl
   rw [hp,y58]
   have ht:Int.tmod (L.length:Int) 2=((L.length % 2:Nat):Int):=by rw [Int.tmod_eq_emod_of_nonneg (by omega)];omega
   refine Ev.su (Ev.neg (by rw [w1];omega) (Ev.ite (fun c=>Ev.ret' ?_) fun c=>Ev.ret' ?_))
   ·rw [ht] at c
    rw [decide_eq_true (show L.length % 2=0 by omega),y58]
    by_cases h4:L.length<=128
    ·rw [decide_eq_true h4,decide_eq_true (by omega)]
    ·rw [decide_eq_false h4,decide_eq_false (by omega)]
   ·rw [ht] at c
    rw [decide_eq_false (show¬L.length % 2=0 by omega)];rfl
theorem z5h (s:Sl Int) (least:Int) (hL:s.l.length<=1000000):Ev (fun q=>zl3 q s least) (pairsOk least s.l):=by
 have:=z5g s.z s.l least hL s.l.length 0 (-1) (by omega) (by omega)
 exact Ev.su this
def kindOk (k:Int) (l:List Int):Bool:=
 if k=0\/k=1 then decide (l.length=1/\cutsB l) else if k=2\/k=3 then decide (l.length<=64/\cutsB l) else if k=4 then pairsOk (-1099511627776) l else if k=5 then pairsOk 0 l else false
def mayS (s:zlg):Bool:=if s.To<0 then false else if 3<=s.To then false else if s.Sealed=true then kindOk s.Kind s.L.l else if s.To=0 then kindOk s.Kind s.L.l else false
theorem z5i (s:zlg) (hL:s.L.l.length<=1000000):Ev (fun q=>((zl5 q s.L.z s.L.l s.Kind s.L.z s.L.l s.Sealed s.To).bind fun r1=>(if s.Kind=0 then (if (s.L.l.length:Int)=1 then (some (!(decide (0<=r1)))) else (some false)) else (if s.Kind=1 then (if (s.L.l.length:Int)=1 then (some (!(decide (0<=r1)))) else (some false)) else (if s.Kind=2 then (if (s.L.l.length:Int)<=64 then (some (!(decide (0<=r1)))) else (some false)) else (if s.Kind=3 then (if (s.L.l.length:Int)<=64 then (some (!(decide (0<=r1)))) else (some false)) else (if s.Kind=4 then ((zl3 q s.L (-1099511627776)).bind fun r2=>(some r2)) else (if s.Kind=5 then ((zl3 q s.L 0).bind fun r3=>(some r3)) else (some false))))))))) (kindOk s.Kind s.L.l):=by
 obtain ⟨r,h,hr⟩:=z5f s.L.z s.L.l s.Kind s.L.z s.L.l s.Sealed s.To hL
 have one: ∀{P:Prop} [Decidable P],P->Ev (fun _:Nat=>(some (!(decide (0<=r))):Option Bool)) (decide (P/\cutsB s.L.l)):=fun {P} _ hp=>Ev.ret' (by
  by_cases hc:cutsB s.L.l
  ·rw [decide_eq_false (fun e=>hr.1 e hc)];symm;simp only [Bool.not_false,decide_eq_true_eq];exact ⟨hp,hc⟩
  ·rw [decide_eq_true (hr.2 hc)];symm;simp only [Bool.not_true,decide_eq_false_iff_not];exact fun e=>hc e.2)
 have no: ∀{P:Prop} [Decidable P],¬P->Ev (fun _:Nat=>(some false:Option Bool)) (decide (P/\cutsB s.L.l)):=fun {P} _ hp=>Ev.ret' (by
  symm;simp only [decide_eq_false_iff_not];exact fun e=>hp e.1)
 refine Ev.bind h ?_
 unfold kindOk
 by_cases k0:s.Kind=0
 ·rw [if_pos (show s.Kind=0\/s.Kind=1 from .inl k0)]
  by_cases hl:s.L.l.length=1
  ·exact Ev.pos k0 (Ev.po (one hl))
  ·exact Ev.pos k0 (Ev.ne (no hl))
 by_cases k1:s.Kind=1
 ·rw [if_pos (show s.Kind=0\/s.Kind=1 from .inr k1)]
  by_cases hl:s.L.l.length=1
  ·exact Ev.neg k0 (Ev.pos k1 (Ev.po (one hl)))
  ·exact Ev.neg k0 (Ev.pos k1 (Ev.ne (no hl)))
 rw [if_neg (show¬(s.Kind=0\/s.Kind=1) by omega)]
 by_cases k2:s.Kind=2
 ·rw [if_pos (show s.Kind=2\/s.Kind=3 from .inl k2)]
  by_cases hl:s.L.l.length<=64
  ·exact Ev.neg k0 (Ev.neg k1 (Ev.pos k2 (Ev.po (one hl))))
  ·exact Ev.neg k0 (Ev.neg k1 (Ev.pos k2 (Ev.ne (no hl))))
 by_cases k3:s.Kind=3
 ·rw [if_pos (show s.Kind=2\/s.Kind=3 from .inr k3)]
  by_cases hl:s.L.l.length<=64
  ·exact Ev.neg k0 (Ev.neg k1 (Ev.neg k2 (Ev.pos k3 (Ev.po (one hl)))))
  ·exact Ev.neg k0 (Ev.neg k1 (Ev.neg k2 (Ev.pos k3 (Ev.ne (no hl)))))
 rw [if_neg (show¬(s.Kind=2\/s.Kind=3) by omega)]
 refine Ev.neg k0 (Ev.neg k1 (Ev.neg k2 (Ev.neg k3 (Ev.ite (fun k4=>?_) fun k4=>Ev.ite (fun k5=>?_) fun k5=>?_))))
 ·rw [if_pos k4];exact Ev.bind (z5h _ _ hL) (Ev.ret _)
 ·rw [if_neg k4,if_pos k5];exact Ev.bind (z5h _ _ hL) (Ev.ret _)
 ·rw [if_neg k4,if_neg k5];exact Ev.ret _
theorem z5j (s:zlg) (hL:s.L.l.length<=1000000):Ev (fun q=>zl6 q s) (mayS s):=by
 have hb:=z5i s hL
 unfold mayS
 refine Ev.su (Ev.ite (fun h=>?_) fun h=>Ev.ite (fun h2=>?_) fun h2=>Ev.ite (fun h3=>?_) fun h3=>Ev.ite (fun h4=>?_) fun h4=>?_)
 ·rw [if_pos h];exact Ev.ret _
 ·rw [if_neg h,if_pos h2];exact Ev.ret _
 ·rw [if_neg h,if_neg h2,if_pos h3];exact hb
 ·rw [if_neg h,if_neg h2,if_neg h3,if_pos h4];exact hb
 ·rw [if_neg h,if_neg h2,if_neg h3,if_neg h4];exact Ev.ret _
instance:DecidableEq zlh:=fun a b=>if h:a.Proc=b.Proc/\a.Seq=b.Seq/\a.Resp=b.Resp then isTrue (by cases a;cases b;simp_all) else isFalse (fun e=>h (by rw [e];exact ⟨rfl,rfl,rfl⟩))
theorem z5k {a b:zlh} (h1:a.Proc=b.Proc) (h2:a.Seq=b.Seq) (h3:a.Resp=b.Resp):a=b:=by cases a;cases b;simp_all
theorem z5l (z z2:Bool) (A B:List Int) (hl:A.length=B.length) (hL:A.length<=1099511627776): ∀(k i:Nat),A.length=i+k->Ev (fun q=>znt q z A z2 B (A.length:Int) (i:Int)) (decide (A.drop i=B.drop i))
 | 0,i,hk=>by
  refine Ev.su (Ev.ne (Ev.ret' ?_))
  rw [y11 (by omega),y11 (by omega)];simp
 | k+1,i,hk=>by
  have hi:i<A.length:=by omega
  have hi2:i<B.length:=by omega
  have hg:A[(i:Int).toNat]? =some A[i]:=by simpa using y6 hi
  have hg2:B[(i:Int).toNat]? =some B[i]:=by simpa using y6 hi2
  refine Ev.su (Ev.po (Ev.po (Ev.opt hg (Ev.opt hg2 ?_))))
  rw [y8 hi,y8 hi2]
  refine Ev.ite (fun h=>?_) fun h=>Ev.ret' (by symm;rw [decide_eq_false_iff_not];intro e;exact h (List.cons.inj e).1)
  rw [z27 (by omega) (by omega),show ((i:Int)+1)=((i+1:Nat):Int) by omega]
  refine (z5l z z2 A B hl hL k (i+1) (by omega)).cast ?_
  rw [decide_eq_decide,List.cons.injEq];simp only [h,true_and]
theorem z5m (a b:Sl Int) (hL:a.l.length<=1099511627776):Ev (fun q=>znu q a b) (decide (a.l=b.l)):=by
 refine Ev.su (Ev.ite (fun h=>?_) fun h=>Ev.ret' ?_)
 ·have:=z5l a.z b.z a.l b.l (by omega) hL a.l.length 0 (by omega)
  rw [y36,y36] at this;exact this
 ·symm;rw [decide_eq_false_iff_not];intro e;rw [e] at h;exact h rfl
theorem z5n (s:Sl Int) (hz:s.z=true->s.l=[]) (hl:s.l.length<=4294967296): ∃z,Ev (fun q=>zlv q s) ⟨z,true,s.l⟩:=by
 by_cases h:s.z=true
 ·exact ⟨true,Ev.su (Ev.pos h (Ev.ret' (by rw [hz h])))⟩
 ·exact ⟨false,Ev.su (Ev.neg h (Ev.pos hl (Ev.ret _)))⟩
theorem z5o {s:zlg} (h:mayS s=true):0<=s.To/\s.To<=2/\(s.Sealed=false->s.To=0)/\kindOk s.Kind s.L.l=true:=by
 unfold mayS at h
 split at h
 ·cases h
 ·split at h
  ·cases h
  ·split at h
   ·rename_i h1 h2 h3;exact ⟨by omega,by omega,fun e=>(by rw [e] at h3;cases h3),h⟩
   ·split at h
    ·rename_i h1 h2 h3 h4;exact ⟨by omega,by omega,fun _=>h4,h⟩
    ·cases h
theorem z5p (z z2:Bool) (A B:List zlh) (hl:A.length=B.length) (hL:A.length<=1099511627776): ∀(k i:Nat),A.length=i+k->Ev (fun q=>znw q z A z2 B (A.length:Int) (i:Int)) (decide (A.drop i=B.drop i))
 | 0,i,hk=>by
  refine Ev.su (Ev.ne (Ev.ret' ?_))
  rw [y11 (by omega),y11 (by omega)];simp
 | k+1,i,hk=>by
  have hi:i<A.length:=by omega
  have hi2:i<B.length:=by omega
  have hg:A[(i:Int).toNat]? =some A[i]:=by simpa using y6 hi
  have hg2:B[(i:Int).toNat]? =some B[i]:=by simpa using y6 hi2
  have no: ¬A[i]=B[i]->false=decide (A[i]::A.drop (i+1)=B[i]::B.drop (i+1)):=fun h=>by
   symm;rw [decide_eq_false_iff_not];intro e;exact h (List.cons.inj e).1
  rw [y8 hi,y8 hi2]
  refine Ev.su (Ev.po (Ev.po (Ev.opt hg (Ev.opt hg2 (Ev.ite (fun c1=>Ev.ite (fun c2=>Ev.ite (fun c3=>?_) fun c3=>Ev.ret' (no fun e=>c3 (by rw [e]))) fun c2=>Ev.ret' (no fun e=>c2 (by rw [e]))) fun c1=>Ev.ret' (no fun e=>c1 (by rw [e])))))))
  rw [z27 (by omega) (by omega),show ((i:Int)+1)=((i+1:Nat):Int) by omega]
  refine (z5p z z2 A B hl hL k (i+1) (by omega)).cast ?_
  rw [decide_eq_decide,List.cons.injEq];simp only [z5k c1 c2 c3,true_and]
theorem z5q (a b:Sl zlh) (hL:a.l.length<=1099511627776):Ev (fun q=>znx q a b) (decide (a.l=b.l)):=by
 refine Ev.su (Ev.ite (fun h=>?_) fun h=>Ev.ret' ?_)
 ·have:=z5p a.z b.z a.l b.l (by omega) hL a.l.length 0 (by omega)
  rw [y36,y36] at this;exact this
 ·symm;rw [decide_eq_false_iff_not];intro e;rw [e] at h;exact h rfl
/-- The same states, the same snapshots. -/
def sameS (a b:zlg):Bool:=decide (a.Kind=b.Kind) && (decide (a.Sealed=b.Sealed) && (decide (a.To=b.To) && decide (a.L.l=b.L.l)))
def sameN (a b:zli):Bool:=decide (a.Index=b.Index) && (sameS a.State b.State && decide (a.Table.l=b.Table.l))
theorem z5r (a b:zlg) (hL:a.L.l.length<=1099511627776):Ev (fun q=>znv q a b) (sameS a b):=by
 unfold sameS
 refine Ev.su (Ev.ite (fun c1=>Ev.ite (fun c2=>Ev.ite (fun c3=>Ev.bind (z5m _ _ hL) (Ev.ret' ?_)) fun c3=>Ev.ret' ?_) fun c2=>Ev.ret' ?_) fun c1=>Ev.ret' ?_)
 ·rw [beq_iff_eq] at c2;simp [c1,c2,c3]
 ·simp [c3]
 ·rw [beq_iff_eq] at c2;simp [c2]
 ·simp [c1]
theorem z5s (a b:zli) (hL:a.State.L.l.length<=1099511627776) (hT:a.Table.l.length<=1099511627776):Ev (fun q=>zny q a b) (sameN a b):=by
 unfold sameN
 refine Ev.su (Ev.ite (fun c1=>Ev.bind (z5r _ _ hL) (Ev.ite (fun c2=>Ev.bind (z5q _ _ hT) (Ev.ret' ?_)) fun c2=>Ev.ret' ?_)) fun c1=>Ev.ret' ?_)
 ·simp [c1,c2]
 ·simp only [Bool.not_eq_true] at c2;simp [c2]
 ·simp [c1]
def filP (p:Int) (T:List zlh):List zlh:=T.filter fun e=>!decide (e.Proc=p)
def insE (e:zlh):List zlh->List zlh
 | []=>[e]
 | x::l=>if e.Proc<x.Proc then e::x::l else x::insE e l
def noteL (T:List zlh) (p s x:Int):List zlh:=insE ⟨p,s,x⟩ (filP p T)
def atE (p:Int):List zlh->Nat
 | []=>0
 | x::l=>if p<x.Proc then 0 else atE p l+1
theorem atE_le (p:Int): ∀T:List zlh,atE p T<=T.length
 | []=>y13 _
 | x::l=>by simp only [atE];split<;>simp only [y20]<;>have:=atE_le p l<;>omega
theorem z5t (e:zlh): ∀T:List zlh,insE e T=T.take (atE e.Proc T)++[e]++T.drop (atE e.Proc T)
 | []=>rfl
 | x::l=>by
  simp only [insE,atE]
  split
  ·simp
  ·rw [z5t e l];simp
theorem z5u (e:zlh): ∀T:List zlh,(insE e T).length=T.length+1
 | []=>rfl
 | x::l=>by simp only [insE];split<;>simp only [y20,z5u e l]
theorem z5v (p:Int) (T:List zlh):(filP p T).length<=T.length:=List.length_filter_le _ _
theorem z5w (T:List zlh) (p s x:Int):(noteL T p s x).length<=T.length+1:=by
 unfold noteL;rw [z5u];have:=z5v p T;omega
theorem z5x (p:Int) (O:List zlh) (j:Nat) (hj:j<O.length):filP p (O.take (j+1))=filP p (O.take j)++if O[j].Proc=p then [] else [O[j]]:=by
 unfold filP
 rw [List.take_add_one,y6 hj,List.filter_append]
 congr 1
 simp only [Option.toList_some,List.filter_cons,List.filter_nil]
 by_cases c:O[j].Proc=p<;>simp [c]
theorem z5y {p:Int} {T:List zlh} (h: ∀e∈T,e.Proc≠p):filP p T=T:=List.filter_eq_self.2 fun e he=>by simp [h e he]
theorem z5z (p0 p p2 p3 p4 p5 p6:Int) (z:Bool) (L:List zlh) (x:Bool) (hL:L.length<=1000000): ∀(k i:Nat),L.length=i+k->
  ∃r,Ev (fun q=>zmk q (L.length:Int) (i:Int) p0 p p2 p3 p4 p5 p6 z L x) r/\((r= -1/\ ∀e∈L.drop i,e.Proc≠p)\/ ∃j:Nat,i<=j/\ ∃h:j<L.length,r=(j:Int)/\L[j].Proc=p/\ ∀e∈(L.take j).drop i,e.Proc≠p)
 | 0,i,hk=>⟨-1,Ev.su (Ev.ne (Ev.ret _)), .inl ⟨rfl,by rw [y11 (by omega)];simp⟩⟩
 | k+1,i,hk=>by
  have hi:i<L.length:=by omega
  have he:L[((i:Int)).toNat]? =some L[i]:=by simp [hi]
  by_cases c:L[i].Proc=p
  ·exact ⟨(i:Int),Ev.su (Ev.po (Ev.po (Ev.po (Ev.opt he (Ev.pos c (Ev.ret _)))))), .inr ⟨i,y13 _,hi,rfl,c,by rw [y11 (by rw [y19];omega)];simp⟩⟩
  ·obtain ⟨r,h,hr⟩:=z5z p0 p p2 p3 p4 p5 p6 z L x hL k (i+1) (by omega)
   rw [show ((i+1:Nat):Int)=wrp .i64 ((i:Int)+1) by rw [z27 (by omega) (by omega)];omega] at h
   refine ⟨r,Ev.su (Ev.po (Ev.po (Ev.po (Ev.opt he (Ev.neg c h))))),?_⟩
   rcases hr with ⟨h1,h2⟩ | ⟨j,h1,h2,h3,h4,h5⟩
   ·refine .inl ⟨h1,fun e hm=>?_⟩
    rw [y8 hi] at hm
    rcases List.mem_cons.1 hm with rfl | hm
    ·exact c
    ·exact h2 e hm
   ·refine .inr ⟨j,by omega,h2,h3,h4,fun e hm=>?_⟩
    have hi2:i<(L.take j).length:=by rw [y19];omega
    rw [y8 hi2] at hm
    rcases List.mem_cons.1 hm with rfl | hm
    ·rw [List.getElem_take];exact c
    ·exact h5 e hm
theorem z50 (p0 p p2 p3 p4 p5 p6:Int) (z:Bool) (O:List zlh) (hO:O.length<=1000000): ∀(k j i:Nat) (H:List zlh),O.length=j+k->H.length=O.length->i<=j->H.take i=filP p (O.take j)->H.drop j=O.drop j->
  ∃xs,Ev (fun q=>zmm q (i:Int) (j:Int) p0 p p2 p3 p4 p5 p6 z H true) ((filP p O).length,xs,true)/\xs.take (filP p O).length=filP p O/\(filP p O).length<=xs.length
 | 0,j,i,H,hk,hl,hij,ht,hd=>by
  have hO2:O.take j=O:=List.take_of_length_le (by omega)
  rw [hO2] at ht
  have hi:(filP p O).length=i:=by rw [<- ht,y19];omega
  refine ⟨((H.take i)++(List.replicate (H.length - i) (⟨0,0,0⟩:zlh)))++(H.drop (i+(H.length - i))),?_,?_,?_⟩
  ·rw [hi]
   refine Ev.su (Ev.ne (Ev.po (Ev.po (Ev.pos rfl (Ev.po (Ev.ite (fun _=>Ev.ret' ?_) fun _=>Ev.ret' ?_))))))<;>simp only [y26]
  ·rw [hi,y31,List.take_append_of_le_length (by rw [y19];omega),List.take_take,Nat.min_self,ht]
  ·rw [hi];simp only [y9,y19,List.length_replicate];omega
 | k+1,j,i,H,hk,hl,hij,ht,hd=>by
  have hj:j<H.length:=by omega
  have hjO:j<O.length:=by omega
  have he:H[((j:Int)).toNat]? =some O[j]:=by
   have:=congrArg (fun l=>l[0]?) hd
   simp only [y38,Nat.add_zero] at this
   rw [y26,this];exact y6 hjO
  have hs:=z5x p O j hjO
  have wj:wrp .i64 ((j:Int)+1)=((j+1:Nat):Int):=by rw [z27 (by omega) (by omega)];omega
  have dr: ∀{A B:List zlh},A.drop j=B.drop j->A.drop (j+1)=B.drop (j+1):=fun {A B} h=>by rw [<- List.drop_drop,<- List.drop_drop,h]
  by_cases c:O[j].Proc=p
  ·rw [if_pos c,List.append_nil] at hs
   obtain ⟨xs,h1,h2⟩:=z50 p0 p p2 p3 p4 p5 p6 z O hO k (j+1) i H (by omega) hl (by omega) (by rw [hs];exact ht) (dr hd)
   rw [<- wj] at h1
   exact ⟨xs,Ev.su (Ev.po (Ev.po (Ev.po (Ev.opt he (Ev.pos c h1))))),h2⟩
  ·rw [if_neg c] at hs
   have hi:i<H.length:=by omega
   have hg:H[((i:Int)).toNat]? =some H[i]:=by simp [hi]
   obtain ⟨xs,h1,h2⟩:=z50 p0 p p2 p3 p4 p5 p6 z O hO k (j+1) (i+1) (H.set i O[j]) (by omega) (by rw [List.length_set];exact hl) (by omega) (by
    rw [hs,<- ht,List.take_add_one,List.take_set_of_le (y13 i),y22 hi];rfl) (by
    rw [List.drop_set_of_lt (by omega)];exact dr hd)
   have wi:wrp .i64 ((i:Int)+1)=((i+1:Nat):Int):=by rw [z27 (by omega) (by omega)];omega
   rw [<- wj,<- wi] at h1
   exact ⟨xs,Ev.su (Ev.po (Ev.po (Ev.po (Ev.opt he (Ev.neg c (Ev.po (Ev.po (Ev.opt hg (Ev.pos rfl h1))))))))),h2⟩
theorem z51 (p0 p p2 p3 p4 p5 p6:Int) (z:Bool) (O:List zlh) (hO:O.length<=1000000):
  ∃xs,Ev (fun q=>zmn q p0 p p2 p3 p4 p5 p6 z O true) ((filP p O).length,xs,true)/\xs.take (filP p O).length=filP p O/\(filP p O).length<=xs.length:=by
 obtain ⟨r,h,hr⟩:=z5z p0 p p2 p3 p4 p5 p6 z O true hO O.length 0 (by omega)
 have h':Ev (fun q=>zml q p0 p p2 p3 p4 p5 p6 z O true) r:=Ev.su h
 rcases hr with ⟨rfl,h2⟩ | ⟨j,_,h2,rfl,h4,h5⟩
 ·rw [y36] at h2
  rw [z5y h2]
  exact ⟨O,Ev.su (Ev.bind h' (Ev.pos rfl (Ev.ret _))),List.take_length,y13 _⟩
 ·rw [y36] at h5
  have hs:=z5x p O j h2
  rw [if_pos h4,List.append_nil,z5y h5] at hs
  obtain ⟨xs,h1,h6⟩:=z50 p0 p p2 p3 p4 p5 p6 z O hO (O.length - (j+1)) (j+1) j O (by omega) rfl (by omega) hs.symm rfl
  rw [show ((j+1:Nat):Int)=wrp .i64 ((j:Int)+1) by rw [z27 (by omega) (by omega)];omega] at h1
  exact ⟨xs,Ev.su (Ev.bind h' (Ev.neg (by omega) h1)),h6⟩
def ixI (n k i:Nat):Int:=if n<k then ((i+n:Nat):Int) else -1
theorem z52 (p0 p p2 p3 p4 p5 p6:Int) (z:Bool) (xs:List zlh) (x:Bool) (M:List zlh) (hM:xs.take M.length=M) (hL:M.length<=1000000): ∀(k i:Nat),M.length=i+k->
  Ev (fun q=>zmo q M.length (M.length:Int) (i:Int) p0 p p2 p3 p4 p5 p6 z xs x) (ixI (atE p (M.drop i)) k i)
 | 0,i,hk=>by
  refine Ev.su (Ev.ne (Ev.ret' ?_))
  unfold ixI;rw [if_neg (by omega)]
 | k+1,i,hk=>by
  have hi:i<M.length:=by omega
  have he:xs[((i:Int)).toNat]? =some M[i]:=by
   have:(xs.take M.length)[i]? =M[i]? :=by rw [hM]
   rw [y46,if_pos hi] at this
   rw [y26,this];exact y6 hi
  rw [y8 hi]
  have ha:atE p (M[i]::M.drop (i+1))=if p<M[i].Proc then 0 else atE p (M.drop (i+1))+1:=rfl
  by_cases c:p<M[i].Proc
  ·rw [if_pos c] at ha
   rw [ha];unfold ixI;rw [if_pos (by omega)]
   exact Ev.su (Ev.po (Ev.po (Ev.po (Ev.opt he (Ev.pos c (Ev.ret' (by omega)))))))
  ·rw [if_neg c] at ha
   rw [ha]
   have ih:=z52 p0 p p2 p3 p4 p5 p6 z xs x M hM hL k (i+1) (by omega)
   rw [show ((i+1:Nat):Int)=wrp .i64 ((i:Int)+1) by rw [z27 (by omega) (by omega)];omega] at ih
   refine Ev.su (Ev.po (Ev.po (Ev.po (Ev.opt he (Ev.neg c (Ev.cast ih ?_))))))
   unfold ixI
   by_cases d:atE p (M.drop (i+1))<k
   ·rw [if_pos d,if_pos (by omega)];omega
   ·rw [if_neg d,if_neg (by omega)]
theorem z53 (z:Bool) (M:List zlh) (at_:Int) (e:zlh) (h0:0<=at_) (h1:at_<=(M.length:Int)) (hL:M.length<=1000000):Ev (fun q=>zmj q ⟨z,true,M⟩ at_ ⟨false,true,[e]⟩) ⟨false,true,M.take at_.toNat++[e]++M.drop at_.toNat⟩:=
 Ev.succ (g:=fun _=>if insOk (⟨z,true,M⟩:Ow zlh) at_ ⟨false,true,[e]⟩ then some (insR (⟨z,true,M⟩:Ow zlh) at_ ⟨false,true,[e]⟩) else none) (Ev.pos ⟨rfl,h0,h1,rfl,by simp,by simp only [List.length_singleton];omega⟩ (Ev.ret _)) (fun q=>rfl)
theorem z54 (s:Sl zlh) (hz:s.z=true->s.l=[]) (hL:s.l.length<=1000000) (r:zle):Ev (fun q=>zmq q s r) ⟨false,true,noteL s.l r.Proc r.Seq r.Resp⟩:=by
 obtain ⟨z,hC⟩: ∃z,Ev (fun q=>zlw q s) ⟨z,true,s.l⟩:=by
  by_cases c:s.z=true
  ·exact ⟨true,Ev.su (Ev.pos c (Ev.ret' (by rw [hz c])))⟩
  ·exact ⟨false,Ev.su (Ev.neg c (Ev.po (Ev.ret _)))⟩
 obtain ⟨xs,h0,hx,hle⟩:=z51 r.Index r.Proc r.Seq r.Op.Code r.Op.A r.Op.B r.Resp z s.l hL
 have hM:=z5v r.Proc s.l
 have h1:=z52 r.Index r.Proc r.Seq r.Op.Code r.Op.A r.Op.B r.Resp z xs true (filP r.Proc s.l) hx (by omega) (filP r.Proc s.l).length 0 (by omega)
 have h1':Ev (fun q=>zmp q (filP r.Proc s.l).length r.Index r.Proc r.Seq r.Op.Code r.Op.A r.Op.B r.Resp z xs true) _:=Ev.su h1
 rw [y36] at h1'
 have hat:=atE_le r.Proc (filP r.Proc s.l)
 unfold noteL
 rw [z5t]
 refine Ev.su (Ev.bind hC (Ev.bind h0 (Ev.bind h1' ?_)))
 simp only
 rw [hx]
 unfold ixI
 by_cases d:atE r.Proc (filP r.Proc s.l)<(filP r.Proc s.l).length
 ·rw [if_pos d]
  have hI:=z53 z (filP r.Proc s.l) ((0+atE r.Proc (filP r.Proc s.l):Nat):Int) ⟨r.Proc,r.Seq,r.Resp⟩ (by omega) (by omega) (by omega)
  refine Ev.ne (Ev.pos trivial (Ev.bind hI (Ev.ret' ?_)))
  rw [y26,y41]
 ·rw [if_neg d]
  have hI:=z53 z (filP r.Proc s.l) ((filP r.Proc s.l).length:Int) ⟨r.Proc,r.Seq,r.Resp⟩ (by omega) (by omega) (by omega)
  refine Ev.po (Ev.pos trivial (Ev.bind hI (Ev.ret' ?_)))
  rw [y26,show atE r.Proc (filP r.Proc s.l)=(filP r.Proc s.l).length by omega]
theorem z55 {l:List Int} {i j:Int} (h0:0<=i) (h1:i<j) (h2:j<=l.length) (hl:l.length<=1000000):Ev (fun q=>zl8 q ⟨false,true,l⟩ i j) ⟨false,true,l.take i.toNat++l.drop j.toNat⟩:=by
 refine Ev.su ?_
 refine Ev.pos h0 ?_
 refine Ev.pos (by omega) ?_
 refine Ev.pos (by simp only;omega) ?_
 refine Ev.neg (by omega) ?_
 refine Ev.pos (by simp only;omega) ?_
 refine Ev.neg (by simp) ?_
 refine Ev.pos (by omega) ?_
 refine Ev.pos (by simp only;omega) ?_
 refine Ev.pos (by simp only;omega) ?_
 refine Ev.pos rfl ?_
 refine Ev.pos (by simp only;omega) ?_
 refine Ev.pos (by simp only;omega) ?_
 refine Ev.ret' ?_
 congr 1
 have hm:(l.take i.toNat++l.drop j.toNat).length=i.toNat+(l.length - j.toNat):=by simp;omega
 rw [<- hm]
 simp only [y31]
 rw [<- y31 (l.take i.toNat) (l.drop j.toNat),List.take_left',List.take_left']<;>simp
def findN (key:Int):List Int->Nat
 | a::_::l=>if a<key then findN key l+2 else 0
 | _=>0
def isL (key:Int):List Int->Bool
 | a::_::l=>if a<key then isL key l else decide (a=key)
 | _=>false
def hasL (key:Int):List Int->Int
 | a::b::l=>if a<key then hasL key l else if a=key then b else -1
 | _=> -1
def putL (key n:Int):List Int->List Int
 | a::b::l=>if a<key then a::b::putL key n l else if a=key then a::n::l else key::n::a::b::l
 | _=>[key,n]
def delL (key:Int):List Int->List Int
 | a::b::l=>if a<key then a::b::delL key l else if a=key then l else a::b::l
 | _=>[]
/-- By pairs. -/
theorem z56 {P:List Int->Prop} (h0:P []) (h2: ∀a b l,l.length % 2=0->P l->P (a::b::l)): ∀l:List Int,l.length % 2=0->P l
 | [],_=>h0
 | [a],h=>by simp at h
 | a::b::l,h=>h2 a b l (by simp only [y20] at h;omega) (z56 h0 h2 l (by simp only [y20] at h;omega))
theorem z57 (key:Int): ∀l:List Int,l.length % 2=0->findN key l<=l.length/\(isL key l=true->findN key l+2<=l.length/\l[findN key l+1]? =some (hasL key l))/\(isL key l=false->hasL key l= -1):=
 z56 (by simp [findN,isL,hasL]) fun a b l he ih=>by
  simp only [findN,isL,hasL,y20]
  split
  ·refine ⟨by omega,fun h=>⟨by have:=(ih.2.1 h).1;omega,?_⟩,ih.2.2⟩
   rw [show findN key l+2+1=(findN key l+1)+2 by omega]
   simpa using (ih.2.1 h).2
  ·split
   ·rename_i e;simp [e]
   ·rename_i e;simp [e]
theorem put_is (key n:Int): ∀l:List Int,l.length % 2=0->isL key l=true->l.set (findN key l+1) n=putL key n l:=
 z56 (by simp [isL]) fun a b l he ih h=>by
  simp only [findN,isL,putL] at h ⊢
  split at h
  ·rename_i c;rw [if_pos c,if_pos c,<- ih h];rfl
  ·rename_i c;rw [if_neg c,if_neg c,if_pos (by simpa using h)];rfl
theorem put_no (key n:Int): ∀l:List Int,l.length % 2=0->isL key l=false->l.take (findN key l)++[key,n]++l.drop (findN key l)=putL key n l:=
 z56 (by simp [findN,putL]) fun a b l he ih h=>by
  simp only [findN,isL,putL] at h ⊢
  split at h
  ·rename_i c;rw [if_pos c,if_pos c,<- ih h];simp
  ·rename_i c;rw [if_neg c,if_neg c,if_neg (by simpa using h)];simp
theorem del_is (key:Int): ∀l:List Int,l.length % 2=0->isL key l=true->l.take (findN key l)++l.drop (findN key l+2)=delL key l:=
 z56 (by simp [isL]) fun a b l he ih h=>by
  simp only [findN,isL,delL] at h ⊢
  split at h
  ·rename_i c;rw [if_pos c,if_pos c,<- ih h];simp
  ·rename_i c;rw [if_neg c,if_neg c,if_pos (by simpa using h)];simp
theorem z58 (key n:Int): ∀l:List Int,l.length % 2=0->(putL key n l).length=l.length+(if isL key l=true then 0 else 2):=
 z56 (by simp [putL,isL]) fun a b l he ih=>by
  simp only [putL,isL]
  split
  ·simp only [y20,ih];omega
  ·split
   ·rename_i e;simp [e]
   ·rename_i e;simp [e]
theorem z59 (z:Bool) (L:List Int) (key:Int) (hL:L.length<=1000000) (h2:L.length % 2=0): ∀(k i:Nat),L.length=i+2*k->
  Ev (fun q=>zma q z L key (i:Int)) (((i+findN key (L.drop i):Nat):Int),isL key (L.drop i))
 | 0,i,hk=>by
  rw [y11 (by omega)]
  exact Ev.su (Ev.ne (Ev.ret _))
 | k+1,i,hk=>by
  have hi:i<L.length:=by omega
  have hi1:i+1<L.length:=by omega
  have he:L[((i:Int)).toNat]? =some L[i]:=by simp [hi]
  have hd:L.drop i=L[i]::L[i+1]::L.drop (i+2):=by rw [y8 hi,y8 hi1]
  rw [hd]
  by_cases c:L[i]<key
  ·have e1:findN key (L[i]::L[i+1]::L.drop (i+2))=findN key (L.drop (i+2))+2:=by simp only [findN,if_pos c]
   have e2:isL key (L[i]::L[i+1]::L.drop (i+2))=isL key (L.drop (i+2)):=by simp only [isL,if_pos c]
   rw [e1,e2]
   have ih:=z59 z L key hL h2 k (i+2) (by omega)
   rw [show ((i+2:Nat):Int)=wrp .i64 ((i:Int)+2) by rw [z27 (by omega) (by omega)];omega] at ih
   refine Ev.su (Ev.po (Ev.po (Ev.opt he (Ev.pos c (Ev.cast ih ?_)))))
   rw [show i+2+findN key (L.drop (i+2))=i+(findN key (L.drop (i+2))+2) by omega]
  ·have e1:findN key (L[i]::L[i+1]::L.drop (i+2))=0:=by simp only [findN,if_neg c]
   have e2:isL key (L[i]::L[i+1]::L.drop (i+2))=decide (L[i]=key):=by simp only [isL,if_neg c]
   rw [e1,e2]
   exact Ev.su (Ev.po (Ev.po (Ev.opt he (Ev.neg c (Ev.ret' (by simp))))))
theorem z6a (s:Sl Int) (key:Int) (hL:s.l.length<=1000000) (h2:s.l.length % 2=0):Ev (fun q=>zmb q s key) ((findN key s.l:Int),isL key s.l):=by
 have h:=z59 s.z s.l key hL h2 (s.l.length / 2) 0 (by omega)
 rw [y36,y41] at h
 exact Ev.su h
theorem has_ev (s:Sl Int) (key:Int) (hL:s.l.length<=1000000) (h2:s.l.length % 2=0):Ev (fun q=>zmc q s key) (hasL key s.l):=by
 have hp:=z57 key s.l h2
 refine Ev.su (Ev.bind (z6a s key hL h2) (Ev.ite (fun c=>?_) fun c=>Ev.ret' ?_))
 ·simp only at c
  have h1:=hp.2.1 c
  have w:wrp .i64 ((findN key s.l:Int)+1)=((findN key s.l+1:Nat):Int):=by rw [z27 (by omega) (by omega)];omega
  exact Ev.pos (by simp only;rw [w];omega) (Ev.opt (by simp only;rw [w,y26];exact h1.2) (Ev.ret _))
 ·exact (hp.2.2 (by simpa using c)).symm
def putOk (key:Int) (l:List Int):Bool:=isL key l || decide (l.length<128)
theorem put_ev (s:Sl Int) (hz:s.z=true->s.l=[]) (key n:Int) (hL:s.l.length<=1000000) (h2:s.l.length % 2=0):Ev (fun q=>zme q s key n) (if putOk key s.l=true then (⟨false,putL key n s.l⟩,true) else (s,false)):=by
 have hp:=z57 key s.l h2
 obtain ⟨z,hC⟩:=z5n s hz (by omega)
 by_cases c:isL key s.l=true
 ·have h1:=hp.2.1 c
  have hs:s.z=false:=by
   by_cases e:s.z=true
   ·rw [hz e] at h1;simp at h1
   ·simpa using e
  have hC:=z4q s hs (by omega)
  have w:wrp .i64 ((findN key s.l:Int)+1)=((findN key s.l+1:Nat):Int):=by rw [z27 (by omega) (by omega)];omega
  rw [if_pos (by unfold putOk;rw [c];rfl)]
  refine Ev.su (Ev.bind (z6a s key hL h2) (Ev.pos c (Ev.bind hC ?_)))
  simp only
  rw [w]
  refine Ev.po (Ev.po (Ev.opt (by rw [y26];exact h1.2) (Ev.pos trivial (Ev.ret' ?_))))
  rw [y26,put_is key n s.l h2 c]
 ·have c':isL key s.l=false:=by simpa using c
  by_cases d:s.l.length<128
  ·rw [if_pos (by unfold putOk;rw [decide_eq_true d];simp)]
   have hI:Ev (fun q=>zmd q ⟨z,true,s.l⟩ (findN key s.l:Int) ⟨false,true,[key,n]⟩) ⟨false,true,putL key n s.l⟩:=by
    refine Ev.succ (g:=fun _=>if insOk (⟨z,true,s.l⟩:Ow Int) (findN key s.l:Int) ⟨false,true,[key,n]⟩ then some (insR (⟨z,true,s.l⟩:Ow Int) (findN key s.l:Int) ⟨false,true,[key,n]⟩) else none) (Ev.pos ⟨rfl,by omega,by simp only;omega,rfl,by simp,by simp only [y20,y24];omega⟩ (Ev.ret' ?_)) (fun q=>rfl)
    rw [<- put_no key n s.l h2 c'];simp [insR]
   refine Ev.su (Ev.bind (z6a s key hL h2) (Ev.neg (by simp only;rw [c'];simp) (Ev.ne (Ev.bind hC ?_))))
   exact Ev.bind hI (Ev.ret' rfl)
  ·rw [if_neg (by unfold putOk;rw [c',decide_eq_false d];simp)]
   exact Ev.su (Ev.bind (z6a s key hL h2) (Ev.neg (by simp only;rw [c'];simp) (Ev.po (Ev.ret _))))
def numV (k:Int) (l:List Int) (o:zld):List Int×Int:=
 if o.Code=7 then (l,l.headD 0) else if k=0/\o.Code=1 then ([cutI (wrp .i64 (l.headD 0+cutI o.A))],l.headD 0) else if k=1/\o.Code=2 then ([cutI o.A],l.headD 0) else (l,0)
def linV (k:Int) (l:List Int) (o:zld):List Int×Int:=
 if o.Code=7 then (l,(l.length:Int)) else if o.Code=3 then (if (l.length:Int)<64 then (l++[cutI o.A],(l.length:Int)+1) else (l,-1))
 else if o.Code=4 then (if (l.length:Int)=0 then (l,-1) else if k=2 then (l.drop 1,l.headD 0) else (l.take (l.length - 1),(l[l.length - 1]?).getD 0)) else (l,0)
def stoV (l:List Int) (o:zld):List Int×Int:=
 if o.Code=7\/o.Code=6\/o.Code=5 then (if o.A<0\/255<o.A then (l,-1) else if o.Code=6/\isL o.A l=true then (delL o.A l,hasL o.A l)
  else if o.Code=5 then (if putOk o.A l=true then (putL o.A (cutI o.B) l,hasL o.A l) else (l,-2)) else (l,hasL o.A l)) else (l,0)
def nz (n:Int):Int:=if n<0 then 0 else n
def movV (l:List Int) (o:zld):List Int×Int:=
 if o.A<0\/65536<=o.A\/o.B<0 then (l,0) else if hasL (wrp .i64 (Int.tdiv o.A 256)) l<o.B then (l,0) else if wrp .i64 (Int.tdiv o.A 256)=Int.tmod o.A 256 then (l,1)
 else if putOk (Int.tmod o.A 256) l=true then (if 1099511627776<wrp .i64 (nz (hasL (Int.tmod o.A 256) l)+o.B) then (l,0)
  else if putOk (wrp .i64 (Int.tdiv o.A 256)) (putL (Int.tmod o.A 256) (wrp .i64 (nz (hasL (Int.tmod o.A 256) l)+o.B)) l)=true then (putL (wrp .i64 (Int.tdiv o.A 256)) (wrp .i64 (hasL (wrp .i64 (Int.tdiv o.A 256)) l - o.B)) (putL (Int.tmod o.A 256) (wrp .i64 (nz (hasL (Int.tmod o.A 256) l)+o.B)) l),1)
  else (putL (Int.tmod o.A 256) (wrp .i64 (nz (hasL (Int.tmod o.A 256) l)+o.B)) l,1)) else (l,0)
def ledV (l:List Int) (o:zld):List Int×Int:=
 if o.Code=9 then movV l o else if o.Code=7 then (if o.A<0\/255<o.A then (l,-1) else (l,hasL o.A l))
 else if o.Code=8 then (if o.A<0\/255<o.A\/o.B<0 then (l,-1) else if putOk o.A l=true then (putL o.A (cutI (wrp .i64 (nz (hasL o.A l)+cutI o.B))) l,cutI (wrp .i64 (nz (hasL o.A l)+cutI o.B))) else (l,-2)) else (l,0)
/-- What an operation leaves, and what comes of it. -/
def stepV (s:zlg) (o:zld):(List Int×Bool×Int)×Int:=
 if mayS s=true then (if s.Sealed=true then ((s.L.l,s.Sealed,s.To),-1125899906842624) else if o.Code=10 then ((s.L.l,true,if 0<=o.A/\o.A<3 then o.A else s.To),0)
  else if s.Kind=0\/s.Kind=1 then (((numV s.Kind s.L.l o).1,s.Sealed,s.To),(numV s.Kind s.L.l o).2)
  else if s.Kind=2\/s.Kind=3 then (((linV s.Kind s.L.l o).1,s.Sealed,s.To),(linV s.Kind s.L.l o).2)
  else if s.Kind=4 then (((stoV s.L.l o).1,s.Sealed,s.To),(stoV s.L.l o).2) else (((ledV s.L.l o).1,s.Sealed,s.To),(ledV s.L.l o).2))
 else ((s.L.l,s.Sealed,s.To),0)
def wS (s:zlg) (z:Bool) (l:List Int):zlg:=⟨s.Kind,⟨z,l⟩,s.Sealed,s.To⟩
/-- A function comes to a list and a number. -/
def Comes (f:Nat->zlg->zld->Option (zlg×Int)) (s:zlg) (o:zld) (r:List Int×Int):Prop:= ∃z,(z=true->r.1=[])/\Ev (fun q=>f q s o) (wS s z r.1,r.2)
theorem z6b (s:zlg) (hz:s.L.z=true->s.L.l=[]) (h1:s.L.l.length=1) (o:zld):Comes zl7 s o (numV s.Kind s.L.l o):=by
 obtain ⟨n,hn⟩: ∃n,s.L.l=[n]:=List.length_eq_one_iff.1 h1
 have hg:s.L.l[0]? =some n:=by rw [hn];rfl
 have hh:s.L.l.headD 0=n:=by rw [hn];rfl
 unfold Comes numV
 rw [hh]
 by_cases c7:o.Code=7
 ·rw [if_pos c7]
  exact ⟨s.L.z,hz,Ev.su (Ev.opt hg (Ev.pos c7 (Ev.ret _)))⟩
 ·rw [if_neg c7]
  by_cases k0:s.Kind=0
  ·by_cases c1:o.Code=1
   ·rw [if_pos ⟨k0,c1⟩]
    refine ⟨false,fun h=>(by cases h),Ev.su (Ev.opt hg (Ev.neg c7 (Ev.pos k0 (Ev.pos c1 (Ev.bind (z3l _) ?_)))))⟩
    exact Ev.bind (z3l (wrp .i64 (n+cutI o.A))) (Ev.ret' rfl)
   ·rw [if_neg (fun h=>c1 h.2),if_neg (fun h=>by omega)]
    exact ⟨s.L.z,hz,Ev.su (Ev.opt hg (Ev.neg c7 (Ev.pos k0 (Ev.neg c1 (Ev.ne (Ev.ret _))))))⟩
  ·rw [if_neg (fun h=>k0 h.1)]
   by_cases k1:s.Kind=1
   ·by_cases c2:o.Code=2
    ·rw [if_pos ⟨k1,c2⟩]
     refine ⟨false,fun h=>(by cases h),Ev.su (Ev.opt hg (Ev.neg c7 (Ev.neg k0 (Ev.pos k1 (Ev.pos c2 ?_)))))⟩
     exact Ev.bind (z3l o.A) (Ev.ret' rfl)
    ·rw [if_neg (fun h=>c2 h.2)]
     exact ⟨s.L.z,hz,Ev.su (Ev.opt hg (Ev.neg c7 (Ev.neg k0 (Ev.pos k1 (Ev.neg c2 (Ev.ret _))))))⟩
   ·rw [if_neg (fun h=>k1 h.1)]
    exact ⟨s.L.z,hz,Ev.su (Ev.opt hg (Ev.neg c7 (Ev.neg k0 (Ev.neg k1 (Ev.ret _)))))⟩
theorem z6c (s:zlg) (hz:s.L.z=true->s.L.l=[]) (hL:s.L.l.length<=1000000) (o:zld):Comes zl9 s o (linV s.Kind s.L.l o):=by
 unfold Comes linV
 by_cases c7:o.Code=7
 ·rw [if_pos c7]
  exact ⟨s.L.z,hz,Ev.su (Ev.pos c7 (Ev.ret _))⟩
 ·rw [if_neg c7]
  by_cases c3:o.Code=3
  ·rw [if_pos c3]
   by_cases d:(s.L.l.length:Int)<64
   ·rw [if_pos d]
    obtain ⟨z,hC⟩:=z5n s.L hz (by omega)
    refine ⟨false,fun h=>(by cases h),Ev.su (Ev.neg c7 (Ev.pos c3 (Ev.pos d (Ev.bind hC (Ev.bind (z3l _) (Ev.pos (by simp only;omega) ?_))))))⟩
    exact Ev.ret' (by rw [z27 (by omega) (by omega)];rfl)
   ·rw [if_neg d]
    exact ⟨s.L.z,hz,Ev.su (Ev.neg c7 (Ev.pos c3 (Ev.neg d (Ev.ret _))))⟩
  ·rw [if_neg c3]
   by_cases c4:o.Code=4
   ·rw [if_pos c4]
    by_cases d:(s.L.l.length:Int)=0
    ·rw [if_pos d]
     exact ⟨s.L.z,hz,Ev.su (Ev.neg c7 (Ev.neg c3 (Ev.pos c4 (Ev.pos d (Ev.ret _)))))⟩
    ·rw [if_neg d]
     have hs:s.L.z=false:=by
      by_cases e:s.L.z=true
      ·rw [hz e] at d;simp at d
      ·simpa using e
     have hC:=z4q s.L hs (by omega)
     by_cases k2:s.Kind=2
     ·rw [if_pos k2]
      have hg:s.L.l[0]? =some (s.L.l.headD 0):=by
       cases hl:s.L.l with
       | nil=>rw [hl] at d;simp at d
       | cons a t=>rfl
      have hD:=z55 (l:=s.L.l) (i:=0) (j:=wrp .i64 1) (by omega) (by rw [z27 (by omega) (by omega)];omega) (by rw [z27 (by omega) (by omega)];omega) hL
      refine ⟨false,fun h=>(by cases h),Ev.su (Ev.neg c7 (Ev.neg c3 (Ev.pos c4 (Ev.neg d (Ev.pos k2 (Ev.opt hg (Ev.bind hC ?_)))))))⟩
      exact Ev.bind hD (Ev.ret' (by rw [z27 (by omega) (by omega)];rfl))
     ·rw [if_neg k2]
      have w1:wrp .i64 ((s.L.l.length:Int) - 1)=((s.L.l.length - 1:Nat):Int):=by rw [z27 (by omega) (by omega)];omega
      have hg:s.L.l[s.L.l.length - 1]? =some ((s.L.l[s.L.l.length - 1]?).getD 0):=by
       rw [y6 (by omega)];rfl
      have w2:wrp .i64 (((s.L.l.length - 1:Nat):Int)+1)=(s.L.l.length:Int):=by rw [z27 (by omega) (by omega)];omega
      have hD:=z55 (l:=s.L.l) (i:=((s.L.l.length - 1:Nat):Int)) (j:=(s.L.l.length:Int)) (by omega) (by omega) (by omega) hL
      refine ⟨false,fun h=>(by cases h),Ev.su (Ev.neg c7 (Ev.neg c3 (Ev.pos c4 (Ev.neg d (Ev.neg k2 ?_)))))⟩
      rw [w1,w2]
      refine Ev.po (Ev.opt (by rw [y26];exact hg) (Ev.bind hC ?_))
      exact Ev.bind hD (Ev.ret' (by rw [y26,y26,List.drop_length,List.append_nil];rfl))
   ·rw [if_neg c4]
    exact ⟨s.L.z,hz,Ev.su (Ev.neg c7 (Ev.neg c3 (Ev.neg c4 (Ev.ret _))))⟩
theorem z6d (s:zlg) (hz:s.L.z=true->s.L.l=[]) (hL:s.L.l.length<=1000000) (h2:s.L.l.length % 2=0) (o:zld):Comes zmf s o (stoV s.L.l o):=by
 have hH:=has_ev s.L o.A hL h2
 have hF:=z6a s.L o.A hL h2
 have hp:=z57 o.A s.L.l h2
 have hP:=put_ev s.L hz o.A (cutI o.B) hL h2
 -- what is done where the operation is to put
 have put: ∀{K:Nat->Option (zlg×Int)},K=(fun q=>(zly q o.B).bind fun r5=>((zme q s.L o.A r5).bind fun r6=>(if r6.2=true then (some ((⟨s.Kind,r6.1,s.Sealed,s.To⟩:zlg),hasL o.A s.L.l)) else (some (s,(-2))))))->
   ∃z,(z=true->(if putOk o.A s.L.l=true then (putL o.A (cutI o.B) s.L.l,hasL o.A s.L.l) else (s.L.l,-2)).1=[])/\Ev K (wS s z (if putOk o.A s.L.l=true then (putL o.A (cutI o.B) s.L.l,hasL o.A s.L.l) else (s.L.l,-2)).1,(if putOk o.A s.L.l=true then (putL o.A (cutI o.B) s.L.l,hasL o.A s.L.l) else (s.L.l,-2)).2):=by
  rintro K rfl
  by_cases c:putOk o.A s.L.l=true
  ·rw [if_pos c] at hP ⊢
   refine ⟨false,fun h=>(by cases h),Ev.bind (z3l _) (Ev.bind hP (Ev.pos rfl ?_))⟩
   exact Ev.ret' rfl
  ·rw [if_neg c] at hP ⊢
   refine ⟨s.L.z,hz,Ev.bind (z3l _) (Ev.bind hP (Ev.neg (by simp) ?_))⟩
   exact Ev.ret' rfl
 have del:isL o.A s.L.l=true-> ∀{K:Nat->Option (zlg×Int)},K=(fun q=>(zlv q s.L).bind fun r3=>((zl8 q r3 (findN o.A s.L.l:Int) (wrp .i64 ((findN o.A s.L.l:Int)+2))).bind fun r4=>(some ((⟨s.Kind,⟨r4.n,r4.xs⟩,s.Sealed,s.To⟩:zlg),hasL o.A s.L.l))))->
   Ev K (wS s false (delL o.A s.L.l),hasL o.A s.L.l):=by
  intro c K hK
  subst hK
  have h1:=hp.2.1 c
  have hs:s.L.z=false:=by
   by_cases e:s.L.z=true
   ·rw [hz e] at h1;simp at h1
   ·simpa using e
  have w:wrp .i64 ((findN o.A s.L.l:Int)+2)=((findN o.A s.L.l+2:Nat):Int):=by rw [z27 (by omega) (by omega)];omega
  have hD:=z55 (l:=s.L.l) (i:=(findN o.A s.L.l:Int)) (j:=((findN o.A s.L.l+2:Nat):Int)) (by omega) (by omega) (by omega) hL
  rw [y26,y26,del_is o.A s.L.l h2 c] at hD
  rw [w]
  refine Ev.bind (z4q s.L hs (by omega)) ?_
  exact Ev.bind hD (Ev.ret' rfl)
 unfold Comes stoV
 by_cases c7:o.Code=7
 ·rw [if_pos (.inl c7)]
  by_cases a0:o.A<0
  ·rw [if_pos (.inl a0)]
   exact ⟨s.L.z,hz,Ev.su (Ev.pos c7 (Ev.pos a0 (Ev.ret _)))⟩
  ·by_cases a1:255<o.A
   ·rw [if_pos (.inr a1)]
    exact ⟨s.L.z,hz,Ev.su (Ev.pos c7 (Ev.neg a0 (Ev.pos a1 (Ev.ret _))))⟩
   ·rw [if_neg (by omega),if_neg (fun h=>by omega),if_neg (by omega)]
    refine ⟨s.L.z,hz,Ev.su (Ev.pos c7 (Ev.neg a0 (Ev.neg a1 (Ev.bind hH (Ev.bind hF (Ev.ne (Ev.neg (by omega) ?_)))))))⟩
    exact Ev.ret' rfl
 ·by_cases c6:o.Code=6
  ·rw [if_pos (.inr (.inl c6))]
   by_cases a0:o.A<0
   ·rw [if_pos (.inl a0)]
    exact ⟨s.L.z,hz,Ev.su (Ev.neg c7 (Ev.pos c6 (Ev.pos a0 (Ev.ret _))))⟩
   ·by_cases a1:255<o.A
    ·rw [if_pos (.inr a1)]
     exact ⟨s.L.z,hz,Ev.su (Ev.neg c7 (Ev.pos c6 (Ev.neg a0 (Ev.pos a1 (Ev.ret _)))))⟩
    ·rw [if_neg (show¬(o.A<0\/255<o.A) by omega)]
     by_cases d:isL o.A s.L.l=true
     ·rw [if_pos ⟨c6,d⟩]
      refine ⟨false,fun h=>(by cases h),Ev.su (Ev.neg c7 (Ev.pos c6 (Ev.neg a0 (Ev.neg a1 (Ev.bind hH (Ev.bind hF (Ev.pos d ?_)))))))⟩
      exact del d rfl
     ·rw [if_neg (fun h=>d h.2),if_neg (by omega)]
      refine ⟨s.L.z,hz,Ev.su (Ev.neg c7 (Ev.pos c6 (Ev.neg a0 (Ev.neg a1 (Ev.bind hH (Ev.bind hF (Ev.neg d (Ev.neg (by omega) ?_))))))))⟩
      exact Ev.ret' rfl
  ·by_cases c5:o.Code=5
   ·rw [if_pos (.inr (.inr c5))]
    by_cases a0:o.A<0
    ·rw [if_pos (.inl a0)]
     exact ⟨s.L.z,hz,Ev.su (Ev.neg c7 (Ev.neg c6 (Ev.pos c5 (Ev.pos a0 (Ev.ret _)))))⟩
    ·by_cases a1:255<o.A
     ·rw [if_pos (.inr a1)]
      exact ⟨s.L.z,hz,Ev.su (Ev.neg c7 (Ev.neg c6 (Ev.pos c5 (Ev.neg a0 (Ev.pos a1 (Ev.ret _))))))⟩
     ·rw [if_neg (show¬(o.A<0\/255<o.A) by omega),if_neg (fun h=>by omega),if_pos c5]
      obtain ⟨z,h3,h4⟩:=put rfl
      refine ⟨z,h3,Ev.su (Ev.neg c7 (Ev.neg c6 (Ev.pos c5 (Ev.neg a0 (Ev.neg a1 (Ev.bind hH (Ev.bind hF ?_)))))))⟩
      exact h4
   ·rw [if_neg (by omega)]
    exact ⟨s.L.z,hz,Ev.su (Ev.neg c7 (Ev.neg c6 (Ev.neg c5 (Ev.ret _))))⟩
theorem z6e (s:zlg) (hz:s.L.z=true->s.L.l=[]) (hL:s.L.l.length<=900000) (h2:s.L.l.length % 2=0) (o:zld):Comes zmg s o (movV s.L.l o):=by
 unfold Comes movV
 by_cases a0:o.A<0
 ·rw [if_pos (.inl a0)]
  exact ⟨s.L.z,hz,Ev.su (Ev.pos a0 (Ev.ret _))⟩
 by_cases a1:65536<=o.A
 ·rw [if_pos (.inr (.inl a1))]
  exact ⟨s.L.z,hz,Ev.su (Ev.neg a0 (Ev.pos a1 (Ev.ret _)))⟩
 by_cases b0:o.B<0
 ·rw [if_pos (.inr (.inr b0))]
  exact ⟨s.L.z,hz,Ev.su (Ev.neg a0 (Ev.neg a1 (Ev.pos b0 (Ev.ret _))))⟩
 rw [if_neg (show¬(o.A<0\/65536<=o.A\/o.B<0) by omega)]
 generalize hf:wrp .i64 (Int.tdiv o.A 256)=f
 generalize ht:Int.tmod o.A 256=t
 have start: ∀{r:zlg×Int},Ev (fun q=>(if hasL f s.L.l<o.B then (some (s,0)) else (if f=t then (some (s,1)) else ((zme q s.L t (wrp .i64 (nz (hasL t s.L.l)+o.B))).bind fun r3=>(if r3.2=true then (if 1099511627776<(wrp .i64 (nz (hasL t s.L.l)+o.B)) then (some (s,0)) else ((zme q r3.1 f (wrp .i64 (hasL f s.L.l - o.B))).bind fun r4=>(some ((⟨s.Kind,r4.1,s.Sealed,s.To⟩:zlg),1)))) else (some (s,0))))))) r->Ev (fun q=>zmg q s o) r:=fun h=>by
  have hf':=has_ev s.L f (by omega) h2
  have ht':=has_ev s.L t (by omega) h2
  subst hf;subst ht
  refine Ev.su (Ev.neg a0 (Ev.neg a1 (Ev.neg b0 (Ev.bind hf' (Ev.bind ht' ?_)))))
  exact h
 by_cases c1:hasL f s.L.l<o.B
 ·rw [if_pos c1]
  exact ⟨s.L.z,hz,start (Ev.pos c1 (Ev.ret _))⟩
 rw [if_neg c1]
 by_cases c2:f=t
 ·rw [if_pos c2]
  exact ⟨s.L.z,hz,start (Ev.neg c1 (Ev.pos c2 (Ev.ret _)))⟩
 rw [if_neg c2]
 have hP:=put_ev s.L hz t (wrp .i64 (nz (hasL t s.L.l)+o.B)) (by omega) h2
 generalize wrp .i64 (nz (hasL t s.L.l)+o.B)=n at hP start ⊢
 by_cases c3:putOk t s.L.l=true
 ·rw [if_pos c3] at hP ⊢
  by_cases c4:1099511627776<n
  ·rw [if_pos c4]
   refine ⟨s.L.z,hz,start (Ev.neg c1 (Ev.neg c2 (Ev.bind hP (Ev.pos rfl (Ev.pos c4 ?_)))))⟩
   exact Ev.ret _
  ·rw [if_neg c4]
   have hl:=z58 t n s.L.l h2
   have he:(putL t n s.L.l).length % 2=0:=by rw [hl];split<;>omega
   have hl2:(putL t n s.L.l).length<=1000000:=by rw [hl];split<;>omega
   have hQ:=put_ev ⟨false,putL t n s.L.l⟩ (fun h=>by cases h) f (wrp .i64 (hasL f s.L.l - o.B)) hl2 he
   simp only at hQ
   by_cases c5:putOk f (putL t n s.L.l)=true
   ·rw [if_pos c5] at hQ ⊢
    refine ⟨false,fun h=>(by cases h),start (Ev.neg c1 (Ev.neg c2 (Ev.bind hP (Ev.pos rfl (Ev.neg c4 ?_)))))⟩
    exact Ev.bind hQ (Ev.ret' rfl)
   ·rw [if_neg c5] at hQ ⊢
    refine ⟨false,fun h=>(by cases h),start (Ev.neg c1 (Ev.neg c2 (Ev.bind hP (Ev.pos rfl (Ev.neg c4 ?_)))))⟩
    exact Ev.bind hQ (Ev.ret' rfl)
 ·rw [if_neg c3] at hP ⊢
  refine ⟨s.L.z,hz,start (Ev.neg c1 (Ev.neg c2 (Ev.bind hP (Ev.neg (by simp) ?_))))⟩
  exact Ev.ret _
theorem z6f (s:zlg) (hz:s.L.z=true->s.L.l=[]) (hL:s.L.l.length<=900000) (h2:s.L.l.length % 2=0) (o:zld):Comes zmh s o (ledV s.L.l o):=by
 unfold ledV
 by_cases c9:o.Code=9
 ·rw [if_pos c9]
  obtain ⟨z,h1,h3⟩:=z6e s hz hL h2 o
  refine ⟨z,h1,Ev.su (Ev.pos c9 (Ev.bind h3 ?_))⟩
  exact Ev.ret' rfl
 unfold Comes
 rw [if_neg c9]
 have hH:=has_ev s.L o.A (by omega) h2
 by_cases c7:o.Code=7
 ·rw [if_pos c7]
  by_cases a0:o.A<0
  ·rw [if_pos (.inl a0)]
   exact ⟨s.L.z,hz,Ev.su (Ev.neg c9 (Ev.pos c7 (Ev.pos a0 (Ev.ret _))))⟩
  ·by_cases a1:255<o.A
   ·rw [if_pos (.inr a1)]
    exact ⟨s.L.z,hz,Ev.su (Ev.neg c9 (Ev.pos c7 (Ev.neg a0 (Ev.pos a1 (Ev.ret _)))))⟩
   ·rw [if_neg (by omega)]
    refine ⟨s.L.z,hz,Ev.su (Ev.neg c9 (Ev.pos c7 (Ev.neg a0 (Ev.neg a1 (Ev.bind hH ?_)))))⟩
    exact Ev.ret' rfl
 ·rw [if_neg c7]
  by_cases c8:o.Code=8
  ·rw [if_pos c8]
   by_cases a0:o.A<0
   ·rw [if_pos (.inl a0)]
    exact ⟨s.L.z,hz,Ev.su (Ev.neg c9 (Ev.neg c7 (Ev.pos c8 (Ev.pos a0 (Ev.ret _)))))⟩
   ·by_cases a1:255<o.A
    ·rw [if_pos (.inr (.inl a1))]
     exact ⟨s.L.z,hz,Ev.su (Ev.neg c9 (Ev.neg c7 (Ev.pos c8 (Ev.neg a0 (Ev.pos a1 (Ev.ret _))))))⟩
    ·by_cases b0:o.B<0
     ·rw [if_pos (.inr (.inr b0))]
      exact ⟨s.L.z,hz,Ev.su (Ev.neg c9 (Ev.neg c7 (Ev.pos c8 (Ev.neg a0 (Ev.neg a1 (Ev.pos b0 (Ev.ret _)))))))⟩
     ·rw [if_neg (show¬(o.A<0\/255<o.A\/o.B<0) by omega)]
      have hP:=put_ev s.L hz o.A (cutI (wrp .i64 (nz (hasL o.A s.L.l)+cutI o.B))) (by omega) h2
      by_cases d:putOk o.A s.L.l=true
      ·rw [if_pos d] at hP ⊢
       refine ⟨false,fun h=>(by cases h),Ev.su (Ev.neg c9 (Ev.neg c7 (Ev.pos c8 (Ev.neg a0 (Ev.neg a1 (Ev.neg b0 (Ev.bind hH (Ev.bind (z3l o.B) (Ev.bind (z3l _) ?_)))))))))⟩
       refine Ev.bind hP (Ev.pos rfl ?_)
       exact Ev.ret' rfl
      ·rw [if_neg d] at hP ⊢
       refine ⟨s.L.z,hz,Ev.su (Ev.neg c9 (Ev.neg c7 (Ev.pos c8 (Ev.neg a0 (Ev.neg a1 (Ev.neg b0 (Ev.bind hH (Ev.bind (z3l o.B) (Ev.bind (z3l _) ?_)))))))))⟩
       refine Ev.bind hP (Ev.neg (by simp) ?_)
       exact Ev.ret' rfl
  ·rw [if_neg c8]
   exact ⟨s.L.z,hz,Ev.su (Ev.neg c9 (Ev.neg c7 (Ev.neg c8 (Ev.ret _))))⟩
theorem z6g {k:Int} {l:List Int} (h:kindOk k l=true) (h0: ¬(k=0\/k=1)) (h2: ¬(k=2\/k=3)):l.length % 2=0:=by
 unfold kindOk at h
 rw [if_neg h0,if_neg h2] at h
 split at h
 ·simp only [pairsOk,y5,decide_eq_true_eq] at h;exact h.2.1
 ·split at h
  ·simp only [pairsOk,y5,decide_eq_true_eq] at h;exact h.2.1
  ·cases h
theorem z6h {k:Int} {l:List Int} (h:kindOk k l=true) (h0:k=0\/k=1):l.length=1:=by
 unfold kindOk at h
 rw [if_pos h0,decide_eq_true_eq] at h;exact h.1
def stV (s:zlg) (z:Bool) (r:(List Int×Bool×Int)×Int):zlg×Int:=(⟨s.Kind,⟨z,r.1.1⟩,r.1.2.1,r.1.2.2⟩,r.2)
theorem z6i (s:zlg) (hz:s.L.z=true->s.L.l=[]) (hL:s.L.l.length<=900000) (o:zld): ∃z,(z=true->(stepV s o).1.1=[])/\Ev (fun q=>zmi q s o) (stV s z (stepV s o)):=by
 have hM:=z5j s (by omega)
 unfold stepV stV
 by_cases m:mayS s=true
 ·rw [if_pos m]
  rw [m] at hM
  have hk:=(z5o m).2.2.2
  by_cases hs:s.Sealed=true
  ·rw [if_pos hs]
   exact ⟨s.L.z,hz,Ev.su (Ev.bind hM (Ev.pos rfl (Ev.pos hs (Ev.ret _))))⟩
  rw [if_neg hs]
  by_cases c:o.Code=10
  ·rw [if_pos c]
   refine ⟨s.L.z,hz,Ev.su (Ev.bind hM (Ev.pos rfl (Ev.neg hs (Ev.pos c (Ev.ite (fun a0=>Ev.ite (fun a1=>Ev.ret' ?_) fun a1=>Ev.ret' ?_) fun a0=>Ev.ret' ?_)))))⟩
   ·rw [if_pos ⟨a0,a1⟩]
   ·rw [if_neg (fun h=>a1 h.2)]
   ·rw [if_neg (fun h=>a0 h.1)]
  rw [if_neg c]
  by_cases k0:s.Kind=0
  ·obtain ⟨z,h1,h3⟩:=z6b s hz (z6h hk (.inl k0)) o
   rw [if_pos (show s.Kind=0\/s.Kind=1 from .inl k0)]
   refine ⟨z,h1,Ev.su (Ev.bind hM (Ev.pos rfl (Ev.neg hs (Ev.neg c (Ev.pos k0 (Ev.bind h3 ?_))))))⟩
   exact Ev.ret' rfl
  by_cases k1:s.Kind=1
  ·obtain ⟨z,h1,h3⟩:=z6b s hz (z6h hk (.inr k1)) o
   rw [if_pos (show s.Kind=0\/s.Kind=1 from .inr k1)]
   refine ⟨z,h1,Ev.su (Ev.bind hM (Ev.pos rfl (Ev.neg hs (Ev.neg c (Ev.neg k0 (Ev.pos k1 (Ev.bind h3 ?_)))))))⟩
   exact Ev.ret' rfl
  rw [if_neg (show¬(s.Kind=0\/s.Kind=1) by omega)]
  by_cases k2:s.Kind=2
  ·obtain ⟨z,h1,h3⟩:=z6c s hz (by omega) o
   rw [if_pos (show s.Kind=2\/s.Kind=3 from .inl k2)]
   refine ⟨z,h1,Ev.su (Ev.bind hM (Ev.pos rfl (Ev.neg hs (Ev.neg c (Ev.neg k0 (Ev.neg k1 (Ev.pos k2 (Ev.bind h3 ?_))))))))⟩
   exact Ev.ret' rfl
  by_cases k3:s.Kind=3
  ·obtain ⟨z,h1,h3⟩:=z6c s hz (by omega) o
   rw [if_pos (show s.Kind=2\/s.Kind=3 from .inr k3)]
   refine ⟨z,h1,Ev.su (Ev.bind hM (Ev.pos rfl (Ev.neg hs (Ev.neg c (Ev.neg k0 (Ev.neg k1 (Ev.neg k2 (Ev.pos k3 (Ev.bind h3 ?_)))))))))⟩
   exact Ev.ret' rfl
  rw [if_neg (show¬(s.Kind=2\/s.Kind=3) by omega)]
  have h2:=z6g hk (by omega) (by omega)
  by_cases k4:s.Kind=4
  ·obtain ⟨z,h1,h3⟩:=z6d s hz (by omega) h2 o
   rw [if_pos k4]
   refine ⟨z,h1,Ev.su (Ev.bind hM (Ev.pos rfl (Ev.neg hs (Ev.neg c (Ev.neg k0 (Ev.neg k1 (Ev.neg k2 (Ev.neg k3 (Ev.pos k4 (Ev.bind h3 ?_))))))))))⟩
   exact Ev.ret' rfl
  ·obtain ⟨z,h1,h3⟩:=z6f s hz hL h2 o
   rw [if_neg k4]
   refine ⟨z,h1,Ev.su (Ev.bind hM (Ev.pos rfl (Ev.neg hs (Ev.neg c (Ev.neg k0 (Ev.neg k1 (Ev.neg k2 (Ev.neg k3 (Ev.neg k4 (Ev.bind h3 ?_))))))))))⟩
   exact Ev.ret' rfl
 ·rw [if_neg m]
  rw [show mayS s=false by simpa using m] at hM
  exact ⟨s.L.z,hz,Ev.su (Ev.bind hM (Ev.neg (by simp) (Ev.ret _)))⟩
theorem z6j (key n:Int): ∀l:List Int,(putL key n l).length<=l.length+2
 | []=>by simp [putL]
 | [a]=>by simp [putL]
 | a::b::l=>by
  have:=z6j key n l
  simp only [putL]
  split
  ·simp only [y20];omega
  ·split<;>simp only [y20]<;>omega
theorem z6k (key:Int): ∀l:List Int,(delL key l).length<=l.length
 | []=>by simp [delL]
 | [a]=>by simp [delL]
 | a::b::l=>by
  have:=z6k key l
  simp only [delL]
  split
  ·simp only [y20];omega
  ·split<;>simp only [y20]<;>omega
theorem z6l (k:Int) (l:List Int) (o:zld):(numV k l o).1.length<=l.length+4:=by
 unfold numV;split<;>(try split)<;>(try split)<;>simp only [List.length_singleton]<;>omega
theorem z6m (k:Int) (l:List Int) (o:zld):(linV k l o).1.length<=l.length+4:=by
 unfold linV
 split
 ·simp only;omega
 ·split
  ·split<;>simp only [y9,List.length_singleton]<;>omega
  ·split
   ·split
    ·simp only;omega
    ·split<;>simp only [y12,y19]<;>omega
   ·simp only;omega
theorem z6n (l:List Int) (o:zld):(stoV l o).1.length<=l.length+4:=by
 have h1:=z6j o.A (cutI o.B) l
 have h2:=z6k o.A l
 unfold stoV
 split
 ·split
  ·simp only;omega
  ·split
   ·simp only;omega
   ·split
    ·split<;>simp only<;>omega
    ·simp only;omega
 ·simp only;omega
theorem z6o (l:List Int) (o:zld):(movV l o).1.length<=l.length+4:=by
 unfold movV
 generalize wrp .i64 (Int.tdiv o.A 256)=f
 generalize Int.tmod o.A 256=t
 have h1:=z6j t (wrp .i64 (nz (hasL t l)+o.B)) l
 have h2:=z6j f (wrp .i64 (hasL f l - o.B)) (putL t (wrp .i64 (nz (hasL t l)+o.B)) l)
 split
 ·simp only;omega
 ·split
  ·simp only;omega
  ·split
   ·simp only;omega
   ·split
    ·split
     ·simp only;omega
     ·split<;>simp only<;>omega
    ·simp only;omega
theorem z6p (l:List Int) (o:zld):(ledV l o).1.length<=l.length+4:=by
 have h0:=z6o l o
 have h1:=z6j o.A (cutI (wrp .i64 (nz (hasL o.A l)+cutI o.B))) l
 unfold ledV
 split
 ·exact h0
 ·split
  ·split<;>simp only<;>omega
  ·split
   ·split
    ·simp only;omega
    ·split<;>simp only<;>omega
   ·simp only;omega
theorem z6q (s:zlg) (o:zld):(stepV s o).1.1.length<=s.L.l.length+4:=by
 unfold stepV
 split
 ·split
  ·simp only;omega
  ·split
   ·simp only;omega
   ·split
    ·exact z6l _ _ _
    ·split
     ·exact z6m _ _ _
     ·split
      ·exact z6n _ _
      ·exact z6p _ _
 ·simp only;omega
def nextS (s:zlg) (o:zld):zlg:=⟨s.Kind,⟨false,(stepV s o).1.1⟩,(stepV s o).1.2.1,(stepV s o).1.2.2⟩
def setZ (z z':Bool) (x:zli):zli:=⟨x.Index,⟨x.State.Kind,⟨z,x.State.L.l⟩,x.State.Sealed,x.State.To⟩,⟨z',x.Table.l⟩⟩
def noTN:zli:=⟨0,⟨0,⟨false,[]⟩,false,0⟩,⟨false,[]⟩⟩
def nextN (s:zli) (r:zle):zli:=⟨wrp .i64 (s.Index+1),nextS s.State r.Op,⟨false,noteL s.Table.l r.Proc r.Seq (stepV s.State r.Op).2⟩⟩
/-- A snapshot behind records. -/
def takeV:zli->List zle->zli×Int
 | s,[]=>(setZ false false s,0)
 | s,r::l=>if r.Index=s.Index then (if FitsR r then takeV (nextN s r) l else (noTN,1)) else (noTN,15)
theorem z6r (z z':Bool) (s:zli) (l:List zle):takeV (setZ z z' s) l=takeV s l:=by
 cases l<;>rfl
theorem z6s (s:zli) (r:zle) (l:List zle):takeV s (r::l)=if r.Index=s.Index then (if FitsR r then takeV (nextN s r) l else (noTN,1)) else (noTN,15):=rfl
theorem z6t {s:zli} {r:zle} {l:List zle} (h:(takeV s (r::l)).2=0):r.Index=s.Index/\FitsR r/\takeV s (r::l)=takeV (nextN s r) l:=by
 rw [z6s] at h ⊢
 split at h
 ·rename_i c
  split at h
  ·rename_i d;exact ⟨c,d,by rw [if_pos c,if_pos d]⟩
  ·cases h
 ·cases h
theorem z6u: ∀(a b:List zle) (s:zli),(takeV s a).2=0->takeV s (a++b)=takeV (takeV s a).1 b
 | [],b,s,_=>(z6r false false s b).symm
 | r::a,b,s,h=>by
  obtain ⟨c,d,e⟩:=z6t h
  rw [e] at h ⊢
  rw [List.cons_append,z6s,if_pos c,if_pos d]
  exact z6u a b _ h
def zOk (z z':Bool) (x:zli):Prop:=(z=true->x.State.L.l=[])/\(z'=true->x.Table.l=[])
theorem z6v (zz:Bool) (L:List zle) (hL:L.length<=5000): ∀(k i:Nat) (s:zli),L.length=i+k->zOk s.State.L.z s.Table.z s->s.State.L.l.length+4*k<=900000->s.Table.l.length+k<=900000->
  ∃z z',zOk z z' (takeV s (L.drop i)).1/\Ev (fun q=>zmr q zz L (L.length:Int) (i:Int) s.Index s.State.Kind s.State.L.z s.State.L.l s.State.Sealed s.State.To s.Table.z s.Table.l true) (setZ z z' (takeV s (L.drop i)).1,(takeV s (L.drop i)).2)
 | 0,i,s,hk,hz,h1,h2=>by
  rw [y11 (by omega)]
  exact ⟨s.State.L.z,s.Table.z,hz,Ev.su (Ev.ne (Ev.ret _))⟩
 | k+1,i,s,hk,hz,h1,h2=>by
  have hi:i<L.length:=by omega
  have he:L[((i:Int)).toNat]? =some L[i]:=by simp [hi]
  rw [y8 hi]
  simp only [takeV]
  have w:wrp .i64 ((i:Int)+1)=((i+1:Nat):Int):=by rw [z27 (by omega) (by omega)];omega
  by_cases c:L[i].Index=s.Index
  ·rw [if_pos c]
   by_cases d:FitsR L[i]
   ·rw [if_pos d]
    obtain ⟨z,hz1,hS⟩:=z6i s.State hz.1 (by omega) L[i].Op
    have hN:=z54 s.Table hz.2 (by omega) ⟨L[i].Index,L[i].Proc,L[i].Seq,L[i].Op,(stepV s.State L[i].Op).2⟩
    have hl:=z6q s.State L[i].Op
    have hn:=z5w s.Table.l L[i].Proc L[i].Seq (stepV s.State L[i].Op).2
    have key:=z6r z false (nextN s L[i]) (L.drop (i+1))
    obtain ⟨y,y',hy,ih⟩:=z6v zz L hL k (i+1) (setZ z false (nextN s L[i])) (by omega) ⟨hz1,fun h=>by cases h⟩ (by simp only [setZ,nextN,nextS];omega) (by simp only [setZ,nextN,nextS];omega)
    rw [key] at hy ih
    rw [<- w] at ih
    refine ⟨y,y',hy,Ev.su (Ev.po (Ev.po (Ev.opt he (Ev.pos c (Ev.bind (z3p _) (Ev.pos (by simpa using d) (Ev.bind hS (Ev.bind hN ?_))))))))⟩
    exact ih
   ·rw [if_neg d]
    refine ⟨true,true,⟨fun _=>rfl,fun _=>rfl⟩,Ev.su (Ev.po (Ev.po (Ev.opt he (Ev.pos c (Ev.bind (z3p _) (Ev.neg (by simpa using d) ?_))))))⟩
    exact Ev.ret _
  ·rw [if_neg c]
   refine ⟨true,true,⟨fun _=>rfl,fun _=>rfl⟩,Ev.su (Ev.po (Ev.po (Ev.opt he (Ev.neg c ?_))))⟩
   exact Ev.ret _
theorem z6w (s:zli) (r:Sl zle) (hr:r.l.length<=5000) (hz:zOk s.State.L.z s.Table.z s) (h1:s.State.L.l.length<=800000) (h2:s.Table.l.length<=800000):
  ∃z z',zOk z z' (takeV s r.l).1/\Ev (fun q=>zmt q s r) (setZ z z' (takeV s r.l).1,(takeV s r.l).2):=by
 suffices h: ∃z z',zOk z z' (takeV s r.l).1/\Ev (fun q=>zms q r.z r.l (r.l.length:Int) s.Index s.State.Kind s.State.L.z s.State.L.l s.State.Sealed s.State.To s.Table.z s.Table.l) (setZ z z' (takeV s r.l).1,(takeV s r.l).2) by
  obtain ⟨z,z',h,h3⟩:=h
  exact ⟨z,z',h,Ev.su h3⟩
 by_cases h0:r.l.length=0
 ·have hT:takeV s r.l=(setZ false false s,0):=by rw [y33 h0];rfl
  rw [hT]
  exact ⟨s.State.L.z,s.Table.z,hz,Ev.su (Ev.ne (Ev.ret _))⟩
 ·have hi:0<r.l.length:=by omega
  have he:r.l[0]? =some r.l[0]:=y6 hi
  have hd:r.l=r.l[0]::r.l.drop 1:=by
   have:=y8 hi
   rwa [y36] at this
  have hT:takeV s r.l=if r.l[0].Index=s.Index then (if FitsR r.l[0] then takeV (nextN s r.l[0]) (r.l.drop 1) else (noTN,1)) else (noTN,15):=by
   have:=congrArg (takeV s) hd
   exact this
  rw [hT]
  have w:wrp .i64 1=((1:Nat):Int):=by rw [z27 (by omega) (by omega)];rfl
  generalize r.l[0]=e at he hT ⊢
  by_cases c:e.Index=s.Index
  ·rw [if_pos c]
   by_cases d:FitsR e
   ·rw [if_pos d]
    obtain ⟨z,hz1,hS⟩:=z6i s.State hz.1 (by omega) e.Op
    have hN:=z54 s.Table hz.2 (by omega) ⟨e.Index,e.Proc,e.Seq,e.Op,(stepV s.State e.Op).2⟩
    have hl:=z6q s.State e.Op
    have hn:=z5w s.Table.l e.Proc e.Seq (stepV s.State e.Op).2
    have key:=z6r z false (nextN s e) (r.l.drop 1)
    obtain ⟨y,y',hy,ih⟩:=z6v r.z r.l hr (r.l.length - 1) 1 (setZ z false (nextN s e)) (by omega) ⟨hz1,fun h=>by cases h⟩ (by simp only [setZ,nextN,nextS];omega) (by simp only [setZ,nextN,nextS];omega)
    rw [key] at hy ih
    rw [<- w] at ih
    refine ⟨y,y',hy,Ev.su (Ev.po (Ev.opt he (Ev.pos c (Ev.bind (z3p _) (Ev.pos (by simpa using d) (Ev.bind hS (Ev.bind hN ?_)))))))⟩
    exact ih
   ·rw [if_neg d]
    refine ⟨true,true,⟨fun _=>rfl,fun _=>rfl⟩,Ev.su (Ev.po (Ev.opt he (Ev.pos c (Ev.bind (z3p _) (Ev.neg (by simpa using d) ?_)))))⟩
    exact Ev.ret _
  ·rw [if_neg c]
   refine ⟨true,true,⟨fun _=>rfl,fun _=>rfl⟩,Ev.su (Ev.po (Ev.opt he (Ev.neg c ?_)))⟩
   exact Ev.ret _
theorem z6x: ∀(l:List zle) (s:zli),(takeV s l).1.State.L.l.length<=s.State.L.l.length+4*l.length/\(takeV s l).1.Table.l.length<=s.Table.l.length+l.length
 | [],s=>by simp [takeV,setZ]
 | r::l,s=>by
  rw [z6s]
  split
  ·split
   ·have h:=z6x l (nextN s r)
    have h1:=z6q s.State r.Op
    have h2:=z5w s.Table.l r.Proc r.Seq (stepV s.State r.Op).2
    simp only [nextN,nextS,y20] at h ⊢
    omega
   ·simp [noTN]
  ·simp [noTN]
def foldV:zlg->List zld->zlg
 | s,[]=>⟨s.Kind,⟨false,s.L.l⟩,s.Sealed,s.To⟩
 | s,o::l=>foldV (nextS s o) l
theorem z6y: ∀(l:List zle) (s:zli),(takeV s l).2=0->(takeV s l).1.State=foldV s.State (l.map (·.Op))/\(takeV s l).1.Index=s.Index+(l.length:Int)/\(l≠[]->0<=s.Index/\s.Index<4611686018427387904)
 | [],s,h=>⟨rfl,by simp [takeV,setZ],fun e=>absurd rfl e⟩
 | r::l,s,h=>by
  obtain ⟨c,d,e⟩:=z6t h
  rw [e] at h ⊢
  obtain ⟨h1,h2,_⟩:=z6y l (nextN s r) h
  have hb:=d
  unfold FitsR at hb
  have hi:0<=s.Index/\s.Index<4611686018427387904:=by omega
  refine ⟨h1,?_,fun _=>hi⟩
  rw [h2,show (nextN s r).Index=wrp .i64 (s.Index+1) from rfl,z27 (by omega) (by omega),y20];omega
theorem z6z (x:Int): ∀{l:List Int},(∀y∈l,x<=y)->insI x l=x::l
 | [],_=>rfl
 | y::l,h=>by unfold insI;rw [if_pos (h y (by simp))]
theorem z60: ∀{now:List (Int×Nat)},(now.map (·.1)).Pairwise (· <= ·)->dNames now=now.map (·.1)
 | [],_=>rfl
 | p::l,h=>by
  rw [y32,List.pairwise_cons] at h
  show insI p.1 (dNames l)=_
  rw [z60 h.2,z6z _ h.1];rfl
def nms (k:Nat):List Int:=(List.range k).map fun i:Nat=>2+2*(i:Int)
theorem z61 (k:Nat):(nms k).length=k:=by simp [nms]
theorem z62 (k:Nat):nms (k+1)=nms k++[2+2*(k:Int)]:=by simp [nms,List.range_succ]
theorem z63 {k:Nat} {x:Int}:x∈nms k<-> ∃i:Nat,i<k/\x=2+2*(i:Int):=by
 unfold nms;rw [List.mem_map]
 exact ⟨fun ⟨i,h,e⟩=>⟨i,by simpa using h,e.symm⟩,fun ⟨i,h,e⟩=>⟨i,by simpa using h,e.symm⟩⟩
theorem nms_up (k:Nat):(nms k).Pairwise (· <= ·):=by
 induction k with
 | zero=>exact .nil
 | succ k ih=>
  rw [z62,List.pairwise_append]
  refine ⟨ih,by simp,fun x hx y hy=>?_⟩
  obtain ⟨i,h,rfl⟩:=z63.1 hx
  simp at hy;omega
theorem z64 {k:Nat} {x:Int} (h:x∈nms k):fOther 2 x=false:=by
 obtain ⟨i,_,rfl⟩:=z63.1 h
 unfold fOther
 rw [decide_eq_false (by omega),Bool.false_or]
 rw [show (2+2*(i:Int)).tmod 2=0 from by rw [Int.tmod_eq_emod_of_nonneg (by omega)];omega];rfl
structure TI (d:Dk) (k u:Nat):Prop where
 out:d.out=false
 armed:d.armed=false
 room:d.room=1000000
 names:d.now.map (·.1)=nms k
 used:dUsed d.now<=u
 wts:d.wts<=k
variable {d:Dk} {k u:Nat}
theorem TI.new:TI (dNew 1000000) 0 0:=⟨rfl,rfl,rfl,rfl,y13 _,y13 _⟩
theorem TI.mono {u':Nat} (h:TI d k u) (hu:u<=u'):TI d k u':=⟨h.out,h.armed,h.room,h.names,Nat.le_trans h.used hu,h.wts⟩
theorem TI.len (h:TI d k u):d.now.length=k:=by rw [<- y23 (f:=fun p:Int×Nat=>p.1),h.names,z61]
theorem TI.dN (h:TI d k u):dNames d.now=nms k:=by rw [z60 (by rw [h.names];exact nms_up k),h.names]
theorem TI.dF (h:TI d k u) (hk:k<=4294967296):dF d 2=some (decide (k=0),nms k):=by
 unfold Go.Dvm.dF dFiles
 rw [if_pos (by rw [h.len];exact hk),h.dN,z61,List.filter_eq_self.2 fun x hx=>by rw [z64 hx];rfl]
theorem z65: ∀{l:List (Int×Nat)} {n:Int},n∈l.map (·.1)-> ∃x,dlook l n=some x
 | [],_,h=>by simp at h
 | (k,y)::l,n,h=>by
  unfold dlook
  by_cases c:n=k
  ·exact ⟨y,by simp [c]⟩
  ·have:n∈l.map (·.1):=by
    rcases List.mem_cons.1 h with e | e
    ·exact absurd e c
    ·exact e
   obtain ⟨x,hx⟩:=z65 this
   exact ⟨x,by simp [c,Ne.symm c,hx]⟩
theorem z66: ∀{l:List (Int×Nat)} {n:Int} {x:Nat} (m:Nat),dlook l n=some x->(dset l n (x+m)).map (·.1)=l.map (·.1)/\dUsed (dset l n (x+m))=dUsed l+m
 | [],_,_,_,h=>by simp [dlook] at h
 | (k,y)::l,n,x,m,h=>by
  unfold dlook at h
  unfold dset
  by_cases c:n=k
  ·subst c
   simp at h;subst h
   simp [dUsed];omega
  ·simp [c,Ne.symm c] at h ⊢
   obtain ⟨h1,h2⟩:=z66 m h
   refine ⟨h1,?_⟩
   simp only [dUsed,y32,List.sum_cons] at h2 ⊢;omega
theorem did_id {d:Dk} (h:d.armed=false):did d=d:=by unfold did;rw [h];rfl
theorem TI.fresh (h:TI d k u) {m:Nat} (hu:u+m<=1000000) (hk:k<=500000): ∃d',dA d (2+2*(k:Int)) m=some (d',0)/\TI d' (k+1) (u+m):=by
 have hn:(2+2*(k:Int))∉d.now.map (·.1):=by
  rw [h.names];intro hx
  obtain ⟨i,hi,e⟩:=z63.1 hx;omega
 have h1:=h.used
 have h2:=h.wts
 have hM:most=4294967296:=rfl
 refine ⟨{d with now:=d.now++[(2+2*(k:Int),m)],wts:=d.wts+1},?_,⟨h.out,h.armed,h.room,by rw [List.map_append,h.names,z62];rfl,?_,by show d.wts+1<=k+1;omega⟩⟩
 ·unfold dA dApp
  rw [if_pos ⟨by omega,by omega⟩,if_neg (by rw [h.out];decide),if_neg (by omega),if_neg (by rw [h.room];omega),zks hn,zkp _ hn]
  simp only [Option.getD_none,y41,Option.isSome_none,y17,if_false]
  rw [did_id (by exact h.armed)]
 ·simp only [dUsed,List.map_append,List.sum_append,y32,y57,List.sum_cons,List.sum_nil] at h1 ⊢;omega
theorem TI.more (h:TI d (k+1) u) {m:Nat} (hu:u+m<=1000000) (hk:k<=500000): ∃d',dA d (2+2*(k:Int)) m=some (d',0)/\TI d' (k+1) (u+m):=by
 have hn:(2+2*(k:Int))∈d.now.map (·.1):=by
  rw [h.names,z63];exact ⟨k,by omega,rfl⟩
 obtain ⟨x,hx⟩:=z65 hn
 obtain ⟨e1,e2⟩:=z66 m hx
 have h1:=h.used
 have h2:=h.wts
 have hM:most=4294967296:=rfl
 refine ⟨{d with now:=dset d.now (2+2*(k:Int)) (x+m)},?_,⟨h.out,h.armed,h.room,by rw [<- h.names];exact e1,by show dUsed (dset _ _ _)<=_;omega,h2⟩⟩
 unfold dA dApp
 rw [if_pos ⟨by omega,by omega⟩,if_neg (by rw [h.out];decide),if_neg (by omega),if_neg (by rw [h.room];omega),hx]
 simp only [y44,Option.isSome_some,if_true]
 rw [did_id (by exact h.armed)]
theorem TI.sync (h:TI d (k+1) u):dS d (2+2*(k:Int))=some (d,0):=by
 have hn:(2+2*(k:Int))∈d.now.map (·.1):=by
  rw [h.names,z63];exact ⟨k,by omega,rfl⟩
 obtain ⟨x,hx⟩:=z65 hn
 unfold dS dSync
 rw [if_neg (by rw [h.out];decide),hx,did_id h.armed];rfl
theorem TI.dir (h:TI d k u): ∃d',dD d=some (d',0)/\TI d' k u:=by
 refine ⟨{d with wts:=0},?_,⟨h.out,h.armed,h.room,h.names,h.used,Nat.zero_le _⟩⟩
 unfold dD dSyncD
 rw [if_neg (by rw [h.out];decide),did_id (by exact h.armed)]
theorem z67 (z:Bool) (k:Nat) (hk:k<=1000000):Ev (fun q=>znp q ⟨z,nms (k+1)⟩) (2+2*(k:Int),true):=by
 have hl:=z61 (k+1)
 have w:wrp .i64 (((nms (k+1)).length:Int) - 1)=(k:Int):=by rw [hl,z27]<;>omega
 refine Ev.su (Ev.neg (by simp only;omega) (Ev.pos (by simp only;omega) (Ev.opt (s:=2+2*(k:Int)) ?_ (Ev.ret _))))
 simp only [w,y26]
 rw [z62,y18 (by rw [z61];omega),z61];simp
def recMk (next:Int) (o:zlf) (i:Nat):zle:=⟨next+i,Int.tmod i 3,Int.tmod next 1000,o.Op,0⟩
def recs (next:Int) (o:zlf) (n:Nat):List zle:=(List.range n).map (recMk next o)
def manyO (o:zlf):Nat:=min o.Many.toNat 20
theorem z68 (next:Int) (o:zlf) (n:Nat):(recs next o n).length=n:=by simp [recs]
theorem z69 (next:Int) (o:zlf) (n:Nat):recs next o (n+1)=recs next o n++[recMk next o n]:=by simp [recs,List.range_succ]
theorem Rec_l0 (next:Int) (o:zlf) (h1:0<=next) (h2:next<=1000000): ∀(k i:Nat) (z:Bool),manyO o=i+k->
  Ev (fun q=>zmu q next (i:Int) o.Kind o.Many o.N o.Op.Code o.Op.A o.Op.B o.Keep.z o.Keep.l o.Records.z o.Records.l o.B.z o.B.l z (recs next o i)) ⟨z && decide (k=0),true,recs next o (manyO o)⟩
 | 0,i,z,h=>by
  have hm:manyO o=min o.Many.toNat 20:=rfl
  have e:(⟨z,true,recs next o i⟩:Ow zle)=⟨z && decide (0=0),true,recs next o (manyO o)⟩:=by rw [h];simp
  rw [<- e]
  exact Ev.su (Ev.ite (fun c=>Ev.ne (Ev.ret _)) fun _=>Ev.ret _)
 | k+1,i,z,h=>by
  have hm:manyO o=min o.Many.toNat 20:=rfl
  have ih:=Rec_l0 next o h1 h2 k (i+1) false (by omega)
  have w:wrp .i64 ((i:Int)+1)=((i+1:Nat):Int):=by rw [z27]<;>omega
  have w2:wrp .i64 (next+(i:Int))=next+i:=by rw [z27]<;>omega
  have hl:=z68 next o i
  have e:(⟨false && decide (k=0),true,recs next o (manyO o)⟩:Ow zle)=⟨z && decide (k+1=0),true,recs next o (manyO o)⟩:=by simp
  rw [<- e]
  refine Ev.su (Ev.po (Ev.po (Ev.pos (by rw [hl];omega) ?_)))
  rw [w,w2]
  rw [z69] at ih
  exact ih
theorem z7a (next:Int) (o:zlf) (h1:0<=next) (h2:next<=1000000):Ev (fun q=>zmv q next o) ⟨decide (manyO o=0),true,recs next o (manyO o)⟩:=by
 have:=Rec_l0 next o h1 h2 (manyO o) 0 true (by omega)
 rw [y58] at this
 exact Ev.su this
def core (a:zli):zli:=setZ false false a
def ZO (a:zli):Prop:=zOk a.State.L.z a.Table.z a
theorem z7b: ∀(l:List zle) (s:zli),core (takeV s l).1=(takeV s l).1
 | [],_=>rfl
 | r::l,s=>by
  rw [z6s]
  split
  ·split
   ·exact z7b l _
   ·rfl
  ·rfl
theorem z7c (s:zli) (l:List zle):takeV (core s) l=takeV s l:=z6r false false s l
theorem z7d: ∀{l:List zle} {s:zli},chainB l s.Index=true->(takeV s l).2=0
 | [],_,_=>rfl
 | r::l,s,h=>by
  simp only [chainB,y5,decide_eq_true_eq] at h
  obtain ⟨h1,h2,h3⟩:=h
  rw [z6s,if_pos h2,if_pos h1]
  have hi:=z4r h1
  have w:(nextN s r).Index=s.Index+1:=by show wrp .i64 (s.Index+1)=_;rw [z27]<;>omega
  exact z7d (by rw [w];exact h3)
/-- A snapshot of some records. -/
structure SnOk (a:zli) (n:Nat):Prop where
 z:ZO a
 l:a.State.L.l.length<=4*n+10
 t:a.Table.l.length<=n
theorem z7e (a:zli) (n:Nat) (r:Sl zle) (h:SnOk a n) (hn:n<=5000) (hr:r.l.length<=300) (hc:chainB r.l a.Index=true):
  ∃a',Ev (fun q=>zmt q a r) (a',0)/\core a'=(takeV a r.l).1/\SnOk a' (n+r.l.length):=by
 have h1:=h.l
 have h2:=h.t
 obtain ⟨z,z',hz,he⟩:=z6w a r (by omega) h.z (by omega) (by omega)
 rw [z7d hc] at he
 have hl:=z6x r.l a
 exact ⟨setZ z z' (takeV a r.l).1,he,z7b _ _,⟨hz,by show (takeV a r.l).1.State.L.l.length<=_;omega,by show (takeV a r.l).1.Table.l.length<=_;omega⟩⟩
theorem z7f (s:Sl Int) (h:s.z=true->s.l=[]) (hl:s.l.length<=4294967296): ∃x,Ev (fun q=>zlv q s) ⟨s.z,x,s.l⟩:=by
 cases hz:s.z
 ·exact ⟨true,Ev.su (Ev.neg (by rw [hz];decide) (Ev.pos hl (Ev.ret _)))⟩
 ·exact ⟨true,Ev.su (Ev.pos hz (Ev.ret' (by rw [h hz])))⟩
theorem z7g (s:Sl zlh) (h:s.z=true->s.l=[]) (hl:s.l.length<=4294967296): ∃x,Ev (fun q=>zlw q s) ⟨s.z,x,s.l⟩:=by
 cases hz:s.z
 ·exact ⟨true,Ev.su (Ev.neg (by rw [hz];decide) (Ev.pos hl (Ev.ret _)))⟩
 ·exact ⟨true,Ev.su (Ev.pos hz (Ev.ret' (by rw [h hz])))⟩
theorem z7h (s:Sl zle) (h:s.z=true->s.l=[]) (hl:s.l.length<=4294967296): ∃x,Ev (fun q=>znq q s) ⟨s.z,x,s.l⟩:=by
 cases hz:s.z
 ·exact ⟨true,Ev.su (Ev.neg (by rw [hz];decide) (Ev.pos hl (Ev.ret _)))⟩
 ·exact ⟨true,Ev.su (Ev.pos hz (Ev.ret' (by rw [h hz])))⟩
theorem z7i (a:zli) (n:Nat) (h:SnOk a n) (hn:n<=5000):Ev (fun q=>zlx q a) a:=by
 have h1:=h.l
 have h2:=h.t
 obtain ⟨x,e1⟩:=z7f a.State.L h.z.1 (by omega)
 obtain ⟨y,e2⟩:=z7g a.Table h.z.2 (by omega)
 refine Ev.su (Ev.bind e1 (Ev.bind e2 ?_))
 exact Ev.ret _
theorem z7j (a b:zli) (n m:Nat) (h:SnOk a n) (h':SnOk b m) (hn:n<=5000) (e:core a=core b):Ev (fun q=>zny q a b) true:=by
 have h1:=h.l
 have h2:=h.t
 have:=z5s a b (by omega) (by omega)
 have e1:sameN a b=true:=by
  obtain ⟨i,⟨k,⟨z,l⟩,s,t⟩,⟨z',T⟩⟩:=a
  obtain ⟨i2,⟨k2,⟨z2,l2⟩,s2,t2⟩,⟨z3,T2⟩⟩:=b
  simp only [core,setZ,zli.mk.injEq,zlg.mk.injEq,Sl.mk.injEq,true_and] at e
  obtain ⟨rfl,⟨rfl,rfl,rfl,rfl⟩,rfl⟩:=e
  simp [sameN,sameS]
 rw [e1] at this;exact this
theorem z7k (z:Bool) (L:List zlf) (hL:L.length<=60): ∀(k i:Nat),L.length=i+k-> ∃b,Ev (fun q=>zlr q z L (i:Int)) b
 | 0,i,h=>⟨true,Ev.su (Ev.ne (Ev.ret _))⟩
 | k+1,i,h=>by
  have hi:i<L.length:=by omega
  have w:wrp .i64 ((i:Int)+1)=((i+1:Nat):Int):=by rw [z27]<;>omega
  obtain ⟨b,ih⟩:=z7k z L hL k (i+1) (by omega)
  rw [<- w] at ih
  have he:L[(i:Int).toNat]? =some L[i]:=by rw [y26];exact y6 hi
  by_cases c1:20<(L[i].Records.l.length:Int)
  ·exact ⟨false,Ev.su (Ev.po (Ev.po (Ev.opt he (Ev.pos c1 (Ev.ret _)))))⟩
  ·by_cases c2:300<(L[i].B.l.length:Int)
   ·exact ⟨false,Ev.su (Ev.po (Ev.po (Ev.opt he (Ev.neg c1 (Ev.pos c2 (Ev.ret _))))))⟩
   ·by_cases c3:100<(L[i].Keep.l.length:Int)
    ·exact ⟨false,Ev.su (Ev.po (Ev.po (Ev.opt he (Ev.neg c1 (Ev.neg c2 (Ev.pos c3 (Ev.ret _)))))))⟩
    ·exact ⟨b,Ev.su (Ev.po (Ev.po (Ev.opt he (Ev.neg c1 (Ev.neg c2 (Ev.neg c3 ih))))))⟩
theorem Few_ev (l:Sl zlf): ∃b,Ev (fun q=>zls q l) b/\(b=true->l.l.length<=60):=by
 by_cases c:60<(l.l.length:Int)
 ·exact ⟨false,Ev.su (Ev.pos c (Ev.ret _)),fun h=>by cases h⟩
 ·obtain ⟨b,h⟩:=z7k l.z l.l (by omega) l.l.length 0 (by omega)
  exact ⟨b,Ev.su (Ev.neg c h),fun _=>by omega⟩
theorem z7l:Ev (fun q=>zlq q) true:=⟨40000,fun q hq=>by show zlq q=_;unfold zlq;rw [if_pos (by omega)]⟩
theorem z7m (a:zli) (L:List zli) (h:L=[a]):Ev (fun q=>zlu q ⟨false,L⟩) (a,true):=by
 have hl:L.length=1:=by rw [h];rfl
 have w:wrp .i64 ((L.length:Int) - 1)=0:=by rw [z27]<;>omega
 refine Ev.su (Ev.neg (by simp only;omega) (Ev.pos (by simp only;omega) (Ev.opt (s:=a) ?_ (Ev.ret _))))
 simp only [w];rw [h];rfl
theorem z7n (a:zli):Ev (fun q=>zlu q ⟨false,[a]⟩) (a,true):=z7m a _ rfl
theorem z7o (k:Int) (h1:0<=k) (h2:k<6): ∃s,Ev (fun q=>zlt q k) s/\SnOk ⟨0,s,⟨true,[]⟩⟩ 0:=by
 have ok0:SnOk ⟨0,(⟨k,⟨false,[0]⟩,false,0⟩:zlg),⟨true,[]⟩⟩ 0:=⟨⟨fun h=>(by cases h),fun _=>rfl⟩,by simp,by simp⟩
 have ok1:SnOk ⟨0,(⟨k,⟨true,[]⟩,false,0⟩:zlg),⟨true,[]⟩⟩ 0:=⟨⟨fun h=>rfl,fun _=>rfl⟩,by simp,by simp⟩
 by_cases c:k=0\/k=1
 ·refine ⟨_,Ev.su (Ev.ite (fun _=>Ev.ret _) fun h=>Ev.po (Ev.ret _)),ok0⟩
 ·refine ⟨_,Ev.su (Ev.ne (Ev.ne (Ev.ite (fun _=>Ev.ret _) fun _=>Ev.ite (fun _=>Ev.ret _) fun _=>Ev.ite (fun _=>Ev.ret _) fun _=>Ev.po (Ev.ret _)))),ok1⟩
/-- What the second store is like. -/
structure TSt (b:zli) (cur:Int) (nm:Bool) (d:Dk) (P:List zlj) (n:Nat):Prop where
 k: ∃k u:Nat,TI d (k+1) u/\u<=150*n/\k+1<=n/\(cur=0\/cur=2+2*(k:Int)/\nm=false)
 p1:1<=P.length
 p2:P.length<=n
 sn:SnOk b n
theorem z7p (rz:Bool) (x:zle) (h:FitsR x):Ev (fun q=>zm5 q ⟨rz,[x]⟩) (⟨false,true,blkE [x]⟩,0):=by
 have:=z4z ⟨rz,[x]⟩ (by simp)
 have e:blkOk [x]=true:=by simp [blkOk,chainB,h]
 simp only [e,if_true] at this;exact this
theorem z7q {l:List zle} (h: ∀r∈l,FitsR r):(blkE l).length<=20+60*l.length:=by
 cases l with
 | nil=>simp [blkE]
 | cons r l=>
  have:=z42 (l:=r::l) (pr:=[]) h (by simp)
  have h1:=z3f r.Index
  have h2:=z3f ((r::l).length:Int)
  simp only [blkE,y9];omega
theorem z7r (l:List zle):isB (blkE l):=by
 cases l with
 | nil=>intro c hc;simp [blkE] at hc
 | cons r l=>exact z4o.2 ⟨z4n _,z4o.2 ⟨z4n _,z44 _ _⟩⟩
theorem z7s (zz:Bool) (l:List zle) (h: ∀r∈l,FitsR r) (hl:l.length<=300): ∃z,Ev (fun q=>znl q ⟨zz,blkE l⟩) (⟨z,true,encF (blkE l)⟩,0):=
 z4p ⟨zz,blkE l⟩ (z7r l) (by have:=z7q h;simp only;omega)
theorem z7t (kd n:Int) (h1:0<=kd) (h2:kd<6) (h3:0<=n) (h4:n<4611686018427387904): ∃z,Ev (fun q=>zno q 3 kd n) (⟨z,true,encF (headD 3 kd n)⟩,0):=by
 obtain ⟨z,h⟩:=z48 3 kd n
 rw [if_neg (by omega),if_neg (by unfold headBad;omega)] at h
 exact ⟨z,h⟩
section
variable (z:Bool) (ops:List zlf) (kd:Int) (hk1:0<=kd) (hk2:kd<6) (h02 h12:Nat) (bs bt:List zli)
include hk1 hk2
theorem l2_ev (i:Nat) (hi:i<ops.length) (hops:ops.length<=60) (h06:Int) (a a0:zli) (rz:Bool) (hrz:rz=false) (r:List zle) (dS:Dk) (ps:List zlj) (L0:List zle) (n0:Nat) (hL0:L0.length=n0)
  (hn:n0+r.length<=1300) (hch:chainB r a0.Index=true) (hix:a0.Index=(n0:Int)) (hr1:0<r.length) (hr2:r.length<=20)
  (K: ∀(h16:Int) (b:zli) (cur:Int) (nm:Bool) (d:Dk) (P:List zlj),core b=(takeV a0 r).1->TSt b cur nm d P (n0+r.length)->
   Ev (fun q=>zn6 q z ops ((i+1:Nat):Int) kd h02 0 h06 a.Index a.State.Kind a.State.L.z a.State.L.l a.State.Sealed a.State.To a.Table.z a.Table.l kd h12 0 h16 b.Index b.State.Kind b.State.L.z b.State.L.l b.State.Sealed b.State.To b.Table.z b.Table.l cur nm dS bs ps false (L0++r) d bt P false (L0++r)) true):
  ∀(k j:Nat),r.length=j+k-> ∀(h16:Int) (b:zli) (cur:Int) (nm:Bool) (d:Dk) (P:List zlj),1<=n0+j->core b=(takeV a0 (r.take j)).1->TSt b cur nm d P (n0+j)->
   Ev (fun q=>zn5 q z ops (i:Int) (j:Int) kd h02 0 h06 a.Index a.State.Kind a.State.L.z a.State.L.l a.State.Sealed a.State.To a.Table.z a.Table.l kd h12 0 h16 b.Index b.State.Kind b.State.L.z b.State.L.l b.State.Sealed b.State.To b.Table.z b.Table.l cur nm rz r dS bs ps false (L0++r) d bt P false (L0++r.take j)) true
 | 0,j,hk,h16,b,cur,nm,d,P,hnj,hb,hT=>by
  have ht:r.take j=r:=List.take_of_length_le (by omega)
  rw [ht] at hb ⊢
  have w:wrp .i64 ((i:Int)+1)=((i+1:Nat):Int):=by rw [z27]<;>omega
  have:=K h16 b cur nm d P hb (by rw [show n0+r.length=n0+j by omega];exact hT)
  rw [<- w] at this
  exact Ev.su (Ev.neg (by omega) this)
 | k+1,j,hk,h16,b,cur,nm,d,P,hnj,hb,hT=>by
  have hj:j<r.length:=by omega
  have ih:=l2_ev i hi hops h06 a a0 rz hrz r dS ps L0 n0 hL0 hn hch hix hr1 hr2 K k (j+1) (by omega)
  have w1:wrp .i64 ((j:Int)+1)=((j+1:Nat):Int):=by rw [z27]<;>omega
  have hlog:(L0++r.take j).length=n0+j:=by rw [y9,y19,hL0];omega
  have w2:wrp .i64 (0+(((L0++r.take j).length:Nat):Int))=((n0+j:Nat):Int):=by rw [hlog,z27]<;>omega
  have e1:List.take 1 (List.drop j r)=[r[j]]:=by rw [y8 hj];rfl
  have e2:min 1 (r.length - j)=1:=by omega
  have hcd:=z41 hch j
  rw [y8 hj] at hcd
  simp only [chainB,y5,decide_eq_true_eq] at hcd
  obtain ⟨f1,f2,_⟩:=hcd
  have hF: ∀x∈[r[j]],FitsR x:=fun x hx=>by simp at hx;subst hx;exact f1
  have bE:=z7p rz r[j] f1
  obtain ⟨zf,fE⟩:=z7s false [r[j]] hF (by simp)
  obtain ⟨zh,hE⟩:=z7t kd ((n0+j:Nat):Int) hk1 hk2 (by omega) (by omega)
  have l1:=z7q hF
  have l2:=(z49 (blkE [r[j]])).1
  have l3:=z5a 3 kd ((n0+j:Nat):Int)
  simp only [List.length_singleton] at l1
  have hg:r[j]? =some r[j]:=y6 hj
  have hgo:ops[i]? =some ops[i]:=y6 hi
  obtain ⟨⟨k0,u,hTI,hu,hkn,hcur⟩,hp1,hp2,hsn⟩:=hT
  have hbi:b.Index=((n0+j:Nat):Int):=by
   have h1:(core b).Index=b.Index:=rfl
   rw [<- h1,hb,(z6y _ _ (z7d (z40 hch j))).2.1,hix,y19];omega
  obtain ⟨b',tE,hb',hsn'⟩:=z7e b (n0+j) ⟨rz,[r[j]]⟩ hsn (by omega) (by simp) (by simp only [chainB,Bool.and_true,y5,decide_eq_true_eq];exact ⟨f1,by rw [f2,hbi,hix];omega⟩)
  have hb2:core b'=(takeV a0 (r.take (j+1))).1:=by
   rw [hb',<- z7c b,hb,<- z6u _ _ _ (z7d (z40 hch j)),List.take_succ,hg];rfl
  have hlt:L0++r.take j++[r[j]]=L0++r.take (j+1):=by rw [y31,List.take_succ,hg];rfl
  simp only [List.length_singleton] at hsn'
  have w3:wrp .i64 (2+2*(k0:Int)+2)=2+2*((k0+1:Nat):Int):=by rw [z27]<;>omega
  refine Ev.succ ?_ (fun q=>zn5.eq_2 ..)
  simp only [w1,y26,Nat.add_sub_cancel_left,w2,e1,e2]
  refine Ev.po (Ev.po (Ev.po (Ev.po (Ev.neg (by rw [hrz];decide) (Ev.bind bE (Ev.pos rfl (Ev.po (Ev.opt hg (Ev.pos (by rw [f2,hix];omega) (Ev.bind fE ?_))))))))))
  have hlog2:(L0++r.take j).length+1<=4294967296:=by omega
  by_cases hc:cur=0
  ·obtain ⟨d',hd,hTI'⟩:=hTI.fresh (m:=(encF (headD 3 kd ((n0+j:Nat):Int))).length+(encF (blkE [r[j]])).length) (by omega) (by omega)
   refine Ev.pos hc (Ev.bind hE (Ev.opt (hTI.dF (by omega)) (Ev.bind (z67 _ k0 (by omega)) ?_)))
   simp only [w3]
   refine Ev.pos trivial (Ev.po (Ev.opt hd (Ev.pos rfl (Ev.po (Ev.po (Ev.pos hlog2 (Ev.bind tE (Ev.po (Ev.opt hgo ?_)))))))))
   rw [hlt]
   have hPl: ∀(x y:zlj),(List.set (P++[x]) P.length y).length=P.length+1:=fun x y=>by simp
   by_cases hN:Int.tmod ops[i].N 2=0
   ·obtain ⟨d2,hd2,hTI2⟩:=hTI'.dir
    refine Ev.pos hN (Ev.ne (Ev.opt hTI'.sync (Ev.pos rfl (Ev.opt hd2 (Ev.pos rfl ?_)))))
    exact ih _ b' 0 true d2 _ (by omega) hb2 ⟨⟨k0+1,_,hTI2,by omega,by omega, .inl rfl⟩,by rw [hPl];omega,by rw [hPl];omega,hsn'⟩
   ·refine Ev.neg hN ?_
    exact ih _ b' _ false d' _ (by omega) hb2 ⟨⟨k0+1,_,hTI',by omega,by omega, .inr ⟨rfl,rfl⟩⟩,by rw [hPl];omega,by rw [hPl];omega,hsn'⟩
  ·obtain ⟨rfl,rfl⟩:cur=2+2*(k0:Int)/\nm=false:=hcur.resolve_left hc
   obtain ⟨d',hd,hTI'⟩:=hTI.more (m:=(encF (blkE [r[j]])).length) (by omega) (by omega)
   have wP:wrp .i64 ((P.length:Int) - 1)=((P.length - 1:Nat):Int):=by rw [z27]<;>omega
   have hgP:P[P.length - 1]? =some P[P.length - 1]:=y6 (by omega)
   refine Ev.neg hc ?_
   simp only [wP,y26]
   refine Ev.opt hd (Ev.pos rfl (Ev.po (Ev.po (Ev.opt hgP (Ev.pos hlog2 (Ev.bind tE (Ev.po (Ev.opt hgo ?_))))))))
   rw [hlt]
   have hPl: ∀(x:Nat) (y:zlj),(List.set P x y).length=P.length:=fun x y=>by simp
   by_cases hN:Int.tmod ops[i].N 2=0
   ·obtain ⟨d2,hd2,hTI2⟩:=hTI'.dir
    refine Ev.pos hN (Ev.opt hTI'.sync (Ev.pos rfl (Ev.neg (by decide) (Ev.opt hd2 (Ev.pos rfl ?_)))))
    exact ih _ b' 0 true d2 _ (by omega) hb2 ⟨⟨k0,_,hTI2,by omega,by omega, .inl rfl⟩,by rw [hPl];omega,by rw [hPl];omega,hsn'⟩
   ·refine Ev.neg hN ?_
    exact ih _ b' _ false d' _ (by omega) hb2 ⟨⟨k0,_,hTI',by omega,by omega, .inr ⟨rfl,rfl⟩⟩,by rw [hPl];omega,by rw [hPl];omega,hsn'⟩
end
theorem take_nil (s:zli):(takeV s []).1=core s:=rfl
/-- What the first store is like behind i calls. -/
structure SSt (dS:Dk) (ps:List zlj) (i:Nat):Prop where
 d: ∃u,TI dS 1 u/\u<=1300*i
 p:1<=ps.length/\ps.length<=100
theorem z7u {next:Int} {o:zlf} (h:blkOk (recs next o (manyO o))=true): ∃m,manyO o=m+1/\m<20/\chainB (recs next o (m+1)) next=true/\(recs next o (m+1))[0]? =some (recMk next o 0):=by
 have hm:manyO o=min o.Many.toNat 20:=rfl
 cases hc:manyO o with
 | zero=>rw [hc] at h;cases h
 | succ m=>
  have e:recs next o (m+1)=recMk next o 0::((List.range m).map fun i=>recMk next o (i+1)):=by
   simp [recs,List.range_succ_eq_map]
  refine ⟨m,rfl,by omega,?_,by rw [e];rfl⟩
  rw [hc,e] at h
  rw [e]
  simp only [blkOk,y5] at h
  have:=h.1
  rwa [show (recMk next o 0).Index=next by simp [recMk]] at this
section
variable (z:Bool) (ops:List zlf) (kd:Int) (hk1:0<=kd) (hk2:kd<6) (h02 h12:Nat) (bs bt:List zli)
include hk1 hk2
theorem l4_ev (hops:ops.length<=60): ∀(k i:Nat),ops.length=i+k-> ∀(h06:Int) (a:zli) (h16:Int) (b:zli) (cur:Int) (nm:Bool) (dS:Dk) (ps:List zlj) (d:Dk) (P:List zlj) (L:List zle) (n:Nat),
  L.length=n->1<=n->n<=20*i->core a=core b->a.Index=(n:Int)->SnOk a n->SSt dS ps i->TSt b cur nm d P n->
  Ev (fun q=>zn6 q z ops (i:Int) kd h02 0 h06 a.Index a.State.Kind a.State.L.z a.State.L.l a.State.Sealed a.State.To a.Table.z a.Table.l kd h12 0 h16 b.Index b.State.Kind b.State.L.z b.State.L.l b.State.Sealed b.State.To b.Table.z b.Table.l cur nm dS bs ps false L d bt P false L) true
 | 0,i,hi,h06,a,h16,b,cur,nm,dS,ps,d,P,L,n,hL,hn1,hn2,hab,hix,hsa,hS,hT=>by
  have w0:wrp .i64 (0 - 0)=0:=by rw [z27]<;>omega
  have wL:wrp .i64 (0+((L.length:Nat):Int))=(L.length:Int):=by rw [z27]<;>omega
  have wL2:wrp .i64 ((L.length:Int) - 0)=(L.length:Int):=by rw [z27]<;>omega
  obtain ⟨x,hcl⟩:=z7h ⟨false,L⟩ (fun h=>by cases h) (by simp only;omega)
  have hsame:=z5c ⟨false,L⟩ ⟨false,L⟩ (by simp only;omega)
  rw [decide_eq_true rfl] at hsame
  refine Ev.succ ?_ (fun q=>zn6.eq_2 ..)
  simp only [w0,wL,wL2,Int.toNat_zero,y26,Nat.sub_zero,y36,List.take_length]
  refine Ev.ne (Ev.ne (Ev.ne (Ev.ne (Ev.po (Ev.po (Ev.po (Ev.neg (by decide) (Ev.bind hcl ?_))))))))
  refine Ev.ne (Ev.ne (Ev.ne (Ev.po (Ev.po (Ev.po (Ev.neg (by decide) (Ev.bind hcl (Ev.bind hsame (Ev.pos rfl (Ev.bind (z7i a n hsa (by omega)) (Ev.bind (z7i b n hT.sn (by omega)) (Ev.bind (z7j a b n n hsa hT.sn (by omega) hab) (Ev.ret _)))))))))))))
 | k+1,i,hi,h06,a,h16,b,cur,nm,dS,ps,d,P,L,n,hL,hn1,hn2,hab,hix,hsa,hS,hT=>by
  have hil:i<ops.length:=by omega
  have ih:=l4_ev hops k (i+1) (by omega)
  have w1:wrp .i64 ((i:Int)+1)=((i+1:Nat):Int):=by rw [z27]<;>omega
  have wL:wrp .i64 (0+((L.length:Nat):Int))=(n:Int):=by rw [hL,z27]<;>omega
  have hgo:ops[i]? =some ops[i]:=y6 hil
  have hR:=z7a (n:Int) ops[i] (by omega) (by omega)
  obtain ⟨⟨us,hTI,hus⟩,hp⟩:=hS
  refine Ev.succ ?_ (fun q=>zn6.eq_2 ..)
  simp only [w1,wL,y26]
  refine Ev.po (Ev.po (Ev.opt hgo (Ev.bind hR ?_)))
  have hB:=z4z ⟨decide (manyO ops[i]=0),recs n ops[i] (manyO ops[i])⟩ (by rw [z68];have hm:manyO ops[i]=min ops[i].Many.toNat 20:=rfl;omega)
  by_cases hok:blkOk (recs n ops[i] (manyO ops[i]))=true
  ·simp only [hok,if_true] at hB
   obtain ⟨m,hm,hm2,hch,hg0⟩:=z7u hok
   rw [hm] at hB ⊢
   have hrl:=z68 (n:Int) ops[i] (m+1)
   have hzr:decide (m+1=0)=false:=by simp
   have hF:=z4w hch
   rw [hzr] at hB ⊢
   generalize hr:recs (n:Int) ops[i] (m+1)=r at*
   obtain ⟨zf,fE⟩:=z7s false r hF (by omega)
   have l1:=z7q hF
   have l2:=(z49 (blkE r)).1
   obtain ⟨d',hd,hTI'⟩:=hTI.more (k:=0) (m:=(encF (blkE r)).length) (by omega) (by omega)
   have hd:dA dS 2 (encF (blkE r)).length=some (d',0):=by simpa using hd
   obtain ⟨a',tE,ha',hsa'⟩:=z7e a n ⟨false,r⟩ hsa (by omega) (by simp only;omega) (by rw [hix];exact hch)
   simp only at hsa'
   have ha':core a'=(takeV a r).1:=ha'
   have wP:wrp .i64 ((ps.length:Int) - 1)=((ps.length - 1:Nat):Int):=by rw [z27]<;>omega
   have hgP:ps[ps.length - 1]? =some ps[ps.length - 1]:=y6 (by omega)
   refine Ev.bind hB (Ev.pos rfl (Ev.pos (by show 0<r.length;omega) (Ev.opt hg0 (Ev.pos (by simp [recMk]) (Ev.bind fE ?_)))))
   simp only [wP,y26]
   refine Ev.opt hd (Ev.pos rfl (Ev.po (Ev.po (Ev.opt hgP (Ev.pos (by show L.length+r.length<=4294967296;omega) (Ev.bind tE ?_))))))
   have hix':a'.Index=((n+r.length:Nat):Int):=by
    have h1:(core a').Index=a'.Index:=rfl
    rw [<- h1,ha',(z6y _ _ (z7d (by rw [hix];exact hch))).2.1,hix];omega
   have:=l2_ev z ops kd hk1 hk2 h02 h12 bs bt i hil hops h06 a' a false rfl r d' (List.set ps (ps.length - 1) ⟨ps[ps.length - 1].name,ps[ps.length - 1].first,wrp .i64 (ps[ps.length - 1].many+(r.length:Int))⟩) L n hL (by omega) (by rw [hix];exact hch) hix (by omega) (by omega)
    (fun h16 b cur nm d P hcb hTb=>ih h06 a' h16 b cur nm d' _ d P (L++r) (n+r.length) (by rw [y9,hL]) (by omega) (by omega) (by rw [ha',hcb]) hix' hsa' ⟨⟨_,hTI',by omega⟩,by rw [List.length_set];exact hp⟩ hTb)
    r.length 0 (by omega) h16 b cur nm d P (by omega) (by rw [List.take_zero,take_nil,hab]) (by rw [Nat.add_zero];exact hT)
   rw [List.take_zero,List.append_nil] at this
   exact this
  ·simp only [hok,y17,if_false] at hB
   refine Ev.bind hB (Ev.neg (by decide) ?_)
   exact ih h06 a h16 b cur nm dS ps d P L n hL hn1 (by omega) hab hix hsa ⟨⟨us,hTI,by omega⟩,hp⟩ hT
end
theorem z7v (z:Bool):Ev (fun q=>znp q ⟨z,nms 0⟩) (0,false):=by
 have hl:=z61 0
 refine Ev.succ ?_ (fun q=>znp.eq_2 ..)
 exact Ev.pos (by show ((nms 0).length:Int)=0;omega) (Ev.ret _)
theorem w00:wrp .i64 (0+0)=0:=by rw [z27]<;>omega
theorem w0m:wrp .i64 (0 - 0)=0:=by rw [z27]<;>omega
section
variable (z:Bool) (ops:List zlf) (kd:Int) (hk1:0<=kd) (hk2:kd<6) (h02 h12:Nat) (bs bt:List zli)
include hk1 hk2
theorem l1_ev (hops:ops.length<=60) (i:Nat) (hi:i<ops.length) (h06:Int) (a a0 b:zli) (h16:Int) (rz:Bool) (hrz:rz=false) (r:List zle) (dS d:Dk) (ps:List zlj) (hch:chainB r a0.Index=true) (hix:a0.Index=0) (hr1:0<r.length) (hr2:r.length<=20)
  (ha:core a=(takeV a0 r).1) (hb:core b=core a0) (hsa:SnOk a r.length) (hsb:SnOk b 0) (hS:SSt dS ps (i+1)) (hD:TI d 0 0):Ev (fun q=>zn7 q z ops (i:Int) kd h02 0 h06 a.Index a.State.Kind a.State.L.z a.State.L.l a.State.Sealed a.State.To a.Table.z a.Table.l kd h12 0 h16 b.Index b.State.Kind b.State.L.z b.State.L.l b.State.Sealed b.State.To b.Table.z b.Table.l rz r dS bs ps false r d bt) true:=by
 have e1:List.take 1 r=[r[0]]:=by
  cases r with
  | nil=>simp at hr1
  | cons x l=>rfl
 have e2:min 1 r.length=1:=by omega
 have hcd:=hch
 have hF0:=z4w hch
 have f1:FitsR r[0]:=hF0 _ (List.getElem_mem hr1)
 have f2:r[0].Index=0:=by
  cases r with
  | nil=>simp at hr1
  | cons x l=>simp only [chainB,y5,decide_eq_true_eq] at hcd;rw [<- hix];exact hcd.2.1
 have hF: ∀x∈[r[0]],FitsR x:=fun x hx=>by simp at hx;subst hx;exact f1
 have bE:=z7p rz r[0] f1
 obtain ⟨zf,fE⟩:=z7s false [r[0]] hF (by simp)
 obtain ⟨zh,hE⟩:=z7t kd 0 hk1 hk2 (by omega) (by omega)
 have l1:=z7q hF
 have l2:=(z49 (blkE [r[0]])).1
 have l3:=z5a 3 kd 0
 simp only [List.length_singleton] at l1
 have hg:r[0]? =some r[0]:=y6 hr1
 have hgo:ops[i]? =some ops[i]:=y6 hi
 have hbi:b.Index=0:=by
  have h1:(core b).Index=b.Index:=rfl
  rw [<- h1,hb,<- hix];rfl
 obtain ⟨b',tE,hb',hsn'⟩:=z7e b 0 ⟨rz,[r[0]]⟩ hsb (by omega) (by simp) (by simp only [chainB,Bool.and_true,y5,decide_eq_true_eq];exact ⟨f1,by rw [f2,hbi]⟩)
 have hb2:core b'=(takeV a0 (r.take 1)).1:=by rw [hb',<- z7c b,hb,z7c,e1]
 simp only [List.length_singleton] at hsn'
 obtain ⟨d',hd,hTI'⟩:=hD.fresh (m:=(encF (headD 3 kd 0)).length+(encF (blkE [r[0]])).length) (by omega) (by omega)
 have hd:dA d 2 ((encF (headD 3 kd 0)).length+(encF (blkE [r[0]])).length)=some (d',0):=by simpa using hd
 have hai:a.Index=((0+r.length:Nat):Int):=by
  have h1:(core a).Index=a.Index:=rfl
  rw [<- h1,ha,(z6y _ _ (z7d hch)).2.1,hix];omega
 have fin:=fun (h16:Int) (b:zli) (cur:Int) (nm:Bool) (d:Dk) (P:List zlj) (hcb:core b=(takeV a0 (r.take 1)).1) (hTb:TSt b cur nm d P 1)=>
  l2_ev z ops kd hk1 hk2 h02 h12 bs bt i hi hops h06 a a0 rz hrz r dS ps [] 0 rfl (by omega) hch (by rw [hix];rfl) hr1 hr2
   (fun h16 b cur nm d P hcb hTb=>l4_ev z ops kd hk1 hk2 h02 h12 bs bt hops (ops.length - (i+1)) (i+1) (by omega) h06 a h16 b cur nm dS ps d P ([]++r) (0+r.length) (by simp) (by omega) (by omega) (by rw [ha,hcb]) hai (by rw [y41];exact hsa) hS hTb)
   (r.length - 1) 1 (by omega) h16 b cur nm d P (by omega) hcb (by rw [y41];exact hTb)
 have hS1:=hTI'.sync
 have hS1:Go.Dvm.dS d' 2=some (d',0):=by simpa using hS1
 refine Ev.succ ?_ (fun q=>zn7.eq_2 ..)
 rw [e1,e2,w00]
 refine Ev.po (Ev.po (Ev.neg (by rw [hrz];decide) (Ev.bind bE (Ev.pos rfl (Ev.opt hg (Ev.pos f2 (Ev.bind fE (Ev.bind hE (Ev.opt (hD.dF (by omega)) (Ev.bind (z7v _) (Ev.neg (by decide) (Ev.pos (by show (encF (headD 3 kd 0)).length+(encF (blkE [r[0]])).length<=4294967296;omega) (Ev.opt hd (Ev.pos rfl (Ev.po (Ev.bind tE (Ev.po (Ev.opt hgo ?_))))))))))))))))))
 by_cases hN:Int.tmod ops[i].N 2=0
 ·obtain ⟨d2,hd2,hTI2⟩:=hTI'.dir
  refine Ev.pos hN (Ev.opt hS1 (Ev.pos rfl (Ev.opt hd2 (Ev.pos rfl ?_))))
  have:=fin (wrp .i64 (0+(1:Nat))) b' 0 true d2 (List.set [(⟨2,0,0⟩:zlj)] 0 ⟨2,0,wrp .i64 (0+1)⟩) hb2 ⟨⟨0,_,hTI2,by omega,by omega, .inl rfl⟩,by simp,by simp,hsn'⟩
  rw [y45,y45,e1] at this
  exact this
 ·refine Ev.neg hN ?_
  have:=fin h16 b' 2 false d' (List.set [(⟨2,0,0⟩:zlj)] 0 ⟨2,0,wrp .i64 (0+1)⟩) hb2 ⟨⟨0,_,hTI',by omega,by omega, .inr ⟨by decide,rfl⟩⟩,by simp,by simp,hsn'⟩
  rw [y45,y45,e1] at this
  exact this
theorem l0_ev (hops:ops.length<=60): ∀(k i:Nat),ops.length=i+k-> ∀(h06:Int) (a:zli) (h16:Int) (b:zli) (dS d:Dk),core a=core b->a.Index=0->SnOk a 0->SnOk b 0->TI dS 0 0->TI d 0 0->Ev (fun q=>zn9 q z ops (i:Int) kd h02 0 h06 a.Index a.State.Kind a.State.L.z a.State.L.l a.State.Sealed a.State.To a.Table.z a.Table.l kd h12 0 h16 b.Index b.State.Kind b.State.L.z b.State.L.l b.State.Sealed b.State.To b.Table.z b.Table.l dS bs d bt) true
 | 0,i,hi,h06,a,h16,b,dS,d,hab,hix,hsa,hsb,hdS,hd=>by
  obtain ⟨x,hcl⟩:=z7h ⟨true,[]⟩ (fun _=>rfl) (by simp)
  have hsame:=z5c ⟨true,[]⟩ ⟨true,[]⟩ (by simp)
  rw [decide_eq_true rfl] at hsame
  refine Ev.succ ?_ (fun q=>zn9.eq_2 ..)
  simp only [w00,w0m,Int.toNat_zero]
  refine Ev.ne (Ev.ne (Ev.ne (Ev.ne (Ev.po (Ev.po (Ev.po (Ev.bind hcl ?_)))))))
  refine Ev.ne (Ev.ne (Ev.ne (Ev.po (Ev.po (Ev.po (Ev.bind hsame (Ev.pos rfl (Ev.bind (z7i a 0 hsa (by omega)) (Ev.bind (z7i b 0 hsb (by omega)) (Ev.bind (z7j a b 0 0 hsa hsb (by omega) hab) (Ev.ret _)))))))))))
 | k+1,i,hi,h06,a,h16,b,dS,d,hab,hix,hsa,hsb,hdS,hd=>by
  have hil:i<ops.length:=by omega
  have ih:=l0_ev hops k (i+1) (by omega)
  have w1:wrp .i64 ((i:Int)+1)=((i+1:Nat):Int):=by rw [z27]<;>omega
  have hgo:ops[i]? =some ops[i]:=y6 hil
  have hR:=z7a 0 ops[i] (by omega) (by omega)
  refine Ev.succ ?_ (fun q=>zn9.eq_2 ..)
  rw [w1,w00,y26]
  refine Ev.po (Ev.po (Ev.opt hgo (Ev.bind hR ?_)))
  have hB:=z4z ⟨decide (manyO ops[i]=0),recs 0 ops[i] (manyO ops[i])⟩ (by rw [z68];have hm:manyO ops[i]=min ops[i].Many.toNat 20:=rfl;omega)
  by_cases hok:blkOk (recs 0 ops[i] (manyO ops[i]))=true
  ·simp only [hok,if_true] at hB
   obtain ⟨m,hm,hm2,hch,hg0⟩:=z7u hok
   rw [hm] at hB ⊢
   have hrl:=z68 0 ops[i] (m+1)
   have hzr:decide (m+1=0)=false:=by simp
   have hF:=z4w hch
   rw [hzr] at hB ⊢
   have hr0:(recMk 0 ops[i] 0).Index=0:=by simp [recMk]
   generalize hr:recs 0 ops[i] (m+1)=r at*
   obtain ⟨zf,fE⟩:=z7s false r hF (by omega)
   obtain ⟨zh,hE⟩:=z7t kd 0 hk1 hk2 (by omega) (by omega)
   have l1:=z7q hF
   have l2:=(z49 (blkE r)).1
   have l3:=z5a 3 kd 0
   obtain ⟨d',hd',hTI'⟩:=hdS.fresh (m:=(encF (headD 3 kd 0)).length+(encF (blkE r)).length) (by omega) (by omega)
   have hd':dA dS 2 ((encF (headD 3 kd 0)).length+(encF (blkE r)).length)=some (d',0):=by simpa using hd'
   obtain ⟨a',tE,ha',hsa'⟩:=z7e a 0 ⟨false,r⟩ hsa (by omega) (by simp only;omega) (by rw [hix];exact hch)
   simp only at hsa'
   have ha':core a'=(takeV a r).1:=ha'
   refine Ev.bind hB (Ev.pos rfl (Ev.pos (by show 0<r.length;omega) (Ev.opt hg0 (Ev.pos hr0 (Ev.bind fE (Ev.bind hE (Ev.opt (hdS.dF (by omega)) (Ev.bind (z7v _) (Ev.neg (by decide) (Ev.pos (by show (encF (headD 3 kd 0)).length+(encF (blkE r)).length<=4294967296;omega) (Ev.opt hd' (Ev.pos rfl (Ev.pos (by show r.length<=4294967296;omega) (Ev.bind tE ?_))))))))))))))
   have hz0:decide (r.length=0)=false:=by rw [decide_eq_false];omega
   rw [hz0]
   exact l1_ev z ops kd hk1 hk2 h02 h12 bs bt hops i hil h06 a' a b h16 false rfl r d' d _ (by rw [hix];exact hch) hix (by omega) (by omega) ha' hab.symm (by rw [y41] at hsa';exact hsa') hsb ⟨⟨_,hTI',by omega⟩,by simp⟩ hd
  ·simp only [hok,y17,if_false] at hB
   refine Ev.bind hB (Ev.neg (by decide) ?_)
   exact ih h06 a h16 b dS d hab hix hsa hsb hdS hd
end
theorem s0_ev (kd:Int) (s:zlg) (hs:Ev (fun q=>zlt q kd) s) (hok:SnOk ⟨0,s,⟨true,[]⟩⟩ 0):Ev (fun q=>zn1 q (dNew 1000000) (dNew 1000000) kd) (1,0,[⟨0,s,⟨true,[]⟩⟩]):=by
 have h1: ∀v:Int,v=0->Ev (fun q=>znz q true [] v (dNew 1000000) (dNew 1000000) kd 0 [⟨0,s,⟨true,[]⟩⟩]) (1,0,[⟨0,s,⟨true,[]⟩⟩]):=fun v hv=>by
  refine Ev.succ ?_ (fun q=>znz.eq_2 ..)
  exact Ev.ne (Ev.ret _)
 have h0: ∀v:Int,v=0->Ev (fun q=>zn0 q true [] v (dNew 1000000) (dNew 1000000) kd [⟨0,s,⟨true,[]⟩⟩]) (1,0,[⟨0,s,⟨true,[]⟩⟩]):=fun v hv=>by
  refine Ev.succ ?_ (fun q=>zn0.eq_2 ..)
  refine Ev.ne (Ev.bind (z7n _) (Ev.bind (z7i _ 0 hok (by omega)) (Ev.opt (show dF (dNew 1000000) 2=some (true,[]) from rfl) ?_)))
  exact h1 _ rfl
 refine Ev.succ ?_ (fun q=>zn1.eq_2 ..)
 refine Ev.bind hs (Ev.opt (show dF (dNew 1000000) 3=some (true,[]) from rfl) ?_)
 exact h0 _ rfl
theorem s1_ev (kd:Int) (s:zlg) (hs:Ev (fun q=>zlt q kd) s) (hok:SnOk ⟨0,s,⟨true,[]⟩⟩ 0) (n:Nat) (x1 x2:Int) (a:zli) (B:List zli):
  Ev (fun q=>zn4 q (dNew 1000000) (dNew 1000000) kd n x1 x2 a.Index a.State.Kind a.State.L.z a.State.L.l a.State.Sealed a.State.To a.Table.z a.Table.l B kd) (1,0,[⟨0,s,⟨true,[]⟩⟩]):=by
 have h1: ∀v:Int,v=0->Ev (fun q=>zn2 q true [] v (dNew 1000000) (dNew 1000000) kd n x1 x2 a.Index a.State.Kind a.State.L.z a.State.L.l a.State.Sealed a.State.To a.Table.z a.Table.l B kd 0 [⟨0,s,⟨true,[]⟩⟩]) (1,0,[⟨0,s,⟨true,[]⟩⟩]):=fun v hv=>by
  refine Ev.succ ?_ (fun q=>zn2.eq_2 ..)
  exact Ev.ne (Ev.ret _)
 have h0: ∀v:Int,v=0->Ev (fun q=>zn3 q true [] v (dNew 1000000) (dNew 1000000) kd n x1 x2 a.Index a.State.Kind a.State.L.z a.State.L.l a.State.Sealed a.State.To a.Table.z a.Table.l B kd [⟨0,s,⟨true,[]⟩⟩]) (1,0,[⟨0,s,⟨true,[]⟩⟩]):=fun v hv=>by
  refine Ev.succ ?_ (fun q=>zn3.eq_2 ..)
  refine Ev.ne (Ev.bind (z7n _) (Ev.bind (z7i _ 0 hok (by omega)) (Ev.opt (show dF (dNew 1000000) 2=some (true,[]) from rfl) ?_)))
  exact h1 _ rfl
 refine Ev.succ ?_ (fun q=>zn4.eq_2 ..)
 refine Ev.bind hs (Ev.opt (show dF (dNew 1000000) 3=some (true,[]) from rfl) ?_)
 exact h0 _ rfl
theorem z7w (a0:Int) (a1:Sl zlf) (o0:inR .i64 a0) (o1:okSl (fun x=>zlf.ok x) a1): ∃q,zoa q a0 a1=some true:=by
 refine Ev.get ?_
 obtain ⟨b,hF,hb⟩:=Few_ev a1
 refine Ev.succ ?_ (fun q=>zoa.eq_2 ..)
 refine Ev.bind z7l (Ev.bind hF (Ev.pos rfl (Ev.ite (fun c=>?_) fun c=>Ev.ret _)))
 have hops:=hb c
 refine Ev.ite (fun c1=>Ev.ret _) fun c1=>Ev.ite (fun c2=>Ev.ret _) fun c2=>?_
 obtain ⟨s,hs,hok⟩:=z7o a0 (by omega) (by omega)
 obtain ⟨a,tE,ha,hsa⟩:=z7e ⟨0,s,⟨true,[]⟩⟩ 0 ⟨true,[]⟩ hok (by omega) (by simp) rfl
 have ha:core a=core ⟨0,s,⟨true,[]⟩⟩:=ha
 have hi:a.Index=0:=by
  have h1:(core a).Index=a.Index:=rfl
  rw [<- h1,ha];rfl
 refine Ev.neg (by decide) (Ev.bind (s0_ev a0 s hs hok) (Ev.bind (z7n _) (Ev.bind (z7i _ 0 hok (by omega)) ?_)))
 simp only [w00,w0m]
 refine Ev.ne (Ev.ne (Ev.po (Ev.po (Ev.bind tE (Ev.pos rfl (Ev.bind (s1_ev a0 s hs hok _ _ _ a _) (Ev.bind (z7n _) (Ev.bind (z7i _ 0 hok (by omega)) ?_))))))))
 simp only [w00,w0m]
 refine Ev.ne (Ev.ne (Ev.po (Ev.po (Ev.bind tE (Ev.pos rfl ?_)))))
 exact l0_ev a1.z a1.l a0 (by omega) (by omega) 1 1 _ _ hops a1.l.length 0 (by omega) _ a _ a _ _ rfl hi hsa hsa TI.new TI.new
end Go.Dvm.I
