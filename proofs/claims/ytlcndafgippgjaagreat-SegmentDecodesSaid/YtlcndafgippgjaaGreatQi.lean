/- The functions of the law, as they answer, over typed data. -/
import Derived.Test.YtlcndafgippgjaaGreatQv2
set_option linter.all false
set_option maxRecDepth 100000
set_option maxHeartbeats 4000000
namespace Go.Dvm.I
open Go Go.Dvm
structure zjr where
 Code : Int
 A : Int
 B : Int
def zjr.enc (r : zjr) : V := .agg [V.int .i64 r.Code, V.int .i64 r.A, V.int .i64 r.B]
structure zjs where
 Index : Int
 Proc : Int
 Seq : Int
 Op : zjr
 Resp : Int
def zjs.enc (r : zjs) : V := .agg [V.int .i64 r.Index, V.int .i64 r.Proc, V.int .i64 r.Seq, V.int .i64 r.Op.Code, V.int .i64 r.Op.A, V.int .i64 r.Op.B, V.int .i64 r.Resp]
structure zjt where
 Kind : Int
 First : Int
 Records : (Sl zjs)
def zjt.enc (r : zjt) : V := .agg [V.int .i64 r.Kind, V.int .i64 r.First, (Sl.enc zjs.enc) r.Records]
def okSl {α : Type} (ok : α → Prop) (s : Sl α) : Prop := (s.z = true → s.l = []) ∧ s.l.length ≤ maxLen ∧ ∀ a ∈ s.l, ok a
def zjr.ok (r : zjr) : Prop := inR .i64 r.Code ∧ inR .i64 r.A ∧ inR .i64 r.B
def zjs.ok (r : zjs) : Prop := inR .i64 r.Index ∧ inR .i64 r.Proc ∧ inR .i64 r.Seq ∧ zjr.ok r.Op ∧ inR .i64 r.Resp
def zjt.ok (r : zjt) : Prop := inR .i64 r.Kind ∧ inR .i64 r.First ∧ okSl (fun x => zjs.ok x) r.Records
def zju : Nat → Int → Option (Bool)
 | 0, _ => none
 | q + 1, a0 => (if 1 ≤ a0 then (some (decide (a0 ≤ 3))) else (some false))
def zjv : Nat → Int → Bool → (List Int) → Bool → Option ((Ow Int))
 | 0, _, _, _, _ => none
 | q + 1, v1, h0z, h0l, h0x => (if 128 ≤ v1 then (if (h0l.length + 1) ≤ 4294967296 then (zjv q (ishr .u64 v1 7) false (h0l ++ [(ibits .or .u8 (wrp .u8 v1) 128)]) h0x) else none) else (if (h0l.length + 1) ≤ 4294967296 then (some ⟨false, h0x, (h0l ++ [(wrp .u8 v1)])⟩) else none))
def zjw : Nat → (Ow Int) → Int → Option ((Ow Int))
 | 0, _, _ => none
 | q + 1, a0, a1 => (zjv q a1 a0.n a0.xs a0.x)
def zjx : Nat → (Ow Int) → Int → Option ((Ow Int))
 | 0, _, _ => none
 | q + 1, a0, a1 => (if a1 < 0 then (some a0) else (if 4611686018427387904 ≤ a1 then (some a0) else ((zjw q a0 (wrp .u64 a1)).bind fun r1 => (some r1))))
mutual
def zjy : Nat → Int → (List Int) → (List Int) → Option ((List Int))
 | 0, _, _, _ => none
 | q + 1, v5, h0_0, h1_0 => (if v5 < 256 then (zjz q v5 (wrp .u32 v5) v5 0 h0_0 h1_0) else (if 256 ≤ h1_0.length then (if (min 256 h1_0.length) = 256 then (if 256 ≤ h0_0.length then (if 256 ≤ (256 + (h0_0.length - 256)) then (some (List.take 256 ((List.take 256 h1_0) ++ (List.drop 256 h0_0)))) else none) else none) else none) else none))
def zjz : Nat → Int → Int → Int → Int → (List Int) → (List Int) → Option ((List Int))
 | 0, _, _, _, _, _, _ => none
 | q + 1, v2, v3, v5, v10, h0_0, h1_0 => (if v10 < 8 then (zjz q v2 (ibits .xor .u32 (ishr .u32 v3 1) (ibits .and .u32 2197175160 (wrp .u32 (0 - (ibits .and .u32 v3 1))))) v5 (wrp .i64 (v10 + 1)) h0_0 h1_0) else (if 0 ≤ v2 then (if v2.toNat < 256 then (if (v2.toNat + 1) ≤ h1_0.length then (zjy q (wrp .i64 (v5 + 1)) h0_0 (List.set h1_0 v2.toNat v3)) else none) else none) else none))
end
def zj0 : Nat → Option ((List Int))
 | 0 => none
 | q + 1 => (zjy q 0 (List.replicate 256 0) (List.replicate 256 0))
def zj1 : Nat → Int → Bool → (List Int) → Int → Int → (List Int) → Option (Int)
 | 0, _, _, _, _, _, _ => none
 | q + 1, v6, v12z, v12l, v13, v14, h0_0 => (if v14 < v13 then (if 0 ≤ v14 then ((v12l[v14.toNat]?).bind fun e2 => (if 0 ≤ (ibits .xor .u8 (wrp .u8 v6) e2) then (if (ibits .xor .u8 (wrp .u8 v6) e2).toNat < 256 then ((h0_0[(ibits .xor .u8 (wrp .u8 v6) e2).toNat]?).bind fun e3 => (zj1 q (ibits .xor .u32 e3 (ishr .u32 v6 8)) v12z v12l v13 (wrp .i64 (v14 + 1)) h0_0)) else none) else none)) else none) else (some (ibits .xor .u32 4294967295 v6)))
def zj2 : Nat → Int → (Sl Int) → Option (Int)
 | 0, _, _ => none
 | q + 1, a0, a1 => ((zj0 q).bind fun r1 => (if r1.length = 256 then (zj1 q (ibits .xor .u32 4294967295 a0) a1.z a1.l (a1.l.length : Int) 0 r1) else none))
def zj3 : Nat → (Sl Int) → Option (Int)
 | 0, _ => none
 | q + 1, a0 => ((zj2 q 0 a0).bind fun r1 => (some r1))
def zj4 : Nat → Int → Int → Int → Bool → (List Int) → Option ((Ow Int))
 | 0, _, _, _, _, _ => none
 | q + 1, v0, v7, v8, h0z, h0l => (if v8 < v7 then (if (wrp .i64 (8 * v8)) < 0 then none else (if (h0l.length + 1) ≤ 4294967296 then (zj4 q v0 v7 (wrp .i64 (v8 + 1)) false (h0l ++ [(wrp .u8 (ishr .u64 v0 (wrp .i64 (8 * v8))))])) else none)) else (some ⟨h0z, true, h0l⟩))
def zj5 : Nat → Int → Int → Option ((Ow Int))
 | 0, _, _ => none
 | q + 1, a0, a1 => (zj4 q a0 a1 0 true [])
def zj6 : Nat → Int → Option ((Ow Int))
 | 0, _ => none
 | q + 1, a0 => ((zj5 q (wrp .u64 a0) 4).bind fun r1 => (some r1))
def zj7 : Nat → (Sl Int) → (Sl Int) → Option ((Ow Int))
 | 0, _, _ => none
 | q + 1, a0, a1 => ((zj3 q a0).bind fun r1 => ((zj2 q r1 a1).bind fun r2 => ((zj6 q r2).bind fun r3 => (some r3))))
def zj8 : Nat → Nat → Bool → (List (Sl Int)) → Int → Int → Bool → (List Int) → Option ((Ow Int))
 | 0, _, _, _, _, _, _, _ => none
 | q + 1, v6len, v25z, v25l, v26, v27, h0z, h0l => (if v27 < v26 then (if 0 ≤ v27 then ((v25l[v27.toNat]?).bind fun e2 => (if (v6len + e2.l.length) ≤ h0l.length then (zj8 q (v6len + e2.l.length) v25z v25l v26 (wrp .i64 (v27 + 1)) h0z (((List.take v6len h0l) ++ e2.l) ++ (List.drop (v6len + e2.l.length) h0l))) else none)) else none) else (some ⟨h0z, true, (List.take v6len h0l)⟩))
def zj9 : Nat → Bool → (List (Sl Int)) → Int → Int → Bool → (List Int) → Option ((Ow Int))
 | 0, _, _, _, _, _, _ => none
 | q + 1, v25z, v25l, v26, v27, h0z, h0l => (if v27 < v26 then (if 0 ≤ v27 then ((v25l[v27.toNat]?).bind fun e4 => (if (h0l.length + e4.l.length) ≤ 4294967296 then (zj9 q v25z v25l v26 (wrp .i64 (v27 + 1)) (h0z && (decide (e4.l.length = 0))) (h0l ++ e4.l)) else none)) else none) else (some ⟨h0z, true, h0l⟩))
def zka : Nat → Bool → (List (Sl Int)) → Int → Option ((Ow Int))
 | 0, _, _, _ => none
 | q + 1, v25z, v25l, v26 => (if 0 < v26 then ((v25l[0]?).bind fun e3 => (if e3.l.length ≤ 4294967296 then (zj9 q v25z v25l v26 (wrp .i64 1) (decide (e3.l.length = 0)) e3.l) else none)) else (some ⟨true, true, []⟩))
def zkb : Nat → Bool → (List (Sl Int)) → Int → Bool → (List (Sl Int)) → Int → Int → Option ((Ow Int))
 | 0, _, _, _, _, _, _, _ => none
 | q + 1, v0z, v0l, v3, v9z, v9l, v10, v11 => (if v11 < v10 then (if 0 ≤ v11 then ((v9l[v11.toNat]?).bind fun e1 => (if (wrp .i64 (v3 + (e1.l.length : Int))) < 0 then none else (zkb q v0z v0l (wrp .i64 (v3 + (e1.l.length : Int))) v9z v9l v10 (wrp .i64 (v11 + 1))))) else none) else (if v3 < 0 then none else (if 0 < (wrp .i64 (v3 - (wrp .i64 0))) then (if 0 ≤ (wrp .i64 (v3 - (wrp .i64 0))) then (if (wrp .i64 (v3 - (wrp .i64 0))).toNat ≤ 4294967296 then (if (wrp .i64 (v3 - (wrp .i64 0))) = 0 then none else (zj8 q 0 v0z v0l (v0l.length : Int) 0 (decide ((wrp .i64 (v3 - (wrp .i64 0))) = 0)) (List.replicate ((wrp .i64 (v3 - (wrp .i64 0))).toNat) 0))) else none) else none) else (zka q v0z v0l (v0l.length : Int)))))
def zkc : Nat → (Sl (Sl Int)) → Option ((Ow Int))
 | 0, _ => none
 | q + 1, a0 => (zkb q a0.z a0.l 0 a0.z a0.l (a0.l.length : Int) 0)
def zkd : Nat → (Sl Int) → Option ((Ow Int) × Int)
 | 0, _ => none
 | q + 1, a0 => (if 1048576 < (a0.l.length : Int) then (some (⟨true, true, []⟩, 5)) else ((zjx q ⟨true, true, []⟩ (a0.l.length : Int)).bind fun r1 => ((zj7 q ⟨r1.n, r1.xs⟩ a0).bind fun r2 => ((zkc q ⟨false, [⟨r1.n, r1.xs⟩, a0, ⟨r2.n, r2.xs⟩]⟩).bind fun r3 => (some (r3, 0))))))
def zke : Nat → (Sl Int) → Option ((Ow Int))
 | 0, _ => none
 | q + 1, a0 => ((zkd q a0).bind fun r1 => (some r1.1))
def zkf : Nat → Int → Int → Int → Option ((Ow Int) × Int)
 | 0, _, _, _ => none
 | q + 1, a0, a1, a2 => ((zju q a0).bind fun r1 => (if r1 = true then (if a1 < 0 then (some (⟨true, true, []⟩, 1)) else (if 6 ≤ a1 then (some (⟨true, true, []⟩, 1)) else (if a2 < 0 then (some (⟨true, true, []⟩, 1)) else (if 4611686018427387904 ≤ a2 then (some (⟨true, true, []⟩, 1)) else ((zjx q ⟨false, true, [108]⟩ a0).bind fun r2 => ((zjx q r2 a1).bind fun r3 => ((zjx q r3 a2).bind fun r4 => ((zke q ⟨r4.n, r4.xs⟩).bind fun r5 => (some (r5, 0)))))))))) else (some (⟨true, true, []⟩, 6))))
def zkg : Nat → Int → Option (Int)
 | 0, _ => none
 | q + 1, a0 => (some (if (-1099511627776) < (if 1099511627776 < a0 then 1099511627776 else a0) then (if 1099511627776 < a0 then 1099511627776 else a0) else (-1099511627776)))
def zkh : Nat → zjr → Option (Bool)
 | 0, _ => none
 | q + 1, a0 => (if 0 ≤ a0.Code then (if a0.Code ≤ 10 then ((zkg q a0.A).bind fun r1 => (if a0.A = r1 then ((zkg q a0.B).bind fun r2 => (some (decide (a0.B = r2)))) else (some false))) else (some false)) else (some false))
def zki : Nat → zjs → Option (Bool)
 | 0, _ => none
 | q + 1, a0 => (if 0 ≤ a0.Index then (if a0.Index < 4611686018427387904 then (if 0 ≤ a0.Proc then (if a0.Proc ≤ 64 then (if 0 ≤ a0.Seq then (if a0.Seq < 4611686018427387904 then ((zkh q a0.Op).bind fun r1 => (if r1 = true then (if (-1125899906842624) ≤ a0.Resp then (some (decide (a0.Resp ≤ 1125899906842624))) else (some false)) else (some false))) else (some false)) else (some false)) else (some false)) else (some false)) else (some false)) else (some false))
def zkj : Nat → Bool → (List zjs) → Int → Bool → (List zjs) → Int → Int → Option (Bool)
 | 0, _, _, _, _, _, _, _ => none
 | q + 1, v0z, v0l, v1, v7z, v7l, v8, v9 => (if v9 < v8 then (if 0 ≤ v9 then ((v7l[v9.toNat]?).bind fun e1 => ((zki q e1).bind fun r2 => (if r2 = true then (if e1.Index = (wrp .i64 (v1 + v9)) then (zkj q v0z v0l v1 v7z v7l v8 (wrp .i64 (v9 + 1))) else (some false)) else (some false)))) else none) else (some (decide ((v0l.length : Int) ≤ 4096))))
def zkk : Nat → (Sl zjs) → Int → Option (Bool)
 | 0, _, _ => none
 | q + 1, a0, a1 => (zkj q a0.z a0.l a1 a0.z a0.l (a0.l.length : Int) 0)
def zkl : Nat → Bool → (List zjs) → Bool → (List zjs) → Int → Int → Option (Bool)
 | 0, _, _, _, _, _, _ => none
 | q + 1, v0z, v0l, v5z, v5l, v6, v7 => (if v7 < v6 then (if 0 ≤ v7 then ((v5l[v7.toNat]?).bind fun e1 => ((zki q e1).bind fun r2 => (if r2 = true then ((v0l[0]?).bind fun e3 => (if e1.Index = (wrp .i64 (e3.Index + v7)) then (zkl q v0z v0l v5z v5l v6 (wrp .i64 (v7 + 1))) else (some false))) else (some false)))) else none) else (if 0 < (v0l.length : Int) then (some (decide ((v0l.length : Int) ≤ 256))) else (some false)))
def zkm : Nat → (Sl zjs) → Option (Bool)
 | 0, _ => none
 | q + 1, a0 => (zkl q a0.z a0.l a0.z a0.l (a0.l.length : Int) 0)
def zkn : Nat → Int → Option (Int)
 | 0, _ => none
 | q + 1, a0 => (some (ibits .xor .u64 (ishl .u64 (wrp .u64 a0) 1) (wrp .u64 (ishr .i64 a0 63))))
def zko : Nat → (Ow Int) → Int → Option ((Ow Int))
 | 0, _, _ => none
 | q + 1, a0, a1 => ((zkn q a1).bind fun r1 => ((zjw q a0 r1).bind fun r2 => (some r2)))
def zkp : Nat → (Ow Int) → zjr → Option ((Ow Int) × Int)
 | 0, _, _ => none
 | q + 1, a0, a1 => ((zkh q a1).bind fun r1 => (if r1 = true then ((zjx q a0 a1.Code).bind fun r2 => ((zko q r2 a1.A).bind fun r3 => ((zko q r3 a1.B).bind fun r4 => (some (r4, 0))))) else (some (a0, 1))))
def zkq : Nat → Bool → (List zjs) → Int → Int → (List (Int × Int)) → Bool → (List Int) → Bool → Option ((Ow Int) × Int)
 | 0, _, _, _, _, _, _, _, _ => none
 | q + 1, v20z, v20l, v21, v22, h0m, h1z, h1l, h1x => (if v22 < v21 then (if 0 ≤ v22 then ((v20l[v22.toNat]?).bind fun e5 => ((zjx q ⟨h1z, h1x, h1l⟩ e5.Proc).bind fun r6 => ((zko q r6 (wrp .i64 (e5.Seq - (mget h0m e5.Proc)))).bind fun r7 => ((zkp q r7 e5.Op).bind fun r8 => ((zko q r8.1 e5.Resp).bind fun r9 => (zkq q v20z v20l v21 (wrp .i64 (v22 + 1)) (mset h0m e5.Proc e5.Seq) r9.n r9.xs r9.x)))))) else none) else (some (⟨h1z, h1x, h1l⟩, 0)))
def zkr : Nat → (Sl zjs) → Option ((Ow Int) × Int)
 | 0, _ => none
 | q + 1, a0 => ((zkm q a0).bind fun r1 => (if r1 = true then ((a0.l[0]?).bind fun e2 => ((zjx q ⟨true, true, []⟩ e2.Index).bind fun r3 => ((zjx q r3 (a0.l.length : Int)).bind fun r4 => (zkq q a0.z a0.l (a0.l.length : Int) 0 [] r4.n r4.xs r4.x)))) else (some (⟨true, true, []⟩, 1))))
def zks : Nat → Int → Option ((Ow Int))
 | 0, _ => none
 | q + 1, a0 => (if a0 < 1 then (some ⟨true, true, []⟩) else (if 4 ≤ a0 then (some ⟨true, true, []⟩) else (if 0 ≤ a0 then (if a0.toNat < 4 then (if a0.toNat = 0 then (some ⟨false, true, []⟩) else (if a0.toNat = 1 then (some ⟨false, true, [1, 2, 4]⟩) else (if a0.toNat = 2 then (some ⟨false, true, [1, 2, 3, 4]⟩) else (if a0.toNat = 3 then (some ⟨false, true, [1, 2, 3, 4, 5]⟩) else none)))) else none) else none)))
def zkt : Nat → (Ow Int) → Int → zjs → Option ((Ow Int))
 | 0, _, _, _ => none
 | q + 1, a0, a1, a2 => ((zjx q a0 a1).bind fun r1 => (if a1 = 1 then ((zjx q r1 a2.Index).bind fun r2 => (some r2)) else (if a1 = 2 then ((zjx q r1 a2.Proc).bind fun r3 => (some r3)) else (if a1 = 3 then ((zjx q r1 a2.Seq).bind fun r4 => (some r4)) else (if a1 = 4 then ((zkp q r1 a2.Op).bind fun r5 => (some r5.1)) else ((zko q r1 a2.Resp).bind fun r6 => (some r6)))))))
def zku : Nat → Int → Int → Int → Int → Int → Int → Int → Int → Int → Bool → (List Int) → Bool → Bool → (List Int) → Bool → Option ((Ow Int) × Int)
 | 0, _, _, _, _, _, _, _, _, _, _, _, _, _, _, _ => none
 | q + 1, v22, v23, h0_0, h0_1, h0_2, h0_3, h0_4, h0_5, h0_6, h1z, h1l, h1x, h2z, h2l, h2x => (if v23 < v22 then (if 0 ≤ v23 then (if v23.toNat < h2l.length then ((h2l[v23.toNat]?).bind fun e4 => ((zkt q ⟨h1z, h1x, h1l⟩ e4 (⟨h0_0, h0_1, h0_2, (⟨h0_3, h0_4, h0_5⟩ : zjr), h0_6⟩ : zjs)).bind fun r5 => (zku q v22 (wrp .i64 (v23 + 1)) h0_0 h0_1 h0_2 h0_3 h0_4 h0_5 h0_6 r5.n r5.xs r5.x h2z h2l h2x))) else none) else none) else (some (⟨h1z, h1x, h1l⟩, 0)))
def zkv : Nat → Int → zjs → Option ((Ow Int) × Int)
 | 0, _, _ => none
 | q + 1, a0, a1 => ((zks q a0).bind fun r1 => (if r1.n = true then (some (⟨true, true, []⟩, 6)) else ((zki q a1).bind fun r2 => (if r2 = true then ((zjx q ⟨true, true, []⟩ a0).bind fun r3 => (zku q (r1.xs.length : Int) 0 a1.Index a1.Proc a1.Seq a1.Op.Code a1.Op.A a1.Op.B a1.Resp r3.n r3.xs r3.x r1.n r1.xs r1.x)) else (some (⟨true, true, []⟩, 1))))))
def zkw : Nat → Int → Bool → (List zjs) → Int → Int → Bool → (List Int) → Bool → Option ((Ow Int))
 | 0, _, _, _, _, _, _, _, _ => none
 | q + 1, v0, v20z, v20l, v21, v22, h0z, h0l, h0x => (if v22 < v21 then (if 0 ≤ v22 then ((v20l[v22.toNat]?).bind fun e2 => ((zkv q v0 e2).bind fun r3 => ((zjx q ⟨h0z, h0x, h0l⟩ (r3.1.xs.length : Int)).bind fun r4 => (if (r4.xs.length + r3.1.xs.length) ≤ 4294967296 then (zkw q v0 v20z v20l v21 (wrp .i64 (v22 + 1)) (r4.n && (decide (r3.1.xs.length = 0))) (r4.xs ++ r3.1.xs) r4.x) else none)))) else none) else (some ⟨h0z, h0x, h0l⟩))
def zkx : Nat → Int → (Sl zjs) → Option ((Ow Int))
 | 0, _, _ => none
 | q + 1, a0, a1 => (if a0 = 3 then ((zkr q a1).bind fun r1 => (some r1.1)) else (zkw q a0 a1.z a1.l (a1.l.length : Int) 0 true [] true))
def zky : Nat → Int → Bool → (List zjs) → Bool → (List (Sl Int)) → Option ((Ow (Sl Int)))
 | 0, _, _, _, _, _ => none
 | q + 1, v0, v1z, v1l, h0z, h0l => (if 0 < (v1l.length : Int) then (if 0 ≤ (if 16 < (v1l.length : Int) then 16 else (v1l.length : Int)) then (if (if 16 < (v1l.length : Int) then 16 else (v1l.length : Int)) ≤ (if 16 < (v1l.length : Int) then 16 else (v1l.length : Int)) then (if (if 16 < (v1l.length : Int) then 16 else (v1l.length : Int)).toNat ≤ v1l.length then ((zkx q v0 ⟨v1z, (List.take ((if 16 < (v1l.length : Int) then 16 else (v1l.length : Int)).toNat) v1l)⟩).bind fun r1 => ((zke q ⟨r1.n, r1.xs⟩).bind fun r2 => (if (h0l.length + 1) ≤ 4294967296 then (if (if 16 < (v1l.length : Int) then 16 else (v1l.length : Int)) ≤ (v1l.length : Int) then (zky q v0 v1z (List.drop ((if 16 < (v1l.length : Int) then 16 else (v1l.length : Int)).toNat) v1l) false (h0l ++ [⟨r2.n, r2.xs⟩])) else none) else none))) else none) else none) else none) else (some ⟨h0z, true, h0l⟩))
def zkz : Nat → Int → (Sl zjs) → Option ((Ow (Sl Int)))
 | 0, _, _ => none
 | q + 1, a0, a1 => (zky q a0 a1.z a1.l true [])
def zk0 : Nat → Bool → (List (Sl Int)) → Int → Int → Bool → (List Int) → Bool → Option ((Ow Int))
 | 0, _, _, _, _, _, _, _ => none
 | q + 1, v14z, v14l, v15, v16, h0z, h0l, h0x => (if v16 < v15 then (if 0 ≤ v16 then ((v14l[v16.toNat]?).bind fun e2 => ((zjx q ⟨h0z, h0x, h0l⟩ (e2.l.length : Int)).bind fun r3 => (zk0 q v14z v14l v15 (wrp .i64 (v16 + 1)) r3.n r3.xs r3.x))) else none) else ((zke q ⟨h0z, h0l⟩).bind fun r4 => (some r4)))
def zk1 : Nat → (Sl (Sl Int)) → Option ((Ow Int))
 | 0, _ => none
 | q + 1, a0 => ((zjx q ⟨true, true, []⟩ (wrp .i64 ((a0.l.length : Int) - 1))).bind fun r1 => (if 0 ≤ (wrp .i64 ((a0.l.length : Int) - 1)) then (if (wrp .i64 ((a0.l.length : Int) - 1)).toNat ≤ a0.l.length then (zk0 q a0.z (List.take ((wrp .i64 ((a0.l.length : Int) - 1)).toNat) a0.l) (((min ((wrp .i64 ((a0.l.length : Int) - 1)).toNat) a0.l.length) : Nat) : Int) 0 r1.n r1.xs r1.x) else none) else none))
def zk2 : Nat → Int → zjt → Option ((Ow Int) × Int)
 | 0, _, _ => none
 | q + 1, a0, a1 => ((zkf q a0 a1.Kind a1.First).bind fun r1 => (if r1.2 = 0 then ((zkk q a1.Records a1.First).bind fun r2 => (if r2 = true then ((zkz q a0 a1.Records).bind fun r3 => (if (1 + r3.xs.length) ≤ 4294967296 then ((zkc q ⟨false, ([⟨r1.1.n, r1.1.xs⟩] ++ r3.xs)⟩).bind fun r4 => ((zk1 q ⟨false, ([⟨r1.1.n, r1.1.xs⟩] ++ r3.xs)⟩).bind fun r5 => (if (r4.xs.length + r5.xs.length) ≤ 4294967296 then (some (⟨(r4.n && (decide (r5.xs.length = 0))), r4.x, (r4.xs ++ r5.xs)⟩, 0)) else none))) else none)) else (some (⟨true, true, []⟩, 1)))) else (some (⟨true, true, []⟩, r1.2))))
def zk3 : Nat → Option (Bool)
 | 0 => none
 | q + 1 => ((zk2 q 3 (⟨0, 0, ⟨true, []⟩⟩ : zjt)).bind fun r1 => (if r1.2 = 0 then (if (r1.1.xs.length : Int) = 15 then (if 5 ≤ r1.1.xs.length then (if r1.1.n = true then (if r1.1.xs = [4, 108, 3, 0, 0] then (if 11 ≤ r1.1.xs.length then (some (decide ((List.drop 9 r1.1.xs) = [1, 0]))) else none) else (some false)) else (if (List.take 5 r1.1.xs) = [4, 108, 3, 0, 0] then (if 11 ≤ r1.1.xs.length then (some (decide ((List.take 2 (List.drop 9 r1.1.xs)) = [1, 0]))) else none) else (some false))) else none) else (some false)) else (some false)))
def zk4 : Nat → Int → Option (Bool)
 | 0, _ => none
 | q + 1, a0 => (some (decide (a0 < 128)))
def zk5 : Nat → Bool → (List Int) → Int → Int → Option (Int)
 | 0, _, _, _, _ => none
 | q + 1, v0z, v0l, v7, v8 => (if v8 < v7 then (if 0 ≤ v8 then ((v0l[v8.toNat]?).bind fun e1 => ((zk4 q e1).bind fun r2 => (if r2 = true then (some v8) else (zk5 q v0z v0l v7 (wrp .i64 (v8 + 1)))))) else none) else (some (-1)))
def zk6 : Nat → Bool → (List Int) → Option (Int)
 | 0, _, _ => none
 | q + 1, v0z, v0l => (zk5 q v0z v0l (v0l.length : Int) 0)
def zk7 : Nat → (Sl Int) → Option (Bool)
 | 0, _ => none
 | q + 1, a0 => (if (a0.l.length : Int) < 10 then ((zk6 q a0.z a0.l).bind fun r1 => (some (!(decide (0 ≤ r1))))) else (some false))
def zk8 : Nat → Bool → (List Int) → Int → Int → Int → Option (Int × Int)
 | 0, _, _, _, _, _ => none
 | q + 1, v0z, v0l, v4, v9, v10 => (if v10 < v9 then (if 0 ≤ v10 then ((v0l[v10.toNat]?).bind fun e1 => (if (wrp .i64 (7 * v10)) < 0 then none else (if v10 = 9 then (if 1 < e1 then (some (0, 0)) else (if e1 = 0 then (if 0 < v10 then (some (0, 0)) else (if e1 < 128 then (some ((ibits .or .u64 v4 (ishl .u64 (wrp .u64 (ibits .and .u8 e1 127)) (wrp .i64 (7 * v10)))), (wrp .i64 (v10 + 1)))) else (zk8 q v0z v0l (ibits .or .u64 v4 (ishl .u64 (wrp .u64 (ibits .and .u8 e1 127)) (wrp .i64 (7 * v10)))) v9 (wrp .i64 (v10 + 1))))) else (if e1 < 128 then (some ((ibits .or .u64 v4 (ishl .u64 (wrp .u64 (ibits .and .u8 e1 127)) (wrp .i64 (7 * v10)))), (wrp .i64 (v10 + 1)))) else (zk8 q v0z v0l (ibits .or .u64 v4 (ishl .u64 (wrp .u64 (ibits .and .u8 e1 127)) (wrp .i64 (7 * v10)))) v9 (wrp .i64 (v10 + 1)))))) else (if e1 = 0 then (if 0 < v10 then (some (0, 0)) else (if e1 < 128 then (some ((ibits .or .u64 v4 (ishl .u64 (wrp .u64 (ibits .and .u8 e1 127)) (wrp .i64 (7 * v10)))), (wrp .i64 (v10 + 1)))) else (zk8 q v0z v0l (ibits .or .u64 v4 (ishl .u64 (wrp .u64 (ibits .and .u8 e1 127)) (wrp .i64 (7 * v10)))) v9 (wrp .i64 (v10 + 1))))) else (if e1 < 128 then (some ((ibits .or .u64 v4 (ishl .u64 (wrp .u64 (ibits .and .u8 e1 127)) (wrp .i64 (7 * v10)))), (wrp .i64 (v10 + 1)))) else (zk8 q v0z v0l (ibits .or .u64 v4 (ishl .u64 (wrp .u64 (ibits .and .u8 e1 127)) (wrp .i64 (7 * v10)))) v9 (wrp .i64 (v10 + 1)))))))) else none) else (some (0, 0)))
def zk9 : Nat → (Sl Int) → Option (Int × Int)
 | 0, _ => none
 | q + 1, a0 => (zk8 q a0.z a0.l 0 (if 10 < (a0.l.length : Int) then 10 else (a0.l.length : Int)) 0)
def zla : Nat → (Sl Int) → Option (Int × Int)
 | 0, _ => none
 | q + 1, a0 => ((zk9 q a0).bind fun r1 => (if 4611686018427387904 ≤ r1.1 then (some (0, 0)) else (some ((wrp .i64 r1.1), r1.2))))
def zlb : Nat → Bool → (List Int) → Bool → (List Int) → Int → Int → Option (Bool)
 | 0, _, _, _, _, _, _ => none
 | q + 1, v0z, v0l, v1z, v1l, v12, v13 => (if v13 < v12 then (if 0 ≤ v13 then ((v0l[v13.toNat]?).bind fun e1 => ((v1l[v13.toNat]?).bind fun e2 => (if e1 = e2 then (zlb q v0z v0l v1z v1l v12 (wrp .i64 (v13 + 1))) else (some false)))) else none) else (some true))
def zlc : Nat → (Sl Int) → (Sl Int) → Option (Bool)
 | 0, _, _ => none
 | q + 1, a0, a1 => (if (a0.l.length : Int) = (a1.l.length : Int) then (zlb q a0.z a0.l a1.z a1.l (a0.l.length : Int) 0) else (some false))
def zld : Nat → (Sl Int) → Option ((Ow Int))
 | 0, _ => none
 | q + 1, a0 => (if a0.z = true then (some ⟨true, true, []⟩) else (if a0.l.length ≤ 4294967296 then (some ⟨false, true, a0.l⟩) else none))
def zle : Nat → (Sl Int) → Option ((Ow Int) × Int × Int)
 | 0, _ => none
 | q + 1, a0 => ((zk7 q a0).bind fun r1 => (if r1 = true then (some (⟨true, true, []⟩, 0, 2)) else ((zla q a0).bind fun r2 => (if r2.2 = 0 then (some (⟨true, true, []⟩, 0, 3)) else (if 1048576 < r2.1 then (some (⟨true, true, []⟩, 0, 5)) else (if (a0.l.length : Int) < (wrp .i64 ((wrp .i64 (r2.2 + 4)) + r2.1)) then (some (⟨true, true, []⟩, 0, 2)) else (if 0 ≤ r2.2 then (if r2.2 ≤ r2.2 then (if r2.2.toNat ≤ a0.l.length then (if 0 ≤ (wrp .i64 (r2.2 + r2.1)) then (if (wrp .i64 (r2.2 + r2.1)) ≤ (wrp .i64 (r2.2 + r2.1)) then (if (wrp .i64 (r2.2 + r2.1)).toNat ≤ a0.l.length then (if r2.2 ≤ (wrp .i64 (r2.2 + r2.1)) then (if (wrp .i64 (r2.2 + r2.1)) ≤ (wrp .i64 ((wrp .i64 (r2.2 + r2.1)) + 4)) then (if (wrp .i64 ((wrp .i64 (r2.2 + r2.1)) + 4)).toNat ≤ a0.l.length then ((zj7 q ⟨a0.z, (List.take r2.2.toNat a0.l)⟩ ⟨a0.z, (List.drop r2.2.toNat (List.take ((wrp .i64 (r2.2 + r2.1)).toNat) a0.l))⟩).bind fun r3 => ((zlc q ⟨a0.z, (List.drop ((wrp .i64 (r2.2 + r2.1)).toNat) (List.take ((wrp .i64 ((wrp .i64 (r2.2 + r2.1)) + 4)).toNat) a0.l))⟩ ⟨r3.n, r3.xs⟩).bind fun r4 => (if r4 = true then ((zld q ⟨a0.z, (List.drop r2.2.toNat (List.take ((wrp .i64 (r2.2 + r2.1)).toNat) a0.l))⟩).bind fun r5 => (some (r5, (wrp .i64 ((wrp .i64 (r2.2 + r2.1)) + 4)), 0))) else (some (⟨true, true, []⟩, 0, 4))))) else none) else none) else none) else none) else none) else none) else none) else none) else none)))))))
def zlf : Nat → Bool → (List Int) → Int → Bool → (List (Sl Int)) → Option ((Ow (Sl Int)) × Int × Int)
 | 0, _, _, _, _, _ => none
 | q + 1, v0z, v0l, v3, h0z, h0l => (if v3 < (v0l.length : Int) then (if 0 ≤ v3 then (if v3 ≤ (v0l.length : Int) then ((zle q ⟨v0z, (List.drop v3.toNat v0l)⟩).bind fun r1 => (if r1.2.2 = 0 then (if (h0l.length + 1) ≤ 4294967296 then (zlf q v0z v0l (wrp .i64 (v3 + r1.2.1)) false (h0l ++ [⟨r1.1.n, r1.1.xs⟩])) else none) else (some (⟨h0z, true, h0l⟩, v3, r1.2.2)))) else none) else none) else (some (⟨h0z, true, h0l⟩, v3, 0)))
def zlg : Nat → (Sl Int) → Option ((Ow (Sl Int)) × Int × Int)
 | 0, _ => none
 | q + 1, a0 => (zlf q a0.z a0.l 0 true [])
def zlh : Nat → (Sl Int) → Option ((Ow (Sl Int)) × Int)
 | 0, _ => none
 | q + 1, a0 => ((zlg q a0).bind fun r1 => (if r1.2.2 = 0 then (some (r1.1, 0)) else (some (⟨true, true, []⟩, r1.2.2))))
def zli : Nat → Int → Option (Int)
 | 0, _ => none
 | q + 1, a0 => (some (ibits .xor .i64 (wrp .i64 (ishr .u64 a0 1)) (wrp .i64 (0 - (wrp .i64 (ibits .and .u64 a0 1))))))
def zlj : Nat → (Sl Int) → Option (Int × Int)
 | 0, _ => none
 | q + 1, a0 => ((zk9 q a0).bind fun r1 => (if r1.2 = 0 then (some (0, 0)) else ((zli q r1.1).bind fun r2 => (some (r2, r1.2)))))
def zlk : Nat → (Sl Int) → Option (zjr × Int)
 | 0, _ => none
 | q + 1, a0 => ((zla q a0).bind fun r1 => (if 0 ≤ r1.2 then (if r1.2 ≤ (a0.l.length : Int) then ((zlj q ⟨a0.z, (List.drop r1.2.toNat a0.l)⟩).bind fun r2 => (if 0 < r1.2 then (if 0 ≤ r2.2 then (if r2.2 ≤ (((a0.l.length - r1.2.toNat) : Nat) : Int) then ((zlj q ⟨a0.z, (List.drop r2.2.toNat (List.drop r1.2.toNat a0.l))⟩).bind fun r3 => (if 0 < r2.2 then (if 0 ≤ r3.2 then (if r3.2 ≤ ((((a0.l.length - r1.2.toNat) - r2.2.toNat) : Nat) : Int) then (if 0 < r3.2 then ((zkh q (⟨r1.1, r2.1, r3.1⟩ : zjr)).bind fun r4 => (if r4 = true then (some ((⟨r1.1, r2.1, r3.1⟩ : zjr), (wrp .i64 ((a0.l.length : Int) - (((((a0.l.length - r1.2.toNat) - r2.2.toNat) - r3.2.toNat) : Nat) : Int))))) else (some ((⟨0, 0, 0⟩ : zjr), 0)))) else (some ((⟨0, 0, 0⟩ : zjr), 0))) else none) else none) else (if 0 ≤ r3.2 then (if r3.2 ≤ ((((a0.l.length - r1.2.toNat) - r2.2.toNat) : Nat) : Int) then (some ((⟨0, 0, 0⟩ : zjr), 0)) else none) else none))) else none) else none) else (if 0 ≤ r2.2 then (if r2.2 ≤ (((a0.l.length - r1.2.toNat) : Nat) : Int) then ((zlj q ⟨a0.z, (List.drop r2.2.toNat (List.drop r1.2.toNat a0.l))⟩).bind fun r5 => (if 0 ≤ r5.2 then (if r5.2 ≤ ((((a0.l.length - r1.2.toNat) - r2.2.toNat) : Nat) : Int) then (some ((⟨0, 0, 0⟩ : zjr), 0)) else none) else none)) else none) else none))) else none) else none))
def zll : Nat → Int → Int → Int → Int → Int → Int → Int → Int → Int → Int → Int → Int → Option (zjs × Int)
 | 0, _, _, _, _, _, _, _, _, _, _, _, _ => none
 | q + 1, v3, v47_0, v47_1, v47_2, v47_3, v48, h0_1, h0_2, h0_3, h0_4, h0_5, h0_6 => (if v48 < 4 then (if 0 ≤ v48 then (if v48.toNat < 4 then (if v48.toNat = 0 then (if v47_0 = 0 then (some ((⟨0, 0, 0, (⟨0, 0, 0⟩ : zjr), 0⟩ : zjs), 0)) else (zll q (wrp .i64 (v3 + v47_0)) v47_0 v47_1 v47_2 v47_3 (wrp .i64 (v48 + 1)) h0_1 h0_2 h0_3 h0_4 h0_5 h0_6)) else (if v48.toNat = 1 then (if v47_1 = 0 then (some ((⟨0, 0, 0, (⟨0, 0, 0⟩ : zjr), 0⟩ : zjs), 0)) else (zll q (wrp .i64 (v3 + v47_1)) v47_0 v47_1 v47_2 v47_3 (wrp .i64 (v48 + 1)) h0_1 h0_2 h0_3 h0_4 h0_5 h0_6)) else (if v48.toNat = 2 then (if v47_2 = 0 then (some ((⟨0, 0, 0, (⟨0, 0, 0⟩ : zjr), 0⟩ : zjs), 0)) else (zll q (wrp .i64 (v3 + v47_2)) v47_0 v47_1 v47_2 v47_3 (wrp .i64 (v48 + 1)) h0_1 h0_2 h0_3 h0_4 h0_5 h0_6)) else (if v48.toNat = 3 then (if v47_3 = 0 then (some ((⟨0, 0, 0, (⟨0, 0, 0⟩ : zjr), 0⟩ : zjs), 0)) else (zll q (wrp .i64 (v3 + v47_3)) v47_0 v47_1 v47_2 v47_3 (wrp .i64 (v48 + 1)) h0_1 h0_2 h0_3 h0_4 h0_5 h0_6)) else none)))) else none) else none) else (some ((⟨0, h0_1, h0_2, (⟨h0_3, h0_4, h0_5⟩ : zjr), h0_6⟩ : zjs), v3)))
def zlm : Nat → (Sl Int) → Option (zjs × Int)
 | 0, _ => none
 | q + 1, a0 => ((zla q a0).bind fun r1 => (if 0 ≤ r1.2 then (if r1.2 ≤ (a0.l.length : Int) then ((zlj q ⟨a0.z, (List.drop r1.2.toNat a0.l)⟩).bind fun r2 => (if 0 ≤ r2.2 then (if r2.2 ≤ (((a0.l.length - r1.2.toNat) : Nat) : Int) then ((zlk q ⟨a0.z, (List.drop r2.2.toNat (List.drop r1.2.toNat a0.l))⟩).bind fun r3 => (if 0 ≤ r3.2 then (if r3.2 ≤ ((((a0.l.length - r1.2.toNat) - r2.2.toNat) : Nat) : Int) then ((zlj q ⟨a0.z, (List.drop r3.2.toNat (List.drop r2.2.toNat (List.drop r1.2.toNat a0.l)))⟩).bind fun r4 => (zll q 0 r1.2 r2.2 r3.2 r4.2 0 r1.1 r2.1 r3.1.Code r3.1.A r3.1.B r4.1)) else none) else none)) else none) else none)) else none) else none))
def zln : Nat → (Sl Int) → (Sl Int) → Option (Bool)
 | 0, _, _ => none
 | q + 1, a0, a1 => (some (decide (a0.l = a1.l)))
def zlo : Nat → Bool → (List Int) → Int → Bool → (List Int) → Int → Int → (List (Int × Int)) → Bool → (List zjs) → Option ((Ow zjs) × Int)
 | 0, _, _, _, _, _, _, _, _, _, _ => none
 | q + 1, v0z, v0l, v4, v10z, v10l, v44, v45, h0m, h1z, h1l => (if v45 < v44 then ((zlm q ⟨v10z, v10l⟩).bind fun r3 => (if r3.2 = 0 then (some (⟨true, true, []⟩, 3)) else (if (h1l.length + 1) ≤ 4294967296 then (if 0 ≤ r3.2 then (if r3.2 ≤ (v10l.length : Int) then (zlo q v0z v0l v4 v10z (List.drop r3.2.toNat v10l) v44 (wrp .i64 (v45 + 1)) (mset h0m r3.1.Proc (wrp .i64 (r3.1.Seq + (mget h0m r3.1.Proc)))) false (h1l ++ [(⟨(wrp .i64 (v4 + v45)), r3.1.Proc, (wrp .i64 (r3.1.Seq + (mget h0m r3.1.Proc))), r3.1.Op, r3.1.Resp⟩ : zjs)])) else none) else none) else none))) else ((zkr q ⟨h1z, h1l⟩).bind fun r4 => (if r4.2 = 0 then ((zln q ⟨r4.1.n, r4.1.xs⟩ ⟨v0z, v0l⟩).bind fun r5 => (if r5 = true then (some (⟨h1z, false, h1l⟩, 0)) else (some (⟨true, true, []⟩, 3)))) else (some (⟨true, true, []⟩, 3)))))
def zlp : Nat → (Sl Int) → Option ((Ow zjs) × Int)
 | 0, _ => none
 | q + 1, a0 => ((zla q a0).bind fun r1 => (if 0 ≤ r1.2 then (if r1.2 ≤ (a0.l.length : Int) then ((zla q ⟨a0.z, (List.drop r1.2.toNat a0.l)⟩).bind fun r2 => (if r1.2 = 0 then (some (⟨true, true, []⟩, 3)) else (if r2.2 = 0 then (some (⟨true, true, []⟩, 3)) else (if 256 < r2.1 then (some (⟨true, true, []⟩, 3)) else (if 0 ≤ (wrp .i64 (r1.2 + r2.2)) then (if (wrp .i64 (r1.2 + r2.2)) ≤ (a0.l.length : Int) then (zlo q a0.z a0.l r1.1 a0.z (List.drop ((wrp .i64 (r1.2 + r2.2)).toNat) a0.l) r2.1 0 [] true []) else none) else none))))) else none) else none))
def zlq : Nat → (Sl Int) → Option ((Ow Int))
 | 0, _ => none
 | q + 1, a0 => (if a0.z = true then (some ⟨true, true, []⟩) else (if a0.l.length ≤ 4294967296 then (some ⟨false, true, a0.l⟩) else none))
def zlr : Nat → Bool → (List Int) → Int → Int → Int → Option (Int)
 | 0, _, _, _, _, _ => none
 | q + 1, v0z, v0l, v1, v7, v8 => (if v8 < v7 then (if 0 ≤ v8 then ((v0l[v8.toNat]?).bind fun e1 => (if v1 = e1 then (some v8) else (zlr q v0z v0l v1 v7 (wrp .i64 (v8 + 1))))) else none) else (some (-1)))
def zls : Nat → (Sl Int) → Int → Option (Int)
 | 0, _, _ => none
 | q + 1, a0, a1 => (zlr q a0.z a0.l a1 (a0.l.length : Int) 0)
def zlt : Nat → (Ow Int) → Int → Int → Option ((Ow Int))
 | 0, _, _, _ => none
 | q + 1, a0, a1, a2 => (if 0 ≤ a1 then (if a1 ≤ a2 then (if a2 ≤ (a0.xs.length : Int) then (if a1 = a2 then (some a0) else (if a1.toNat ≤ a0.xs.length then (if a0.n = true then (if 0 ≤ a2 then (if a2.toNat ≤ a0.xs.length then (if (a0.xs.length + (a0.xs.length - a2.toNat)) ≤ 4294967296 then (if (((a0.xs.length + (a0.xs.length - a2.toNat)) : Nat) : Int) ≤ (a0.xs.length : Int) then (if a0.xs.length ≤ (a0.xs.length + (a0.xs.length - a2.toNat)) then (if (a0.xs.length - a2.toNat) = 0 then none else (if a0.x = true then (some ⟨(a0.n && (decide ((a0.xs.length - a2.toNat) = 0))), true, (((List.take (a0.xs.length + (a0.xs.length - a2.toNat)) (a0.xs ++ (List.drop a2.toNat a0.xs))) ++ (List.replicate (a0.xs.length - (a0.xs.length + (a0.xs.length - a2.toNat))) 0)) ++ (List.drop ((a0.xs.length + (a0.xs.length - a2.toNat)) + (a0.xs.length - (a0.xs.length + (a0.xs.length - a2.toNat)))) (a0.xs ++ (List.drop a2.toNat a0.xs))))⟩) else none)) else none) else none) else none) else none) else none) else (if 0 ≤ a2 then (if a2.toNat ≤ a0.xs.length then (if (a1.toNat + (a0.xs.length - a2.toNat)) ≤ a0.xs.length then (if a0.x = true then (if (((a1.toNat + (a0.xs.length - a2.toNat)) : Nat) : Int) ≤ (a0.xs.length : Int) then (if a0.xs.length ≤ (((min a1.toNat a0.xs.length) + (a0.xs.length - a2.toNat)) + (a0.xs.length - (a1.toNat + (a0.xs.length - a2.toNat)))) then (some ⟨a0.n, true, (List.take (a1.toNat + (a0.xs.length - a2.toNat)) (((List.take (a1.toNat + (a0.xs.length - a2.toNat)) (((List.take a1.toNat a0.xs) ++ (List.drop a2.toNat a0.xs)) ++ (List.drop (a1.toNat + (a0.xs.length - a2.toNat)) a0.xs))) ++ (List.replicate (a0.xs.length - (a1.toNat + (a0.xs.length - a2.toNat))) 0)) ++ (List.drop ((a1.toNat + (a0.xs.length - a2.toNat)) + (a0.xs.length - (a1.toNat + (a0.xs.length - a2.toNat)))) (((List.take a1.toNat a0.xs) ++ (List.drop a2.toNat a0.xs)) ++ (List.drop (a1.toNat + (a0.xs.length - a2.toNat)) a0.xs)))))⟩) else none) else none) else none) else none) else none) else none)) else none)) else none) else none) else none)
def zlu : Nat → (Sl Int) → Option (Int)
 | 0, _ => none
 | q + 1, a0 => ((zla q a0).bind fun r1 => (if r1.2 = 0 then (some 0) else (if (wrp .i64 ((a0.l.length : Int) - r1.2)) < r1.1 then (some 0) else (some (wrp .i64 (r1.2 + r1.1))))))
def zlv : Nat → Int → Bool → (List Int) → Int → Int → Int → Int → Int → Int → Int → Int → Bool → (List Int) → Bool → Option (zjs × Int)
 | 0, _, _, _, _, _, _, _, _, _, _, _, _, _, _ => none
 | q + 1, v0, v1z, v1l, v7, h0_0, h0_1, h0_2, h0_3, h0_4, h0_5, h0_6, h1z, h1l, h1x => (if 0 < (v1l.length : Int) then ((zla q ⟨v1z, v1l⟩).bind fun r3 => (if r3.2 = 0 then (some ((⟨h0_0, h0_1, h0_2, (⟨h0_3, h0_4, h0_5⟩ : zjr), h0_6⟩ : zjs), 3)) else (if r3.1 ≤ v7 then (some ((⟨h0_0, h0_1, h0_2, (⟨h0_3, h0_4, h0_5⟩ : zjr), h0_6⟩ : zjs), 3)) else (if 0 ≤ r3.2 then (if r3.2 ≤ (v1l.length : Int) then ((zls q ⟨h1z, h1l⟩ r3.1).bind fun r4 => (if 0 ≤ r4 then ((zlt q ⟨h1z, h1x, h1l⟩ r4 (wrp .i64 (r4 + 1))).bind fun r5 => (if r3.1 = 1 then ((zla q ⟨v1z, (List.drop r3.2.toNat v1l)⟩).bind fun r6 => (if r6.2 = 0 then (some ((⟨r6.1, h0_1, h0_2, (⟨h0_3, h0_4, h0_5⟩ : zjr), h0_6⟩ : zjs), 3)) else (if 0 ≤ r6.2 then (if r6.2 ≤ (((v1l.length - r3.2.toNat) : Nat) : Int) then (zlv q v0 v1z (List.drop r6.2.toNat (List.drop r3.2.toNat v1l)) r3.1 r6.1 h0_1 h0_2 h0_3 h0_4 h0_5 h0_6 r5.n r5.xs r5.x) else none) else none))) else (if r3.1 = 2 then ((zla q ⟨v1z, (List.drop r3.2.toNat v1l)⟩).bind fun r7 => (if r7.2 = 0 then (some ((⟨h0_0, r7.1, h0_2, (⟨h0_3, h0_4, h0_5⟩ : zjr), h0_6⟩ : zjs), 3)) else (if 0 ≤ r7.2 then (if r7.2 ≤ (((v1l.length - r3.2.toNat) : Nat) : Int) then (zlv q v0 v1z (List.drop r7.2.toNat (List.drop r3.2.toNat v1l)) r3.1 h0_0 r7.1 h0_2 h0_3 h0_4 h0_5 h0_6 r5.n r5.xs r5.x) else none) else none))) else (if r3.1 = 3 then ((zla q ⟨v1z, (List.drop r3.2.toNat v1l)⟩).bind fun r8 => (if r8.2 = 0 then (some ((⟨h0_0, h0_1, r8.1, (⟨h0_3, h0_4, h0_5⟩ : zjr), h0_6⟩ : zjs), 3)) else (if 0 ≤ r8.2 then (if r8.2 ≤ (((v1l.length - r3.2.toNat) : Nat) : Int) then (zlv q v0 v1z (List.drop r8.2.toNat (List.drop r3.2.toNat v1l)) r3.1 h0_0 h0_1 r8.1 h0_3 h0_4 h0_5 h0_6 r5.n r5.xs r5.x) else none) else none))) else (if r3.1 = 4 then ((zlk q ⟨v1z, (List.drop r3.2.toNat v1l)⟩).bind fun r9 => (if r9.2 = 0 then (some ((⟨h0_0, h0_1, h0_2, r9.1, h0_6⟩ : zjs), 3)) else (if 0 ≤ r9.2 then (if r9.2 ≤ (((v1l.length - r3.2.toNat) : Nat) : Int) then (zlv q v0 v1z (List.drop r9.2.toNat (List.drop r3.2.toNat v1l)) r3.1 h0_0 h0_1 h0_2 r9.1.Code r9.1.A r9.1.B h0_6 r5.n r5.xs r5.x) else none) else none))) else (if r3.1 = 5 then ((zlj q ⟨v1z, (List.drop r3.2.toNat v1l)⟩).bind fun r10 => (if r10.2 = 0 then (some ((⟨h0_0, h0_1, h0_2, (⟨h0_3, h0_4, h0_5⟩ : zjr), r10.1⟩ : zjs), 3)) else (if 0 ≤ r10.2 then (if r10.2 ≤ (((v1l.length - r3.2.toNat) : Nat) : Int) then (zlv q v0 v1z (List.drop r10.2.toNat (List.drop r3.2.toNat v1l)) r3.1 h0_0 h0_1 h0_2 h0_3 h0_4 h0_5 r10.1 r5.n r5.xs r5.x) else none) else none))) else (some ((⟨h0_0, h0_1, h0_2, (⟨h0_3, h0_4, h0_5⟩ : zjr), h0_6⟩ : zjs), 3)))))))) else (if r3.1 < 16 then (some ((⟨h0_0, h0_1, h0_2, (⟨h0_3, h0_4, h0_5⟩ : zjr), h0_6⟩ : zjs), 7)) else (if v0 = 3 then (some ((⟨h0_0, h0_1, h0_2, (⟨h0_3, h0_4, h0_5⟩ : zjr), h0_6⟩ : zjs), 7)) else ((zlu q ⟨v1z, (List.drop r3.2.toNat v1l)⟩).bind fun r11 => (if r11 = 0 then (some ((⟨h0_0, h0_1, h0_2, (⟨h0_3, h0_4, h0_5⟩ : zjr), h0_6⟩ : zjs), 3)) else (if 0 ≤ r11 then (if r11 ≤ (((v1l.length - r3.2.toNat) : Nat) : Int) then (zlv q v0 v1z (List.drop r11.toNat (List.drop r3.2.toNat v1l)) r3.1 h0_0 h0_1 h0_2 h0_3 h0_4 h0_5 h0_6 h1z h1l h1x) else none) else none))))))) else none) else none)))) else (if 0 < (h1l.length : Int) then (some ((⟨h0_0, h0_1, h0_2, (⟨h0_3, h0_4, h0_5⟩ : zjr), h0_6⟩ : zjs), 7)) else ((zki q (⟨h0_0, h0_1, h0_2, (⟨h0_3, h0_4, h0_5⟩ : zjr), h0_6⟩ : zjs)).bind fun r12 => (if r12 = true then (some ((⟨h0_0, h0_1, h0_2, (⟨h0_3, h0_4, h0_5⟩ : zjr), h0_6⟩ : zjs), 0)) else (some ((⟨h0_0, h0_1, h0_2, (⟨h0_3, h0_4, h0_5⟩ : zjr), h0_6⟩ : zjs), 1))))))
def zlw : Nat → Int → (Sl Int) → Option (zjs × Int)
 | 0, _, _ => none
 | q + 1, a0, a1 => ((zks q a0).bind fun r1 => ((zlq q ⟨r1.n, r1.xs⟩).bind fun r2 => (zlv q a0 a1.z a1.l (-1) 0 0 0 0 0 0 0 r2.n r2.xs r2.x)))
def zlx : Nat → (Sl Int) → Option (zjs × Int)
 | 0, _ => none
 | q + 1, a0 => (if (a0.l.length : Int) = 0 then (some ((⟨0, 0, 0, (⟨0, 0, 0⟩ : zjr), 0⟩ : zjs), 2)) else ((zla q a0).bind fun r1 => (if r1.2 = 0 then (some ((⟨0, 0, 0, (⟨0, 0, 0⟩ : zjr), 0⟩ : zjs), 3)) else ((zks q r1.1).bind fun r2 => (if r2.n = true then (some ((⟨0, 0, 0, (⟨0, 0, 0⟩ : zjr), 0⟩ : zjs), 6)) else (if 0 ≤ r1.2 then (if r1.2 ≤ (a0.l.length : Int) then ((zlw q r1.1 ⟨a0.z, (List.drop r1.2.toNat a0.l)⟩).bind fun r3 => (if r3.2 = 0 then (some (r3.1, 0)) else (some ((⟨0, 0, 0, (⟨0, 0, 0⟩ : zjr), 0⟩ : zjs), r3.2)))) else none) else none))))))
def zly : Nat → Int → Bool → (List Int) → Bool → (List zjs) → Option ((Ow zjs) × Bool)
 | 0, _, _, _, _, _ => none
 | q + 1, v0, v1z, v1l, h0z, h0l => (if 0 < (v1l.length : Int) then ((zla q ⟨v1z, v1l⟩).bind fun r1 => (if r1.2 = 0 then (some (⟨true, true, []⟩, false)) else (if r1.1 = 0 then (some (⟨true, true, []⟩, false)) else (if (wrp .i64 ((v1l.length : Int) - r1.2)) < r1.1 then (some (⟨true, true, []⟩, false)) else (if 0 ≤ r1.2 then ((v1l[r1.2.toNat]?).bind fun e2 => (if e2 = (wrp .u8 v0) then (if r1.2 ≤ (wrp .i64 (r1.2 + r1.1)) then (if (wrp .i64 (r1.2 + r1.1)).toNat ≤ v1l.length then ((zlx q ⟨v1z, (List.drop r1.2.toNat (List.take ((wrp .i64 (r1.2 + r1.1)).toNat) v1l))⟩).bind fun r3 => (if r3.2 = 0 then (if (h0l.length + 1) ≤ 4294967296 then (if 0 ≤ (wrp .i64 (r1.2 + r1.1)) then (if (wrp .i64 (r1.2 + r1.1)) ≤ (v1l.length : Int) then (zly q v0 v1z (List.drop ((wrp .i64 (r1.2 + r1.1)).toNat) v1l) false (h0l ++ [r3.1])) else none) else none) else none) else (some (⟨true, true, []⟩, false)))) else none) else none) else (some (⟨true, true, []⟩, false)))) else none))))) else (some (⟨h0z, true, h0l⟩, true)))
def zlz : Nat → Int → (Sl Int) → Option ((Ow zjs) × Bool)
 | 0, _, _ => none
 | q + 1, a0, a1 => (zly q a0 a1.z a1.l true [])
def zl0 : Nat → Bool → (List (Sl Int)) → Int → Int → Bool → (List (Sl Int)) → Option ((Ow (Sl Int)))
 | 0, _, _, _, _, _, _ => none
 | q + 1, v6z, v6l, v7, v8, h0z, h0l => (if v8 < v7 then (if 0 ≤ v8 then ((v6l[v8.toNat]?).bind fun e1 => ((zke q e1).bind fun r2 => (if (h0l.length + 1) ≤ 4294967296 then (zl0 q v6z v6l v7 (wrp .i64 (v8 + 1)) false (h0l ++ [⟨r2.n, r2.xs⟩])) else none))) else none) else (some ⟨h0z, true, h0l⟩))
def zl1 : Nat → (Sl (Sl Int)) → Option ((Ow (Sl Int)))
 | 0, _ => none
 | q + 1, a0 => (zl0 q a0.z a0.l (a0.l.length : Int) 0 true [])
def zl2 : Nat → Bool → (List Int) → Int → Bool → (List (Sl Int)) → Bool → Int → Int → Int → Option (Int × Int × Int × Int × Bool)
 | 0, _, _, _, _, _, _, _, _, _ => none
 | q + 1, v1z, v1l, v19, h1z, h1l, h1x, h3_0, h3_1, h3_2 => (if v19 < 3 then ((zla q ⟨v1z, v1l⟩).bind fun r2 => (if 0 ≤ v19 then (if v19.toNat < 3 then (if v19.toNat = 0 then (if r2.2 = 0 then (some (3, 0, 0, 0, false)) else (if 0 ≤ r2.2 then (if r2.2 ≤ (v1l.length : Int) then (zl2 q v1z (List.drop r2.2.toNat v1l) (wrp .i64 (v19 + 1)) h1z h1l h1x r2.1 h3_1 h3_2) else none) else none)) else (if v19.toNat = 1 then (if r2.2 = 0 then (some (3, 0, 0, 0, false)) else (if 0 ≤ r2.2 then (if r2.2 ≤ (v1l.length : Int) then (zl2 q v1z (List.drop r2.2.toNat v1l) (wrp .i64 (v19 + 1)) h1z h1l h1x h3_0 r2.1 h3_2) else none) else none)) else (if v19.toNat = 2 then (if r2.2 = 0 then (some (3, 0, 0, 0, false)) else (if 0 ≤ r2.2 then (if r2.2 ≤ (v1l.length : Int) then (zl2 q v1z (List.drop r2.2.toNat v1l) (wrp .i64 (v19 + 1)) h1z h1l h1x h3_0 h3_1 r2.1) else none) else none)) else none))) else none) else none)) else (if 0 < (v1l.length : Int) then (some (3, 0, 0, 0, false)) else ((zju q h3_0).bind fun r3 => (if r3 = true then (if 6 ≤ h3_1 then (some (1, 0, 0, 0, false)) else (some (0, h3_0, h3_1, h3_2, true))) else (some (6, 0, 0, 0, false))))))
def zl3 : Nat → Bool → (List Int) → Bool → (List (Sl Int)) → Bool → Option (Int × Int × Int × Int × Bool)
 | 0, _, _, _, _, _ => none
 | q + 1, v1z, v1l, h1z, h1l, h1x => (if (v1l.length : Int) = 0 then (some (3, 0, 0, 0, false)) else ((v1l[0]?).bind fun e1 => (if e1 = 108 then (if 1 ≤ (v1l.length : Int) then (zl2 q v1z (List.drop 1 v1l) 0 h1z h1l h1x 0 0 0) else none) else (some (3, 0, 0, 0, false)))))
def zl4 : Nat → Nat → Nat → Int → Int → Bool → (List (Sl Int)) → Bool → Int → Int → Int → Bool → Bool → (List zjs) → Option (Nat × Int × Int × Int × Int × Int × Bool × Int × Int × Int × Int × Int × Nat × Bool × Bool × (List zjs))
 | 0, _, _, _, _, _, _, _, _, _, _, _, _, _ => none
 | q + 1, v1len, v19len, v20, v21, h1z, h1l, h1x, h2_0, h2_1, h2_2, h2_4, h3z, h3l => (if v21 < v20 then (if 0 ≤ v21 then (if v21.toNat < v19len then ((h1l[(1 + v21.toNat)]?).bind fun e8 => (if h2_0 = 3 then ((zlp q e8).bind fun r9 => (if r9.2 = 0 then (if h2_4 = true then (if (r9.1.xs.length : Int) = 0 then (some (1, 0, 0, 0, 0, 0, false, (wrp .i64 (v21 + 1)), 3, h2_0, h2_1, h2_2, h3l.length, h2_4, h3z, h3l)) else (if 16 < (r9.1.xs.length : Int) then (some (1, 0, 0, 0, 0, 0, false, (wrp .i64 (v21 + 1)), 3, h2_0, h2_1, h2_2, h3l.length, h2_4, h3z, h3l)) else ((zkk q ⟨r9.1.n, r9.1.xs⟩ (wrp .i64 (h2_2 + (h3l.length : Int)))).bind fun r10 => (if r10 = true then (if 4096 < (wrp .i64 ((h3l.length : Int) + (r9.1.xs.length : Int))) then (some (1, 0, 0, 0, 0, 0, false, (wrp .i64 (v21 + 1)), 5, h2_0, h2_1, h2_2, h3l.length, h2_4, h3z, h3l)) else (if (h3l.length + r9.1.xs.length) ≤ 4294967296 then (zl4 q v1len v19len v20 (wrp .i64 (v21 + 1)) h1z h1l h1x h2_0 h2_1 h2_2 (decide ((r9.1.xs.length : Int) = 16)) (h3z && (decide (r9.1.xs.length = 0))) (h3l ++ r9.1.xs)) else none)) else (some (1, 0, 0, 0, 0, 0, false, (wrp .i64 (v21 + 1)), 3, h2_0, h2_1, h2_2, h3l.length, h2_4, h3z, h3l)))))) else (some (1, 0, 0, 0, 0, 0, false, (wrp .i64 (v21 + 1)), 3, h2_0, h2_1, h2_2, h3l.length, h2_4, h3z, h3l))) else (some (1, 0, 0, 0, 0, 0, false, (wrp .i64 (v21 + 1)), 3, h2_0, h2_1, h2_2, h3l.length, h2_4, h3z, h3l)))) else ((zlz q h2_0 e8).bind fun r11 => (if r11.2 = true then (if h2_4 = true then (if (r11.1.xs.length : Int) = 0 then (some (1, 0, 0, 0, 0, 0, false, (wrp .i64 (v21 + 1)), 3, h2_0, h2_1, h2_2, h3l.length, h2_4, h3z, h3l)) else (if 16 < (r11.1.xs.length : Int) then (some (1, 0, 0, 0, 0, 0, false, (wrp .i64 (v21 + 1)), 3, h2_0, h2_1, h2_2, h3l.length, h2_4, h3z, h3l)) else ((zkk q ⟨r11.1.n, r11.1.xs⟩ (wrp .i64 (h2_2 + (h3l.length : Int)))).bind fun r12 => (if r12 = true then (if 4096 < (wrp .i64 ((h3l.length : Int) + (r11.1.xs.length : Int))) then (some (1, 0, 0, 0, 0, 0, false, (wrp .i64 (v21 + 1)), 5, h2_0, h2_1, h2_2, h3l.length, h2_4, h3z, h3l)) else (if (h3l.length + r11.1.xs.length) ≤ 4294967296 then (zl4 q v1len v19len v20 (wrp .i64 (v21 + 1)) h1z h1l h1x h2_0 h2_1 h2_2 (decide ((r11.1.xs.length : Int) = 16)) (h3z && (decide (r11.1.xs.length = 0))) (h3l ++ r11.1.xs)) else none)) else (some (1, 0, 0, 0, 0, 0, false, (wrp .i64 (v21 + 1)), 3, h2_0, h2_1, h2_2, h3l.length, h2_4, h3z, h3l)))))) else (some (1, 0, 0, 0, 0, 0, false, (wrp .i64 (v21 + 1)), 3, h2_0, h2_1, h2_2, h3l.length, h2_4, h3z, h3l))) else (some (1, 0, 0, 0, 0, 0, false, (wrp .i64 (v21 + 1)), 3, h2_0, h2_1, h2_2, h3l.length, h2_4, h3z, h3l)))))) else none) else none) else (some (1, 0, 0, 0, 0, 0, false, (v1len : Int), 0, h2_0, h2_1, h2_2, h3l.length, h2_4, h3z, h3l)))
def zl5 : Nat → Nat → Nat → Int → Bool → (List (Sl Int)) → Bool → Int → Int → Int → Bool → Option (Nat × Int × Int × Int × Int × Int × Bool × Int × Int × Int × Int × Int × Nat × Bool × Bool × (List zjs))
 | 0, _, _, _, _, _, _, _, _, _, _ => none
 | q + 1, v1len, v19len, v20, h1z, h1l, h1x, h2_0, h2_1, h2_2, h2_4 => (if 0 < v20 then (if 0 < v19len then ((h1l[1]?).bind fun e3 => (if h2_0 = 3 then ((zlp q e3).bind fun r4 => (if r4.2 = 0 then (if h2_4 = true then (if (r4.1.xs.length : Int) = 0 then (some (0, (wrp .i64 1), 3, h2_0, h2_1, h2_2, h2_4, 0, 0, 0, 0, 0, 0, false, false, [])) else (if 16 < (r4.1.xs.length : Int) then (some (0, (wrp .i64 1), 3, h2_0, h2_1, h2_2, h2_4, 0, 0, 0, 0, 0, 0, false, false, [])) else ((zkk q ⟨r4.1.n, r4.1.xs⟩ (wrp .i64 (h2_2 + 0))).bind fun r5 => (if r5 = true then (if 4096 < (wrp .i64 (0 + (r4.1.xs.length : Int))) then (some (0, (wrp .i64 1), 5, h2_0, h2_1, h2_2, h2_4, 0, 0, 0, 0, 0, 0, false, false, [])) else (if r4.1.xs.length ≤ 4294967296 then (zl4 q v1len v19len v20 (wrp .i64 1) h1z h1l h1x h2_0 h2_1 h2_2 (decide ((r4.1.xs.length : Int) = 16)) (decide (r4.1.xs.length = 0)) r4.1.xs) else none)) else (some (0, (wrp .i64 1), 3, h2_0, h2_1, h2_2, h2_4, 0, 0, 0, 0, 0, 0, false, false, [])))))) else (some (0, (wrp .i64 1), 3, h2_0, h2_1, h2_2, h2_4, 0, 0, 0, 0, 0, 0, false, false, []))) else (some (0, (wrp .i64 1), 3, h2_0, h2_1, h2_2, h2_4, 0, 0, 0, 0, 0, 0, false, false, [])))) else ((zlz q h2_0 e3).bind fun r6 => (if r6.2 = true then (if h2_4 = true then (if (r6.1.xs.length : Int) = 0 then (some (0, (wrp .i64 1), 3, h2_0, h2_1, h2_2, h2_4, 0, 0, 0, 0, 0, 0, false, false, [])) else (if 16 < (r6.1.xs.length : Int) then (some (0, (wrp .i64 1), 3, h2_0, h2_1, h2_2, h2_4, 0, 0, 0, 0, 0, 0, false, false, [])) else ((zkk q ⟨r6.1.n, r6.1.xs⟩ (wrp .i64 (h2_2 + 0))).bind fun r7 => (if r7 = true then (if 4096 < (wrp .i64 (0 + (r6.1.xs.length : Int))) then (some (0, (wrp .i64 1), 5, h2_0, h2_1, h2_2, h2_4, 0, 0, 0, 0, 0, 0, false, false, [])) else (if r6.1.xs.length ≤ 4294967296 then (zl4 q v1len v19len v20 (wrp .i64 1) h1z h1l h1x h2_0 h2_1 h2_2 (decide ((r6.1.xs.length : Int) = 16)) (decide (r6.1.xs.length = 0)) r6.1.xs) else none)) else (some (0, (wrp .i64 1), 3, h2_0, h2_1, h2_2, h2_4, 0, 0, 0, 0, 0, 0, false, false, [])))))) else (some (0, (wrp .i64 1), 3, h2_0, h2_1, h2_2, h2_4, 0, 0, 0, 0, 0, 0, false, false, []))) else (some (0, (wrp .i64 1), 3, h2_0, h2_1, h2_2, h2_4, 0, 0, 0, 0, 0, 0, false, false, [])))))) else none) else (some (0, (v1len : Int), 0, h2_0, h2_1, h2_2, h2_4, 0, 0, 0, 0, 0, 0, false, false, [])))
def zl6 : Nat → Nat → Bool → (List (Sl Int)) → Bool → Option (Nat × Int × Int × Int × Int × Int × Bool × Int × Int × Int × Int × Int × Nat × Bool × Bool × (List zjs))
 | 0, _, _, _, _ => none
 | q + 1, v1len, h1z, h1l, h1x => (if 0 < v1len then ((h1l[0]?).bind fun e1 => ((zl3 q e1.z e1.l h1z h1l h1x).bind fun r2 => (if r2.1 = 0 then (if 1 ≤ v1len then (zl5 q v1len (v1len - 1) (((v1len - 1) : Nat) : Int) h1z h1l h1x r2.2.1 r2.2.2.1 r2.2.2.2.1 r2.2.2.2.2) else none) else (some (0, 0, r2.1, r2.2.1, r2.2.2.1, r2.2.2.2.1, r2.2.2.2.2, 0, 0, 0, 0, 0, 0, false, false, []))))) else none)
def zl7 : Nat → Bool → (List Int) → Int → Bool → (List (Sl Int)) → Bool → Int → Int → Int → Option (Int × Int × Int × Int × Bool)
 | 0, _, _, _, _, _, _, _, _, _ => none
 | q + 1, v1z, v1l, v19, h1z, h1l, h1x, h3_0, h3_1, h3_2 => (if v19 < 3 then ((zla q ⟨v1z, v1l⟩).bind fun r2 => (if 0 ≤ v19 then (if v19.toNat < 3 then (if v19.toNat = 0 then (if r2.2 = 0 then (some (3, 0, 0, 0, false)) else (if 0 ≤ r2.2 then (if r2.2 ≤ (v1l.length : Int) then (zl7 q v1z (List.drop r2.2.toNat v1l) (wrp .i64 (v19 + 1)) h1z h1l h1x r2.1 h3_1 h3_2) else none) else none)) else (if v19.toNat = 1 then (if r2.2 = 0 then (some (3, 0, 0, 0, false)) else (if 0 ≤ r2.2 then (if r2.2 ≤ (v1l.length : Int) then (zl7 q v1z (List.drop r2.2.toNat v1l) (wrp .i64 (v19 + 1)) h1z h1l h1x h3_0 r2.1 h3_2) else none) else none)) else (if v19.toNat = 2 then (if r2.2 = 0 then (some (3, 0, 0, 0, false)) else (if 0 ≤ r2.2 then (if r2.2 ≤ (v1l.length : Int) then (zl7 q v1z (List.drop r2.2.toNat v1l) (wrp .i64 (v19 + 1)) h1z h1l h1x h3_0 h3_1 r2.1) else none) else none)) else none))) else none) else none)) else (if 0 < (v1l.length : Int) then (some (3, 0, 0, 0, false)) else ((zju q h3_0).bind fun r3 => (if r3 = true then (if 6 ≤ h3_1 then (some (1, 0, 0, 0, false)) else (some (0, h3_0, h3_1, h3_2, true))) else (some (6, 0, 0, 0, false))))))
def zl8 : Nat → Bool → (List Int) → Bool → (List (Sl Int)) → Bool → Option (Int × Int × Int × Int × Bool)
 | 0, _, _, _, _, _ => none
 | q + 1, v1z, v1l, h1z, h1l, h1x => (if (v1l.length : Int) = 0 then (some (3, 0, 0, 0, false)) else ((v1l[0]?).bind fun e1 => (if e1 = 108 then (if 1 ≤ (v1l.length : Int) then (zl7 q v1z (List.drop 1 v1l) 0 h1z h1l h1x 0 0 0) else none) else (some (3, 0, 0, 0, false)))))
def zl9 : Nat → Nat → Nat → Int → Int → Bool → (List (Sl Int)) → Bool → Int → Int → Int → Bool → Bool → (List zjs) → Option (Nat × Int × Int × Int × Int × Int × Bool × Int × Int × Int × Int × Int × Nat × Bool × Bool × (List zjs))
 | 0, _, _, _, _, _, _, _, _, _, _, _, _, _ => none
 | q + 1, v1len, v19len, v20, v21, h1z, h1l, h1x, h2_0, h2_1, h2_2, h2_4, h3z, h3l => (if v21 < v20 then (if 0 ≤ v21 then (if v21.toNat < v19len then ((h1l[(1 + v21.toNat)]?).bind fun e8 => (if h2_0 = 3 then ((zlp q e8).bind fun r9 => (if r9.2 = 0 then (if h2_4 = true then (if (r9.1.xs.length : Int) = 0 then (some (1, 0, 0, 0, 0, 0, false, (wrp .i64 (v21 + 1)), 3, h2_0, h2_1, h2_2, h3l.length, h2_4, h3z, h3l)) else (if 16 < (r9.1.xs.length : Int) then (some (1, 0, 0, 0, 0, 0, false, (wrp .i64 (v21 + 1)), 3, h2_0, h2_1, h2_2, h3l.length, h2_4, h3z, h3l)) else ((zkk q ⟨r9.1.n, r9.1.xs⟩ (wrp .i64 (h2_2 + (h3l.length : Int)))).bind fun r10 => (if r10 = true then (if 4096 < (wrp .i64 ((h3l.length : Int) + (r9.1.xs.length : Int))) then (some (1, 0, 0, 0, 0, 0, false, (wrp .i64 (v21 + 1)), 5, h2_0, h2_1, h2_2, h3l.length, h2_4, h3z, h3l)) else (if (h3l.length + r9.1.xs.length) ≤ 4294967296 then (zl9 q v1len v19len v20 (wrp .i64 (v21 + 1)) h1z h1l h1x h2_0 h2_1 h2_2 (decide ((r9.1.xs.length : Int) = 16)) (h3z && (decide (r9.1.xs.length = 0))) (h3l ++ r9.1.xs)) else none)) else (some (1, 0, 0, 0, 0, 0, false, (wrp .i64 (v21 + 1)), 3, h2_0, h2_1, h2_2, h3l.length, h2_4, h3z, h3l)))))) else (some (1, 0, 0, 0, 0, 0, false, (wrp .i64 (v21 + 1)), 3, h2_0, h2_1, h2_2, h3l.length, h2_4, h3z, h3l))) else (some (1, 0, 0, 0, 0, 0, false, (wrp .i64 (v21 + 1)), 3, h2_0, h2_1, h2_2, h3l.length, h2_4, h3z, h3l)))) else ((zlz q h2_0 e8).bind fun r11 => (if r11.2 = true then (if h2_4 = true then (if (r11.1.xs.length : Int) = 0 then (some (1, 0, 0, 0, 0, 0, false, (wrp .i64 (v21 + 1)), 3, h2_0, h2_1, h2_2, h3l.length, h2_4, h3z, h3l)) else (if 16 < (r11.1.xs.length : Int) then (some (1, 0, 0, 0, 0, 0, false, (wrp .i64 (v21 + 1)), 3, h2_0, h2_1, h2_2, h3l.length, h2_4, h3z, h3l)) else ((zkk q ⟨r11.1.n, r11.1.xs⟩ (wrp .i64 (h2_2 + (h3l.length : Int)))).bind fun r12 => (if r12 = true then (if 4096 < (wrp .i64 ((h3l.length : Int) + (r11.1.xs.length : Int))) then (some (1, 0, 0, 0, 0, 0, false, (wrp .i64 (v21 + 1)), 5, h2_0, h2_1, h2_2, h3l.length, h2_4, h3z, h3l)) else (if (h3l.length + r11.1.xs.length) ≤ 4294967296 then (zl9 q v1len v19len v20 (wrp .i64 (v21 + 1)) h1z h1l h1x h2_0 h2_1 h2_2 (decide ((r11.1.xs.length : Int) = 16)) (h3z && (decide (r11.1.xs.length = 0))) (h3l ++ r11.1.xs)) else none)) else (some (1, 0, 0, 0, 0, 0, false, (wrp .i64 (v21 + 1)), 3, h2_0, h2_1, h2_2, h3l.length, h2_4, h3z, h3l)))))) else (some (1, 0, 0, 0, 0, 0, false, (wrp .i64 (v21 + 1)), 3, h2_0, h2_1, h2_2, h3l.length, h2_4, h3z, h3l))) else (some (1, 0, 0, 0, 0, 0, false, (wrp .i64 (v21 + 1)), 3, h2_0, h2_1, h2_2, h3l.length, h2_4, h3z, h3l)))))) else none) else none) else (some (1, 0, 0, 0, 0, 0, false, (v1len : Int), 0, h2_0, h2_1, h2_2, h3l.length, h2_4, h3z, h3l)))
def zma : Nat → Nat → Nat → Int → Bool → (List (Sl Int)) → Bool → Int → Int → Int → Bool → Option (Nat × Int × Int × Int × Int × Int × Bool × Int × Int × Int × Int × Int × Nat × Bool × Bool × (List zjs))
 | 0, _, _, _, _, _, _, _, _, _, _ => none
 | q + 1, v1len, v19len, v20, h1z, h1l, h1x, h2_0, h2_1, h2_2, h2_4 => (if 0 < v20 then (if 0 < v19len then ((h1l[1]?).bind fun e3 => (if h2_0 = 3 then ((zlp q e3).bind fun r4 => (if r4.2 = 0 then (if h2_4 = true then (if (r4.1.xs.length : Int) = 0 then (some (0, (wrp .i64 1), 3, h2_0, h2_1, h2_2, h2_4, 0, 0, 0, 0, 0, 0, false, false, [])) else (if 16 < (r4.1.xs.length : Int) then (some (0, (wrp .i64 1), 3, h2_0, h2_1, h2_2, h2_4, 0, 0, 0, 0, 0, 0, false, false, [])) else ((zkk q ⟨r4.1.n, r4.1.xs⟩ (wrp .i64 (h2_2 + 0))).bind fun r5 => (if r5 = true then (if 4096 < (wrp .i64 (0 + (r4.1.xs.length : Int))) then (some (0, (wrp .i64 1), 5, h2_0, h2_1, h2_2, h2_4, 0, 0, 0, 0, 0, 0, false, false, [])) else (if r4.1.xs.length ≤ 4294967296 then (zl9 q v1len v19len v20 (wrp .i64 1) h1z h1l h1x h2_0 h2_1 h2_2 (decide ((r4.1.xs.length : Int) = 16)) (decide (r4.1.xs.length = 0)) r4.1.xs) else none)) else (some (0, (wrp .i64 1), 3, h2_0, h2_1, h2_2, h2_4, 0, 0, 0, 0, 0, 0, false, false, [])))))) else (some (0, (wrp .i64 1), 3, h2_0, h2_1, h2_2, h2_4, 0, 0, 0, 0, 0, 0, false, false, []))) else (some (0, (wrp .i64 1), 3, h2_0, h2_1, h2_2, h2_4, 0, 0, 0, 0, 0, 0, false, false, [])))) else ((zlz q h2_0 e3).bind fun r6 => (if r6.2 = true then (if h2_4 = true then (if (r6.1.xs.length : Int) = 0 then (some (0, (wrp .i64 1), 3, h2_0, h2_1, h2_2, h2_4, 0, 0, 0, 0, 0, 0, false, false, [])) else (if 16 < (r6.1.xs.length : Int) then (some (0, (wrp .i64 1), 3, h2_0, h2_1, h2_2, h2_4, 0, 0, 0, 0, 0, 0, false, false, [])) else ((zkk q ⟨r6.1.n, r6.1.xs⟩ (wrp .i64 (h2_2 + 0))).bind fun r7 => (if r7 = true then (if 4096 < (wrp .i64 (0 + (r6.1.xs.length : Int))) then (some (0, (wrp .i64 1), 5, h2_0, h2_1, h2_2, h2_4, 0, 0, 0, 0, 0, 0, false, false, [])) else (if r6.1.xs.length ≤ 4294967296 then (zl9 q v1len v19len v20 (wrp .i64 1) h1z h1l h1x h2_0 h2_1 h2_2 (decide ((r6.1.xs.length : Int) = 16)) (decide (r6.1.xs.length = 0)) r6.1.xs) else none)) else (some (0, (wrp .i64 1), 3, h2_0, h2_1, h2_2, h2_4, 0, 0, 0, 0, 0, 0, false, false, [])))))) else (some (0, (wrp .i64 1), 3, h2_0, h2_1, h2_2, h2_4, 0, 0, 0, 0, 0, 0, false, false, []))) else (some (0, (wrp .i64 1), 3, h2_0, h2_1, h2_2, h2_4, 0, 0, 0, 0, 0, 0, false, false, [])))))) else none) else (some (0, (v1len : Int), 0, h2_0, h2_1, h2_2, h2_4, 0, 0, 0, 0, 0, 0, false, false, [])))
def zmb : Nat → Nat → Bool → (List (Sl Int)) → Bool → Option (Nat × Int × Int × Int × Int × Int × Bool × Int × Int × Int × Int × Int × Nat × Bool × Bool × (List zjs))
 | 0, _, _, _, _ => none
 | q + 1, v1len, h1z, h1l, h1x => (if 0 < v1len then ((h1l[0]?).bind fun e1 => ((zl8 q e1.z e1.l h1z h1l h1x).bind fun r2 => (if r2.1 = 0 then (if 1 ≤ v1len then (zma q v1len (v1len - 1) (((v1len - 1) : Nat) : Int) h1z h1l h1x r2.2.1 r2.2.2.1 r2.2.2.2.1 r2.2.2.2.2) else none) else (some (0, 0, r2.1, r2.2.1, r2.2.2.1, r2.2.2.2.1, r2.2.2.2.2, 0, 0, 0, 0, 0, 0, false, false, []))))) else none)
def zmc : Nat → (Sl Int) → Option (zjt × (Ow (Sl Int)) × Int)
 | 0, _ => none
 | q + 1, a0 => ((zlh q a0).bind fun r1 => (if r1.2 = 0 then (if (r1.1.xs.length : Int) < 2 then (some ((⟨0, 0, ⟨true, []⟩⟩ : zjt), ⟨true, true, []⟩, 16)) else (if 0 ≤ (wrp .i64 ((r1.1.xs.length : Int) - 1)) then (if (wrp .i64 ((r1.1.xs.length : Int) - 1)).toNat ≤ r1.1.xs.length then (if r1.1.n = true then ((zl6 q ((wrp .i64 ((r1.1.xs.length : Int) - 1)).toNat) r1.1.n r1.1.xs r1.1.x).bind fun r2 => (if r2.1 = 0 then (if r2.2.2.1 = 0 then ((zl1 q ⟨r1.1.n, r1.1.xs⟩).bind fun r3 => ((zk1 q ⟨r3.n, r3.xs⟩).bind fun r4 => (if (wrp .i64 ((r1.1.xs.length : Int) - 1)).toNat < r1.1.xs.length then ((r1.1.xs[(wrp .i64 ((r1.1.xs.length : Int) - 1)).toNat]?).bind fun e5 => ((zke q e5).bind fun r6 => ((zln q ⟨r4.n, r4.xs⟩ ⟨r6.n, r6.xs⟩).bind fun r7 => (if r7 = true then (some ((⟨r2.2.2.2.2.1, r2.2.2.2.2.2.1, ⟨true, []⟩⟩ : zjt), ⟨r3.n, false, r3.xs⟩, 0)) else (some ((⟨0, 0, ⟨true, []⟩⟩ : zjt), ⟨true, true, []⟩, 16)))))) else none))) else (some ((⟨0, 0, ⟨true, []⟩⟩ : zjt), ⟨true, true, []⟩, r2.2.2.1))) else (if r2.2.2.2.2.2.2.2.2.1 = 0 then ((zl1 q ⟨r1.1.n, r1.1.xs⟩).bind fun r8 => ((zk1 q ⟨r8.n, r8.xs⟩).bind fun r9 => (if (wrp .i64 ((r1.1.xs.length : Int) - 1)).toNat < r1.1.xs.length then ((r1.1.xs[(wrp .i64 ((r1.1.xs.length : Int) - 1)).toNat]?).bind fun e10 => ((zke q e10).bind fun r11 => ((zln q ⟨r9.n, r9.xs⟩ ⟨r11.n, r11.xs⟩).bind fun r12 => (if r12 = true then (some ((⟨r2.2.2.2.2.2.2.2.2.2.2.1, r2.2.2.2.2.2.2.2.2.2.2.2.1, ⟨r2.2.2.2.2.2.2.2.2.2.2.2.2.2.2.1, r2.2.2.2.2.2.2.2.2.2.2.2.2.2.2.2⟩⟩ : zjt), ⟨r8.n, false, r8.xs⟩, 0)) else (some ((⟨0, 0, ⟨true, []⟩⟩ : zjt), ⟨true, true, []⟩, 16)))))) else none))) else (some ((⟨0, 0, ⟨true, []⟩⟩ : zjt), ⟨true, true, []⟩, r2.2.2.2.2.2.2.2.2.1))))) else ((zmb q ((wrp .i64 ((r1.1.xs.length : Int) - 1)).toNat) r1.1.n r1.1.xs r1.1.x).bind fun r13 => (if r13.1 = 0 then (if r13.2.2.1 = 0 then ((zl1 q ⟨r1.1.n, (List.take ((wrp .i64 ((r1.1.xs.length : Int) - 1)).toNat) r1.1.xs)⟩).bind fun r14 => ((zk1 q ⟨r14.n, r14.xs⟩).bind fun r15 => (if (wrp .i64 ((r1.1.xs.length : Int) - 1)).toNat < r1.1.xs.length then ((r1.1.xs[(wrp .i64 ((r1.1.xs.length : Int) - 1)).toNat]?).bind fun e16 => ((zke q e16).bind fun r17 => ((zln q ⟨r15.n, r15.xs⟩ ⟨r17.n, r17.xs⟩).bind fun r18 => (if r18 = true then (some ((⟨r13.2.2.2.2.1, r13.2.2.2.2.2.1, ⟨true, []⟩⟩ : zjt), ⟨r14.n, false, r14.xs⟩, 0)) else (some ((⟨0, 0, ⟨true, []⟩⟩ : zjt), ⟨true, true, []⟩, 16)))))) else none))) else (some ((⟨0, 0, ⟨true, []⟩⟩ : zjt), ⟨true, true, []⟩, r13.2.2.1))) else (if r13.2.2.2.2.2.2.2.2.1 = 0 then ((zl1 q ⟨r1.1.n, (List.take ((wrp .i64 ((r1.1.xs.length : Int) - 1)).toNat) r1.1.xs)⟩).bind fun r19 => ((zk1 q ⟨r19.n, r19.xs⟩).bind fun r20 => (if (wrp .i64 ((r1.1.xs.length : Int) - 1)).toNat < r1.1.xs.length then ((r1.1.xs[(wrp .i64 ((r1.1.xs.length : Int) - 1)).toNat]?).bind fun e21 => ((zke q e21).bind fun r22 => ((zln q ⟨r20.n, r20.xs⟩ ⟨r22.n, r22.xs⟩).bind fun r23 => (if r23 = true then (some ((⟨r13.2.2.2.2.2.2.2.2.2.2.1, r13.2.2.2.2.2.2.2.2.2.2.2.1, ⟨r13.2.2.2.2.2.2.2.2.2.2.2.2.2.2.1, r13.2.2.2.2.2.2.2.2.2.2.2.2.2.2.2⟩⟩ : zjt), ⟨r19.n, false, r19.xs⟩, 0)) else (some ((⟨0, 0, ⟨true, []⟩⟩ : zjt), ⟨true, true, []⟩, 16)))))) else none))) else (some ((⟨0, 0, ⟨true, []⟩⟩ : zjt), ⟨true, true, []⟩, r13.2.2.2.2.2.2.2.2.1)))))) else none) else none)) else (some ((⟨0, 0, ⟨true, []⟩⟩ : zjt), ⟨true, true, []⟩, r1.2))))
def zmd : Nat → Bool → (List Int) → Int → Option (Bool)
 | 0, _, _, _ => none
 | q + 1, v0z, v0l, v3 => (if v3 < (v0l.length : Int) then (if 0 ≤ v3 then ((v0l[v3.toNat]?).bind fun e1 => (if e1 < 128 then (some false) else (zmd q v0z v0l (wrp .i64 (v3 + 1))))) else none) else (some (decide ((v0l.length : Int) < 10))))
def zme : Nat → (Sl Int) → Option (Bool)
 | 0, _ => none
 | q + 1, a0 => (zmd q a0.z a0.l 0)
def zmf : Nat → Bool → (List Int) → Int → Int → Int → Option (Int × Int)
 | 0, _, _, _, _, _ => none
 | q + 1, v0z, v0l, v4, v5, v6 => (if v6 < (v0l.length : Int) then (if v6 < 10 then (if 0 ≤ v6 then ((v0l[v6.toNat]?).bind fun e1 => (if v6 = 9 then (if 1 < (wrp .u64 (Int.tmod e1 128)) then (some (0, 0)) else (if e1 < 128 then (if 0 < v6 then (if (wrp .u64 (Int.tmod e1 128)) = 0 then (some (0, 0)) else (some ((wrp .u64 (v4 + (wrp .u64 ((wrp .u64 (Int.tmod e1 128)) * v5)))), (wrp .i64 (v6 + 1))))) else (some ((wrp .u64 (v4 + (wrp .u64 ((wrp .u64 (Int.tmod e1 128)) * v5)))), (wrp .i64 (v6 + 1))))) else (zmf q v0z v0l (wrp .u64 (v4 + (wrp .u64 ((wrp .u64 (Int.tmod e1 128)) * v5)))) (wrp .u64 (v5 * 128)) (wrp .i64 (v6 + 1))))) else (if e1 < 128 then (if 0 < v6 then (if (wrp .u64 (Int.tmod e1 128)) = 0 then (some (0, 0)) else (some ((wrp .u64 (v4 + (wrp .u64 ((wrp .u64 (Int.tmod e1 128)) * v5)))), (wrp .i64 (v6 + 1))))) else (some ((wrp .u64 (v4 + (wrp .u64 ((wrp .u64 (Int.tmod e1 128)) * v5)))), (wrp .i64 (v6 + 1))))) else (zmf q v0z v0l (wrp .u64 (v4 + (wrp .u64 ((wrp .u64 (Int.tmod e1 128)) * v5)))) (wrp .u64 (v5 * 128)) (wrp .i64 (v6 + 1)))))) else none) else (some (0, 0))) else (some (0, 0)))
def zmg : Nat → (Sl Int) → Option (Int × Int)
 | 0, _ => none
 | q + 1, a0 => (zmf q a0.z a0.l 0 1 0)
def zmh : Nat → (Sl Int) → Option (Int × Int)
 | 0, _ => none
 | q + 1, a0 => ((zmg q a0).bind fun r1 => (if r1.2 = 0 then (some (0, 0)) else (if 4611686018427387904 ≤ r1.1 then (some (0, 0)) else (some ((wrp .i64 r1.1), r1.2)))))
def zmi : Nat → Int → Int → Option (Int)
 | 0, _, _ => none
 | q + 1, v3, v4 => (if v4 < 8 then (if (Int.tmod v3 2) = 1 then (zmi q (ibits .xor .u32 (wrp .u32 (Int.tdiv v3 2)) 2197175160) (wrp .i64 (v4 + 1))) else (zmi q (wrp .u32 (Int.tdiv v3 2)) (wrp .i64 (v4 + 1)))) else (some v3))
def zmj : Nat → Int → Option (Int)
 | 0, _ => none
 | q + 1, a0 => (zmi q (wrp .u32 a0) 0)
def zmk : Nat → Bool → (List Int) → Int → Int → Option (Int)
 | 0, _, _, _, _ => none
 | q + 1, v1z, v1l, v5, v6 => (if v6 < (v1l.length : Int) then (if 0 ≤ v6 then ((v1l[v6.toNat]?).bind fun e1 => ((zmj q (ibits .xor .u8 (wrp .u8 v5) e1)).bind fun r2 => (zmk q v1z v1l (ibits .xor .u32 r2 (wrp .u32 (Int.tdiv v5 256))) (wrp .i64 (v6 + 1))))) else none) else (some (ibits .xor .u32 4294967295 v5)))
def zml : Nat → Int → (Sl Int) → Option (Int)
 | 0, _, _ => none
 | q + 1, a0, a1 => (zmk q a1.z a1.l (ibits .xor .u32 4294967295 a0) 0)
def zmm : Nat → (Sl Int) → Option (Int)
 | 0, _ => none
 | q + 1, a0 => ((zml q 0 a0).bind fun r1 => (some r1))
def zmn : Nat → Bool → (List Int) → Int → Int → Option (Int)
 | 0, _, _, _, _ => none
 | q + 1, v0z, v0l, v3, v4 => (if 0 ≤ v4 then (if v4 < (v0l.length : Int) then ((v0l[v4.toNat]?).bind fun e1 => (zmn q v0z v0l (wrp .u64 ((wrp .u64 (v3 * 256)) + (wrp .u64 e1))) (wrp .i64 (v4 - 1)))) else (zmn q v0z v0l v3 (wrp .i64 (v4 - 1)))) else (some v3))
def zmo : Nat → (Sl Int) → Option (Int)
 | 0, _ => none
 | q + 1, a0 => (zmn q a0.z a0.l 0 7)
def zmp : Nat → (Sl Int) → Option ((Ow Int) × Int × Int)
 | 0, _ => none
 | q + 1, a0 => ((zme q a0).bind fun r1 => (if r1 = true then (some (⟨true, true, []⟩, 0, 2)) else ((zmh q a0).bind fun r2 => (if r2.2 = 0 then (some (⟨true, true, []⟩, 0, 3)) else (if 1048576 < r2.1 then (some (⟨true, true, []⟩, 0, 5)) else (if (a0.l.length : Int) < (wrp .i64 ((wrp .i64 (r2.2 + 4)) + r2.1)) then (some (⟨true, true, []⟩, 0, 2)) else (if 0 ≤ r2.2 then (if r2.2 ≤ (wrp .i64 (r2.2 + r2.1)) then (if (wrp .i64 (r2.2 + r2.1)).toNat ≤ a0.l.length then (if 0 ≤ (wrp .i64 (r2.2 + r2.1)) then ((zmm q ⟨a0.z, (List.take ((wrp .i64 (r2.2 + r2.1)).toNat) a0.l)⟩).bind fun r3 => (if (wrp .i64 (r2.2 + r2.1)) ≤ (wrp .i64 ((wrp .i64 (r2.2 + r2.1)) + 4)) then (if (wrp .i64 ((wrp .i64 (r2.2 + r2.1)) + 4)).toNat ≤ a0.l.length then ((zmo q ⟨a0.z, (List.drop ((wrp .i64 (r2.2 + r2.1)).toNat) (List.take ((wrp .i64 ((wrp .i64 (r2.2 + r2.1)) + 4)).toNat) a0.l))⟩).bind fun r4 => (if r4 = (wrp .u64 r3) then (if ((min ((wrp .i64 (r2.2 + r2.1)).toNat) a0.l.length) - r2.2.toNat) ≤ 4294967296 then (some (⟨(decide (((min ((wrp .i64 (r2.2 + r2.1)).toNat) a0.l.length) - r2.2.toNat) = 0)), true, (List.drop r2.2.toNat (List.take ((wrp .i64 (r2.2 + r2.1)).toNat) a0.l))⟩, (wrp .i64 ((wrp .i64 (r2.2 + 4)) + r2.1)), 0)) else none) else (some (⟨true, true, []⟩, 0, 4)))) else none) else none)) else none) else none) else none) else none)))))))
def zmq : Nat → Bool → (List Int) → Int → Bool → (List (Sl Int)) → Option ((Ow (Sl Int)) × Int × Int)
 | 0, _, _, _, _, _ => none
 | q + 1, v0z, v0l, v6, h0z, h0l => (if v6 < (v0l.length : Int) then (if 0 ≤ v6 then (if v6 ≤ (v0l.length : Int) then ((zmp q ⟨v0z, (List.drop v6.toNat v0l)⟩).bind fun r1 => (if r1.2.2 = 0 then (if (h0l.length + 1) ≤ 4294967296 then (zmq q v0z v0l (wrp .i64 (v6 + r1.2.1)) false (h0l ++ [⟨r1.1.n, r1.1.xs⟩])) else none) else (some (⟨h0z, true, h0l⟩, v6, r1.2.2)))) else none) else none) else (some (⟨h0z, true, h0l⟩, v6, 0)))
def zmr : Nat → (Sl Int) → Option ((Ow (Sl Int)) × Int × Int)
 | 0, _ => none
 | q + 1, a0 => (zmq q a0.z a0.l 0 true [])
def zms : Nat → (Sl Int) → Option ((Ow (Sl Int)) × Int)
 | 0, _ => none
 | q + 1, a0 => ((zmr q a0).bind fun r1 => (if r1.2.2 = 0 then (some (r1.1, 0)) else (some (⟨true, true, []⟩, r1.2.2))))
def zmt : Nat → Int → Int → Option (Bool)
 | 0, _, _ => none
 | q + 1, a0, a1 => (if a1 = 1 then (some true) else (if a1 = 2 then (some true) else (if a1 = 4 then (some true) else (if a1 = 3 then (if 2 ≤ a0 then (some true) else (if a1 = 5 then (some (decide (a0 = 3))) else (some false))) else (if a1 = 5 then (some (decide (a0 = 3))) else (some false))))))
def zmu : Nat → Int → Option (Int)
 | 0, _ => none
 | q + 1, a0 => (if (Int.tmod a0 2) = 0 then (some (wrp .i64 (wrp .u64 (Int.tdiv a0 2)))) else (some (wrp .i64 ((wrp .i64 (0 - (wrp .i64 (wrp .u64 (Int.tdiv a0 2))))) - 1))))
def zmv : Nat → (Sl Int) → Option (Int × Int)
 | 0, _ => none
 | q + 1, a0 => ((zmg q a0).bind fun r1 => (if r1.2 = 0 then (some (0, 0)) else ((zmu q r1.1).bind fun r2 => (some (r2, r1.2)))))
def zmw : Nat → Int → Option (Int)
 | 0, _ => none
 | q + 1, a0 => (if a0 < (-1099511627776) then (some (-1099511627776)) else (if 1099511627776 < a0 then (some 1099511627776) else (some a0)))
def zmx : Nat → zjr → Option (Bool)
 | 0, _ => none
 | q + 1, a0 => (if 0 ≤ a0.Code then (if a0.Code ≤ 10 then ((zmw q a0.A).bind fun r1 => (if a0.A = r1 then ((zmw q a0.B).bind fun r2 => (some (decide (a0.B = r2)))) else (some false))) else (some false)) else (some false))
def zmy : Nat → (Sl Int) → Option (zjr × Int)
 | 0, _ => none
 | q + 1, a0 => ((zmh q a0).bind fun r1 => (if 0 ≤ r1.2 then (if r1.2 ≤ (a0.l.length : Int) then ((zmv q ⟨a0.z, (List.drop r1.2.toNat a0.l)⟩).bind fun r2 => (if 0 ≤ (wrp .i64 (r1.2 + r2.2)) then (if (wrp .i64 (r1.2 + r2.2)) ≤ (a0.l.length : Int) then ((zmv q ⟨a0.z, (List.drop ((wrp .i64 (r1.2 + r2.2)).toNat) a0.l)⟩).bind fun r3 => ((zmx q (⟨r1.1, r2.1, r3.1⟩ : zjr)).bind fun r4 => (if r1.2 = 0 then (some ((⟨0, 0, 0⟩ : zjr), 0)) else (if r2.2 = 0 then (some ((⟨0, 0, 0⟩ : zjr), 0)) else (if r3.2 = 0 then (some ((⟨0, 0, 0⟩ : zjr), 0)) else (if r4 = true then (some ((⟨r1.1, r2.1, r3.1⟩ : zjr), (wrp .i64 ((wrp .i64 (r1.2 + r2.2)) + r3.2)))) else (some ((⟨0, 0, 0⟩ : zjr), 0)))))))) else none) else none)) else none) else none))
def zmz : Nat → zjs → Int → (Sl Int) → Option (zjs × Int)
 | 0, _, _, _ => none
 | q + 1, a0, a1, a2 => ((zmh q a2).bind fun r1 => (if a1 = 1 then (some ((⟨r1.1, a0.Proc, a0.Seq, a0.Op, a0.Resp⟩ : zjs), r1.2)) else (if a1 = 2 then (some ((⟨a0.Index, r1.1, a0.Seq, a0.Op, a0.Resp⟩ : zjs), r1.2)) else (if a1 = 3 then (some ((⟨a0.Index, a0.Proc, r1.1, a0.Op, a0.Resp⟩ : zjs), r1.2)) else (if a1 = 4 then ((zmy q a2).bind fun r2 => (some ((⟨a0.Index, a0.Proc, a0.Seq, r2.1, a0.Resp⟩ : zjs), r2.2))) else (if a1 = 5 then ((zmv q a2).bind fun r3 => (some ((⟨a0.Index, a0.Proc, a0.Seq, a0.Op, r3.1⟩ : zjs), r3.2))) else (some (a0, r1.2))))))))
def zm0 : Nat → zjs → Option (Bool)
 | 0, _ => none
 | q + 1, a0 => ((zmx q a0.Op).bind fun r1 => (if r1 = true then (if 0 ≤ a0.Index then (if a0.Index < 4611686018427387904 then (if 0 ≤ a0.Seq then (if a0.Seq < 4611686018427387904 then (if 0 ≤ a0.Proc then (if a0.Proc ≤ 64 then (if (-1125899906842624) ≤ a0.Resp then (some (decide (a0.Resp ≤ 1125899906842624))) else (some false)) else (some false)) else (some false)) else (some false)) else (some false)) else (some false)) else (some false)) else (some false)))
def zm1 : Nat → Bool → (List Int) → Int → Int → Int → Int → Int → Int → Int → Int → Int → Int → Int → Option (zjs × Int)
 | 0, _, _, _, _, _, _, _, _, _, _, _, _, _ => none
 | q + 1, v0z, v0l, v5, v6, v8, v9, h2_0, h2_1, h2_2, h2_3, h2_4, h2_5, h2_6 => (if v6 < (v0l.length : Int) then (if 0 ≤ v6 then (if v6 ≤ (v0l.length : Int) then ((zmh q ⟨v0z, (List.drop v6.toNat v0l)⟩).bind fun r2 => (if r2.2 = 0 then (some ((⟨0, 0, 0, (⟨0, 0, 0⟩ : zjr), 0⟩ : zjs), 3)) else (if r2.1 ≤ v8 then (some ((⟨0, 0, 0, (⟨0, 0, 0⟩ : zjr), 0⟩ : zjs), 3)) else ((zmt q v5 r2.1).bind fun r3 => (if r3 = true then (if 0 ≤ (wrp .i64 (v6 + r2.2)) then (if (wrp .i64 (v6 + r2.2)) ≤ (v0l.length : Int) then ((zmz q (⟨h2_0, h2_1, h2_2, (⟨h2_3, h2_4, h2_5⟩ : zjr), h2_6⟩ : zjs) r2.1 ⟨v0z, (List.drop ((wrp .i64 (v6 + r2.2)).toNat) v0l)⟩).bind fun r4 => (if r4.2 = 0 then (some ((⟨0, 0, 0, (⟨0, 0, 0⟩ : zjr), 0⟩ : zjs), 3)) else (zm1 q v0z v0l v5 (wrp .i64 ((wrp .i64 (v6 + r2.2)) + r4.2)) r2.1 (wrp .i64 (v9 + 1)) r4.1.Index r4.1.Proc r4.1.Seq r4.1.Op.Code r4.1.Op.A r4.1.Op.B r4.1.Resp))) else none) else none) else (if r2.1 < 16 then (some ((⟨0, 0, 0, (⟨0, 0, 0⟩ : zjr), 0⟩ : zjs), 7)) else (if v5 = 3 then (some ((⟨0, 0, 0, (⟨0, 0, 0⟩ : zjr), 0⟩ : zjs), 7)) else (if 0 ≤ (wrp .i64 (v6 + r2.2)) then (if (wrp .i64 (v6 + r2.2)) ≤ (v0l.length : Int) then ((zmh q ⟨v0z, (List.drop ((wrp .i64 (v6 + r2.2)).toNat) v0l)⟩).bind fun r5 => (if r5.2 = 0 then (some ((⟨0, 0, 0, (⟨0, 0, 0⟩ : zjr), 0⟩ : zjs), 3)) else (if (wrp .i64 ((wrp .i64 ((v0l.length : Int) - (wrp .i64 (v6 + r2.2)))) - r5.2)) < r5.1 then (some ((⟨0, 0, 0, (⟨0, 0, 0⟩ : zjr), 0⟩ : zjs), 3)) else (zm1 q v0z v0l v5 (wrp .i64 ((wrp .i64 ((wrp .i64 (v6 + r2.2)) + r5.2)) + r5.1)) r2.1 v9 h2_0 h2_1 h2_2 h2_3 h2_4 h2_5 h2_6)))) else none) else none)))))))) else none) else none) else (if v9 = (wrp .i64 (v5 + 2)) then ((zm0 q (⟨h2_0, h2_1, h2_2, (⟨h2_3, h2_4, h2_5⟩ : zjr), h2_6⟩ : zjs)).bind fun r6 => (if r6 = true then (some ((⟨h2_0, h2_1, h2_2, (⟨h2_3, h2_4, h2_5⟩ : zjr), h2_6⟩ : zjs), 0)) else (some ((⟨0, 0, 0, (⟨0, 0, 0⟩ : zjr), 0⟩ : zjs), 1)))) else (some ((⟨0, 0, 0, (⟨0, 0, 0⟩ : zjr), 0⟩ : zjs), 7))))
def zm2 : Nat → (Sl Int) → Option (zjs × Int)
 | 0, _ => none
 | q + 1, a0 => (if (a0.l.length : Int) = 0 then (some ((⟨0, 0, 0, (⟨0, 0, 0⟩ : zjr), 0⟩ : zjs), 2)) else ((zmh q a0).bind fun r1 => (if r1.2 = 0 then (some ((⟨0, 0, 0, (⟨0, 0, 0⟩ : zjr), 0⟩ : zjs), 3)) else (if r1.1 < 1 then (some ((⟨0, 0, 0, (⟨0, 0, 0⟩ : zjr), 0⟩ : zjs), 6)) else (if 3 < r1.1 then (some ((⟨0, 0, 0, (⟨0, 0, 0⟩ : zjr), 0⟩ : zjs), 6)) else (zm1 q a0.z a0.l r1.1 r1.2 (-1) 0 0 0 0 0 0 0 0))))))
def zm3 : Nat → Int → Bool → (List Int) → Bool → (List zjs) → Option ((Ow zjs) × Bool)
 | 0, _, _, _, _, _ => none
 | q + 1, v0, v1z, v1l, h0z, h0l => (if 0 < (v1l.length : Int) then ((zmh q ⟨v1z, v1l⟩).bind fun r1 => (if r1.2 = 0 then (some (⟨true, true, []⟩, false)) else (if (wrp .i64 ((v1l.length : Int) - r1.2)) < r1.1 then (some (⟨true, true, []⟩, false)) else (if r1.1 < 1 then (some (⟨true, true, []⟩, false)) else (if 0 ≤ r1.2 then ((v1l[r1.2.toNat]?).bind fun e2 => (if e2 = (wrp .u8 v0) then (if r1.2 ≤ (wrp .i64 (r1.2 + r1.1)) then (if (wrp .i64 (r1.2 + r1.1)).toNat ≤ v1l.length then ((zm2 q ⟨v1z, (List.drop r1.2.toNat (List.take ((wrp .i64 (r1.2 + r1.1)).toNat) v1l))⟩).bind fun r3 => (if r3.2 = 0 then (if (h0l.length + 1) ≤ 4294967296 then (if 0 ≤ (wrp .i64 (r1.2 + r1.1)) then (if (wrp .i64 (r1.2 + r1.1)) ≤ (v1l.length : Int) then (zm3 q v0 v1z (List.drop ((wrp .i64 (r1.2 + r1.1)).toNat) v1l) false (h0l ++ [r3.1])) else none) else none) else none) else (some (⟨true, true, []⟩, false)))) else none) else none) else (some (⟨true, true, []⟩, false)))) else none))))) else (some (⟨h0z, true, h0l⟩, true)))
def zm4 : Nat → Int → (Sl Int) → Option ((Ow zjs) × Bool)
 | 0, _, _ => none
 | q + 1, a0, a1 => (zm3 q a0 a1.z a1.l true [])
def zm5 : Nat → Bool → (List zjs) → Int → Int → Option (Bool)
 | 0, _, _, _, _ => none
 | q + 1, v0z, v0l, v1, v5 => (if v5 < (v0l.length : Int) then (if 0 ≤ v5 then ((v0l[v5.toNat]?).bind fun e1 => ((zm0 q e1).bind fun r2 => (if r2 = true then (if e1.Index = (wrp .i64 (v1 + v5)) then (zm5 q v0z v0l v1 (wrp .i64 (v5 + 1))) else (some false)) else (some false)))) else none) else (some true))
def zm6 : Nat → (Sl zjs) → Int → Option (Bool)
 | 0, _, _ => none
 | q + 1, a0, a1 => (if 4096 < (a0.l.length : Int) then (some false) else (zm5 q a0.z a0.l a1 0))
def zm7 : Nat → Bool → (List zjs) → Int → Int → Option (Int)
 | 0, _, _, _, _ => none
 | q + 1, v0z, v0l, v1, v5 => (if 0 ≤ v5 then ((v0l[v5.toNat]?).bind fun e1 => (if e1.Proc = v1 then (some e1.Seq) else (zm7 q v0z v0l v1 (wrp .i64 (v5 - 1))))) else (some 0))
def zm8 : Nat → (Sl zjs) → Int → Option (Int)
 | 0, _, _ => none
 | q + 1, a0, a1 => (zm7 q a0.z a0.l a1 (wrp .i64 ((a0.l.length : Int) - 1)))
def zm9 : Nat → (Sl zjs) → (Sl Int) → Option (zjs × Int)
 | 0, _, _ => none
 | q + 1, a0, a1 => ((zmh q a1).bind fun r1 => (if 0 ≤ r1.2 then (if r1.2 ≤ (a1.l.length : Int) then ((zmv q ⟨a1.z, (List.drop r1.2.toNat a1.l)⟩).bind fun r2 => (if 0 ≤ (wrp .i64 (r1.2 + r2.2)) then (if (wrp .i64 (r1.2 + r2.2)) ≤ (a1.l.length : Int) then ((zmy q ⟨a1.z, (List.drop ((wrp .i64 (r1.2 + r2.2)).toNat) a1.l)⟩).bind fun r3 => (if 0 ≤ (wrp .i64 ((wrp .i64 (r1.2 + r2.2)) + r3.2)) then (if (wrp .i64 ((wrp .i64 (r1.2 + r2.2)) + r3.2)) ≤ (a1.l.length : Int) then ((zmv q ⟨a1.z, (List.drop ((wrp .i64 ((wrp .i64 (r1.2 + r2.2)) + r3.2)).toNat) a1.l)⟩).bind fun r4 => (if r1.2 = 0 then (some ((⟨0, 0, 0, (⟨0, 0, 0⟩ : zjr), 0⟩ : zjs), 0)) else (if r2.2 = 0 then (some ((⟨0, 0, 0, (⟨0, 0, 0⟩ : zjr), 0⟩ : zjs), 0)) else (if r3.2 = 0 then (some ((⟨0, 0, 0, (⟨0, 0, 0⟩ : zjr), 0⟩ : zjs), 0)) else (if r4.2 = 0 then (some ((⟨0, 0, 0, (⟨0, 0, 0⟩ : zjr), 0⟩ : zjs), 0)) else ((zm8 q a0 r1.1).bind fun r5 => (some ((⟨0, r1.1, (wrp .i64 (r5 + r2.1)), r3.1, r4.1⟩ : zjs), (wrp .i64 ((wrp .i64 ((wrp .i64 (r1.2 + r2.2)) + r3.2)) + r4.2)))))))))) else none) else none)) else none) else none)) else none) else none))
def zna : Nat → Bool → (List zjs) → Int → Option (Bool)
 | 0, _, _, _ => none
 | q + 1, v0z, v0l, v3 => (if v3 < (v0l.length : Int) then (if 0 ≤ v3 then ((v0l[v3.toNat]?).bind fun e1 => ((zm0 q e1).bind fun r2 => (if r2 = true then (if 0 < v3 then (if 0 ≤ (wrp .i64 (v3 - 1)) then ((v0l[(wrp .i64 (v3 - 1)).toNat]?).bind fun e3 => (if e1.Index = (wrp .i64 (e3.Index + 1)) then (zna q v0z v0l (wrp .i64 (v3 + 1))) else (some false))) else none) else (zna q v0z v0l (wrp .i64 (v3 + 1)))) else (some false)))) else none) else (some true))
def znb : Nat → (Sl zjs) → Option (Bool)
 | 0, _ => none
 | q + 1, a0 => (if (a0.l.length : Int) < 1 then (some false) else (if 256 < (a0.l.length : Int) then (some false) else (zna q a0.z a0.l 0)))
def znc : Nat → Int → Bool → (List Int) → Option ((Ow Int))
 | 0, _, _, _ => none
 | q + 1, v0, h0z, h0l => (if 127 < v0 then (if (h0l.length + 1) ≤ 4294967296 then (znc q (wrp .u64 (Int.tdiv v0 128)) false (h0l ++ [(wrp .u8 (wrp .u64 ((Int.tmod v0 128) + 128)))])) else none) else (if (h0l.length + 1) ≤ 4294967296 then (some ⟨false, true, (h0l ++ [(wrp .u8 v0)])⟩) else none))
def znd : Nat → Int → Option ((Ow Int))
 | 0, _ => none
 | q + 1, a0 => (znc q a0 true [])
def zne : Nat → (Sl Int) → Int → Option ((Ow Int))
 | 0, _, _ => none
 | q + 1, a0, a1 => (if a0.l.length ≤ 4294967296 then (if a1 < 0 then (some ⟨(decide (a0.l.length = 0)), true, a0.l⟩) else (if 4611686018427387904 ≤ a1 then (some ⟨(decide (a0.l.length = 0)), true, a0.l⟩) else ((znd q (wrp .u64 a1)).bind fun r1 => (if (a0.l.length + r1.xs.length) ≤ 4294967296 then (some ⟨((decide (a0.l.length = 0)) && (decide (r1.xs.length = 0))), true, (a0.l ++ r1.xs)⟩) else none)))) else none)
def znf : Nat → Int → Option (Int)
 | 0, _ => none
 | q + 1, a0 => (if 0 ≤ a0 then (some (wrp .u64 ((wrp .u64 a0) * 2))) else (some (wrp .u64 ((wrp .u64 ((wrp .u64 (wrp .i64 (0 - (wrp .i64 (a0 + 1))))) * 2)) + 1))))
def zng : Nat → (Sl Int) → Int → Option ((Ow Int))
 | 0, _, _ => none
 | q + 1, a0, a1 => (if a0.l.length ≤ 4294967296 then ((znf q a1).bind fun r1 => ((znd q r1).bind fun r2 => (if (a0.l.length + r2.xs.length) ≤ 4294967296 then (some ⟨((decide (a0.l.length = 0)) && (decide (r2.xs.length = 0))), true, (a0.l ++ r2.xs)⟩) else none))) else none)
def znh : Nat → (Sl Int) → zjr → Option ((Ow Int) × Int)
 | 0, _, _ => none
 | q + 1, a0, a1 => (if a0.l.length ≤ 4294967296 then ((zmx q a1).bind fun r1 => (if r1 = true then ((zne q ⟨(decide (a0.l.length = 0)), a0.l⟩ a1.Code).bind fun r2 => ((zng q ⟨r2.n, r2.xs⟩ a1.A).bind fun r3 => ((zng q ⟨r3.n, r3.xs⟩ a1.B).bind fun r4 => (some (r4, 0))))) else (some (⟨(decide (a0.l.length = 0)), true, a0.l⟩, 1)))) else none)
def zni : Nat → Bool → (List zjs) → Int → Bool → (List Int) → Bool → Option ((Ow Int) × Int)
 | 0, _, _, _, _, _, _ => none
 | q + 1, v0z, v0l, v6, h0z, h0l, h0x => (if v6 < (v0l.length : Int) then (if 0 ≤ v6 then ((v0l[v6.toNat]?).bind fun e5 => ((zne q ⟨h0z, h0l⟩ e5.Proc).bind fun r6 => (if v6.toNat ≤ v0l.length then ((zm8 q ⟨v0z, (List.take v6.toNat v0l)⟩ e5.Proc).bind fun r7 => ((zng q ⟨r6.n, r6.xs⟩ (wrp .i64 (e5.Seq - r7))).bind fun r8 => ((znh q ⟨r8.n, r8.xs⟩ e5.Op).bind fun r9 => ((zng q ⟨r9.1.n, r9.1.xs⟩ e5.Resp).bind fun r10 => (zni q v0z v0l (wrp .i64 (v6 + 1)) r10.n r10.xs r10.x))))) else none))) else none) else (some (⟨h0z, h0x, h0l⟩, 0)))
def znj : Nat → (Sl zjs) → Option ((Ow Int) × Int)
 | 0, _ => none
 | q + 1, a0 => ((znb q a0).bind fun r1 => (if r1 = true then ((a0.l[0]?).bind fun e2 => ((zne q ⟨true, []⟩ e2.Index).bind fun r3 => ((zne q ⟨r3.n, r3.xs⟩ (a0.l.length : Int)).bind fun r4 => (zni q a0.z a0.l 0 r4.n r4.xs r4.x)))) else (some (⟨true, true, []⟩, 1))))
def znk : Nat → Bool → (List Int) → Int → Int → Int → Int → Bool → (List zjs) → Option ((Ow zjs) × Int)
 | 0, _, _, _, _, _, _, _, _ => none
 | q + 1, v0z, v0l, v4, v6, v9, v10, h0z, h0l => (if v10 < v6 then (if 0 ≤ v9 then (if v9 ≤ (v0l.length : Int) then ((zm9 q ⟨h0z, h0l⟩ ⟨v0z, (List.drop v9.toNat v0l)⟩).bind fun r3 => (if r3.2 = 0 then (some (⟨true, true, []⟩, 3)) else (if (h0l.length + 1) ≤ 4294967296 then (znk q v0z v0l v4 v6 (wrp .i64 (v9 + r3.2)) (wrp .i64 (v10 + 1)) false (h0l ++ [(⟨(wrp .i64 (v4 + v10)), r3.1.Proc, r3.1.Seq, r3.1.Op, r3.1.Resp⟩ : zjs)])) else none))) else none) else none) else ((znj q ⟨h0z, h0l⟩).bind fun r4 => (if r4.2 = 0 then (if r4.1.xs = v0l then (some (⟨h0z, false, h0l⟩, 0)) else (some (⟨true, true, []⟩, 3))) else (some (⟨true, true, []⟩, 3)))))
def znl : Nat → (Sl Int) → Option ((Ow zjs) × Int)
 | 0, _ => none
 | q + 1, a0 => ((zmh q a0).bind fun r1 => (if 0 ≤ r1.2 then (if r1.2 ≤ (a0.l.length : Int) then ((zmh q ⟨a0.z, (List.drop r1.2.toNat a0.l)⟩).bind fun r2 => (if r1.2 = 0 then (some (⟨true, true, []⟩, 3)) else (if r2.2 = 0 then (some (⟨true, true, []⟩, 3)) else (if r2.1 < 1 then (some (⟨true, true, []⟩, 3)) else (if 256 < r2.1 then (some (⟨true, true, []⟩, 3)) else (znk q a0.z a0.l r1.1 r2.1 (wrp .i64 (r1.2 + r2.2)) 0 true [])))))) else none) else none))
def znm : Nat → Int → (Sl Int) → Int → Option ((Ow zjs) × Bool)
 | 0, _, _, _ => none
 | q + 1, a0, a1, a2 => (if a0 < 3 then ((zm4 q a0 a1).bind fun r1 => (if r1.2 = true then (if (r1.1.xs.length : Int) < 1 then (some (⟨true, true, []⟩, false)) else (if 16 < (r1.1.xs.length : Int) then (some (⟨true, true, []⟩, false)) else ((zm6 q ⟨r1.1.n, r1.1.xs⟩ a2).bind fun r2 => (some (r1.1, r2))))) else (some (⟨true, true, []⟩, false)))) else ((znl q a1).bind fun r3 => (if r3.2 = 0 then (if (r3.1.xs.length : Int) < 1 then (some (⟨true, true, []⟩, false)) else (if 16 < (r3.1.xs.length : Int) then (some (⟨true, true, []⟩, false)) else ((zm6 q ⟨r3.1.n, r3.1.xs⟩ a2).bind fun r4 => (some (r3.1, r4))))) else (some (⟨true, true, []⟩, false)))))
def znn : Nat → Bool → (List (Sl Int)) → Int → Int → Int → Int → Int → Bool → (List zjs) → Option (Int × zjt × Int × Int)
 | 0, _, _, _, _, _, _, _, _, _ => none
 | q + 1, v0z, v0l, v6, v9, v10, h1_0, h1_1, h2z, h2l => (if v10 < (v0l.length : Int) then (if 0 ≤ v10 then ((v0l[v10.toNat]?).bind fun e8 => ((znm q v6 e8 (wrp .i64 (h1_1 + (h2l.length : Int)))).bind fun r9 => (if r9.2 = true then (if v9 < 16 then (some (v6, (⟨h1_0, h1_1, ⟨h2z, h2l⟩⟩ : zjt), v10, 3)) else (if 4096 < (wrp .i64 ((h2l.length : Int) + (r9.1.xs.length : Int))) then (some (v6, (⟨h1_0, h1_1, ⟨h2z, h2l⟩⟩ : zjt), v10, 5)) else (if (h2l.length + r9.1.xs.length) ≤ 4294967296 then (znn q v0z v0l v6 (r9.1.xs.length : Int) (wrp .i64 (v10 + 1)) h1_0 h1_1 (h2z && (decide (r9.1.xs.length = 0))) (h2l ++ r9.1.xs)) else none))) else (some (v6, (⟨h1_0, h1_1, ⟨h2z, h2l⟩⟩ : zjt), v10, 3))))) else none) else (some (v6, (⟨h1_0, h1_1, ⟨h2z, h2l⟩⟩ : zjt), (v0l.length : Int), 0)))
def zno : Nat → Bool → (List (Sl Int)) → Int → Int → Int → Option (Int × zjt × Int × Int)
 | 0, _, _, _, _, _ => none
 | q + 1, v0z, v0l, v6, h1_0, h1_1 => (if 1 < (v0l.length : Int) then ((v0l[1]?).bind fun e6 => ((znm q v6 e6 (wrp .i64 (h1_1 + 0))).bind fun r7 => (if r7.2 = true then (if 4096 < (wrp .i64 (0 + (r7.1.xs.length : Int))) then (some (v6, (⟨h1_0, h1_1, ⟨true, []⟩⟩ : zjt), 1, 5)) else (if r7.1.xs.length ≤ 4294967296 then (znn q v0z v0l v6 (r7.1.xs.length : Int) (wrp .i64 2) h1_0 h1_1 (decide (r7.1.xs.length = 0)) r7.1.xs) else none)) else (some (v6, (⟨h1_0, h1_1, ⟨true, []⟩⟩ : zjt), 1, 3))))) else (some (v6, (⟨h1_0, h1_1, ⟨true, []⟩⟩ : zjt), (v0l.length : Int), 0)))
def znp : Nat → (Sl (Sl Int)) → Option (Int × zjt × Int × Int)
 | 0, _ => none
 | q + 1, a0 => ((a0.l[0]?).bind fun e1 => (if (e1.l.length : Int) < 1 then (some (0, (⟨0, 0, ⟨true, []⟩⟩ : zjt), 0, 3)) else ((e1.l[0]?).bind fun e2 => (if e2 = 108 then (if 1 ≤ (e1.l.length : Int) then ((zmh q ⟨e1.z, (List.drop 1 e1.l)⟩).bind fun r3 => (if 0 ≤ (wrp .i64 (1 + r3.2)) then (if (wrp .i64 (1 + r3.2)) ≤ (e1.l.length : Int) then ((zmh q ⟨e1.z, (List.drop ((wrp .i64 (1 + r3.2)).toNat) e1.l)⟩).bind fun r4 => (if 0 ≤ (wrp .i64 ((wrp .i64 (1 + r3.2)) + r4.2)) then (if (wrp .i64 ((wrp .i64 (1 + r3.2)) + r4.2)) ≤ (e1.l.length : Int) then ((zmh q ⟨e1.z, (List.drop ((wrp .i64 ((wrp .i64 (1 + r3.2)) + r4.2)).toNat) e1.l)⟩).bind fun r5 => (if r3.2 = 0 then (some (0, (⟨0, 0, ⟨true, []⟩⟩ : zjt), 0, 3)) else (if r4.2 = 0 then (some (0, (⟨0, 0, ⟨true, []⟩⟩ : zjt), 0, 3)) else (if r5.2 = 0 then (some (0, (⟨0, 0, ⟨true, []⟩⟩ : zjt), 0, 3)) else (if (wrp .i64 ((wrp .i64 ((wrp .i64 (1 + r3.2)) + r4.2)) + r5.2)) = (e1.l.length : Int) then (if r3.1 < 1 then (some (0, (⟨0, 0, ⟨true, []⟩⟩ : zjt), 0, 6)) else (if 3 < r3.1 then (some (0, (⟨0, 0, ⟨true, []⟩⟩ : zjt), 0, 6)) else (if 6 ≤ r4.1 then (some (0, (⟨0, 0, ⟨true, []⟩⟩ : zjt), 0, 1)) else (zno q a0.z a0.l r3.1 r4.1 r5.1)))) else (some (0, (⟨0, 0, ⟨true, []⟩⟩ : zjt), 0, 3))))))) else none) else none)) else none) else none)) else none) else (some (0, (⟨0, 0, ⟨true, []⟩⟩ : zjt), 0, 3))))))
def znq : Nat → Int → Int → Int → Bool → (List Int) → Option ((Ow Int))
 | 0, _, _, _, _, _ => none
 | q + 1, v0, v1, v6, h0z, h0l => (if v6 < v1 then (if (h0l.length + 1) ≤ 4294967296 then (znq q (wrp .u64 (Int.tdiv v0 256)) v1 (wrp .i64 (v6 + 1)) false (h0l ++ [(wrp .u8 (Int.tmod v0 256))])) else none) else (some ⟨h0z, true, h0l⟩))
def znr : Nat → Int → Int → Option ((Ow Int))
 | 0, _, _ => none
 | q + 1, a0, a1 => (znq q a0 a1 0 true [])
def zns : Nat → (Sl Int) → Option ((Ow Int) × Int)
 | 0, _ => none
 | q + 1, a0 => (if 1048576 < (a0.l.length : Int) then (some (⟨true, true, []⟩, 5)) else ((zne q ⟨true, []⟩ (a0.l.length : Int)).bind fun r1 => ((zmm q ⟨r1.n, r1.xs⟩).bind fun r2 => ((zml q r2 a0).bind fun r3 => (if r1.xs.length ≤ 4294967296 then (if (r1.xs.length + a0.l.length) ≤ 4294967296 then ((znr q (wrp .u64 r3) 4).bind fun r4 => (if ((r1.xs.length + a0.l.length) + r4.xs.length) ≤ 4294967296 then (some (⟨(((decide (r1.xs.length = 0)) && (decide (a0.l.length = 0))) && (decide (r4.xs.length = 0))), true, ((r1.xs ++ a0.l) ++ r4.xs)⟩, 0)) else none)) else none) else none)))))
def znt : Nat → Bool → (List (Sl Int)) → Int → Bool → (List (Sl Int)) → Option ((Ow (Sl Int)))
 | 0, _, _, _, _, _ => none
 | q + 1, v0z, v0l, v4, h0z, h0l => (if v4 < (v0l.length : Int) then (if 0 ≤ v4 then ((v0l[v4.toNat]?).bind fun e1 => ((zns q e1).bind fun r2 => (if (h0l.length + 1) ≤ 4294967296 then (znt q v0z v0l (wrp .i64 (v4 + 1)) false (h0l ++ [⟨r2.1.n, r2.1.xs⟩])) else none))) else none) else (some ⟨h0z, true, h0l⟩))
def znu : Nat → (Sl (Sl Int)) → Option ((Ow (Sl Int)))
 | 0, _ => none
 | q + 1, a0 => (znt q a0.z a0.l 0 true [])
def znv : Nat → Bool → (List (Sl Int)) → Int → Int → Bool → (List Int) → Bool → Option ((Ow Int))
 | 0, _, _, _, _, _, _, _ => none
 | q + 1, v1z, v1l, v6, v7, h0z, h0l, h0x => (if v7 < (v1l.length : Int) then ((zne q ⟨h0z, h0l⟩ v6).bind fun r2 => (if 0 ≤ v7 then ((v1l[v7.toNat]?).bind fun e3 => (znv q v1z v1l (e3.l.length : Int) (wrp .i64 (v7 + 1)) r2.n r2.xs r2.x)) else none)) else (some ⟨h0z, h0x, h0l⟩))
def znw : Nat → (Sl Int) → (Sl (Sl Int)) → Option ((Ow Int))
 | 0, _, _ => none
 | q + 1, a0, a1 => ((zne q ⟨true, []⟩ (a1.l.length : Int)).bind fun r1 => (znv q a1.z a1.l (a0.l.length : Int) 0 r1.n r1.xs r1.x))
def znx : Nat → (Sl Int) → Option (zjt × Int)
 | 0, _ => none
 | q + 1, a0 => ((zms q a0).bind fun r1 => (if r1.2 = 0 then (if (r1.1.xs.length : Int) < 2 then (some ((⟨0, 0, ⟨true, []⟩⟩ : zjt), 16)) else (if 0 ≤ (wrp .i64 ((r1.1.xs.length : Int) - 1)) then (if (wrp .i64 ((r1.1.xs.length : Int) - 1)).toNat ≤ r1.1.xs.length then (if r1.1.n = true then ((znp q ⟨r1.1.n, r1.1.xs⟩).bind fun r2 => (if r2.2.2.2 = 0 then ((znu q ⟨r1.1.n, r1.1.xs⟩).bind fun r3 => (if 0 < r3.xs.length then ((r3.xs[0]?).bind fun e4 => (if 1 ≤ r3.xs.length then ((znw q e4 ⟨r3.n, (List.drop 1 r3.xs)⟩).bind fun r5 => (if (wrp .i64 ((r1.1.xs.length : Int) - 1)).toNat < r1.1.xs.length then ((r1.1.xs[(wrp .i64 ((r1.1.xs.length : Int) - 1)).toNat]?).bind fun e6 => (if r5.xs = e6.l then (some (r2.2.1, 0)) else (some ((⟨0, 0, ⟨true, []⟩⟩ : zjt), 16)))) else none)) else none)) else none)) else (some ((⟨0, 0, ⟨true, []⟩⟩ : zjt), r2.2.2.2)))) else ((znp q ⟨r1.1.n, (List.take ((wrp .i64 ((r1.1.xs.length : Int) - 1)).toNat) r1.1.xs)⟩).bind fun r7 => (if r7.2.2.2 = 0 then ((znu q ⟨r1.1.n, (List.take ((wrp .i64 ((r1.1.xs.length : Int) - 1)).toNat) r1.1.xs)⟩).bind fun r8 => (if 0 < r8.xs.length then ((r8.xs[0]?).bind fun e9 => (if 1 ≤ r8.xs.length then ((znw q e9 ⟨r8.n, (List.drop 1 r8.xs)⟩).bind fun r10 => (if (wrp .i64 ((r1.1.xs.length : Int) - 1)).toNat < r1.1.xs.length then ((r1.1.xs[(wrp .i64 ((r1.1.xs.length : Int) - 1)).toNat]?).bind fun e11 => (if r10.xs = e11.l then (some (r7.2.1, 0)) else (some ((⟨0, 0, ⟨true, []⟩⟩ : zjt), 16)))) else none)) else none)) else none)) else (some ((⟨0, 0, ⟨true, []⟩⟩ : zjt), r7.2.2.2))))) else none) else none)) else (some ((⟨0, 0, ⟨true, []⟩⟩ : zjt), r1.2))))
def zny : Nat → Bool → (List (Sl Int)) → Int → Bool → (List Int) → Option ((Ow Int))
 | 0, _, _, _, _, _ => none
 | q + 1, v0z, v0l, v4, h0z, h0l => (if v4 < (v0l.length : Int) then (if 0 ≤ v4 then ((v0l[v4.toNat]?).bind fun e1 => (if (h0l.length + e1.l.length) ≤ 4294967296 then (zny q v0z v0l (wrp .i64 (v4 + 1)) (h0z && (decide (e1.l.length = 0))) (h0l ++ e1.l)) else none)) else none) else (some ⟨h0z, true, h0l⟩))
def znz : Nat → (Sl (Sl Int)) → Option ((Ow Int))
 | 0, _ => none
 | q + 1, a0 => (zny q a0.z a0.l 0 true [])
def zn0 : Nat → (Sl Int) → Option (zjt × Int)
 | 0, _ => none
 | q + 1, a0 => ((zmc q a0).bind fun r1 => (some (r1.1, r1.2.2)))
def zn1 : Nat → (Sl Int) → Option ((Ow (Sl Int)) × Int)
 | 0, _ => none
 | q + 1, a0 => ((zlg q a0).bind fun r1 => (some (r1.1, r1.2.1)))
def zn2 : Nat → Int → Option (Int)
 | 0, _ => none
 | q + 1, a0 => (if a0 < 0 then (some 0) else (if 1048576 < a0 then (some 0) else ((zjx q ⟨true, true, []⟩ a0).bind fun r1 => (some (wrp .i64 ((wrp .i64 ((r1.xs.length : Int) + 4)) + a0))))))
def zn3 : Nat → Bool → (List Int) → Int → Bool → (List (Sl Int)) → Bool → Int → Int → Int → Option (Int × Int × Int × Int × Bool)
 | 0, _, _, _, _, _, _, _, _, _ => none
 | q + 1, v1z, v1l, v19, h1z, h1l, h1x, h3_0, h3_1, h3_2 => (if v19 < 3 then ((zla q ⟨v1z, v1l⟩).bind fun r2 => (if 0 ≤ v19 then (if v19.toNat < 3 then (if v19.toNat = 0 then (if r2.2 = 0 then (some (3, 0, 0, 0, false)) else (if 0 ≤ r2.2 then (if r2.2 ≤ (v1l.length : Int) then (zn3 q v1z (List.drop r2.2.toNat v1l) (wrp .i64 (v19 + 1)) h1z h1l h1x r2.1 h3_1 h3_2) else none) else none)) else (if v19.toNat = 1 then (if r2.2 = 0 then (some (3, 0, 0, 0, false)) else (if 0 ≤ r2.2 then (if r2.2 ≤ (v1l.length : Int) then (zn3 q v1z (List.drop r2.2.toNat v1l) (wrp .i64 (v19 + 1)) h1z h1l h1x h3_0 r2.1 h3_2) else none) else none)) else (if v19.toNat = 2 then (if r2.2 = 0 then (some (3, 0, 0, 0, false)) else (if 0 ≤ r2.2 then (if r2.2 ≤ (v1l.length : Int) then (zn3 q v1z (List.drop r2.2.toNat v1l) (wrp .i64 (v19 + 1)) h1z h1l h1x h3_0 h3_1 r2.1) else none) else none)) else none))) else none) else none)) else (if 0 < (v1l.length : Int) then (some (3, 0, 0, 0, false)) else ((zju q h3_0).bind fun r3 => (if r3 = true then (if 6 ≤ h3_1 then (some (1, 0, 0, 0, false)) else (some (0, h3_0, h3_1, h3_2, true))) else (some (6, 0, 0, 0, false))))))
def zn4 : Nat → Bool → (List Int) → Bool → (List (Sl Int)) → Bool → Option (Int × Int × Int × Int × Bool)
 | 0, _, _, _, _, _ => none
 | q + 1, v1z, v1l, h1z, h1l, h1x => (if (v1l.length : Int) = 0 then (some (3, 0, 0, 0, false)) else ((v1l[0]?).bind fun e1 => (if e1 = 108 then (if 1 ≤ (v1l.length : Int) then (zn3 q v1z (List.drop 1 v1l) 0 h1z h1l h1x 0 0 0) else none) else (some (3, 0, 0, 0, false)))))
def zn5 : Nat → Nat → Int → Int → Bool → (List (Sl Int)) → Bool → Int → Int → Int → Bool → Bool → (List zjs) → Option (Nat × Int × Int × Int × Int × Int × Bool × Int × Int × Int × Int × Int × Nat × Bool × Bool × (List zjs))
 | 0, _, _, _, _, _, _, _, _, _, _, _, _ => none
 | q + 1, v19len, v20, v21, h1z, h1l, h1x, h2_0, h2_1, h2_2, h2_4, h3z, h3l => (if v21 < v20 then (if 0 ≤ v21 then (if v21.toNat < v19len then ((h1l[(1 + v21.toNat)]?).bind fun e8 => (if h2_0 = 3 then ((zlp q e8).bind fun r9 => (if r9.2 = 0 then (if h2_4 = true then (if (r9.1.xs.length : Int) = 0 then (some (1, 0, 0, 0, 0, 0, false, (wrp .i64 (v21 + 1)), 3, h2_0, h2_1, h2_2, h3l.length, h2_4, h3z, h3l)) else (if 16 < (r9.1.xs.length : Int) then (some (1, 0, 0, 0, 0, 0, false, (wrp .i64 (v21 + 1)), 3, h2_0, h2_1, h2_2, h3l.length, h2_4, h3z, h3l)) else ((zkk q ⟨r9.1.n, r9.1.xs⟩ (wrp .i64 (h2_2 + (h3l.length : Int)))).bind fun r10 => (if r10 = true then (if 4096 < (wrp .i64 ((h3l.length : Int) + (r9.1.xs.length : Int))) then (some (1, 0, 0, 0, 0, 0, false, (wrp .i64 (v21 + 1)), 5, h2_0, h2_1, h2_2, h3l.length, h2_4, h3z, h3l)) else (if (h3l.length + r9.1.xs.length) ≤ 4294967296 then (zn5 q v19len v20 (wrp .i64 (v21 + 1)) h1z h1l h1x h2_0 h2_1 h2_2 (decide ((r9.1.xs.length : Int) = 16)) (h3z && (decide (r9.1.xs.length = 0))) (h3l ++ r9.1.xs)) else none)) else (some (1, 0, 0, 0, 0, 0, false, (wrp .i64 (v21 + 1)), 3, h2_0, h2_1, h2_2, h3l.length, h2_4, h3z, h3l)))))) else (some (1, 0, 0, 0, 0, 0, false, (wrp .i64 (v21 + 1)), 3, h2_0, h2_1, h2_2, h3l.length, h2_4, h3z, h3l))) else (some (1, 0, 0, 0, 0, 0, false, (wrp .i64 (v21 + 1)), 3, h2_0, h2_1, h2_2, h3l.length, h2_4, h3z, h3l)))) else ((zlz q h2_0 e8).bind fun r11 => (if r11.2 = true then (if h2_4 = true then (if (r11.1.xs.length : Int) = 0 then (some (1, 0, 0, 0, 0, 0, false, (wrp .i64 (v21 + 1)), 3, h2_0, h2_1, h2_2, h3l.length, h2_4, h3z, h3l)) else (if 16 < (r11.1.xs.length : Int) then (some (1, 0, 0, 0, 0, 0, false, (wrp .i64 (v21 + 1)), 3, h2_0, h2_1, h2_2, h3l.length, h2_4, h3z, h3l)) else ((zkk q ⟨r11.1.n, r11.1.xs⟩ (wrp .i64 (h2_2 + (h3l.length : Int)))).bind fun r12 => (if r12 = true then (if 4096 < (wrp .i64 ((h3l.length : Int) + (r11.1.xs.length : Int))) then (some (1, 0, 0, 0, 0, 0, false, (wrp .i64 (v21 + 1)), 5, h2_0, h2_1, h2_2, h3l.length, h2_4, h3z, h3l)) else (if (h3l.length + r11.1.xs.length) ≤ 4294967296 then (zn5 q v19len v20 (wrp .i64 (v21 + 1)) h1z h1l h1x h2_0 h2_1 h2_2 (decide ((r11.1.xs.length : Int) = 16)) (h3z && (decide (r11.1.xs.length = 0))) (h3l ++ r11.1.xs)) else none)) else (some (1, 0, 0, 0, 0, 0, false, (wrp .i64 (v21 + 1)), 3, h2_0, h2_1, h2_2, h3l.length, h2_4, h3z, h3l)))))) else (some (1, 0, 0, 0, 0, 0, false, (wrp .i64 (v21 + 1)), 3, h2_0, h2_1, h2_2, h3l.length, h2_4, h3z, h3l))) else (some (1, 0, 0, 0, 0, 0, false, (wrp .i64 (v21 + 1)), 3, h2_0, h2_1, h2_2, h3l.length, h2_4, h3z, h3l)))))) else none) else none) else (some (1, 0, 0, 0, 0, 0, false, (h1l.length : Int), 0, h2_0, h2_1, h2_2, h3l.length, h2_4, h3z, h3l)))
def zn6 : Nat → Nat → Int → Bool → (List (Sl Int)) → Bool → Int → Int → Int → Bool → Option (Nat × Int × Int × Int × Int × Int × Bool × Int × Int × Int × Int × Int × Nat × Bool × Bool × (List zjs))
 | 0, _, _, _, _, _, _, _, _, _ => none
 | q + 1, v19len, v20, h1z, h1l, h1x, h2_0, h2_1, h2_2, h2_4 => (if 0 < v20 then (if 0 < v19len then ((h1l[1]?).bind fun e3 => (if h2_0 = 3 then ((zlp q e3).bind fun r4 => (if r4.2 = 0 then (if h2_4 = true then (if (r4.1.xs.length : Int) = 0 then (some (0, (wrp .i64 1), 3, h2_0, h2_1, h2_2, h2_4, 0, 0, 0, 0, 0, 0, false, false, [])) else (if 16 < (r4.1.xs.length : Int) then (some (0, (wrp .i64 1), 3, h2_0, h2_1, h2_2, h2_4, 0, 0, 0, 0, 0, 0, false, false, [])) else ((zkk q ⟨r4.1.n, r4.1.xs⟩ (wrp .i64 (h2_2 + 0))).bind fun r5 => (if r5 = true then (if 4096 < (wrp .i64 (0 + (r4.1.xs.length : Int))) then (some (0, (wrp .i64 1), 5, h2_0, h2_1, h2_2, h2_4, 0, 0, 0, 0, 0, 0, false, false, [])) else (if r4.1.xs.length ≤ 4294967296 then (zn5 q v19len v20 (wrp .i64 1) h1z h1l h1x h2_0 h2_1 h2_2 (decide ((r4.1.xs.length : Int) = 16)) (decide (r4.1.xs.length = 0)) r4.1.xs) else none)) else (some (0, (wrp .i64 1), 3, h2_0, h2_1, h2_2, h2_4, 0, 0, 0, 0, 0, 0, false, false, [])))))) else (some (0, (wrp .i64 1), 3, h2_0, h2_1, h2_2, h2_4, 0, 0, 0, 0, 0, 0, false, false, []))) else (some (0, (wrp .i64 1), 3, h2_0, h2_1, h2_2, h2_4, 0, 0, 0, 0, 0, 0, false, false, [])))) else ((zlz q h2_0 e3).bind fun r6 => (if r6.2 = true then (if h2_4 = true then (if (r6.1.xs.length : Int) = 0 then (some (0, (wrp .i64 1), 3, h2_0, h2_1, h2_2, h2_4, 0, 0, 0, 0, 0, 0, false, false, [])) else (if 16 < (r6.1.xs.length : Int) then (some (0, (wrp .i64 1), 3, h2_0, h2_1, h2_2, h2_4, 0, 0, 0, 0, 0, 0, false, false, [])) else ((zkk q ⟨r6.1.n, r6.1.xs⟩ (wrp .i64 (h2_2 + 0))).bind fun r7 => (if r7 = true then (if 4096 < (wrp .i64 (0 + (r6.1.xs.length : Int))) then (some (0, (wrp .i64 1), 5, h2_0, h2_1, h2_2, h2_4, 0, 0, 0, 0, 0, 0, false, false, [])) else (if r6.1.xs.length ≤ 4294967296 then (zn5 q v19len v20 (wrp .i64 1) h1z h1l h1x h2_0 h2_1 h2_2 (decide ((r6.1.xs.length : Int) = 16)) (decide (r6.1.xs.length = 0)) r6.1.xs) else none)) else (some (0, (wrp .i64 1), 3, h2_0, h2_1, h2_2, h2_4, 0, 0, 0, 0, 0, 0, false, false, [])))))) else (some (0, (wrp .i64 1), 3, h2_0, h2_1, h2_2, h2_4, 0, 0, 0, 0, 0, 0, false, false, []))) else (some (0, (wrp .i64 1), 3, h2_0, h2_1, h2_2, h2_4, 0, 0, 0, 0, 0, 0, false, false, [])))))) else none) else (some (0, (h1l.length : Int), 0, h2_0, h2_1, h2_2, h2_4, 0, 0, 0, 0, 0, 0, false, false, [])))
def zn7 : Nat → Bool → (List (Sl Int)) → Bool → Option (Nat × Int × Int × Int × Int × Int × Bool × Int × Int × Int × Int × Int × Nat × Bool × Bool × (List zjs))
 | 0, _, _, _ => none
 | q + 1, h1z, h1l, h1x => (if 0 < h1l.length then ((h1l[0]?).bind fun e1 => ((zn4 q e1.z e1.l h1z h1l h1x).bind fun r2 => (if r2.1 = 0 then (if 1 ≤ h1l.length then (zn6 q (h1l.length - 1) (((h1l.length - 1) : Nat) : Int) h1z h1l h1x r2.2.1 r2.2.2.1 r2.2.2.2.1 r2.2.2.2.2) else none) else (some (0, 0, r2.1, r2.2.1, r2.2.2.1, r2.2.2.2.1, r2.2.2.2.2, 0, 0, 0, 0, 0, 0, false, false, []))))) else none)
def zn8 : Nat → Int → Nat → Int → Int → Int → Int → Int → Bool → Bool → (List (Sl Int)) → Bool → Option (zjt × Int × Bool)
 | 0, _, _, _, _, _, _, _, _, _, _, _ => none
 | q + 1, v10, v32len, v33, v34, h1_0, h1_1, h1_2, h1_4, h2z, h2l, h2x => (if v34 < v33 then (if 0 ≤ v34 then (if v34.toNat < v32len then ((h2l[v34.toNat]?).bind fun e3 => ((zn2 q (e3.l.length : Int)).bind fun r4 => (zn8 q (wrp .i64 (v10 + r4)) v32len v33 (wrp .i64 (v34 + 1)) h1_0 h1_1 h1_2 h1_4 h2z h2l h2x))) else none) else none) else (some ((⟨h1_1, h1_2, ⟨true, []⟩⟩ : zjt), v10, true)))
def zn9 : Nat → Int → Nat → Int → Int → Int → Int → Int → Bool → Bool → (List (Sl Int)) → Bool → Option (zjt × Int × Bool)
 | 0, _, _, _, _, _, _, _, _, _, _, _ => none
 | q + 1, v10, v32len, v33, v34, h1_0, h1_1, h1_2, h1_4, h2z, h2l, h2x => (if v34 < v33 then (if 0 ≤ v34 then (if v34.toNat < v32len then ((h2l[v34.toNat]?).bind fun e5 => ((zn2 q (e5.l.length : Int)).bind fun r6 => (zn9 q (wrp .i64 (v10 + r6)) v32len v33 (wrp .i64 (v34 + 1)) h1_0 h1_1 h1_2 h1_4 h2z h2l h2x))) else none) else none) else (some ((⟨h1_1, h1_2, ⟨true, []⟩⟩ : zjt), v10, true)))
def zoa : Nat → Int → Nat → Int → Int → Int → Int → Int → Nat → Bool → Bool → (List (Sl Int)) → Bool → Bool → (List zjs) → Option (zjt × Int × Bool)
 | 0, _, _, _, _, _, _, _, _, _, _, _, _, _, _ => none
 | q + 1, v10, v32len, v33, v34, h1_0, h1_1, h1_2, h1_3len, h1_4, h2z, h2l, h2x, h3z, h3l => (if v34 < v33 then (if 0 ≤ v34 then (if v34.toNat < v32len then ((h2l[v34.toNat]?).bind fun e7 => ((zn2 q (e7.l.length : Int)).bind fun r8 => (zoa q (wrp .i64 (v10 + r8)) v32len v33 (wrp .i64 (v34 + 1)) h1_0 h1_1 h1_2 h1_3len h1_4 h2z h2l h2x h3z h3l))) else none) else none) else (some ((⟨h1_1, h1_2, ⟨h3z, h3l⟩⟩ : zjt), v10, true)))
def zob : Nat → Int → Nat → Int → Int → Int → Int → Int → Nat → Bool → Bool → (List (Sl Int)) → Bool → Bool → (List zjs) → Option (zjt × Int × Bool)
 | 0, _, _, _, _, _, _, _, _, _, _, _, _, _, _ => none
 | q + 1, v10, v32len, v33, v34, h1_0, h1_1, h1_2, h1_3len, h1_4, h2z, h2l, h2x, h3z, h3l => (if v34 < v33 then (if 0 ≤ v34 then (if v34.toNat < v32len then ((h2l[v34.toNat]?).bind fun e9 => ((zn2 q (e9.l.length : Int)).bind fun r10 => (zob q (wrp .i64 (v10 + r10)) v32len v33 (wrp .i64 (v34 + 1)) h1_0 h1_1 h1_2 h1_3len h1_4 h2z h2l h2x h3z h3l))) else none) else none) else (some ((⟨h1_1, h1_2, ⟨h3z, h3l⟩⟩ : zjt), v10, true)))
def zoc : Nat → (Sl Int) → Option (zjt × Int × Bool)
 | 0, _ => none
 | q + 1, a0 => ((zn1 q a0).bind fun r1 => (if (r1.1.xs.length : Int) = 0 then (some ((⟨0, 0, ⟨true, []⟩⟩ : zjt), 0, false)) else ((zn7 q r1.1.n r1.1.xs r1.1.x).bind fun r2 => (if r2.1 = 0 then (if r2.2.1 = 0 then (some ((⟨0, 0, ⟨true, []⟩⟩ : zjt), 0, false)) else (if 0 ≤ r2.2.1 then (if r2.2.1.toNat ≤ r1.1.xs.length then (if r1.1.n = true then (zn8 q 0 r2.2.1.toNat (r2.2.1.toNat : Int) 0 r2.2.2.2.1 r2.2.2.2.2.1 r2.2.2.2.2.2.1 r2.2.2.2.2.2.2.1 r1.1.n r1.1.xs r1.1.x) else (zn9 q 0 r2.2.1.toNat (r2.2.1.toNat : Int) 0 r2.2.2.2.1 r2.2.2.2.2.1 r2.2.2.2.2.2.1 r2.2.2.2.2.2.2.1 r1.1.n r1.1.xs r1.1.x)) else none) else none)) else (if r2.2.2.2.2.2.2.2.1 = 0 then (some ((⟨0, 0, ⟨true, []⟩⟩ : zjt), 0, false)) else (if 0 ≤ r2.2.2.2.2.2.2.2.1 then (if r2.2.2.2.2.2.2.2.1.toNat ≤ r1.1.xs.length then (if r1.1.n = true then (zoa q 0 r2.2.2.2.2.2.2.2.1.toNat (r2.2.2.2.2.2.2.2.1.toNat : Int) 0 r2.2.2.2.2.2.2.2.2.2.1 r2.2.2.2.2.2.2.2.2.2.2.1 r2.2.2.2.2.2.2.2.2.2.2.2.1 r2.2.2.2.2.2.2.2.2.2.2.2.2.1 r2.2.2.2.2.2.2.2.2.2.2.2.2.2.1 r1.1.n r1.1.xs r1.1.x r2.2.2.2.2.2.2.2.2.2.2.2.2.2.2.1 r2.2.2.2.2.2.2.2.2.2.2.2.2.2.2.2) else (zob q 0 r2.2.2.2.2.2.2.2.1.toNat (r2.2.2.2.2.2.2.2.1.toNat : Int) 0 r2.2.2.2.2.2.2.2.2.2.1 r2.2.2.2.2.2.2.2.2.2.2.1 r2.2.2.2.2.2.2.2.2.2.2.2.1 r2.2.2.2.2.2.2.2.2.2.2.2.2.1 r2.2.2.2.2.2.2.2.2.2.2.2.2.2.1 r1.1.n r1.1.xs r1.1.x r2.2.2.2.2.2.2.2.2.2.2.2.2.2.2.1 r2.2.2.2.2.2.2.2.2.2.2.2.2.2.2.2)) else none) else none))))))
def zod : Nat → (Sl Int) → Option (zjt × Int × Bool)
 | 0, _ => none
 | q + 1, a0 => ((zmr q a0).bind fun r1 => (if (r1.1.xs.length : Int) = 0 then (some ((⟨0, 0, ⟨true, []⟩⟩ : zjt), 0, false)) else ((znp q ⟨r1.1.n, r1.1.xs⟩).bind fun r2 => (if r2.2.2.1 = 0 then (some ((⟨0, 0, ⟨true, []⟩⟩ : zjt), 0, false)) else (if 0 ≤ r2.2.2.1 then (if r2.2.2.1.toNat ≤ r1.1.xs.length then (if r1.1.n = true then ((znu q ⟨r1.1.n, r1.1.xs⟩).bind fun r3 => ((znz q ⟨r3.n, r3.xs⟩).bind fun r4 => (some (r2.2.1, (r4.xs.length : Int), true)))) else ((znu q ⟨r1.1.n, (List.take r2.2.2.1.toNat r1.1.xs)⟩).bind fun r5 => ((znz q ⟨r5.n, r5.xs⟩).bind fun r6 => (some (r2.2.1, (r6.xs.length : Int), true))))) else none) else none)))))
def zoe : Nat → Bool → (List zjs) → Bool → (List zjs) → Int → Option (Bool)
 | 0, _, _, _, _, _ => none
 | q + 1, v0z, v0l, v1z, v1l, v5 => (if v5 < (v0l.length : Int) then (if 0 ≤ v5 then ((v0l[v5.toNat]?).bind fun e1 => ((v1l[v5.toNat]?).bind fun e2 => (if e1.Index = e2.Index then (if e1.Proc = e2.Proc then (if e1.Seq = e2.Seq then (if e1.Op.Code = e2.Op.Code then (if e1.Op.A = e2.Op.A then (if e1.Op.B = e2.Op.B then (if e1.Resp = e2.Resp then (zoe q v0z v0l v1z v1l (wrp .i64 (v5 + 1))) else (some false)) else (some false)) else (some false)) else (some false)) else (some false)) else (some false)) else (some false)))) else none) else (some true))
def zof : Nat → (Sl zjs) → (Sl zjs) → Option (Bool)
 | 0, _, _ => none
 | q + 1, a0, a1 => (if (a0.l.length : Int) = (a1.l.length : Int) then (zoe q a0.z a0.l a1.z a1.l 0) else (some false))
def zog : Nat → zjt → zjt → Option (Bool)
 | 0, _, _ => none
 | q + 1, a0, a1 => ((zof q a0.Records a1.Records).bind fun r1 => (if r1 = true then (if a0.Kind = a1.Kind then (some (decide (a0.First = a1.First))) else (some false)) else (some false)))
def zoh : Nat → (Sl Int) → Option (Bool)
 | 0, _ => none
 | q + 1, a0 => ((zk3 q).bind fun r1 => (if 5000 < (a0.l.length : Int) then (some r1) else ((zn0 q a0).bind fun r2 => ((znx q a0).bind fun r3 => ((zoc q a0).bind fun r4 => ((zod q a0).bind fun r5 => ((zog q r2.1 r3.1).bind fun r6 => ((zog q r4.1 r5.1).bind fun r7 => (if r1 = true then (if r6 = true then (if r2.2 = r3.2 then (if r7 = true then (if r4.2.1 = r5.2.1 then (some (r4.2.2 == r5.2.2)) else (some false)) else (some false)) else (some false)) else (some false)) else (some false))))))))))
end Go.Dvm.I
