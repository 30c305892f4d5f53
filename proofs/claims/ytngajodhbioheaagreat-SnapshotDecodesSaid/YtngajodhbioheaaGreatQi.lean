/- The functions of the law, as they answer, over typed data. -/
import Derived.Test.YtngajodhbioheaaGreatQv2
set_option linter.all false
set_option maxRecDepth 100000
set_option maxHeartbeats 4000000
namespace Go.Dvm.I
open Go Go.Dvm
structure zjf where
 Code : Int
 A : Int
 B : Int
def zjf.enc (r : zjf) : V := .agg [V.int .i64 r.Code, V.int .i64 r.A, V.int .i64 r.B]
structure zjg where
 Index : Int
 Proc : Int
 Seq : Int
 Op : zjf
 Resp : Int
def zjg.enc (r : zjg) : V := .agg [V.int .i64 r.Index, V.int .i64 r.Proc, V.int .i64 r.Seq, V.int .i64 r.Op.Code, V.int .i64 r.Op.A, V.int .i64 r.Op.B, V.int .i64 r.Resp]
structure zjh where
 Kind : Int
 L : (Sl Int)
 Sealed : Bool
 To : Int
def zjh.enc (r : zjh) : V := .agg [V.int .i64 r.Kind, (Sl.enc (V.int .i64)) r.L, V.bool r.Sealed, V.int .i64 r.To]
structure zji where
 Proc : Int
 Seq : Int
 Resp : Int
def zji.enc (r : zji) : V := .agg [V.int .i64 r.Proc, V.int .i64 r.Seq, V.int .i64 r.Resp]
structure zjj where
 Index : Int
 State : zjh
 Table : (Sl zji)
def zjj.enc (r : zjj) : V := .agg [V.int .i64 r.Index, V.int .i64 r.State.Kind, (Sl.enc (V.int .i64)) r.State.L, V.bool r.State.Sealed, V.int .i64 r.State.To, (Sl.enc zji.enc) r.Table]
structure zjk where
 index : Int
 size : Int
 sum : Int
def zjk.enc (r : zjk) : V := .agg [V.int .i64 r.index, V.int .i64 r.size, V.int .u64 r.sum]
def okSl {α : Type} (ok : α → Prop) (s : Sl α) : Prop := (s.z = true → s.l = []) ∧ s.l.length ≤ maxLen ∧ ∀ a ∈ s.l, ok a
def zjf.ok (r : zjf) : Prop := inR .i64 r.Code ∧ inR .i64 r.A ∧ inR .i64 r.B
def zjg.ok (r : zjg) : Prop := inR .i64 r.Index ∧ inR .i64 r.Proc ∧ inR .i64 r.Seq ∧ zjf.ok r.Op ∧ inR .i64 r.Resp
def zjh.ok (r : zjh) : Prop := inR .i64 r.Kind ∧ okSl (fun x => inR .i64 x) r.L ∧ True ∧ inR .i64 r.To
def zji.ok (r : zji) : Prop := inR .i64 r.Proc ∧ inR .i64 r.Seq ∧ inR .i64 r.Resp
def zjj.ok (r : zjj) : Prop := inR .i64 r.Index ∧ zjh.ok r.State ∧ okSl (fun x => zji.ok x) r.Table
def zjk.ok (r : zjk) : Prop := inR .i64 r.index ∧ inR .i64 r.size ∧ inR .u64 r.sum
def zjl : Nat → Int → Option (Int)
 | 0, _ => none
 | q + 1, a0 => (some (if (-1099511627776) < (if 1099511627776 < a0 then 1099511627776 else a0) then (if 1099511627776 < a0 then 1099511627776 else a0) else (-1099511627776)))
def zjm : Nat → zjf → Option (Bool)
 | 0, _ => none
 | q + 1, a0 => (if 0 ≤ a0.Code then (if a0.Code ≤ 10 then ((zjl q a0.A).bind fun r1 => (if a0.A = r1 then ((zjl q a0.B).bind fun r2 => (some (decide (a0.B = r2)))) else (some false))) else (some false)) else (some false))
def zjn : Nat → zjg → Option (Bool)
 | 0, _ => none
 | q + 1, a0 => (if 0 ≤ a0.Index then (if a0.Index < 4611686018427387904 then (if 0 ≤ a0.Proc then (if a0.Proc ≤ 64 then (if 0 ≤ a0.Seq then (if a0.Seq < 4611686018427387904 then ((zjm q a0.Op).bind fun r1 => (if r1 = true then (if (-1125899906842624) ≤ a0.Resp then (some (decide (a0.Resp ≤ 1125899906842624))) else (some false)) else (some false))) else (some false)) else (some false)) else (some false)) else (some false)) else (some false)) else (some false))
def zjo : Nat → Int → Option (Bool)
 | 0, _ => none
 | q + 1, a0 => ((zjl q a0).bind fun r1 => (some (!(decide (a0 = r1)))))
def zjp : Nat → Bool → (List Int) → Int → Int → Int → Option (Bool)
 | 0, _, _, _, _, _ => none
 | q + 1, v0z, v0l, v1, v5, v6 => (if (wrp .i64 (v6 + 1)) < (v0l.length : Int) then (if 0 ≤ v6 then ((v0l[v6.toNat]?).bind fun e1 => (if e1 ≤ v5 then (some false) else (if 255 < e1 then (some false) else (if 0 ≤ (wrp .i64 (v6 + 1)) then ((v0l[(wrp .i64 (v6 + 1)).toNat]?).bind fun e2 => (if e2 < v1 then (some false) else (if 1099511627776 < e2 then (some false) else (zjp q v0z v0l v1 e1 (wrp .i64 (v6 + 2)))))) else none)))) else none) else (if (Int.tmod (v0l.length : Int) 2) = 0 then (some (decide ((v0l.length : Int) ≤ 128))) else (some false)))
def zjq : Nat → (Sl Int) → Int → Option (Bool)
 | 0, _, _ => none
 | q + 1, a0, a1 => (zjp q a0.z a0.l a1 (-1) 0)
def zjr : Nat → Bool → (List Int) → Int → Int → Int → Bool → (List Int) → Bool → Int → Option (Int)
 | 0, _, _, _, _, _, _, _, _, _ => none
 | q + 1, v0z, v0l, v7, v8, h0_0, h0_1z, h0_1l, h0_2, h0_3 => (if v8 < v7 then (if 0 ≤ v8 then ((v0l[v8.toNat]?).bind fun e1 => ((zjo q e1).bind fun r2 => (if r2 = true then (some v8) else (zjr q v0z v0l v7 (wrp .i64 (v8 + 1)) h0_0 h0_1z h0_1l h0_2 h0_3)))) else none) else (some (-1)))
def zjs : Nat → Bool → (List Int) → Int → Bool → (List Int) → Bool → Int → Option (Int)
 | 0, _, _, _, _, _, _, _ => none
 | q + 1, v0z, v0l, h0_0, h0_1z, h0_1l, h0_2, h0_3 => (zjr q v0z v0l (v0l.length : Int) 0 h0_0 h0_1z h0_1l h0_2 h0_3)
def zjt : Nat → zjh → Option (Bool)
 | 0, _ => none
 | q + 1, a0 => (if a0.To < 0 then (some false) else (if 3 ≤ a0.To then (some false) else (if a0.Sealed = true then ((zjs q a0.L.z a0.L.l a0.Kind a0.L.z a0.L.l a0.Sealed a0.To).bind fun r1 => (if a0.Kind = 0 then (if (a0.L.l.length : Int) = 1 then (some (!(decide (0 ≤ r1)))) else (some false)) else (if a0.Kind = 1 then (if (a0.L.l.length : Int) = 1 then (some (!(decide (0 ≤ r1)))) else (some false)) else (if a0.Kind = 2 then (if (a0.L.l.length : Int) ≤ 64 then (some (!(decide (0 ≤ r1)))) else (some false)) else (if a0.Kind = 3 then (if (a0.L.l.length : Int) ≤ 64 then (some (!(decide (0 ≤ r1)))) else (some false)) else (if a0.Kind = 4 then ((zjq q a0.L (-1099511627776)).bind fun r2 => (some r2)) else (if a0.Kind = 5 then ((zjq q a0.L 0).bind fun r3 => (some r3)) else (some false)))))))) else (if a0.To = 0 then ((zjs q a0.L.z a0.L.l a0.Kind a0.L.z a0.L.l a0.Sealed a0.To).bind fun r4 => (if a0.Kind = 0 then (if (a0.L.l.length : Int) = 1 then (some (!(decide (0 ≤ r4)))) else (some false)) else (if a0.Kind = 1 then (if (a0.L.l.length : Int) = 1 then (some (!(decide (0 ≤ r4)))) else (some false)) else (if a0.Kind = 2 then (if (a0.L.l.length : Int) ≤ 64 then (some (!(decide (0 ≤ r4)))) else (some false)) else (if a0.Kind = 3 then (if (a0.L.l.length : Int) ≤ 64 then (some (!(decide (0 ≤ r4)))) else (some false)) else (if a0.Kind = 4 then ((zjq q a0.L (-1099511627776)).bind fun r5 => (some r5)) else (if a0.Kind = 5 then ((zjq q a0.L 0).bind fun r6 => (some r6)) else (some false)))))))) else (some false)))))
def zju : Nat → zjh → zjf → Option (zjh × Int)
 | 0, _, _ => none
 | q + 1, a0, a1 => ((a0.L.l[0]?).bind fun e1 => (if a1.Code = 7 then (some (a0, e1)) else (if a0.Kind = 0 then (if a1.Code = 1 then ((zjl q a1.A).bind fun r2 => ((zjl q (wrp .i64 (e1 + r2))).bind fun r3 => (some ((⟨a0.Kind, ⟨false, [r3]⟩, a0.Sealed, a0.To⟩ : zjh), e1)))) else (if a0.Kind = 1 then (if a1.Code = 2 then ((zjl q a1.A).bind fun r4 => (some ((⟨a0.Kind, ⟨false, [r4]⟩, a0.Sealed, a0.To⟩ : zjh), e1))) else (some (a0, 0))) else (some (a0, 0)))) else (if a0.Kind = 1 then (if a1.Code = 2 then ((zjl q a1.A).bind fun r5 => (some ((⟨a0.Kind, ⟨false, [r5]⟩, a0.Sealed, a0.To⟩ : zjh), e1))) else (some (a0, 0))) else (some (a0, 0))))))
def zjv : Nat → (Sl Int) → Option ((Ow Int))
 | 0, _ => none
 | q + 1, a0 => (if a0.z = true then (some ⟨true, true, []⟩) else (if a0.l.length ≤ 4294967296 then (some ⟨false, true, a0.l⟩) else none))
def zjw : Nat → (Ow Int) → Int → Int → Option ((Ow Int))
 | 0, _, _, _ => none
 | q + 1, a0, a1, a2 => (if 0 ≤ a1 then (if a1 ≤ a2 then (if a2 ≤ (a0.xs.length : Int) then (if a1 = a2 then (some a0) else (if a1.toNat ≤ a0.xs.length then (if a0.n = true then (if 0 ≤ a2 then (if a2.toNat ≤ a0.xs.length then (if (a0.xs.length + (a0.xs.length - a2.toNat)) ≤ 4294967296 then (if (((a0.xs.length + (a0.xs.length - a2.toNat)) : Nat) : Int) ≤ (a0.xs.length : Int) then (if a0.xs.length ≤ (a0.xs.length + (a0.xs.length - a2.toNat)) then (if (a0.xs.length - a2.toNat) = 0 then none else (if a0.x = true then (some ⟨(a0.n && (decide ((a0.xs.length - a2.toNat) = 0))), true, (((List.take (a0.xs.length + (a0.xs.length - a2.toNat)) (a0.xs ++ (List.drop a2.toNat a0.xs))) ++ (List.replicate (a0.xs.length - (a0.xs.length + (a0.xs.length - a2.toNat))) 0)) ++ (List.drop ((a0.xs.length + (a0.xs.length - a2.toNat)) + (a0.xs.length - (a0.xs.length + (a0.xs.length - a2.toNat)))) (a0.xs ++ (List.drop a2.toNat a0.xs))))⟩) else none)) else none) else none) else none) else none) else none) else (if 0 ≤ a2 then (if a2.toNat ≤ a0.xs.length then (if (a1.toNat + (a0.xs.length - a2.toNat)) ≤ a0.xs.length then (if a0.x = true then (if (((a1.toNat + (a0.xs.length - a2.toNat)) : Nat) : Int) ≤ (a0.xs.length : Int) then (if a0.xs.length ≤ (((min a1.toNat a0.xs.length) + (a0.xs.length - a2.toNat)) + (a0.xs.length - (a1.toNat + (a0.xs.length - a2.toNat)))) then (some ⟨a0.n, true, (List.take (a1.toNat + (a0.xs.length - a2.toNat)) (((List.take (a1.toNat + (a0.xs.length - a2.toNat)) (((List.take a1.toNat a0.xs) ++ (List.drop a2.toNat a0.xs)) ++ (List.drop (a1.toNat + (a0.xs.length - a2.toNat)) a0.xs))) ++ (List.replicate (a0.xs.length - (a1.toNat + (a0.xs.length - a2.toNat))) 0)) ++ (List.drop ((a1.toNat + (a0.xs.length - a2.toNat)) + (a0.xs.length - (a1.toNat + (a0.xs.length - a2.toNat)))) (((List.take a1.toNat a0.xs) ++ (List.drop a2.toNat a0.xs)) ++ (List.drop (a1.toNat + (a0.xs.length - a2.toNat)) a0.xs)))))⟩) else none) else none) else none) else none) else none) else none)) else none)) else none) else none) else none)
def zjx : Nat → zjh → zjf → Option (zjh × Int)
 | 0, _, _ => none
 | q + 1, a0, a1 => (if a1.Code = 7 then (some (a0, (a0.L.l.length : Int))) else (if a1.Code = 3 then (if (a0.L.l.length : Int) < 64 then ((zjv q a0.L).bind fun r1 => ((zjl q a1.A).bind fun r2 => (if (r1.xs.length + 1) ≤ 4294967296 then (some ((⟨a0.Kind, ⟨false, (r1.xs ++ [r2])⟩, a0.Sealed, a0.To⟩ : zjh), (wrp .i64 ((a0.L.l.length : Int) + 1)))) else none))) else (some (a0, (-1)))) else (if a1.Code = 4 then (if (a0.L.l.length : Int) = 0 then (some (a0, (-1))) else (if a0.Kind = 2 then ((a0.L.l[0]?).bind fun e3 => ((zjv q a0.L).bind fun r4 => ((zjw q r4 0 (wrp .i64 1)).bind fun r5 => (some ((⟨a0.Kind, ⟨r5.n, r5.xs⟩, a0.Sealed, a0.To⟩ : zjh), e3))))) else (if 0 ≤ (wrp .i64 ((a0.L.l.length : Int) - 1)) then ((a0.L.l[(wrp .i64 ((a0.L.l.length : Int) - 1)).toNat]?).bind fun e6 => ((zjv q a0.L).bind fun r7 => ((zjw q r7 (wrp .i64 ((a0.L.l.length : Int) - 1)) (wrp .i64 ((wrp .i64 ((a0.L.l.length : Int) - 1)) + 1))).bind fun r8 => (some ((⟨a0.Kind, ⟨r8.n, r8.xs⟩, a0.Sealed, a0.To⟩ : zjh), e6))))) else none))) else (some (a0, 0)))))
def zjy : Nat → Bool → (List Int) → Int → Int → Option (Int × Bool)
 | 0, _, _, _, _ => none
 | q + 1, v0z, v0l, v1, v6 => (if v6 < (v0l.length : Int) then (if 0 ≤ v6 then ((v0l[v6.toNat]?).bind fun e1 => (if e1 < v1 then (zjy q v0z v0l v1 (wrp .i64 (v6 + 2))) else (some (v6, (decide (e1 = v1)))))) else none) else (some (v6, false)))
def zjz : Nat → (Sl Int) → Int → Option (Int × Bool)
 | 0, _, _ => none
 | q + 1, a0, a1 => (zjy q a0.z a0.l a1 0)
def zj0 : Nat → (Sl Int) → Int → Option (Int)
 | 0, _, _ => none
 | q + 1, a0, a1 => ((zjz q a0 a1).bind fun r1 => (if r1.2 = true then (if 0 ≤ (wrp .i64 (r1.1 + 1)) then ((a0.l[(wrp .i64 (r1.1 + 1)).toNat]?).bind fun e2 => (some e2)) else none) else (some (-1))))
def zj1 : Nat → zjh → zjf → Option (zjh × Int)
 | 0, _, _ => none
 | q + 1, a0, a1 => (if a1.Code = 7 then (if a1.A < 0 then (some (a0, (-1))) else (if 255 < a1.A then (some (a0, (-1))) else ((zj0 q a0.L a1.A).bind fun r1 => ((zjz q a0.L a1.A).bind fun r2 => (if a1.Code = 6 then (if r2.2 = true then ((zjv q a0.L).bind fun r3 => ((zjw q r3 r2.1 (wrp .i64 (r2.1 + 2))).bind fun r4 => (some ((⟨a0.Kind, ⟨r4.n, r4.xs⟩, a0.Sealed, a0.To⟩ : zjh), r1)))) else (if a1.Code = 5 then none else (some (a0, r1)))) else (if a1.Code = 5 then none else (some (a0, r1)))))))) else (if a1.Code = 6 then (if a1.A < 0 then (some (a0, (-1))) else (if 255 < a1.A then (some (a0, (-1))) else ((zj0 q a0.L a1.A).bind fun r7 => ((zjz q a0.L a1.A).bind fun r8 => (if r8.2 = true then ((zjv q a0.L).bind fun r9 => ((zjw q r9 r8.1 (wrp .i64 (r8.1 + 2))).bind fun r10 => (some ((⟨a0.Kind, ⟨r10.n, r10.xs⟩, a0.Sealed, a0.To⟩ : zjh), r7)))) else (if a1.Code = 5 then none else (some (a0, r7)))))))) else (if a1.Code = 5 then (if a1.A < 0 then (some (a0, (-1))) else (if 255 < a1.A then (some (a0, (-1))) else ((zj0 q a0.L a1.A).bind fun r12 => ((zjz q a0.L a1.A).bind fun r13 => none)))) else (some (a0, 0)))))
def zj2 : Nat → zjh → zjf → Option (zjh × Int)
 | 0, _, _ => none
 | q + 1, a0, a1 => (if a1.A < 0 then (some (a0, 0)) else (if 65536 ≤ a1.A then (some (a0, 0)) else (if a1.B < 0 then (some (a0, 0)) else ((zj0 q a0.L (wrp .i64 (Int.tdiv a1.A 256))).bind fun r1 => ((zj0 q a0.L (Int.tmod a1.A 256)).bind fun r2 => (if r1 < a1.B then (some (a0, 0)) else (if (wrp .i64 (Int.tdiv a1.A 256)) = (Int.tmod a1.A 256) then (some (a0, 1)) else none)))))))
def zj3 : Nat → zjh → zjf → Option (zjh × Int)
 | 0, _, _ => none
 | q + 1, a0, a1 => (if a1.Code = 9 then ((zj2 q a0 a1).bind fun r1 => (some (r1.1, r1.2))) else (if a1.Code = 7 then (if a1.A < 0 then (some (a0, (-1))) else (if 255 < a1.A then (some (a0, (-1))) else ((zj0 q a0.L a1.A).bind fun r2 => (some (a0, r2))))) else (if a1.Code = 8 then (if a1.A < 0 then (some (a0, (-1))) else (if 255 < a1.A then (some (a0, (-1))) else (if a1.B < 0 then (some (a0, (-1))) else ((zj0 q a0.L a1.A).bind fun r3 => ((zjl q a1.B).bind fun r4 => ((zjl q (wrp .i64 ((if r3 < 0 then 0 else r3) + r4))).bind fun r5 => none)))))) else (some (a0, 0)))))
def zj4 : Nat → zjh → zjf → Option (zjh × Int)
 | 0, _, _ => none
 | q + 1, a0, a1 => ((zjt q a0).bind fun r1 => (if r1 = true then (if a0.Sealed = true then (some (a0, (-1125899906842624))) else (if a1.Code = 10 then (if 0 ≤ a1.A then (if a1.A < 3 then (some ((⟨a0.Kind, a0.L, true, a1.A⟩ : zjh), 0)) else (some ((⟨a0.Kind, a0.L, true, a0.To⟩ : zjh), 0))) else (some ((⟨a0.Kind, a0.L, true, a0.To⟩ : zjh), 0))) else (if a0.Kind = 0 then ((zju q a0 a1).bind fun r2 => (some (r2.1, r2.2))) else (if a0.Kind = 1 then ((zju q a0 a1).bind fun r3 => (some (r3.1, r3.2))) else (if a0.Kind = 2 then ((zjx q a0 a1).bind fun r4 => (some (r4.1, r4.2))) else (if a0.Kind = 3 then ((zjx q a0 a1).bind fun r5 => (some (r5.1, r5.2))) else (if a0.Kind = 4 then ((zj1 q a0 a1).bind fun r6 => (some (r6.1, r6.2))) else ((zj3 q a0 a1).bind fun r7 => (some (r7.1, r7.2)))))))))) else (some (a0, 0))))
def zj5 : Nat → (Sl zji) → Option ((Ow zji))
 | 0, _ => none
 | q + 1, a0 => (if a0.z = true then (some ⟨true, true, []⟩) else (if a0.l.length ≤ 4294967296 then (some ⟨false, true, a0.l⟩) else none))
def zj6 : Nat → (Ow zji) → Int → (Sl zji) → Option ((Ow zji))
 | 0, _, _, _ => none
 | q + 1, a0, a1, a2 => (if 0 ≤ a1 then (if a1.toNat ≤ a0.xs.length then (if (a2.l.length : Int) = 0 then (some a0) else (if a1 = (a0.xs.length : Int) then (if (a0.xs.length + a2.l.length) ≤ 4294967296 then (some ⟨(a0.n && (decide (a2.l.length = 0))), a0.x, (a0.xs ++ a2.l)⟩) else none) else none)) else none) else none)
def zj7 : Nat → Int → Int → Int → Int → Int → Int → Int → Int → Int → Bool → (List zji) → Bool → Option (Int)
 | 0, _, _, _, _, _, _, _, _, _, _, _, _ => none
 | q + 1, v7, v8, h0_0, h0_1, h0_2, h0_3, h0_4, h0_5, h0_6, h1z, h1l, h1x => (if v8 < v7 then (if 0 ≤ v8 then (if v8.toNat < h1l.length then ((h1l[v8.toNat]?).bind fun e1 => (if e1.Proc = h0_1 then (some v8) else (zj7 q v7 (wrp .i64 (v8 + 1)) h0_0 h0_1 h0_2 h0_3 h0_4 h0_5 h0_6 h1z h1l h1x))) else none) else none) else (some (-1)))
def zj8 : Nat → Int → Int → Int → Int → Int → Int → Int → Bool → (List zji) → Bool → Option (Int)
 | 0, _, _, _, _, _, _, _, _, _, _ => none
 | q + 1, h0_0, h0_1, h0_2, h0_3, h0_4, h0_5, h0_6, h1z, h1l, h1x => (zj7 q (h1l.length : Int) 0 h0_0 h0_1 h0_2 h0_3 h0_4 h0_5 h0_6 h1z h1l h1x)
def zj9 : Nat → Int → Int → Int → Int → Int → Int → Int → Int → Int → Bool → (List zji) → Bool → Option (Nat × (List zji) × Bool)
 | 0, _, _, _, _, _, _, _, _, _, _, _, _ => none
 | q + 1, v5, v6, h0_0, h0_1, h0_2, h0_3, h0_4, h0_5, h0_6, h1z, h1l, h1x => (if v6 < (h1l.length : Int) then (if 0 ≤ v6 then (if v6.toNat < h1l.length then ((h1l[v6.toNat]?).bind fun e2 => (if e2.Proc = h0_1 then (zj9 q v5 (wrp .i64 (v6 + 1)) h0_0 h0_1 h0_2 h0_3 h0_4 h0_5 h0_6 h1z h1l h1x) else (if 0 ≤ v5 then (if v5.toNat < h1l.length then ((h1l[v5.toNat]?).bind fun e3 => (if h1x = true then (zj9 q (wrp .i64 (v5 + 1)) (wrp .i64 (v6 + 1)) h0_0 h0_1 h0_2 h0_3 h0_4 h0_5 h0_6 h1z (List.set h1l v5.toNat e2) true) else none)) else none) else none))) else none) else none) else (if 0 ≤ v5 then (if v5.toNat ≤ h1l.length then (if h1x = true then (if v5.toNat ≤ (((min v5.toNat h1l.length) + (h1l.length - v5.toNat)) + (h1l.length - (v5.toNat + (h1l.length - v5.toNat)))) then (if h1z = true then (some (v5.toNat, (((List.take v5.toNat h1l) ++ (List.replicate (h1l.length - v5.toNat) (⟨0, 0, 0⟩ : zji))) ++ (List.drop (v5.toNat + (h1l.length - v5.toNat)) h1l)), true)) else (some (v5.toNat, (((List.take v5.toNat h1l) ++ (List.replicate (h1l.length - v5.toNat) (⟨0, 0, 0⟩ : zji))) ++ (List.drop (v5.toNat + (h1l.length - v5.toNat)) h1l)), true))) else none) else none) else none) else none))
def zka : Nat → Int → Int → Int → Int → Int → Int → Int → Bool → (List zji) → Bool → Option (Nat × (List zji) × Bool)
 | 0, _, _, _, _, _, _, _, _, _, _ => none
 | q + 1, h0_0, h0_1, h0_2, h0_3, h0_4, h0_5, h0_6, h1z, h1l, h1x => ((zj8 q h0_0 h0_1 h0_2 h0_3 h0_4 h0_5 h0_6 h1z h1l h1x).bind fun r1 => (if r1 = (-1) then (some (h1l.length, h1l, h1x)) else (zj9 q r1 (wrp .i64 (r1 + 1)) h0_0 h0_1 h0_2 h0_3 h0_4 h0_5 h0_6 h1z h1l h1x)))
def zkb : Nat → Nat → Int → Int → Int → Int → Int → Int → Int → Int → Int → Bool → (List zji) → Bool → Option (Int)
 | 0, _, _, _, _, _, _, _, _, _, _, _, _, _ => none
 | q + 1, v0len, v7, v8, h0_0, h0_1, h0_2, h0_3, h0_4, h0_5, h0_6, h1z, h1l, h1x => (if v8 < v7 then (if 0 ≤ v8 then (if v8.toNat < v0len then ((h1l[v8.toNat]?).bind fun e1 => (if h0_1 < e1.Proc then (some v8) else (zkb q v0len v7 (wrp .i64 (v8 + 1)) h0_0 h0_1 h0_2 h0_3 h0_4 h0_5 h0_6 h1z h1l h1x))) else none) else none) else (some (-1)))
def zkc : Nat → Nat → Int → Int → Int → Int → Int → Int → Int → Bool → (List zji) → Bool → Option (Int)
 | 0, _, _, _, _, _, _, _, _, _, _, _ => none
 | q + 1, v0len, h0_0, h0_1, h0_2, h0_3, h0_4, h0_5, h0_6, h1z, h1l, h1x => (zkb q v0len (v0len : Int) 0 h0_0 h0_1 h0_2 h0_3 h0_4 h0_5 h0_6 h1z h1l h1x)
def zkd : Nat → (Sl zji) → zjg → Option ((Ow zji))
 | 0, _, _ => none
 | q + 1, a0, a1 => ((zj5 q a0).bind fun r1 => ((zka q a1.Index a1.Proc a1.Seq a1.Op.Code a1.Op.A a1.Op.B a1.Resp r1.n r1.xs r1.x).bind fun r2 => ((zkc q r2.1 a1.Index a1.Proc a1.Seq a1.Op.Code a1.Op.A a1.Op.B a1.Resp r1.n r2.2.1 r2.2.2).bind fun r3 => (if r3 < 0 then (if r2.2.2 = true then ((zj6 q ⟨r1.n, r2.2.2, (List.take r2.1 r2.2.1)⟩ (r2.1 : Int) ⟨false, [(⟨a1.Proc, a1.Seq, a1.Resp⟩ : zji)]⟩).bind fun r4 => (some r4)) else none) else (if r2.2.2 = true then ((zj6 q ⟨r1.n, r2.2.2, (List.take r2.1 r2.2.1)⟩ r3 ⟨false, [(⟨a1.Proc, a1.Seq, a1.Resp⟩ : zji)]⟩).bind fun r5 => (some r5)) else none)))))
def zke : Nat → Bool → (List zjg) → Int → Int → Int → Int → Bool → (List Int) → Bool → Int → Bool → (List zji) → Bool → Option (zjj × Int)
 | 0, _, _, _, _, _, _, _, _, _, _, _, _, _ => none
 | q + 1, v8z, v8l, v9, v10, h0_0, h0_1, h0_2z, h0_2l, h0_3, h0_4, h2z, h2l, h2x => (if v10 < v9 then (if 0 ≤ v10 then ((v8l[v10.toNat]?).bind fun e5 => (if e5.Index = h0_0 then ((zjn q e5).bind fun r6 => (if r6 = true then ((zj4 q (⟨h0_1, ⟨h0_2z, h0_2l⟩, h0_3, h0_4⟩ : zjh) e5.Op).bind fun r7 => ((zkd q ⟨h2z, h2l⟩ (⟨e5.Index, e5.Proc, e5.Seq, e5.Op, r7.2⟩ : zjg)).bind fun r8 => (zke q v8z v8l v9 (wrp .i64 (v10 + 1)) (wrp .i64 (h0_0 + 1)) r7.1.Kind r7.1.L.z r7.1.L.l r7.1.Sealed r7.1.To r8.n r8.xs r8.x))) else (some ((⟨0, (⟨0, ⟨true, []⟩, false, 0⟩ : zjh), ⟨true, []⟩⟩ : zjj), 1)))) else (some ((⟨0, (⟨0, ⟨true, []⟩, false, 0⟩ : zjh), ⟨true, []⟩⟩ : zjj), 15)))) else none) else (some ((⟨h0_0, (⟨h0_1, ⟨h0_2z, h0_2l⟩, h0_3, h0_4⟩ : zjh), ⟨h2z, h2l⟩⟩ : zjj), 0)))
def zkf : Nat → Bool → (List zjg) → Int → Int → Int → Bool → (List Int) → Bool → Int → Bool → (List zji) → Option (zjj × Int)
 | 0, _, _, _, _, _, _, _, _, _, _, _ => none
 | q + 1, v8z, v8l, v9, h0_0, h0_1, h0_2z, h0_2l, h0_3, h0_4, h0_5z, h0_5l => (if 0 < v9 then ((v8l[0]?).bind fun e1 => (if e1.Index = h0_0 then ((zjn q e1).bind fun r2 => (if r2 = true then ((zj4 q (⟨h0_1, ⟨h0_2z, h0_2l⟩, h0_3, h0_4⟩ : zjh) e1.Op).bind fun r3 => ((zkd q ⟨h0_5z, h0_5l⟩ (⟨e1.Index, e1.Proc, e1.Seq, e1.Op, r3.2⟩ : zjg)).bind fun r4 => (zke q v8z v8l v9 (wrp .i64 1) (wrp .i64 (h0_0 + 1)) r3.1.Kind r3.1.L.z r3.1.L.l r3.1.Sealed r3.1.To r4.n r4.xs r4.x))) else (some ((⟨0, (⟨0, ⟨true, []⟩, false, 0⟩ : zjh), ⟨true, []⟩⟩ : zjj), 1)))) else (some ((⟨0, (⟨0, ⟨true, []⟩, false, 0⟩ : zjh), ⟨true, []⟩⟩ : zjj), 15)))) else (some ((⟨h0_0, (⟨h0_1, ⟨h0_2z, h0_2l⟩, h0_3, h0_4⟩ : zjh), ⟨h0_5z, h0_5l⟩⟩ : zjj), 0)))
def zkg : Nat → zjj → (Sl zjg) → Option (zjj × Int)
 | 0, _, _ => none
 | q + 1, a0, a1 => (zkf q a1.z a1.l (a1.l.length : Int) a0.Index a0.State.Kind a0.State.L.z a0.State.L.l a0.State.Sealed a0.State.To a0.Table.z a0.Table.l)
def zkh : Nat → zji → Option (Bool)
 | 0, _ => none
 | q + 1, a0 => (if 0 ≤ a0.Proc then (if a0.Proc ≤ 64 then (if 0 ≤ a0.Seq then (if a0.Seq < 4611686018427387904 then (if (-1125899906842624) ≤ a0.Resp then (some (decide (a0.Resp ≤ 1125899906842624))) else (some false)) else (some false)) else (some false)) else (some false)) else (some false))
def zki : Nat → Bool → (List zji) → Bool → (List zji) → Int → Int → Option (Bool)
 | 0, _, _, _, _, _, _ => none
 | q + 1, v0z, v0l, v5z, v5l, v6, v7 => (if v7 < v6 then (if 0 ≤ v7 then ((v5l[v7.toNat]?).bind fun e1 => ((zkh q e1).bind fun r2 => (if r2 = true then (if 0 < v7 then (if 0 ≤ (wrp .i64 (v7 - 1)) then ((v0l[(wrp .i64 (v7 - 1)).toNat]?).bind fun e3 => (if e1.Proc ≤ e3.Proc then (some false) else (zki q v0z v0l v5z v5l v6 (wrp .i64 (v7 + 1))))) else none) else (zki q v0z v0l v5z v5l v6 (wrp .i64 (v7 + 1)))) else (some false)))) else none) else (some true))
def zkj : Nat → (Sl zji) → Option (Bool)
 | 0, _ => none
 | q + 1, a0 => (zki q a0.z a0.l a0.z a0.l (a0.l.length : Int) 0)
def zkk : Nat → zjj → Option (Bool)
 | 0, _ => none
 | q + 1, a0 => (if 0 ≤ a0.Index then (if a0.Index < 4611686018427387904 then ((zjt q a0.State).bind fun r1 => (if r1 = true then ((zkj q a0.Table).bind fun r2 => (some r2)) else (some false))) else (some false)) else (some false))
def zkl : Nat → Int → Bool → (List Int) → Bool → Option ((Ow Int))
 | 0, _, _, _, _ => none
 | q + 1, v1, h0z, h0l, h0x => (if 128 ≤ v1 then (if (h0l.length + 1) ≤ 4294967296 then (zkl q (ishr .u64 v1 7) false (h0l ++ [(ibits .or .u8 (wrp .u8 v1) 128)]) h0x) else none) else (if (h0l.length + 1) ≤ 4294967296 then (some ⟨false, h0x, (h0l ++ [(wrp .u8 v1)])⟩) else none))
def zkm : Nat → (Ow Int) → Int → Option ((Ow Int))
 | 0, _, _ => none
 | q + 1, a0, a1 => (zkl q a1 a0.n a0.xs a0.x)
def zkn : Nat → (Ow Int) → Int → Option ((Ow Int))
 | 0, _, _ => none
 | q + 1, a0, a1 => (if a1 < 0 then (some a0) else (if 4611686018427387904 ≤ a1 then (some a0) else ((zkm q a0 (wrp .u64 a1)).bind fun r1 => (some r1))))
def zko : Nat → zjh → Option (Int)
 | 0, _ => none
 | q + 1, a0 => (if a0.Sealed = true then (some (wrp .i64 (a0.To + 1))) else (some 0))
def zkp : Nat → Int → Option (Int)
 | 0, _ => none
 | q + 1, a0 => (some (ibits .xor .u64 (ishl .u64 (wrp .u64 a0) 1) (wrp .u64 (ishr .i64 a0 63))))
def zkq : Nat → (Ow Int) → Int → Option ((Ow Int))
 | 0, _, _ => none
 | q + 1, a0, a1 => ((zkp q a1).bind fun r1 => ((zkm q a0 r1).bind fun r2 => (some r2)))
def zkr : Nat → Bool → (List Int) → Int → Int → Bool → (List Int) → Bool → Option ((Ow Int) × Int)
 | 0, _, _, _, _, _, _, _ => none
 | q + 1, v21z, v21l, v22, v23, h0z, h0l, h0x => (if v23 < v22 then (if 0 ≤ v23 then ((v21l[v23.toNat]?).bind fun e6 => ((zkq q ⟨h0z, h0x, h0l⟩ e6).bind fun r7 => (zkr q v21z v21l v22 (wrp .i64 (v23 + 1)) r7.n r7.xs r7.x))) else none) else (some (⟨h0z, h0x, h0l⟩, 0)))
def zks : Nat → zjh → Option ((Ow Int) × Int)
 | 0, _ => none
 | q + 1, a0 => ((zjt q a0).bind fun r1 => (if r1 = true then ((zkn q ⟨true, true, []⟩ a0.Kind).bind fun r2 => ((zko q a0).bind fun r3 => ((zkn q r2 r3).bind fun r4 => ((zkn q r4 (a0.L.l.length : Int)).bind fun r5 => (zkr q a0.L.z a0.L.l (a0.L.l.length : Int) 0 r5.n r5.xs r5.x))))) else (some (⟨true, true, []⟩, 1))))
def zkt : Nat → Bool → (List zji) → Int → Int → Bool → (List Int) → Bool → Option ((Ow Int))
 | 0, _, _, _, _, _, _, _ => none
 | q + 1, v24z, v24l, v25, v26, h0z, h0l, h0x => (if v26 < v25 then (if 0 ≤ v26 then ((v24l[v26.toNat]?).bind fun e4 => ((zkn q ⟨h0z, h0x, h0l⟩ e4.Proc).bind fun r5 => ((zkn q r5 e4.Seq).bind fun r6 => ((zkq q r6 e4.Resp).bind fun r7 => (zkt q v24z v24l v25 (wrp .i64 (v26 + 1)) r7.n r7.xs r7.x))))) else none) else (some ⟨h0z, h0x, h0l⟩))
def zku : Nat → zjj → Option ((Ow Int))
 | 0, _ => none
 | q + 1, a0 => ((zks q a0.State).bind fun r1 => ((zkn q ⟨true, true, []⟩ (r1.1.xs.length : Int)).bind fun r2 => (if (r2.xs.length + r1.1.xs.length) ≤ 4294967296 then ((zkn q ⟨(r2.n && (decide (r1.1.xs.length = 0))), r2.x, (r2.xs ++ r1.1.xs)⟩ (a0.Table.l.length : Int)).bind fun r3 => (zkt q a0.Table.z a0.Table.l (a0.Table.l.length : Int) 0 r3.n r3.xs r3.x)) else none)))
mutual
def zkv : Nat → Int → (List Int) → (List Int) → Option ((List Int))
 | 0, _, _, _ => none
 | q + 1, v5, h0_0, h1_0 => (if v5 < 256 then (zkw q v5 (wrp .u32 v5) v5 0 h0_0 h1_0) else (if 256 ≤ h1_0.length then (if (min 256 h1_0.length) = 256 then (if 256 ≤ h0_0.length then (if 256 ≤ (256 + (h0_0.length - 256)) then (some (List.take 256 ((List.take 256 h1_0) ++ (List.drop 256 h0_0)))) else none) else none) else none) else none))
def zkw : Nat → Int → Int → Int → Int → (List Int) → (List Int) → Option ((List Int))
 | 0, _, _, _, _, _, _ => none
 | q + 1, v2, v3, v5, v10, h0_0, h1_0 => (if v10 < 8 then (zkw q v2 (ibits .xor .u32 (ishr .u32 v3 1) (ibits .and .u32 2197175160 (wrp .u32 (0 - (ibits .and .u32 v3 1))))) v5 (wrp .i64 (v10 + 1)) h0_0 h1_0) else (if 0 ≤ v2 then (if v2.toNat < 256 then (if (v2.toNat + 1) ≤ h1_0.length then (zkv q (wrp .i64 (v5 + 1)) h0_0 (List.set h1_0 v2.toNat v3)) else none) else none) else none))
end
def zkx : Nat → Option ((List Int))
 | 0 => none
 | q + 1 => (zkv q 0 (List.replicate 256 0) (List.replicate 256 0))
def zky : Nat → Int → Bool → (List Int) → Int → Int → (List Int) → Option (Int)
 | 0, _, _, _, _, _, _ => none
 | q + 1, v6, v12z, v12l, v13, v14, h0_0 => (if v14 < v13 then (if 0 ≤ v14 then ((v12l[v14.toNat]?).bind fun e2 => (if 0 ≤ (ibits .xor .u8 (wrp .u8 v6) e2) then (if (ibits .xor .u8 (wrp .u8 v6) e2).toNat < 256 then ((h0_0[(ibits .xor .u8 (wrp .u8 v6) e2).toNat]?).bind fun e3 => (zky q (ibits .xor .u32 e3 (ishr .u32 v6 8)) v12z v12l v13 (wrp .i64 (v14 + 1)) h0_0)) else none) else none)) else none) else (some (ibits .xor .u32 4294967295 v6)))
def zkz : Nat → Int → (Sl Int) → Option (Int)
 | 0, _, _ => none
 | q + 1, a0, a1 => ((zkx q).bind fun r1 => (if r1.length = 256 then (zky q (ibits .xor .u32 4294967295 a0) a1.z a1.l (a1.l.length : Int) 0 r1) else none))
def zk0 : Nat → (Sl Int) → Option (Int)
 | 0, _ => none
 | q + 1, a0 => ((zkz q 0 a0).bind fun r1 => (some r1))
def zk1 : Nat → Int → Int → Int → Bool → (List Int) → Option ((Ow Int))
 | 0, _, _, _, _, _ => none
 | q + 1, v0, v7, v8, h0z, h0l => (if v8 < v7 then (if (wrp .i64 (8 * v8)) < 0 then none else (if (h0l.length + 1) ≤ 4294967296 then (zk1 q v0 v7 (wrp .i64 (v8 + 1)) false (h0l ++ [(wrp .u8 (ishr .u64 v0 (wrp .i64 (8 * v8))))])) else none)) else (some ⟨h0z, true, h0l⟩))
def zk2 : Nat → Int → Int → Option ((Ow Int))
 | 0, _, _ => none
 | q + 1, a0, a1 => (zk1 q a0 a1 0 true [])
def zk3 : Nat → Int → Option ((Ow Int))
 | 0, _ => none
 | q + 1, a0 => ((zk2 q (wrp .u64 a0) 4).bind fun r1 => (some r1))
def zk4 : Nat → (Sl Int) → (Sl Int) → Option ((Ow Int))
 | 0, _, _ => none
 | q + 1, a0, a1 => ((zk0 q a0).bind fun r1 => ((zkz q r1 a1).bind fun r2 => ((zk3 q r2).bind fun r3 => (some r3))))
def zk5 : Nat → Nat → Bool → (List (Sl Int)) → Int → Int → Bool → (List Int) → Option ((Ow Int))
 | 0, _, _, _, _, _, _, _ => none
 | q + 1, v6len, v25z, v25l, v26, v27, h0z, h0l => (if v27 < v26 then (if 0 ≤ v27 then ((v25l[v27.toNat]?).bind fun e2 => (if (v6len + e2.l.length) ≤ h0l.length then (zk5 q (v6len + e2.l.length) v25z v25l v26 (wrp .i64 (v27 + 1)) h0z (((List.take v6len h0l) ++ e2.l) ++ (List.drop (v6len + e2.l.length) h0l))) else none)) else none) else (some ⟨h0z, true, (List.take v6len h0l)⟩))
def zk6 : Nat → Bool → (List (Sl Int)) → Int → Int → Bool → (List Int) → Option ((Ow Int))
 | 0, _, _, _, _, _, _ => none
 | q + 1, v25z, v25l, v26, v27, h0z, h0l => (if v27 < v26 then (if 0 ≤ v27 then ((v25l[v27.toNat]?).bind fun e4 => (if (h0l.length + e4.l.length) ≤ 4294967296 then (zk6 q v25z v25l v26 (wrp .i64 (v27 + 1)) (h0z && (decide (e4.l.length = 0))) (h0l ++ e4.l)) else none)) else none) else (some ⟨h0z, true, h0l⟩))
def zk7 : Nat → Bool → (List (Sl Int)) → Int → Option ((Ow Int))
 | 0, _, _, _ => none
 | q + 1, v25z, v25l, v26 => (if 0 < v26 then ((v25l[0]?).bind fun e3 => (if e3.l.length ≤ 4294967296 then (zk6 q v25z v25l v26 (wrp .i64 1) (decide (e3.l.length = 0)) e3.l) else none)) else (some ⟨true, true, []⟩))
def zk8 : Nat → Bool → (List (Sl Int)) → Int → Bool → (List (Sl Int)) → Int → Int → Option ((Ow Int))
 | 0, _, _, _, _, _, _, _ => none
 | q + 1, v0z, v0l, v3, v9z, v9l, v10, v11 => (if v11 < v10 then (if 0 ≤ v11 then ((v9l[v11.toNat]?).bind fun e1 => (if (wrp .i64 (v3 + (e1.l.length : Int))) < 0 then none else (zk8 q v0z v0l (wrp .i64 (v3 + (e1.l.length : Int))) v9z v9l v10 (wrp .i64 (v11 + 1))))) else none) else (if v3 < 0 then none else (if 0 < (wrp .i64 (v3 - (wrp .i64 0))) then (if 0 ≤ (wrp .i64 (v3 - (wrp .i64 0))) then (if (wrp .i64 (v3 - (wrp .i64 0))).toNat ≤ 4294967296 then (if (wrp .i64 (v3 - (wrp .i64 0))) = 0 then none else (zk5 q 0 v0z v0l (v0l.length : Int) 0 (decide ((wrp .i64 (v3 - (wrp .i64 0))) = 0)) (List.replicate ((wrp .i64 (v3 - (wrp .i64 0))).toNat) 0))) else none) else none) else (zk7 q v0z v0l (v0l.length : Int)))))
def zk9 : Nat → (Sl (Sl Int)) → Option ((Ow Int))
 | 0, _ => none
 | q + 1, a0 => (zk8 q a0.z a0.l 0 a0.z a0.l (a0.l.length : Int) 0)
def zla : Nat → (Sl Int) → Option ((Ow Int) × Int)
 | 0, _ => none
 | q + 1, a0 => (if 1048576 < (a0.l.length : Int) then (some (⟨true, true, []⟩, 5)) else ((zkn q ⟨true, true, []⟩ (a0.l.length : Int)).bind fun r1 => ((zk4 q ⟨r1.n, r1.xs⟩ a0).bind fun r2 => ((zk9 q ⟨false, [⟨r1.n, r1.xs⟩, a0, ⟨r2.n, r2.xs⟩]⟩).bind fun r3 => (some (r3, 0))))))
def zlb : Nat → (Sl Int) → Option ((Ow Int))
 | 0, _ => none
 | q + 1, a0 => ((zla q a0).bind fun r1 => (some r1.1))
def zlc : Nat → Nat → Nat → Bool → (List Int) → Bool → (List Int) → Bool → Option ((Ow Int) × Int)
 | 0, _, _, _, _, _, _, _ => none
 | q + 1, v4off, v4len, h0z, h0l, h1z, h1l, h1x => (if 0 < (v4len : Int) then (if 0 ≤ (if 64 < (v4len : Int) then 64 else (v4len : Int)) then (if (if 64 < (v4len : Int) then 64 else (v4len : Int)) ≤ (if 64 < (v4len : Int) then 64 else (v4len : Int)) then (if (v4off + (if 64 < (v4len : Int) then 64 else (v4len : Int)).toNat) ≤ h0l.length then ((zlb q ⟨h0z, (List.take ((if 64 < (v4len : Int) then 64 else (v4len : Int)).toNat) (List.drop v4off h0l))⟩).bind fun r10 => (if (h1l.length + r10.xs.length) ≤ 4294967296 then (if (if 64 < (v4len : Int) then 64 else (v4len : Int)).toNat ≤ v4len then (zlc q (v4off + (if 64 < (v4len : Int) then 64 else (v4len : Int)).toNat) (v4len - (if 64 < (v4len : Int) then 64 else (v4len : Int)).toNat) h0z h0l (h1z && (decide (r10.xs.length = 0))) (h1l ++ r10.xs) h1x) else none) else none)) else none) else none) else none) else (some (⟨h1z, h1x, h1l⟩, 0)))
def zld : Nat → Bool → (List Int) → Bool → Bool → (List Int) → Bool → Option ((Ow Int) × Int)
 | 0, _, _, _, _, _, _ => none
 | q + 1, h0z, h0l, h0x, h1z, h1l, h1x => (if 0 < (h0l.length : Int) then (if 0 ≤ (if 64 < (h0l.length : Int) then 64 else (h0l.length : Int)) then (if (if 64 < (h0l.length : Int) then 64 else (h0l.length : Int)) ≤ (if 64 < (h0l.length : Int) then 64 else (h0l.length : Int)) then (if (if 64 < (h0l.length : Int) then 64 else (h0l.length : Int)).toNat ≤ h0l.length then ((zlb q ⟨h0z, (List.take ((if 64 < (h0l.length : Int) then 64 else (h0l.length : Int)).toNat) h0l)⟩).bind fun r9 => (if (h1l.length + r9.xs.length) ≤ 4294967296 then (zlc q ((if 64 < (h0l.length : Int) then 64 else (h0l.length : Int)).toNat) (h0l.length - (if 64 < (h0l.length : Int) then 64 else (h0l.length : Int)).toNat) h0z h0l (h1z && (decide (r9.xs.length = 0))) (h1l ++ r9.xs) h1x) else none)) else none) else none) else none) else (some (⟨h1z, h1x, h1l⟩, 0)))
def zle : Nat → zjj → Option ((Ow Int) × Int)
 | 0, _ => none
 | q + 1, a0 => ((zkk q a0).bind fun r1 => (if r1 = true then ((zku q a0).bind fun r2 => ((zkn q ⟨false, true, [115]⟩ 3).bind fun r3 => ((zkn q r3 a0.Index).bind fun r4 => ((zkn q r4 (r2.xs.length : Int)).bind fun r5 => ((zk0 q ⟨r2.n, r2.xs⟩).bind fun r6 => ((zk3 q r6).bind fun r7 => (if (r5.xs.length + r7.xs.length) ≤ 4294967296 then ((zlb q ⟨(r5.n && (decide (r7.xs.length = 0))), (r5.xs ++ r7.xs)⟩).bind fun r8 => (zld q r2.n r2.xs r2.x r8.n r8.xs r8.x)) else none))))))) else (some (⟨true, true, []⟩, 1))))
def zlf : Nat → Option (Bool)
 | 0 => none
 | q + 1 => ((zkg q (⟨0, (⟨0, ⟨false, [0]⟩, false, 0⟩ : zjh), ⟨true, []⟩⟩ : zjj) ⟨false, [(⟨0, 2, 1, (⟨1, 5, 0⟩ : zjf), 0⟩ : zjg)]⟩).bind fun r1 => ((zle q r1.1).bind fun r2 => (if r1.2 = 0 then (if r2.2 = 0 then (if 10 < (r2.1.xs.length : Int) then (if r1.1.Index = 1 then (if (r1.1.Table.l.length : Int) = 1 then ((r1.1.Table.l[0]?).bind fun e3 => (if e3.Proc = 2 then (if e3.Seq = 1 then (if e3.Resp = 0 then (if (r1.1.State.L.l.length : Int) = 1 then ((r1.1.State.L.l[0]?).bind fun e4 => (some (decide (e4 = 5)))) else (some false)) else (some false)) else (some false)) else (some false))) else (some false)) else (some false)) else (some false)) else (some false)) else (some false))))
def zlg : Nat → Int → Option (Bool)
 | 0, _ => none
 | q + 1, a0 => (some (decide (a0 < 128)))
def zlh : Nat → Bool → (List Int) → Int → Int → Option (Int)
 | 0, _, _, _, _ => none
 | q + 1, v0z, v0l, v7, v8 => (if v8 < v7 then (if 0 ≤ v8 then ((v0l[v8.toNat]?).bind fun e1 => ((zlg q e1).bind fun r2 => (if r2 = true then (some v8) else (zlh q v0z v0l v7 (wrp .i64 (v8 + 1)))))) else none) else (some (-1)))
def zli : Nat → Bool → (List Int) → Option (Int)
 | 0, _, _ => none
 | q + 1, v0z, v0l => (zlh q v0z v0l (v0l.length : Int) 0)
def zlj : Nat → (Sl Int) → Option (Bool)
 | 0, _ => none
 | q + 1, a0 => (if (a0.l.length : Int) < 10 then ((zli q a0.z a0.l).bind fun r1 => (some (!(decide (0 ≤ r1))))) else (some false))
def zlk : Nat → Bool → (List Int) → Int → Int → Int → Option (Int × Int)
 | 0, _, _, _, _, _ => none
 | q + 1, v0z, v0l, v4, v9, v10 => (if v10 < v9 then (if 0 ≤ v10 then ((v0l[v10.toNat]?).bind fun e1 => (if (wrp .i64 (7 * v10)) < 0 then none else (if v10 = 9 then (if 1 < e1 then (some (0, 0)) else (if e1 = 0 then (if 0 < v10 then (some (0, 0)) else (if e1 < 128 then (some ((ibits .or .u64 v4 (ishl .u64 (wrp .u64 (ibits .and .u8 e1 127)) (wrp .i64 (7 * v10)))), (wrp .i64 (v10 + 1)))) else (zlk q v0z v0l (ibits .or .u64 v4 (ishl .u64 (wrp .u64 (ibits .and .u8 e1 127)) (wrp .i64 (7 * v10)))) v9 (wrp .i64 (v10 + 1))))) else (if e1 < 128 then (some ((ibits .or .u64 v4 (ishl .u64 (wrp .u64 (ibits .and .u8 e1 127)) (wrp .i64 (7 * v10)))), (wrp .i64 (v10 + 1)))) else (zlk q v0z v0l (ibits .or .u64 v4 (ishl .u64 (wrp .u64 (ibits .and .u8 e1 127)) (wrp .i64 (7 * v10)))) v9 (wrp .i64 (v10 + 1)))))) else (if e1 = 0 then (if 0 < v10 then (some (0, 0)) else (if e1 < 128 then (some ((ibits .or .u64 v4 (ishl .u64 (wrp .u64 (ibits .and .u8 e1 127)) (wrp .i64 (7 * v10)))), (wrp .i64 (v10 + 1)))) else (zlk q v0z v0l (ibits .or .u64 v4 (ishl .u64 (wrp .u64 (ibits .and .u8 e1 127)) (wrp .i64 (7 * v10)))) v9 (wrp .i64 (v10 + 1))))) else (if e1 < 128 then (some ((ibits .or .u64 v4 (ishl .u64 (wrp .u64 (ibits .and .u8 e1 127)) (wrp .i64 (7 * v10)))), (wrp .i64 (v10 + 1)))) else (zlk q v0z v0l (ibits .or .u64 v4 (ishl .u64 (wrp .u64 (ibits .and .u8 e1 127)) (wrp .i64 (7 * v10)))) v9 (wrp .i64 (v10 + 1)))))))) else none) else (some (0, 0)))
def zll : Nat → (Sl Int) → Option (Int × Int)
 | 0, _ => none
 | q + 1, a0 => (zlk q a0.z a0.l 0 (if 10 < (a0.l.length : Int) then 10 else (a0.l.length : Int)) 0)
def zlm : Nat → (Sl Int) → Option (Int × Int)
 | 0, _ => none
 | q + 1, a0 => ((zll q a0).bind fun r1 => (if 4611686018427387904 ≤ r1.1 then (some (0, 0)) else (some ((wrp .i64 r1.1), r1.2))))
def zln : Nat → Bool → (List Int) → Bool → (List Int) → Int → Int → Option (Bool)
 | 0, _, _, _, _, _, _ => none
 | q + 1, v0z, v0l, v1z, v1l, v12, v13 => (if v13 < v12 then (if 0 ≤ v13 then ((v0l[v13.toNat]?).bind fun e1 => ((v1l[v13.toNat]?).bind fun e2 => (if e1 = e2 then (zln q v0z v0l v1z v1l v12 (wrp .i64 (v13 + 1))) else (some false)))) else none) else (some true))
def zlo : Nat → (Sl Int) → (Sl Int) → Option (Bool)
 | 0, _, _ => none
 | q + 1, a0, a1 => (if (a0.l.length : Int) = (a1.l.length : Int) then (zln q a0.z a0.l a1.z a1.l (a0.l.length : Int) 0) else (some false))
def zlp : Nat → (Sl Int) → Option ((Ow Int))
 | 0, _ => none
 | q + 1, a0 => (if a0.z = true then (some ⟨true, true, []⟩) else (if a0.l.length ≤ 4294967296 then (some ⟨false, true, a0.l⟩) else none))
def zlq : Nat → (Sl Int) → Option ((Ow Int) × Int × Int)
 | 0, _ => none
 | q + 1, a0 => ((zlj q a0).bind fun r1 => (if r1 = true then (some (⟨true, true, []⟩, 0, 2)) else ((zlm q a0).bind fun r2 => (if r2.2 = 0 then (some (⟨true, true, []⟩, 0, 3)) else (if 1048576 < r2.1 then (some (⟨true, true, []⟩, 0, 5)) else (if (a0.l.length : Int) < (wrp .i64 ((wrp .i64 (r2.2 + 4)) + r2.1)) then (some (⟨true, true, []⟩, 0, 2)) else (if 0 ≤ r2.2 then (if r2.2 ≤ r2.2 then (if r2.2.toNat ≤ a0.l.length then (if 0 ≤ (wrp .i64 (r2.2 + r2.1)) then (if (wrp .i64 (r2.2 + r2.1)) ≤ (wrp .i64 (r2.2 + r2.1)) then (if (wrp .i64 (r2.2 + r2.1)).toNat ≤ a0.l.length then (if r2.2 ≤ (wrp .i64 (r2.2 + r2.1)) then (if (wrp .i64 (r2.2 + r2.1)) ≤ (wrp .i64 ((wrp .i64 (r2.2 + r2.1)) + 4)) then (if (wrp .i64 ((wrp .i64 (r2.2 + r2.1)) + 4)).toNat ≤ a0.l.length then ((zk4 q ⟨a0.z, (List.take r2.2.toNat a0.l)⟩ ⟨a0.z, (List.drop r2.2.toNat (List.take ((wrp .i64 (r2.2 + r2.1)).toNat) a0.l))⟩).bind fun r3 => ((zlo q ⟨a0.z, (List.drop ((wrp .i64 (r2.2 + r2.1)).toNat) (List.take ((wrp .i64 ((wrp .i64 (r2.2 + r2.1)) + 4)).toNat) a0.l))⟩ ⟨r3.n, r3.xs⟩).bind fun r4 => (if r4 = true then ((zlp q ⟨a0.z, (List.drop r2.2.toNat (List.take ((wrp .i64 (r2.2 + r2.1)).toNat) a0.l))⟩).bind fun r5 => (some (r5, (wrp .i64 ((wrp .i64 (r2.2 + r2.1)) + 4)), 0))) else (some (⟨true, true, []⟩, 0, 4))))) else none) else none) else none) else none) else none) else none) else none) else none) else none)))))))
def zlr : Nat → Bool → (List Int) → Int → Bool → (List (Sl Int)) → Option ((Ow (Sl Int)) × Int × Int)
 | 0, _, _, _, _, _ => none
 | q + 1, v0z, v0l, v3, h0z, h0l => (if v3 < (v0l.length : Int) then (if 0 ≤ v3 then (if v3 ≤ (v0l.length : Int) then ((zlq q ⟨v0z, (List.drop v3.toNat v0l)⟩).bind fun r1 => (if r1.2.2 = 0 then (if (h0l.length + 1) ≤ 4294967296 then (zlr q v0z v0l (wrp .i64 (v3 + r1.2.1)) false (h0l ++ [⟨r1.1.n, r1.1.xs⟩])) else none) else (some (⟨h0z, true, h0l⟩, v3, r1.2.2)))) else none) else none) else (some (⟨h0z, true, h0l⟩, v3, 0)))
def zls : Nat → (Sl Int) → Option ((Ow (Sl Int)) × Int × Int)
 | 0, _ => none
 | q + 1, a0 => (zlr q a0.z a0.l 0 true [])
def zlt : Nat → (Sl Int) → Option ((Ow (Sl Int)) × Int)
 | 0, _ => none
 | q + 1, a0 => ((zls q a0).bind fun r1 => (if r1.2.2 = 0 then (some (r1.1, 0)) else (some (⟨true, true, []⟩, r1.2.2))))
def zlu : Nat → Bool → (List Int) → Int → Int → Int → Option (Int)
 | 0, _, _, _, _, _ => none
 | q + 1, v0z, v0l, v3, v7, v8 => (if v8 < v7 then (if 0 ≤ v8 then ((v0l[v8.toNat]?).bind fun e1 => (if (wrp .i64 (8 * v8)) < 0 then none else (zlu q v0z v0l (ibits .or .u64 v3 (ishl .u64 (wrp .u64 e1) (wrp .i64 (8 * v8)))) v7 (wrp .i64 (v8 + 1))))) else none) else (some v3))
def zlv : Nat → (Sl Int) → Option (Int)
 | 0, _ => none
 | q + 1, a0 => (zlu q a0.z a0.l 0 (if 8 < (a0.l.length : Int) then 8 else (a0.l.length : Int)) 0)
def zlw : Nat → (Sl Int) → Option (zjk × Int)
 | 0, _ => none
 | q + 1, a0 => (if (a0.l.length : Int) = 0 then (some ((⟨0, 0, 0⟩ : zjk), 3)) else ((a0.l[0]?).bind fun e1 => (if e1 = 115 then (if 1 ≤ (a0.l.length : Int) then ((zlm q ⟨a0.z, (List.drop 1 a0.l)⟩).bind fun r2 => (if 0 ≤ r2.2 then (if r2.2 ≤ (((a0.l.length - 1) : Nat) : Int) then ((zlm q ⟨a0.z, (List.drop r2.2.toNat (List.drop 1 a0.l))⟩).bind fun r3 => (if 0 ≤ r3.2 then (if r3.2 ≤ ((((a0.l.length - 1) - r2.2.toNat) : Nat) : Int) then ((zlm q ⟨a0.z, (List.drop r3.2.toNat (List.drop r2.2.toNat (List.drop 1 a0.l)))⟩).bind fun r4 => (if 0 ≤ r4.2 then (if r4.2 ≤ (((((a0.l.length - 1) - r2.2.toNat) - r3.2.toNat) : Nat) : Int) then (if r2.2 = 0 then (some ((⟨r3.1, r4.1, 0⟩ : zjk), 3)) else (if r3.2 = 0 then (some ((⟨r3.1, r4.1, 0⟩ : zjk), 3)) else (if r4.2 = 0 then (some ((⟨r3.1, r4.1, 0⟩ : zjk), 3)) else (if r2.1 = 3 then (if ((((((a0.l.length - 1) - r2.2.toNat) - r3.2.toNat) - r4.2.toNat) : Nat) : Int) = 4 then ((zlv q ⟨a0.z, (List.drop r4.2.toNat (List.drop r3.2.toNat (List.drop r2.2.toNat (List.drop 1 a0.l))))⟩).bind fun r5 => (some ((⟨r3.1, r4.1, r5⟩ : zjk), 0))) else (some ((⟨r3.1, r4.1, 0⟩ : zjk), 3))) else (some ((⟨r3.1, r4.1, 0⟩ : zjk), 6)))))) else none) else none)) else none) else none)) else none) else none)) else none) else (some ((⟨0, 0, 0⟩ : zjk), 3)))))
def zlx : Nat → Bool → (List (Sl Int)) → Bool → (List (Sl Int)) → Int → Int → Option (Bool)
 | 0, _, _, _, _, _, _ => none
 | q + 1, v0z, v0l, v5z, v5l, v6, v7 => (if v7 < v6 then (if 0 ≤ v7 then ((v5l[v7.toNat]?).bind fun e1 => (if (e1.l.length : Int) = 0 then (some false) else (if 64 < (e1.l.length : Int) then (some false) else (if (e1.l.length : Int) < 64 then (if v7 < (wrp .i64 ((v0l.length : Int) - 1)) then (some false) else (zlx q v0z v0l v5z v5l v6 (wrp .i64 (v7 + 1)))) else (zlx q v0z v0l v5z v5l v6 (wrp .i64 (v7 + 1))))))) else none) else (some true))
def zly : Nat → (Sl (Sl Int)) → Option (Bool)
 | 0, _ => none
 | q + 1, a0 => (zlx q a0.z a0.l a0.z a0.l (a0.l.length : Int) 0)
def zlz : Nat → Int → Option (Int)
 | 0, _ => none
 | q + 1, a0 => (some (ibits .xor .i64 (wrp .i64 (ishr .u64 a0 1)) (wrp .i64 (0 - (wrp .i64 (ibits .and .u64 a0 1))))))
def zl0 : Nat → (Sl Int) → Option (Int × Int)
 | 0, _ => none
 | q + 1, a0 => ((zll q a0).bind fun r1 => (if r1.2 = 0 then (some (0, 0)) else ((zlz q r1.1).bind fun r2 => (some (r2, r1.2)))))
def zl1 : Nat → Int → Int → Bool → (List Int) → Bool → Int → Bool → Int → (List Int) → Option (zjh × Int)
 | 0, _, _, _, _, _, _, _, _, _ => none
 | q + 1, v42, v43, h1_0z, h1_0l, h2_0, h3_0, h3_2, h3_3, h4l => (if v43 < v42 then ((zl0 q ⟨h1_0z, h1_0l⟩).bind fun r7 => (if h2_0 = true then (if 0 ≤ r7.2 then (if r7.2 ≤ (h1_0l.length : Int) then (if (h4l.length + 1) ≤ 4294967296 then (zl1 q v42 (wrp .i64 (v43 + 1)) h1_0z (List.drop r7.2.toNat h1_0l) (decide (0 < r7.2)) h3_0 h3_2 h3_3 (h4l ++ [r7.1])) else none) else none) else none) else (if 0 ≤ r7.2 then (if r7.2 ≤ (h1_0l.length : Int) then (if (h4l.length + 1) ≤ 4294967296 then (zl1 q v42 (wrp .i64 (v43 + 1)) h1_0z (List.drop r7.2.toNat h1_0l) false h3_0 h3_2 h3_3 (h4l ++ [r7.1])) else none) else none) else none))) else (if h2_0 = true then (if 0 < (h1_0l.length : Int) then (some ((⟨0, ⟨true, []⟩, false, 0⟩ : zjh), 3)) else ((zjt q (⟨h3_0, ⟨false, h4l⟩, h3_2, h3_3⟩ : zjh)).bind fun r8 => (if r8 = true then (some ((⟨h3_0, ⟨false, h4l⟩, h3_2, h3_3⟩ : zjh), 0)) else (some ((⟨0, ⟨true, []⟩, false, 0⟩ : zjh), 1))))) else (some ((⟨0, ⟨true, []⟩, false, 0⟩ : zjh), 3))))
def zl2 : Nat → Int → Bool → (List Int) → Bool → Int → Bool → Int → Option (zjh × Int)
 | 0, _, _, _, _, _, _, _ => none
 | q + 1, v42, h1_0z, h1_0l, h2_0, h3_0, h3_2, h3_3 => (if 0 < v42 then ((zl0 q ⟨h1_0z, h1_0l⟩).bind fun r5 => (if h2_0 = true then (if 0 ≤ r5.2 then (if r5.2 ≤ (h1_0l.length : Int) then (zl1 q v42 (wrp .i64 1) h1_0z (List.drop r5.2.toNat h1_0l) (decide (0 < r5.2)) h3_0 h3_2 h3_3 [r5.1]) else none) else none) else (if 0 ≤ r5.2 then (if r5.2 ≤ (h1_0l.length : Int) then (zl1 q v42 (wrp .i64 1) h1_0z (List.drop r5.2.toNat h1_0l) false h3_0 h3_2 h3_3 [r5.1]) else none) else none))) else (if h2_0 = true then (if 0 < (h1_0l.length : Int) then (some ((⟨0, ⟨true, []⟩, false, 0⟩ : zjh), 3)) else ((zjt q (⟨h3_0, ⟨true, []⟩, h3_2, h3_3⟩ : zjh)).bind fun r6 => (if r6 = true then (some ((⟨h3_0, ⟨true, []⟩, h3_2, h3_3⟩ : zjh), 0)) else (some ((⟨0, ⟨true, []⟩, false, 0⟩ : zjh), 1))))) else (some ((⟨0, ⟨true, []⟩, false, 0⟩ : zjh), 3))))
def zl3 : Nat → (Sl Int) → Option (zjh × Int)
 | 0, _ => none
 | q + 1, a0 => ((zlm q a0).bind fun r1 => (if 0 ≤ r1.2 then (if r1.2 ≤ (a0.l.length : Int) then ((zlm q ⟨a0.z, (List.drop r1.2.toNat a0.l)⟩).bind fun r2 => (if 0 < r1.2 then (if 0 ≤ r2.2 then (if r2.2 ≤ (((a0.l.length - r1.2.toNat) : Nat) : Int) then ((zlm q ⟨a0.z, (List.drop r2.2.toNat (List.drop r1.2.toNat a0.l))⟩).bind fun r3 => (if 0 < r2.2 then (if 0 ≤ r3.2 then (if r3.2 ≤ ((((a0.l.length - r1.2.toNat) - r2.2.toNat) : Nat) : Int) then (if 0 < r3.2 then (if 3 < r2.1 then (some ((⟨0, ⟨true, []⟩, false, 0⟩ : zjh), 3)) else (if 128 < r3.1 then (some ((⟨0, ⟨true, []⟩, false, 0⟩ : zjh), 3)) else (zl2 q r3.1 a0.z (List.drop r3.2.toNat (List.drop r2.2.toNat (List.drop r1.2.toNat a0.l))) (decide (0 < r3.2)) r1.1 (decide (0 < r2.1)) (if (wrp .i64 (r2.1 - 1)) < 0 then 0 else (wrp .i64 (r2.1 - 1)))))) else (some ((⟨0, ⟨true, []⟩, false, 0⟩ : zjh), 3))) else none) else none) else (if 0 ≤ r3.2 then (if r3.2 ≤ ((((a0.l.length - r1.2.toNat) - r2.2.toNat) : Nat) : Int) then (some ((⟨0, ⟨true, []⟩, false, 0⟩ : zjh), 3)) else none) else none))) else none) else none) else (if 0 ≤ r2.2 then (if r2.2 ≤ (((a0.l.length - r1.2.toNat) : Nat) : Int) then ((zlm q ⟨a0.z, (List.drop r2.2.toNat (List.drop r1.2.toNat a0.l))⟩).bind fun r4 => (if 0 ≤ r4.2 then (if r4.2 ≤ ((((a0.l.length - r1.2.toNat) - r2.2.toNat) : Nat) : Int) then (some ((⟨0, ⟨true, []⟩, false, 0⟩ : zjh), 3)) else none) else none)) else none) else none))) else none) else none))
def zl4 : Nat → (Sl Int) → Option (zji × Int)
 | 0, _ => none
 | q + 1, a0 => ((zlm q a0).bind fun r1 => (if 0 ≤ r1.2 then (if r1.2 ≤ (a0.l.length : Int) then ((zlm q ⟨a0.z, (List.drop r1.2.toNat a0.l)⟩).bind fun r2 => (if 0 ≤ r2.2 then (if r2.2 ≤ (((a0.l.length - r1.2.toNat) : Nat) : Int) then ((zl0 q ⟨a0.z, (List.drop r2.2.toNat (List.drop r1.2.toNat a0.l))⟩).bind fun r3 => (if r1.2 = 0 then (some ((⟨r1.1, r2.1, r3.1⟩ : zji), 0)) else (if r2.2 = 0 then (some ((⟨r1.1, r2.1, r3.1⟩ : zji), 0)) else (if r3.2 = 0 then (some ((⟨r1.1, r2.1, r3.1⟩ : zji), 0)) else (some ((⟨r1.1, r2.1, r3.1⟩ : zji), (wrp .i64 ((wrp .i64 (r1.2 + r2.2)) + r3.2)))))))) else none) else none)) else none) else none))
def zl5 : Nat → Bool → (List Int) → Int → Int → Int → Int → Bool → (List Int) → Bool → Int → (List zji) → Option (zjj × Int)
 | 0, _, _, _, _, _, _, _, _, _, _, _ => none
 | q + 1, v0z, v0l, v3, v62, v63, h1_0, h1_1z, h1_1l, h1_2, h1_3, h2l => (if v63 < v62 then ((zl4 q ⟨v0z, v0l⟩).bind fun r5 => (if r5.2 = 0 then (some ((⟨0, (⟨0, ⟨true, []⟩, false, 0⟩ : zjh), ⟨false, h2l⟩⟩ : zjj), 3)) else (if (h2l.length + 1) ≤ 4294967296 then (if 0 ≤ r5.2 then (if r5.2 ≤ (v0l.length : Int) then (zl5 q v0z (List.drop r5.2.toNat v0l) v3 v62 (wrp .i64 (v63 + 1)) h1_0 h1_1z h1_1l h1_2 h1_3 (h2l ++ [r5.1])) else none) else none) else none))) else (if 0 < (v0l.length : Int) then (some ((⟨0, (⟨0, ⟨true, []⟩, false, 0⟩ : zjh), ⟨false, h2l⟩⟩ : zjj), 3)) else (some ((⟨0, (⟨h1_0, ⟨h1_1z, h1_1l⟩, h1_2, h1_3⟩ : zjh), ⟨false, h2l⟩⟩ : zjj), v3))))
def zl6 : Nat → Bool → (List Int) → Int → Int → Int → Bool → (List Int) → Bool → Int → Option (zjj × Int)
 | 0, _, _, _, _, _, _, _, _, _ => none
 | q + 1, v0z, v0l, v3, v62, h1_0, h1_1z, h1_1l, h1_2, h1_3 => (if 0 < v62 then ((zl4 q ⟨v0z, v0l⟩).bind fun r4 => (if r4.2 = 0 then (some ((⟨0, (⟨0, ⟨true, []⟩, false, 0⟩ : zjh), ⟨true, []⟩⟩ : zjj), 3)) else (if 0 ≤ r4.2 then (if r4.2 ≤ (v0l.length : Int) then (zl5 q v0z (List.drop r4.2.toNat v0l) v3 v62 (wrp .i64 1) h1_0 h1_1z h1_1l h1_2 h1_3 [r4.1]) else none) else none))) else (if 0 < (v0l.length : Int) then (some ((⟨0, (⟨0, ⟨true, []⟩, false, 0⟩ : zjh), ⟨true, []⟩⟩ : zjj), 3)) else (some ((⟨0, (⟨h1_0, ⟨h1_1z, h1_1l⟩, h1_2, h1_3⟩ : zjh), ⟨true, []⟩⟩ : zjj), v3))))
def zl7 : Nat → (Sl Int) → Option (zjj × Int)
 | 0, _ => none
 | q + 1, a0 => ((zlm q a0).bind fun r1 => (if r1.2 = 0 then (some ((⟨0, (⟨0, ⟨true, []⟩, false, 0⟩ : zjh), ⟨true, []⟩⟩ : zjj), 3)) else (if (wrp .i64 ((a0.l.length : Int) - r1.2)) < r1.1 then (some ((⟨0, (⟨0, ⟨true, []⟩, false, 0⟩ : zjh), ⟨true, []⟩⟩ : zjj), 3)) else (if 0 ≤ r1.2 then (if r1.2 ≤ (wrp .i64 (r1.2 + r1.1)) then (if (wrp .i64 (r1.2 + r1.1)).toNat ≤ a0.l.length then ((zl3 q ⟨a0.z, (List.drop r1.2.toNat (List.take ((wrp .i64 (r1.2 + r1.1)).toNat) a0.l))⟩).bind fun r2 => (if r2.2 = 3 then (some ((⟨0, (⟨0, ⟨true, []⟩, false, 0⟩ : zjh), ⟨true, []⟩⟩ : zjj), r2.2)) else (if 0 ≤ (wrp .i64 (r1.2 + r1.1)) then (if (wrp .i64 (r1.2 + r1.1)) ≤ (a0.l.length : Int) then ((zlm q ⟨a0.z, (List.drop ((wrp .i64 (r1.2 + r1.1)).toNat) a0.l)⟩).bind fun r3 => (if r3.2 = 0 then (some ((⟨0, (⟨0, ⟨true, []⟩, false, 0⟩ : zjh), ⟨true, []⟩⟩ : zjj), 3)) else (if (((a0.l.length - (wrp .i64 (r1.2 + r1.1)).toNat) : Nat) : Int) < r3.1 then (some ((⟨0, (⟨0, ⟨true, []⟩, false, 0⟩ : zjh), ⟨true, []⟩⟩ : zjj), 3)) else (if 0 ≤ r3.2 then (if r3.2 ≤ (((a0.l.length - (wrp .i64 (r1.2 + r1.1)).toNat) : Nat) : Int) then (zl6 q a0.z (List.drop r3.2.toNat (List.drop ((wrp .i64 (r1.2 + r1.1)).toNat) a0.l)) r2.2 r3.1 r2.1.Kind r2.1.L.z r2.1.L.l r2.1.Sealed r2.1.To) else none) else none)))) else none) else none))) else none) else none) else none))))
def zl8 : Nat → (Sl Int) → Option (zjj × Int)
 | 0, _ => none
 | q + 1, a0 => ((zlt q a0).bind fun r1 => (if r1.2 = 0 then (if (r1.1.xs.length : Int) = 0 then (some ((⟨0, (⟨0, ⟨true, []⟩, false, 0⟩ : zjh), ⟨true, []⟩⟩ : zjj), 16)) else (if 0 < r1.1.xs.length then ((r1.1.xs[0]?).bind fun e2 => ((zlw q e2).bind fun r3 => (if r3.2 = 0 then (if 1 ≤ r1.1.xs.length then ((zk9 q ⟨r1.1.n, (List.drop 1 r1.1.xs)⟩).bind fun r4 => (if (r4.xs.length : Int) = r3.1.size then ((zly q ⟨r1.1.n, (List.drop 1 r1.1.xs)⟩).bind fun r5 => (if r5 = true then ((zk0 q ⟨r4.n, r4.xs⟩).bind fun r6 => (if (wrp .u64 r6) = r3.1.sum then ((zl7 q ⟨r4.n, r4.xs⟩).bind fun r7 => (if r7.2 = 0 then ((zkk q (⟨r3.1.index, r7.1.State, r7.1.Table⟩ : zjj)).bind fun r8 => (if r8 = true then (some ((⟨r3.1.index, r7.1.State, r7.1.Table⟩ : zjj), 0)) else (some ((⟨0, (⟨0, ⟨true, []⟩, false, 0⟩ : zjh), ⟨true, []⟩⟩ : zjj), 1)))) else (some ((⟨0, (⟨0, ⟨true, []⟩, false, 0⟩ : zjh), ⟨true, []⟩⟩ : zjj), r7.2)))) else (some ((⟨0, (⟨0, ⟨true, []⟩, false, 0⟩ : zjh), ⟨true, []⟩⟩ : zjj), 4)))) else (some ((⟨0, (⟨0, ⟨true, []⟩, false, 0⟩ : zjh), ⟨true, []⟩⟩ : zjj), 3)))) else (some ((⟨0, (⟨0, ⟨true, []⟩, false, 0⟩ : zjh), ⟨true, []⟩⟩ : zjj), 16)))) else none) else (some ((⟨0, (⟨0, ⟨true, []⟩, false, 0⟩ : zjh), ⟨true, []⟩⟩ : zjj), r3.2))))) else none)) else (some ((⟨0, (⟨0, ⟨true, []⟩, false, 0⟩ : zjh), ⟨true, []⟩⟩ : zjj), r1.2))))
def zl9 : Nat → Bool → (List Int) → Int → Option (Bool)
 | 0, _, _, _ => none
 | q + 1, v0z, v0l, v3 => (if v3 < (v0l.length : Int) then (if 0 ≤ v3 then ((v0l[v3.toNat]?).bind fun e1 => (if e1 < 128 then (some false) else (zl9 q v0z v0l (wrp .i64 (v3 + 1))))) else none) else (some (decide ((v0l.length : Int) < 10))))
def zma : Nat → (Sl Int) → Option (Bool)
 | 0, _ => none
 | q + 1, a0 => (zl9 q a0.z a0.l 0)
def zmb : Nat → Bool → (List Int) → Int → Int → Int → Option (Int × Int)
 | 0, _, _, _, _, _ => none
 | q + 1, v0z, v0l, v4, v5, v6 => (if v6 < (v0l.length : Int) then (if v6 < 10 then (if 0 ≤ v6 then ((v0l[v6.toNat]?).bind fun e1 => (if v6 = 9 then (if 1 < (wrp .u64 (Int.tmod e1 128)) then (some (0, 0)) else (if e1 < 128 then (if 0 < v6 then (if (wrp .u64 (Int.tmod e1 128)) = 0 then (some (0, 0)) else (some ((wrp .u64 (v4 + (wrp .u64 ((wrp .u64 (Int.tmod e1 128)) * v5)))), (wrp .i64 (v6 + 1))))) else (some ((wrp .u64 (v4 + (wrp .u64 ((wrp .u64 (Int.tmod e1 128)) * v5)))), (wrp .i64 (v6 + 1))))) else (zmb q v0z v0l (wrp .u64 (v4 + (wrp .u64 ((wrp .u64 (Int.tmod e1 128)) * v5)))) (wrp .u64 (v5 * 128)) (wrp .i64 (v6 + 1))))) else (if e1 < 128 then (if 0 < v6 then (if (wrp .u64 (Int.tmod e1 128)) = 0 then (some (0, 0)) else (some ((wrp .u64 (v4 + (wrp .u64 ((wrp .u64 (Int.tmod e1 128)) * v5)))), (wrp .i64 (v6 + 1))))) else (some ((wrp .u64 (v4 + (wrp .u64 ((wrp .u64 (Int.tmod e1 128)) * v5)))), (wrp .i64 (v6 + 1))))) else (zmb q v0z v0l (wrp .u64 (v4 + (wrp .u64 ((wrp .u64 (Int.tmod e1 128)) * v5)))) (wrp .u64 (v5 * 128)) (wrp .i64 (v6 + 1)))))) else none) else (some (0, 0))) else (some (0, 0)))
def zmc : Nat → (Sl Int) → Option (Int × Int)
 | 0, _ => none
 | q + 1, a0 => (zmb q a0.z a0.l 0 1 0)
def zmd : Nat → (Sl Int) → Option (Int × Int)
 | 0, _ => none
 | q + 1, a0 => ((zmc q a0).bind fun r1 => (if r1.2 = 0 then (some (0, 0)) else (if 4611686018427387904 ≤ r1.1 then (some (0, 0)) else (some ((wrp .i64 r1.1), r1.2)))))
def zme : Nat → Int → Int → Option (Int)
 | 0, _, _ => none
 | q + 1, v3, v4 => (if v4 < 8 then (if (Int.tmod v3 2) = 1 then (zme q (ibits .xor .u32 (wrp .u32 (Int.tdiv v3 2)) 2197175160) (wrp .i64 (v4 + 1))) else (zme q (wrp .u32 (Int.tdiv v3 2)) (wrp .i64 (v4 + 1)))) else (some v3))
def zmf : Nat → Int → Option (Int)
 | 0, _ => none
 | q + 1, a0 => (zme q (wrp .u32 a0) 0)
def zmg : Nat → Bool → (List Int) → Int → Int → Option (Int)
 | 0, _, _, _, _ => none
 | q + 1, v1z, v1l, v5, v6 => (if v6 < (v1l.length : Int) then (if 0 ≤ v6 then ((v1l[v6.toNat]?).bind fun e1 => ((zmf q (ibits .xor .u8 (wrp .u8 v5) e1)).bind fun r2 => (zmg q v1z v1l (ibits .xor .u32 r2 (wrp .u32 (Int.tdiv v5 256))) (wrp .i64 (v6 + 1))))) else none) else (some (ibits .xor .u32 4294967295 v5)))
def zmh : Nat → Int → (Sl Int) → Option (Int)
 | 0, _, _ => none
 | q + 1, a0, a1 => (zmg q a1.z a1.l (ibits .xor .u32 4294967295 a0) 0)
def zmi : Nat → (Sl Int) → Option (Int)
 | 0, _ => none
 | q + 1, a0 => ((zmh q 0 a0).bind fun r1 => (some r1))
def zmj : Nat → Bool → (List Int) → Int → Int → Option (Int)
 | 0, _, _, _, _ => none
 | q + 1, v0z, v0l, v3, v4 => (if 0 ≤ v4 then (if v4 < (v0l.length : Int) then ((v0l[v4.toNat]?).bind fun e1 => (zmj q v0z v0l (wrp .u64 ((wrp .u64 (v3 * 256)) + (wrp .u64 e1))) (wrp .i64 (v4 - 1)))) else (zmj q v0z v0l v3 (wrp .i64 (v4 - 1)))) else (some v3))
def zmk : Nat → (Sl Int) → Option (Int)
 | 0, _ => none
 | q + 1, a0 => (zmj q a0.z a0.l 0 7)
def zml : Nat → (Sl Int) → Option ((Ow Int) × Int × Int)
 | 0, _ => none
 | q + 1, a0 => ((zma q a0).bind fun r1 => (if r1 = true then (some (⟨true, true, []⟩, 0, 2)) else ((zmd q a0).bind fun r2 => (if r2.2 = 0 then (some (⟨true, true, []⟩, 0, 3)) else (if 1048576 < r2.1 then (some (⟨true, true, []⟩, 0, 5)) else (if (a0.l.length : Int) < (wrp .i64 ((wrp .i64 (r2.2 + 4)) + r2.1)) then (some (⟨true, true, []⟩, 0, 2)) else (if 0 ≤ r2.2 then (if r2.2 ≤ (wrp .i64 (r2.2 + r2.1)) then (if (wrp .i64 (r2.2 + r2.1)).toNat ≤ a0.l.length then (if 0 ≤ (wrp .i64 (r2.2 + r2.1)) then ((zmi q ⟨a0.z, (List.take ((wrp .i64 (r2.2 + r2.1)).toNat) a0.l)⟩).bind fun r3 => (if (wrp .i64 (r2.2 + r2.1)) ≤ (wrp .i64 ((wrp .i64 (r2.2 + r2.1)) + 4)) then (if (wrp .i64 ((wrp .i64 (r2.2 + r2.1)) + 4)).toNat ≤ a0.l.length then ((zmk q ⟨a0.z, (List.drop ((wrp .i64 (r2.2 + r2.1)).toNat) (List.take ((wrp .i64 ((wrp .i64 (r2.2 + r2.1)) + 4)).toNat) a0.l))⟩).bind fun r4 => (if r4 = (wrp .u64 r3) then (if ((min ((wrp .i64 (r2.2 + r2.1)).toNat) a0.l.length) - r2.2.toNat) ≤ 4294967296 then (some (⟨(decide (((min ((wrp .i64 (r2.2 + r2.1)).toNat) a0.l.length) - r2.2.toNat) = 0)), true, (List.drop r2.2.toNat (List.take ((wrp .i64 (r2.2 + r2.1)).toNat) a0.l))⟩, (wrp .i64 ((wrp .i64 (r2.2 + 4)) + r2.1)), 0)) else none) else (some (⟨true, true, []⟩, 0, 4)))) else none) else none)) else none) else none) else none) else none)))))))
def zmm : Nat → Bool → (List Int) → Int → Bool → (List (Sl Int)) → Option ((Ow (Sl Int)) × Int × Int)
 | 0, _, _, _, _, _ => none
 | q + 1, v0z, v0l, v6, h0z, h0l => (if v6 < (v0l.length : Int) then (if 0 ≤ v6 then (if v6 ≤ (v0l.length : Int) then ((zml q ⟨v0z, (List.drop v6.toNat v0l)⟩).bind fun r1 => (if r1.2.2 = 0 then (if (h0l.length + 1) ≤ 4294967296 then (zmm q v0z v0l (wrp .i64 (v6 + r1.2.1)) false (h0l ++ [⟨r1.1.n, r1.1.xs⟩])) else none) else (some (⟨h0z, true, h0l⟩, v6, r1.2.2)))) else none) else none) else (some (⟨h0z, true, h0l⟩, v6, 0)))
def zmn : Nat → (Sl Int) → Option ((Ow (Sl Int)) × Int × Int)
 | 0, _ => none
 | q + 1, a0 => (zmm q a0.z a0.l 0 true [])
def zmo : Nat → (Sl Int) → Option ((Ow (Sl Int)) × Int)
 | 0, _ => none
 | q + 1, a0 => ((zmn q a0).bind fun r1 => (if r1.2.2 = 0 then (some (r1.1, 0)) else (some (⟨true, true, []⟩, r1.2.2))))
def zmp : Nat → (Sl Int) → Option (Int × Int × Int × Int)
 | 0, _ => none
 | q + 1, a0 => (if (a0.l.length : Int) < 1 then (some (0, 0, 0, 3)) else ((a0.l[0]?).bind fun e1 => (if e1 = 115 then (if 1 ≤ (a0.l.length : Int) then ((zmd q ⟨a0.z, (List.drop 1 a0.l)⟩).bind fun r2 => (if 0 ≤ (wrp .i64 (1 + r2.2)) then (if (wrp .i64 (1 + r2.2)) ≤ (a0.l.length : Int) then ((zmd q ⟨a0.z, (List.drop ((wrp .i64 (1 + r2.2)).toNat) a0.l)⟩).bind fun r3 => (if 0 ≤ (wrp .i64 ((wrp .i64 (1 + r2.2)) + r3.2)) then (if (wrp .i64 ((wrp .i64 (1 + r2.2)) + r3.2)) ≤ (a0.l.length : Int) then ((zmd q ⟨a0.z, (List.drop ((wrp .i64 ((wrp .i64 (1 + r2.2)) + r3.2)).toNat) a0.l)⟩).bind fun r4 => (if r2.2 = 0 then (some (0, 0, 0, 3)) else (if r3.2 = 0 then (some (0, 0, 0, 3)) else (if r4.2 = 0 then (some (0, 0, 0, 3)) else (if r2.1 = 3 then (if 0 ≤ (wrp .i64 ((wrp .i64 ((wrp .i64 (1 + r2.2)) + r3.2)) + r4.2)) then (if (wrp .i64 ((wrp .i64 ((wrp .i64 (1 + r2.2)) + r3.2)) + r4.2)) ≤ (a0.l.length : Int) then (if (((a0.l.length - (wrp .i64 ((wrp .i64 ((wrp .i64 (1 + r2.2)) + r3.2)) + r4.2)).toNat) : Nat) : Int) = 4 then ((zmk q ⟨a0.z, (List.drop ((wrp .i64 ((wrp .i64 ((wrp .i64 (1 + r2.2)) + r3.2)) + r4.2)).toNat) a0.l)⟩).bind fun r5 => (some (r3.1, r4.1, r5, 0))) else (some (0, 0, 0, 3))) else none) else none) else (some (0, 0, 0, 6))))))) else none) else none)) else none) else none)) else none) else (some (0, 0, 0, 3)))))
def zmq : Nat → Bool → (List (Sl Int)) → Int → Option (Bool)
 | 0, _, _, _ => none
 | q + 1, v0z, v0l, v3 => (if v3 < (v0l.length : Int) then (if 0 ≤ v3 then ((v0l[v3.toNat]?).bind fun e1 => (if 64 < (e1.l.length : Int) then (some false) else (if (e1.l.length : Int) < 1 then (some false) else (if (e1.l.length : Int) < 64 then (if v3 < (wrp .i64 ((v0l.length : Int) - 1)) then (some false) else (zmq q v0z v0l (wrp .i64 (v3 + 1)))) else (zmq q v0z v0l (wrp .i64 (v3 + 1))))))) else none) else (some true))
def zmr : Nat → (Sl (Sl Int)) → Option (Bool)
 | 0, _ => none
 | q + 1, a0 => (zmq q a0.z a0.l 0)
def zms : Nat → Int → Option (Int)
 | 0, _ => none
 | q + 1, a0 => (if (Int.tmod a0 2) = 0 then (some (wrp .i64 (wrp .u64 (Int.tdiv a0 2)))) else (some (wrp .i64 ((wrp .i64 (0 - (wrp .i64 (wrp .u64 (Int.tdiv a0 2))))) - 1))))
def zmt : Nat → (Sl Int) → Option (Int × Int)
 | 0, _ => none
 | q + 1, a0 => ((zmc q a0).bind fun r1 => (if r1.2 = 0 then (some (0, 0)) else ((zms q r1.1).bind fun r2 => (some (r2, r1.2)))))
def zmu : Nat → Bool → (List Int) → Int → Int → Option (Bool)
 | 0, _, _, _, _ => none
 | q + 1, v0z, v0l, v1, v5 => (if v5 < (v0l.length : Int) then (if 0 ≤ v5 then ((v0l[v5.toNat]?).bind fun e1 => (if e1 < 0 then (some false) else (if 255 < e1 then (some false) else (if 0 < v5 then (if 0 ≤ (wrp .i64 (v5 - 2)) then ((v0l[(wrp .i64 (v5 - 2)).toNat]?).bind fun e2 => (if e1 ≤ e2 then (some false) else (if 0 ≤ (wrp .i64 (v5 + 1)) then ((v0l[(wrp .i64 (v5 + 1)).toNat]?).bind fun e3 => (if e3 < v1 then (some false) else (if 1099511627776 < e3 then (some false) else (zmu q v0z v0l v1 (wrp .i64 (v5 + 2)))))) else none))) else none) else (if 0 ≤ (wrp .i64 (v5 + 1)) then ((v0l[(wrp .i64 (v5 + 1)).toNat]?).bind fun e4 => (if e4 < v1 then (some false) else (if 1099511627776 < e4 then (some false) else (zmu q v0z v0l v1 (wrp .i64 (v5 + 2)))))) else none))))) else none) else (some true))
def zmv : Nat → (Sl Int) → Int → Option (Bool)
 | 0, _, _ => none
 | q + 1, a0, a1 => (if (Int.tmod (a0.l.length : Int) 2) = 0 then (if 128 < (a0.l.length : Int) then (some false) else (zmu q a0.z a0.l a1 0)) else (some false))
def zmw : Nat → Int → Option (Int)
 | 0, _ => none
 | q + 1, a0 => (if a0 < (-1099511627776) then (some (-1099511627776)) else (if 1099511627776 < a0 then (some 1099511627776) else (some a0)))
def zmx : Nat → Int → Int → Bool → (List Int) → Bool → Int → Option (Bool)
 | 0, _, _, _, _, _, _ => none
 | q + 1, v3, h0_0, h0_1z, h0_1l, h0_2, h0_3 => (if v3 < (h0_1l.length : Int) then (if 0 ≤ v3 then ((h0_1l[v3.toNat]?).bind fun e5 => ((zmw q e5).bind fun r6 => (if e5 = r6 then (zmx q (wrp .i64 (v3 + 1)) h0_0 h0_1z h0_1l h0_2 h0_3) else (some false)))) else none) else (some true))
def zmy : Nat → zjh → Option (Bool)
 | 0, _ => none
 | q + 1, a0 => (if a0.To < 0 then (some false) else (if 2 < a0.To then (some false) else (if a0.Sealed = true then (if a0.Kind < 0 then (some false) else (if 6 ≤ a0.Kind then (some false) else (if a0.Kind = 4 then ((zmv q a0.L (-1099511627776)).bind fun r1 => (some r1)) else (if a0.Kind = 5 then ((zmv q a0.L 0).bind fun r2 => (some r2)) else (if 64 < (a0.L.l.length : Int) then (some false) else (if (a0.L.l.length : Int) = 1 then (zmx q 0 a0.Kind a0.L.z a0.L.l a0.Sealed a0.To) else (if a0.Kind ≤ 1 then (some false) else (zmx q 0 a0.Kind a0.L.z a0.L.l a0.Sealed a0.To)))))))) else (if a0.To = 0 then (if a0.Kind < 0 then (some false) else (if 6 ≤ a0.Kind then (some false) else (if a0.Kind = 4 then ((zmv q a0.L (-1099511627776)).bind fun r3 => (some r3)) else (if a0.Kind = 5 then ((zmv q a0.L 0).bind fun r4 => (some r4)) else (if 64 < (a0.L.l.length : Int) then (some false) else (if (a0.L.l.length : Int) = 1 then (zmx q 0 a0.Kind a0.L.z a0.L.l a0.Sealed a0.To) else (if a0.Kind ≤ 1 then (some false) else (zmx q 0 a0.Kind a0.L.z a0.L.l a0.Sealed a0.To)))))))) else (some false)))))
def zmz : Nat → Bool → (List Int) → Int → Int → Int → Int → Bool → Int → (List Int) → Option (zjh × Int)
 | 0, _, _, _, _, _, _, _, _, _ => none
 | q + 1, v0z, v0l, v8, v11, v12, h1_0, h1_2, h1_3, h2l => (if v12 < v8 then (if 0 ≤ v11 then (if v11 ≤ (v0l.length : Int) then ((zmt q ⟨v0z, (List.drop v11.toNat v0l)⟩).bind fun r6 => (if r6.2 = 0 then (some ((⟨0, ⟨true, []⟩, false, 0⟩ : zjh), 3)) else (if (h2l.length + 1) ≤ 4294967296 then (zmz q v0z v0l v8 (wrp .i64 (v11 + r6.2)) (wrp .i64 (v12 + 1)) h1_0 h1_2 h1_3 (h2l ++ [r6.1])) else none))) else none) else none) else (if v11 = (v0l.length : Int) then ((zmy q (⟨h1_0, ⟨false, h2l⟩, h1_2, h1_3⟩ : zjh)).bind fun r7 => (if r7 = true then (some ((⟨h1_0, ⟨false, h2l⟩, h1_2, h1_3⟩ : zjh), 0)) else (some ((⟨0, ⟨true, []⟩, false, 0⟩ : zjh), 1)))) else (some ((⟨0, ⟨true, []⟩, false, 0⟩ : zjh), 3))))
def zm0 : Nat → Bool → (List Int) → Int → Int → Int → Bool → Int → Option (zjh × Int)
 | 0, _, _, _, _, _, _, _ => none
 | q + 1, v0z, v0l, v8, v11, h1_0, h1_2, h1_3 => (if 0 < v8 then (if 0 ≤ v11 then (if v11 ≤ (v0l.length : Int) then ((zmt q ⟨v0z, (List.drop v11.toNat v0l)⟩).bind fun r4 => (if r4.2 = 0 then (some ((⟨0, ⟨true, []⟩, false, 0⟩ : zjh), 3)) else (zmz q v0z v0l v8 (wrp .i64 (v11 + r4.2)) (wrp .i64 1) h1_0 h1_2 h1_3 [r4.1]))) else none) else none) else (if v11 = (v0l.length : Int) then ((zmy q (⟨h1_0, ⟨true, []⟩, h1_2, h1_3⟩ : zjh)).bind fun r5 => (if r5 = true then (some ((⟨h1_0, ⟨true, []⟩, h1_2, h1_3⟩ : zjh), 0)) else (some ((⟨0, ⟨true, []⟩, false, 0⟩ : zjh), 1)))) else (some ((⟨0, ⟨true, []⟩, false, 0⟩ : zjh), 3))))
def zm1 : Nat → (Sl Int) → Option (zjh × Int)
 | 0, _ => none
 | q + 1, a0 => ((zmd q a0).bind fun r1 => (if 0 ≤ r1.2 then (if r1.2 ≤ (a0.l.length : Int) then ((zmd q ⟨a0.z, (List.drop r1.2.toNat a0.l)⟩).bind fun r2 => (if 0 ≤ (wrp .i64 (r1.2 + r2.2)) then (if (wrp .i64 (r1.2 + r2.2)) ≤ (a0.l.length : Int) then ((zmd q ⟨a0.z, (List.drop ((wrp .i64 (r1.2 + r2.2)).toNat) a0.l)⟩).bind fun r3 => (if r1.2 = 0 then (some ((⟨0, ⟨true, []⟩, false, 0⟩ : zjh), 3)) else (if r2.2 = 0 then (some ((⟨0, ⟨true, []⟩, false, 0⟩ : zjh), 3)) else (if r3.2 = 0 then (some ((⟨0, ⟨true, []⟩, false, 0⟩ : zjh), 3)) else (if 3 < r2.1 then (some ((⟨0, ⟨true, []⟩, false, 0⟩ : zjh), 3)) else (if 128 < r3.1 then (some ((⟨0, ⟨true, []⟩, false, 0⟩ : zjh), 3)) else (if 0 < r2.1 then (zm0 q a0.z a0.l r3.1 (wrp .i64 ((wrp .i64 (r1.2 + r2.2)) + r3.2)) r1.1 (decide (0 < r2.1)) (wrp .i64 (r2.1 - 1))) else (zm0 q a0.z a0.l r3.1 (wrp .i64 ((wrp .i64 (r1.2 + r2.2)) + r3.2)) r1.1 (decide (0 < r2.1)) 0)))))))) else none) else none)) else none) else none))
def zm2 : Nat → Bool → (List Int) → Int → Int → Int → Bool → (List zji) → Option ((Ow zji) × Bool)
 | 0, _, _, _, _, _, _, _ => none
 | q + 1, v0z, v0l, v4, v5, v7, h0z, h0l => (if v7 < v4 then (if 0 ≤ v5 then (if v5 ≤ (v0l.length : Int) then ((zmd q ⟨v0z, (List.drop v5.toNat v0l)⟩).bind fun r2 => (if 0 ≤ (wrp .i64 (v5 + r2.2)) then (if (wrp .i64 (v5 + r2.2)) ≤ (v0l.length : Int) then ((zmd q ⟨v0z, (List.drop ((wrp .i64 (v5 + r2.2)).toNat) v0l)⟩).bind fun r3 => (if 0 ≤ (wrp .i64 ((wrp .i64 (v5 + r2.2)) + r3.2)) then (if (wrp .i64 ((wrp .i64 (v5 + r2.2)) + r3.2)) ≤ (v0l.length : Int) then ((zmt q ⟨v0z, (List.drop ((wrp .i64 ((wrp .i64 (v5 + r2.2)) + r3.2)).toNat) v0l)⟩).bind fun r4 => (if r2.2 = 0 then (some (⟨true, true, []⟩, false)) else (if r3.2 = 0 then (some (⟨true, true, []⟩, false)) else (if r4.2 = 0 then (some (⟨true, true, []⟩, false)) else (if (h0l.length + 1) ≤ 4294967296 then (zm2 q v0z v0l v4 (wrp .i64 ((wrp .i64 ((wrp .i64 (v5 + r2.2)) + r3.2)) + r4.2)) (wrp .i64 (v7 + 1)) false (h0l ++ [(⟨r2.1, r3.1, r4.1⟩ : zji)])) else none))))) else none) else none)) else none) else none)) else none) else none) else (some (⟨h0z, true, h0l⟩, (decide (v5 = (v0l.length : Int))))))
def zm3 : Nat → (Sl Int) → Option ((Ow zji) × Bool)
 | 0, _ => none
 | q + 1, a0 => ((zmd q a0).bind fun r1 => (if r1.2 = 0 then (some (⟨true, true, []⟩, false)) else (if (a0.l.length : Int) < r1.1 then (some (⟨true, true, []⟩, false)) else (zm2 q a0.z a0.l r1.1 r1.2 0 true []))))
def zm4 : Nat → (Sl Int) → Option (zjj × Int)
 | 0, _ => none
 | q + 1, a0 => ((zmd q a0).bind fun r1 => (if r1.2 = 0 then (some ((⟨0, (⟨0, ⟨true, []⟩, false, 0⟩ : zjh), ⟨true, []⟩⟩ : zjj), 3)) else (if (wrp .i64 ((a0.l.length : Int) - r1.2)) < r1.1 then (some ((⟨0, (⟨0, ⟨true, []⟩, false, 0⟩ : zjh), ⟨true, []⟩⟩ : zjj), 3)) else (if 0 ≤ r1.2 then (if r1.2 ≤ (wrp .i64 (r1.2 + r1.1)) then (if (wrp .i64 (r1.2 + r1.1)).toNat ≤ a0.l.length then ((zm1 q ⟨a0.z, (List.drop r1.2.toNat (List.take ((wrp .i64 (r1.2 + r1.1)).toNat) a0.l))⟩).bind fun r2 => (if 0 ≤ (wrp .i64 (r1.2 + r1.1)) then (if (wrp .i64 (r1.2 + r1.1)) ≤ (a0.l.length : Int) then ((zm3 q ⟨a0.z, (List.drop ((wrp .i64 (r1.2 + r1.1)).toNat) a0.l)⟩).bind fun r3 => (if r2.2 = 3 then (some ((⟨0, (⟨0, ⟨true, []⟩, false, 0⟩ : zjh), ⟨true, []⟩⟩ : zjj), 3)) else (if r3.2 = true then (some ((⟨0, r2.1, ⟨r3.1.n, r3.1.xs⟩⟩ : zjj), r2.2)) else (some ((⟨0, (⟨0, ⟨true, []⟩, false, 0⟩ : zjh), ⟨true, []⟩⟩ : zjj), 3))))) else none) else none)) else none) else none) else none))))
def zm5 : Nat → Bool → (List zji) → Int → Option (Bool)
 | 0, _, _, _ => none
 | q + 1, v0z, v0l, v3 => (if v3 < (v0l.length : Int) then (if 0 ≤ v3 then ((v0l[v3.toNat]?).bind fun e1 => (if e1.Proc < 0 then (some false) else (if 64 < e1.Proc then (some false) else (if e1.Seq < 0 then (some false) else (if 4611686018427387904 ≤ e1.Seq then (some false) else (if e1.Resp < (-1125899906842624) then (some false) else (if 1125899906842624 < e1.Resp then (some false) else (if 0 < v3 then (if 0 ≤ (wrp .i64 (v3 - 1)) then ((v0l[(wrp .i64 (v3 - 1)).toNat]?).bind fun e2 => (if e1.Proc ≤ e2.Proc then (some false) else (zm5 q v0z v0l (wrp .i64 (v3 + 1))))) else none) else (zm5 q v0z v0l (wrp .i64 (v3 + 1))))))))))) else none) else (some true))
def zm6 : Nat → (Sl zji) → Option (Bool)
 | 0, _ => none
 | q + 1, a0 => (zm5 q a0.z a0.l 0)
def zm7 : Nat → zjj → Option (Bool)
 | 0, _ => none
 | q + 1, a0 => ((zmy q a0.State).bind fun r1 => ((zm6 q a0.Table).bind fun r2 => (if r1 = true then (if r2 = true then (if 0 ≤ a0.Index then (some (decide (a0.Index < 4611686018427387904))) else (some false)) else (some false)) else (some false))))
def zm8 : Nat → Int → Int → Int → Int → Bool → (List (Sl Int)) → Bool → Bool → (List Int) → Option (zjj × Int)
 | 0, _, _, _, _, _, _, _, _, _ => none
 | q + 1, v7, v8, v9, v12, h2z, h2l, h2x, h3z, h3l => (if v12 < (h2l.length : Int) then (if 0 ≤ v12 then (if v12.toNat < h2l.length then ((h2l[v12.toNat]?).bind fun e4 => (if (h3l.length + e4.l.length) ≤ 4294967296 then (zm8 q v7 v8 v9 (wrp .i64 (v12 + 1)) h2z h2l h2x (h3z && (decide (e4.l.length = 0))) (h3l ++ e4.l)) else none)) else none) else none) else (if (h3l.length : Int) = v8 then (if 1 ≤ h2l.length then ((zmr q ⟨h2z, (List.drop 1 h2l)⟩).bind fun r5 => (if r5 = true then ((zmi q ⟨h3z, h3l⟩).bind fun r6 => (if (wrp .u64 r6) = v9 then ((zm4 q ⟨h3z, h3l⟩).bind fun r7 => (if r7.2 = 0 then ((zm7 q (⟨v7, r7.1.State, r7.1.Table⟩ : zjj)).bind fun r8 => (if r8 = true then (some ((⟨v7, r7.1.State, r7.1.Table⟩ : zjj), 0)) else (some ((⟨0, (⟨0, ⟨true, []⟩, false, 0⟩ : zjh), ⟨true, []⟩⟩ : zjj), 1)))) else (some ((⟨0, (⟨0, ⟨true, []⟩, false, 0⟩ : zjh), ⟨true, []⟩⟩ : zjj), r7.2)))) else (some ((⟨0, (⟨0, ⟨true, []⟩, false, 0⟩ : zjh), ⟨true, []⟩⟩ : zjj), 4)))) else (some ((⟨0, (⟨0, ⟨true, []⟩, false, 0⟩ : zjh), ⟨true, []⟩⟩ : zjj), 3)))) else none) else (some ((⟨0, (⟨0, ⟨true, []⟩, false, 0⟩ : zjh), ⟨true, []⟩⟩ : zjj), 16))))
def zm9 : Nat → (Sl Int) → Option (zjj × Int)
 | 0, _ => none
 | q + 1, a0 => ((zmo q a0).bind fun r1 => (if r1.2 = 0 then (if (r1.1.xs.length : Int) = 0 then (some ((⟨0, (⟨0, ⟨true, []⟩, false, 0⟩ : zjh), ⟨true, []⟩⟩ : zjj), 16)) else (if 0 < r1.1.xs.length then ((r1.1.xs[0]?).bind fun e2 => ((zmp q e2).bind fun r3 => (if r3.2.2.2 = 0 then (zm8 q r3.1 r3.2.1 r3.2.2.1 1 r1.1.n r1.1.xs r1.1.x true []) else (some ((⟨0, (⟨0, ⟨true, []⟩, false, 0⟩ : zjh), ⟨true, []⟩⟩ : zjj), r3.2.2.2))))) else none)) else (some ((⟨0, (⟨0, ⟨true, []⟩, false, 0⟩ : zjh), ⟨true, []⟩⟩ : zjj), r1.2))))
def zna : Nat → Int → Int → Bool → (List Int) → Bool → Int → Int → Bool → (List Int) → Bool → Int → Option (Bool)
 | 0, _, _, _, _, _, _, _, _, _, _, _ => none
 | q + 1, v5, h0_0, h0_1z, h0_1l, h0_2, h0_3, h1_0, h1_1z, h1_1l, h1_2, h1_3 => (if v5 < (h0_1l.length : Int) then (if 0 ≤ v5 then ((h0_1l[v5.toNat]?).bind fun e1 => ((h1_1l[v5.toNat]?).bind fun e2 => (if e1 = e2 then (zna q (wrp .i64 (v5 + 1)) h0_0 h0_1z h0_1l h0_2 h0_3 h1_0 h1_1z h1_1l h1_2 h1_3) else (some false)))) else none) else (some true))
def znb : Nat → zjh → zjh → Option (Bool)
 | 0, _, _ => none
 | q + 1, a0, a1 => (if a0.Kind = a1.Kind then (if (a0.Sealed == a1.Sealed) = true then (if a0.To = a1.To then (if (a0.L.l.length : Int) = (a1.L.l.length : Int) then (zna q 0 a0.Kind a0.L.z a0.L.l a0.Sealed a0.To a1.Kind a1.L.z a1.L.l a1.Sealed a1.To) else (some false)) else (some false)) else (some false)) else (some false))
def znc : Nat → Int → Int → Int → Bool → (List Int) → Bool → Int → Bool → (List zji) → Int → Int → Bool → (List Int) → Bool → Int → Bool → (List zji) → Option (Bool)
 | 0, _, _, _, _, _, _, _, _, _, _, _, _, _, _, _, _, _ => none
 | q + 1, v6, h0_0, h0_1, h0_2z, h0_2l, h0_3, h0_4, h0_5z, h0_5l, h1_0, h1_1, h1_2z, h1_2l, h1_3, h1_4, h1_5z, h1_5l => (if v6 < (h0_5l.length : Int) then (if 0 ≤ v6 then ((h0_5l[v6.toNat]?).bind fun e2 => ((h1_5l[v6.toNat]?).bind fun e3 => (if e2.Proc = e3.Proc then (if e2.Seq = e3.Seq then (if e2.Resp = e3.Resp then (znc q (wrp .i64 (v6 + 1)) h0_0 h0_1 h0_2z h0_2l h0_3 h0_4 h0_5z h0_5l h1_0 h1_1 h1_2z h1_2l h1_3 h1_4 h1_5z h1_5l) else (some false)) else (some false)) else (some false)))) else none) else (some true))
def znd : Nat → zjj → zjj → Option (Bool)
 | 0, _, _ => none
 | q + 1, a0, a1 => ((znb q a0.State a1.State).bind fun r1 => (if r1 = true then (if a0.Index = a1.Index then (if (a0.Table.l.length : Int) = (a1.Table.l.length : Int) then (znc q 0 a0.Index a0.State.Kind a0.State.L.z a0.State.L.l a0.State.Sealed a0.State.To a0.Table.z a0.Table.l a1.Index a1.State.Kind a1.State.L.z a1.State.L.l a1.State.Sealed a1.State.To a1.Table.z a1.Table.l) else (some false)) else (some false)) else (some false)))
def zne : Nat → (Sl Int) → Option (Bool)
 | 0, _ => none
 | q + 1, a0 => ((zlf q).bind fun r1 => (if 5000 < (a0.l.length : Int) then (some r1) else ((zl8 q a0).bind fun r2 => ((zm9 q a0).bind fun r3 => ((znd q r2.1 r3.1).bind fun r4 => (if r1 = true then (if r4 = true then (some (decide (r2.2 = r3.2))) else (some false)) else (some false)))))))
end Go.Dvm.I
