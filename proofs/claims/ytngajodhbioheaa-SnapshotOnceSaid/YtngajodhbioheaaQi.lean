/- The functions of the law, as they answer, over typed data. -/
import Derived.Test.YtngajodhbioheaaQv2
set_option linter.all false
set_option maxRecDepth 100000
set_option maxHeartbeats 4000000
namespace Go.Dvm.I
open Go Go.Dvm
structure zjf where
 Kind : Int
 L : (Sl Int)
 Sealed : Bool
 To : Int
def zjf.enc (r : zjf) : V := .agg [V.int .i64 r.Kind, (Sl.enc (V.int .i64)) r.L, V.bool r.Sealed, V.int .i64 r.To]
structure zjg where
 Proc : Int
 Seq : Int
 Resp : Int
def zjg.enc (r : zjg) : V := .agg [V.int .i64 r.Proc, V.int .i64 r.Seq, V.int .i64 r.Resp]
structure zjh where
 Index : Int
 State : zjf
 Table : (Sl zjg)
def zjh.enc (r : zjh) : V := .agg [V.int .i64 r.Index, V.int .i64 r.State.Kind, (Sl.enc (V.int .i64)) r.State.L, V.bool r.State.Sealed, V.int .i64 r.State.To, (Sl.enc zjg.enc) r.Table]
structure zji where
 From : Int
 To : Int
 Ahead : Int
 Behind : Int
 Mid : (Sl Int)
 Sealed : Bool
 Engine : Int
 Table : (Sl zjg)
def zji.enc (r : zji) : V := .agg [V.int .i64 r.From, V.int .i64 r.To, V.int .i64 r.Ahead, V.int .i64 r.Behind, (Sl.enc (V.int .i64)) r.Mid, V.bool r.Sealed, V.int .i64 r.Engine, (Sl.enc zjg.enc) r.Table]
structure zjj where
 Code : Int
 A : Int
 B : Int
def zjj.enc (r : zjj) : V := .agg [V.int .i64 r.Code, V.int .i64 r.A, V.int .i64 r.B]
structure zjk where
 Index : Int
 Proc : Int
 Seq : Int
 Op : zjj
 Resp : Int
def zjk.enc (r : zjk) : V := .agg [V.int .i64 r.Index, V.int .i64 r.Proc, V.int .i64 r.Seq, V.int .i64 r.Op.Code, V.int .i64 r.Op.A, V.int .i64 r.Op.B, V.int .i64 r.Resp]
structure zjl where
 index : Int
 size : Int
 sum : Int
def zjl.enc (r : zjl) : V := .agg [V.int .i64 r.index, V.int .i64 r.size, V.int .u64 r.sum]
def okSl {α : Type} (ok : α → Prop) (s : Sl α) : Prop := (s.z = true → s.l = []) ∧ s.l.length ≤ maxLen ∧ ∀ a ∈ s.l, ok a
def zjf.ok (r : zjf) : Prop := inR .i64 r.Kind ∧ okSl (fun x => inR .i64 x) r.L ∧ True ∧ inR .i64 r.To
def zjg.ok (r : zjg) : Prop := inR .i64 r.Proc ∧ inR .i64 r.Seq ∧ inR .i64 r.Resp
def zjh.ok (r : zjh) : Prop := inR .i64 r.Index ∧ zjf.ok r.State ∧ okSl (fun x => zjg.ok x) r.Table
def zji.ok (r : zji) : Prop := inR .i64 r.From ∧ inR .i64 r.To ∧ inR .i64 r.Ahead ∧ inR .i64 r.Behind ∧ okSl (fun x => inR .i64 x) r.Mid ∧ True ∧ inR .i64 r.Engine ∧ okSl (fun x => zjg.ok x) r.Table
def zjj.ok (r : zjj) : Prop := inR .i64 r.Code ∧ inR .i64 r.A ∧ inR .i64 r.B
def zjk.ok (r : zjk) : Prop := inR .i64 r.Index ∧ inR .i64 r.Proc ∧ inR .i64 r.Seq ∧ zjj.ok r.Op ∧ inR .i64 r.Resp
def zjl.ok (r : zjl) : Prop := inR .i64 r.index ∧ inR .i64 r.size ∧ inR .u64 r.sum
def zjm : Nat → Int → Option (Int)
 | 0, _ => none
 | q + 1, a0 => (some (if (-1099511627776) < (if 1099511627776 < a0 then 1099511627776 else a0) then (if 1099511627776 < a0 then 1099511627776 else a0) else (-1099511627776)))
def zjn : Nat → Int → Option (Bool)
 | 0, _ => none
 | q + 1, a0 => ((zjm q a0).bind fun r1 => (some (!(decide (a0 = r1)))))
def zjo : Nat → Bool → (List Int) → Int → Int → Int → Option (Bool)
 | 0, _, _, _, _, _ => none
 | q + 1, v0z, v0l, v1, v5, v6 => (if (wrp .i64 (v6 + 1)) < (v0l.length : Int) then (if 0 ≤ v6 then ((v0l[v6.toNat]?).bind fun e1 => (if e1 ≤ v5 then (some false) else (if 255 < e1 then (some false) else (if 0 ≤ (wrp .i64 (v6 + 1)) then ((v0l[(wrp .i64 (v6 + 1)).toNat]?).bind fun e2 => (if e2 < v1 then (some false) else (if 1099511627776 < e2 then (some false) else (zjo q v0z v0l v1 e1 (wrp .i64 (v6 + 2)))))) else none)))) else none) else (if (Int.tmod (v0l.length : Int) 2) = 0 then (some (decide ((v0l.length : Int) ≤ 128))) else (some false)))
def zjp : Nat → (Sl Int) → Int → Option (Bool)
 | 0, _, _ => none
 | q + 1, a0, a1 => (zjo q a0.z a0.l a1 (-1) 0)
def zjq : Nat → Bool → (List Int) → Int → Int → Int → Bool → (List Int) → Bool → Int → Option (Int)
 | 0, _, _, _, _, _, _, _, _, _ => none
 | q + 1, v0z, v0l, v7, v8, h0_0, h0_1z, h0_1l, h0_2, h0_3 => (if v8 < v7 then (if 0 ≤ v8 then ((v0l[v8.toNat]?).bind fun e1 => ((zjn q e1).bind fun r2 => (if r2 = true then (some v8) else (zjq q v0z v0l v7 (wrp .i64 (v8 + 1)) h0_0 h0_1z h0_1l h0_2 h0_3)))) else none) else (some (-1)))
def zjr : Nat → Bool → (List Int) → Int → Bool → (List Int) → Bool → Int → Option (Int)
 | 0, _, _, _, _, _, _, _ => none
 | q + 1, v0z, v0l, h0_0, h0_1z, h0_1l, h0_2, h0_3 => (zjq q v0z v0l (v0l.length : Int) 0 h0_0 h0_1z h0_1l h0_2 h0_3)
def zjs : Nat → zjf → Option (Bool)
 | 0, _ => none
 | q + 1, a0 => (if a0.To < 0 then (some false) else (if 3 ≤ a0.To then (some false) else (if a0.Sealed = true then ((zjr q a0.L.z a0.L.l a0.Kind a0.L.z a0.L.l a0.Sealed a0.To).bind fun r1 => (if a0.Kind = 0 then (if (a0.L.l.length : Int) = 1 then (some (!(decide (0 ≤ r1)))) else (some false)) else (if a0.Kind = 1 then (if (a0.L.l.length : Int) = 1 then (some (!(decide (0 ≤ r1)))) else (some false)) else (if a0.Kind = 2 then (if (a0.L.l.length : Int) ≤ 64 then (some (!(decide (0 ≤ r1)))) else (some false)) else (if a0.Kind = 3 then (if (a0.L.l.length : Int) ≤ 64 then (some (!(decide (0 ≤ r1)))) else (some false)) else (if a0.Kind = 4 then ((zjp q a0.L (-1099511627776)).bind fun r2 => (some r2)) else (if a0.Kind = 5 then ((zjp q a0.L 0).bind fun r3 => (some r3)) else (some false)))))))) else (if a0.To = 0 then ((zjr q a0.L.z a0.L.l a0.Kind a0.L.z a0.L.l a0.Sealed a0.To).bind fun r4 => (if a0.Kind = 0 then (if (a0.L.l.length : Int) = 1 then (some (!(decide (0 ≤ r4)))) else (some false)) else (if a0.Kind = 1 then (if (a0.L.l.length : Int) = 1 then (some (!(decide (0 ≤ r4)))) else (some false)) else (if a0.Kind = 2 then (if (a0.L.l.length : Int) ≤ 64 then (some (!(decide (0 ≤ r4)))) else (some false)) else (if a0.Kind = 3 then (if (a0.L.l.length : Int) ≤ 64 then (some (!(decide (0 ≤ r4)))) else (some false)) else (if a0.Kind = 4 then ((zjp q a0.L (-1099511627776)).bind fun r5 => (some r5)) else (if a0.Kind = 5 then ((zjp q a0.L 0).bind fun r6 => (some r6)) else (some false)))))))) else (some false)))))
def zjt : Nat → zjg → Option (Bool)
 | 0, _ => none
 | q + 1, a0 => (if 0 ≤ a0.Proc then (if a0.Proc ≤ 64 then (if 0 ≤ a0.Seq then (if a0.Seq < 4611686018427387904 then (if (-1125899906842624) ≤ a0.Resp then (some (decide (a0.Resp ≤ 1125899906842624))) else (some false)) else (some false)) else (some false)) else (some false)) else (some false))
def zju : Nat → Bool → (List zjg) → Bool → (List zjg) → Int → Int → Option (Bool)
 | 0, _, _, _, _, _, _ => none
 | q + 1, v0z, v0l, v5z, v5l, v6, v7 => (if v7 < v6 then (if 0 ≤ v7 then ((v5l[v7.toNat]?).bind fun e1 => ((zjt q e1).bind fun r2 => (if r2 = true then (if 0 < v7 then (if 0 ≤ (wrp .i64 (v7 - 1)) then ((v0l[(wrp .i64 (v7 - 1)).toNat]?).bind fun e3 => (if e1.Proc ≤ e3.Proc then (some false) else (zju q v0z v0l v5z v5l v6 (wrp .i64 (v7 + 1))))) else none) else (zju q v0z v0l v5z v5l v6 (wrp .i64 (v7 + 1)))) else (some false)))) else none) else (some true))
def zjv : Nat → (Sl zjg) → Option (Bool)
 | 0, _ => none
 | q + 1, a0 => (zju q a0.z a0.l a0.z a0.l (a0.l.length : Int) 0)
def zjw : Nat → zjh → Option (Bool)
 | 0, _ => none
 | q + 1, a0 => (if 0 ≤ a0.Index then (if a0.Index < 4611686018427387904 then ((zjs q a0.State).bind fun r1 => (if r1 = true then ((zjv q a0.Table).bind fun r2 => (some r2)) else (some false))) else (some false)) else (some false))
def zjx : Nat → (Sl Int) → Option ((Ow Int))
 | 0, _ => none
 | q + 1, a0 => (if a0.z = true then (some ⟨true, true, []⟩) else (if a0.l.length ≤ 4294967296 then (some ⟨false, true, a0.l⟩) else none))
def zjy : Nat → (Sl zjg) → Option ((Ow zjg))
 | 0, _ => none
 | q + 1, a0 => (if a0.z = true then (some ⟨true, true, []⟩) else (if a0.l.length ≤ 4294967296 then (some ⟨false, true, a0.l⟩) else none))
def zjz : Nat → (Ow zjg) → Int → (Sl zjg) → Option ((Ow zjg))
 | 0, _, _, _ => none
 | q + 1, a0, a1, a2 => (if 0 ≤ a1 then (if a1.toNat ≤ a0.xs.length then (if (a2.l.length : Int) = 0 then (some a0) else (if a1 = (a0.xs.length : Int) then (if (a0.xs.length + a2.l.length) ≤ 4294967296 then (some ⟨(a0.n && (decide (a2.l.length = 0))), a0.x, (a0.xs ++ a2.l)⟩) else none) else none)) else none) else none)
def zj0 : Nat → Int → Int → Int → Int → Int → Int → Int → Int → Int → Bool → (List zjg) → Bool → Option (Int)
 | 0, _, _, _, _, _, _, _, _, _, _, _, _ => none
 | q + 1, v7, v8, h0_0, h0_1, h0_2, h0_3, h0_4, h0_5, h0_6, h1z, h1l, h1x => (if v8 < v7 then (if 0 ≤ v8 then (if v8.toNat < h1l.length then ((h1l[v8.toNat]?).bind fun e1 => (if e1.Proc = h0_1 then (some v8) else (zj0 q v7 (wrp .i64 (v8 + 1)) h0_0 h0_1 h0_2 h0_3 h0_4 h0_5 h0_6 h1z h1l h1x))) else none) else none) else (some (-1)))
def zj1 : Nat → Int → Int → Int → Int → Int → Int → Int → Bool → (List zjg) → Bool → Option (Int)
 | 0, _, _, _, _, _, _, _, _, _, _ => none
 | q + 1, h0_0, h0_1, h0_2, h0_3, h0_4, h0_5, h0_6, h1z, h1l, h1x => (zj0 q (h1l.length : Int) 0 h0_0 h0_1 h0_2 h0_3 h0_4 h0_5 h0_6 h1z h1l h1x)
def zj2 : Nat → Int → Int → Int → Int → Int → Int → Int → Int → Int → Bool → (List zjg) → Bool → Option (Nat × (List zjg) × Bool)
 | 0, _, _, _, _, _, _, _, _, _, _, _, _ => none
 | q + 1, v5, v6, h0_0, h0_1, h0_2, h0_3, h0_4, h0_5, h0_6, h1z, h1l, h1x => (if v6 < (h1l.length : Int) then (if 0 ≤ v6 then (if v6.toNat < h1l.length then ((h1l[v6.toNat]?).bind fun e2 => (if e2.Proc = h0_1 then (zj2 q v5 (wrp .i64 (v6 + 1)) h0_0 h0_1 h0_2 h0_3 h0_4 h0_5 h0_6 h1z h1l h1x) else (if 0 ≤ v5 then (if v5.toNat < h1l.length then ((h1l[v5.toNat]?).bind fun e3 => (if h1x = true then (zj2 q (wrp .i64 (v5 + 1)) (wrp .i64 (v6 + 1)) h0_0 h0_1 h0_2 h0_3 h0_4 h0_5 h0_6 h1z (List.set h1l v5.toNat e2) true) else none)) else none) else none))) else none) else none) else (if 0 ≤ v5 then (if v5.toNat ≤ h1l.length then (if h1x = true then (if v5.toNat ≤ (((min v5.toNat h1l.length) + (h1l.length - v5.toNat)) + (h1l.length - (v5.toNat + (h1l.length - v5.toNat)))) then (if h1z = true then (some (v5.toNat, (((List.take v5.toNat h1l) ++ (List.replicate (h1l.length - v5.toNat) (⟨0, 0, 0⟩ : zjg))) ++ (List.drop (v5.toNat + (h1l.length - v5.toNat)) h1l)), true)) else (some (v5.toNat, (((List.take v5.toNat h1l) ++ (List.replicate (h1l.length - v5.toNat) (⟨0, 0, 0⟩ : zjg))) ++ (List.drop (v5.toNat + (h1l.length - v5.toNat)) h1l)), true))) else none) else none) else none) else none))
def zj3 : Nat → Int → Int → Int → Int → Int → Int → Int → Bool → (List zjg) → Bool → Option (Nat × (List zjg) × Bool)
 | 0, _, _, _, _, _, _, _, _, _, _ => none
 | q + 1, h0_0, h0_1, h0_2, h0_3, h0_4, h0_5, h0_6, h1z, h1l, h1x => ((zj1 q h0_0 h0_1 h0_2 h0_3 h0_4 h0_5 h0_6 h1z h1l h1x).bind fun r1 => (if r1 = (-1) then (some (h1l.length, h1l, h1x)) else (zj2 q r1 (wrp .i64 (r1 + 1)) h0_0 h0_1 h0_2 h0_3 h0_4 h0_5 h0_6 h1z h1l h1x)))
def zj4 : Nat → Nat → Int → Int → Int → Int → Int → Int → Int → Int → Int → Bool → (List zjg) → Bool → Option (Int)
 | 0, _, _, _, _, _, _, _, _, _, _, _, _, _ => none
 | q + 1, v0len, v7, v8, h0_0, h0_1, h0_2, h0_3, h0_4, h0_5, h0_6, h1z, h1l, h1x => (if v8 < v7 then (if 0 ≤ v8 then (if v8.toNat < v0len then ((h1l[v8.toNat]?).bind fun e1 => (if h0_1 < e1.Proc then (some v8) else (zj4 q v0len v7 (wrp .i64 (v8 + 1)) h0_0 h0_1 h0_2 h0_3 h0_4 h0_5 h0_6 h1z h1l h1x))) else none) else none) else (some (-1)))
def zj5 : Nat → Nat → Int → Int → Int → Int → Int → Int → Int → Bool → (List zjg) → Bool → Option (Int)
 | 0, _, _, _, _, _, _, _, _, _, _, _ => none
 | q + 1, v0len, h0_0, h0_1, h0_2, h0_3, h0_4, h0_5, h0_6, h1z, h1l, h1x => (zj4 q v0len (v0len : Int) 0 h0_0 h0_1 h0_2 h0_3 h0_4 h0_5 h0_6 h1z h1l h1x)
def zj6 : Nat → (Sl zjg) → zjk → Option ((Ow zjg))
 | 0, _, _ => none
 | q + 1, a0, a1 => ((zjy q a0).bind fun r1 => ((zj3 q a1.Index a1.Proc a1.Seq a1.Op.Code a1.Op.A a1.Op.B a1.Resp r1.n r1.xs r1.x).bind fun r2 => ((zj5 q r2.1 a1.Index a1.Proc a1.Seq a1.Op.Code a1.Op.A a1.Op.B a1.Resp r1.n r2.2.1 r2.2.2).bind fun r3 => (if r3 < 0 then (if r2.2.2 = true then ((zjz q ⟨r1.n, r2.2.2, (List.take r2.1 r2.2.1)⟩ (r2.1 : Int) ⟨false, [(⟨a1.Proc, a1.Seq, a1.Resp⟩ : zjg)]⟩).bind fun r4 => (some r4)) else none) else (if r2.2.2 = true then ((zjz q ⟨r1.n, r2.2.2, (List.take r2.1 r2.2.1)⟩ r3 ⟨false, [(⟨a1.Proc, a1.Seq, a1.Resp⟩ : zjg)]⟩).bind fun r5 => (some r5)) else none)))))
def zj7 : Nat → zjj → Option (Bool)
 | 0, _ => none
 | q + 1, a0 => (if 0 ≤ a0.Code then (if a0.Code ≤ 10 then ((zjm q a0.A).bind fun r1 => (if a0.A = r1 then ((zjm q a0.B).bind fun r2 => (some (decide (a0.B = r2)))) else (some false))) else (some false)) else (some false))
def zj8 : Nat → zjk → Option (Bool)
 | 0, _ => none
 | q + 1, a0 => (if 0 ≤ a0.Index then (if a0.Index < 4611686018427387904 then (if 0 ≤ a0.Proc then (if a0.Proc ≤ 64 then (if 0 ≤ a0.Seq then (if a0.Seq < 4611686018427387904 then ((zj7 q a0.Op).bind fun r1 => (if r1 = true then (if (-1125899906842624) ≤ a0.Resp then (some (decide (a0.Resp ≤ 1125899906842624))) else (some false)) else (some false))) else (some false)) else (some false)) else (some false)) else (some false)) else (some false)) else (some false))
def zj9 : Nat → zjf → zjj → Option (zjf × Int)
 | 0, _, _ => none
 | q + 1, a0, a1 => ((a0.L.l[0]?).bind fun e1 => (if a1.Code = 7 then (some (a0, e1)) else (if a0.Kind = 0 then (if a1.Code = 1 then ((zjm q a1.A).bind fun r2 => ((zjm q (wrp .i64 (e1 + r2))).bind fun r3 => (some ((⟨a0.Kind, ⟨false, [r3]⟩, a0.Sealed, a0.To⟩ : zjf), e1)))) else (if a0.Kind = 1 then (if a1.Code = 2 then ((zjm q a1.A).bind fun r4 => (some ((⟨a0.Kind, ⟨false, [r4]⟩, a0.Sealed, a0.To⟩ : zjf), e1))) else (some (a0, 0))) else (some (a0, 0)))) else (if a0.Kind = 1 then (if a1.Code = 2 then ((zjm q a1.A).bind fun r5 => (some ((⟨a0.Kind, ⟨false, [r5]⟩, a0.Sealed, a0.To⟩ : zjf), e1))) else (some (a0, 0))) else (some (a0, 0))))))
def zka : Nat → (Ow Int) → Int → Int → Option ((Ow Int))
 | 0, _, _, _ => none
 | q + 1, a0, a1, a2 => (if 0 ≤ a1 then (if a1 ≤ a2 then (if a2 ≤ (a0.xs.length : Int) then (if a1 = a2 then (some a0) else (if a1.toNat ≤ a0.xs.length then (if a0.n = true then (if 0 ≤ a2 then (if a2.toNat ≤ a0.xs.length then (if (a0.xs.length + (a0.xs.length - a2.toNat)) ≤ 4294967296 then (if (((a0.xs.length + (a0.xs.length - a2.toNat)) : Nat) : Int) ≤ (a0.xs.length : Int) then (if a0.xs.length ≤ (a0.xs.length + (a0.xs.length - a2.toNat)) then (if (a0.xs.length - a2.toNat) = 0 then none else (if a0.x = true then (some ⟨(a0.n && (decide ((a0.xs.length - a2.toNat) = 0))), true, (((List.take (a0.xs.length + (a0.xs.length - a2.toNat)) (a0.xs ++ (List.drop a2.toNat a0.xs))) ++ (List.replicate (a0.xs.length - (a0.xs.length + (a0.xs.length - a2.toNat))) 0)) ++ (List.drop ((a0.xs.length + (a0.xs.length - a2.toNat)) + (a0.xs.length - (a0.xs.length + (a0.xs.length - a2.toNat)))) (a0.xs ++ (List.drop a2.toNat a0.xs))))⟩) else none)) else none) else none) else none) else none) else none) else (if 0 ≤ a2 then (if a2.toNat ≤ a0.xs.length then (if (a1.toNat + (a0.xs.length - a2.toNat)) ≤ a0.xs.length then (if a0.x = true then (if (((a1.toNat + (a0.xs.length - a2.toNat)) : Nat) : Int) ≤ (a0.xs.length : Int) then (if a0.xs.length ≤ (((min a1.toNat a0.xs.length) + (a0.xs.length - a2.toNat)) + (a0.xs.length - (a1.toNat + (a0.xs.length - a2.toNat)))) then (some ⟨a0.n, true, (List.take (a1.toNat + (a0.xs.length - a2.toNat)) (((List.take (a1.toNat + (a0.xs.length - a2.toNat)) (((List.take a1.toNat a0.xs) ++ (List.drop a2.toNat a0.xs)) ++ (List.drop (a1.toNat + (a0.xs.length - a2.toNat)) a0.xs))) ++ (List.replicate (a0.xs.length - (a1.toNat + (a0.xs.length - a2.toNat))) 0)) ++ (List.drop ((a1.toNat + (a0.xs.length - a2.toNat)) + (a0.xs.length - (a1.toNat + (a0.xs.length - a2.toNat)))) (((List.take a1.toNat a0.xs) ++ (List.drop a2.toNat a0.xs)) ++ (List.drop (a1.toNat + (a0.xs.length - a2.toNat)) a0.xs)))))⟩) else none) else none) else none) else none) else none) else none)) else none)) else none) else none) else none)
def zkb : Nat → zjf → zjj → Option (zjf × Int)
 | 0, _, _ => none
 | q + 1, a0, a1 => (if a1.Code = 7 then (some (a0, (a0.L.l.length : Int))) else (if a1.Code = 3 then (if (a0.L.l.length : Int) < 64 then ((zjx q a0.L).bind fun r1 => ((zjm q a1.A).bind fun r2 => (if (r1.xs.length + 1) ≤ 4294967296 then (some ((⟨a0.Kind, ⟨false, (r1.xs ++ [r2])⟩, a0.Sealed, a0.To⟩ : zjf), (wrp .i64 ((a0.L.l.length : Int) + 1)))) else none))) else (some (a0, (-1)))) else (if a1.Code = 4 then (if (a0.L.l.length : Int) = 0 then (some (a0, (-1))) else (if a0.Kind = 2 then ((a0.L.l[0]?).bind fun e3 => ((zjx q a0.L).bind fun r4 => ((zka q r4 0 (wrp .i64 1)).bind fun r5 => (some ((⟨a0.Kind, ⟨r5.n, r5.xs⟩, a0.Sealed, a0.To⟩ : zjf), e3))))) else (if 0 ≤ (wrp .i64 ((a0.L.l.length : Int) - 1)) then ((a0.L.l[(wrp .i64 ((a0.L.l.length : Int) - 1)).toNat]?).bind fun e6 => ((zjx q a0.L).bind fun r7 => ((zka q r7 (wrp .i64 ((a0.L.l.length : Int) - 1)) (wrp .i64 ((wrp .i64 ((a0.L.l.length : Int) - 1)) + 1))).bind fun r8 => (some ((⟨a0.Kind, ⟨r8.n, r8.xs⟩, a0.Sealed, a0.To⟩ : zjf), e6))))) else none))) else (some (a0, 0)))))
def zkc : Nat → Bool → (List Int) → Int → Int → Option (Int × Bool)
 | 0, _, _, _, _ => none
 | q + 1, v0z, v0l, v1, v6 => (if v6 < (v0l.length : Int) then (if 0 ≤ v6 then ((v0l[v6.toNat]?).bind fun e1 => (if e1 < v1 then (zkc q v0z v0l v1 (wrp .i64 (v6 + 2))) else (some (v6, (decide (e1 = v1)))))) else none) else (some (v6, false)))
def zkd : Nat → (Sl Int) → Int → Option (Int × Bool)
 | 0, _, _ => none
 | q + 1, a0, a1 => (zkc q a0.z a0.l a1 0)
def zke : Nat → (Sl Int) → Int → Option (Int)
 | 0, _, _ => none
 | q + 1, a0, a1 => ((zkd q a0 a1).bind fun r1 => (if r1.2 = true then (if 0 ≤ (wrp .i64 (r1.1 + 1)) then ((a0.l[(wrp .i64 (r1.1 + 1)).toNat]?).bind fun e2 => (some e2)) else none) else (some (-1))))
def zkf : Nat → zjf → zjj → Option (zjf × Int)
 | 0, _, _ => none
 | q + 1, a0, a1 => (if a1.Code = 7 then (if a1.A < 0 then (some (a0, (-1))) else (if 255 < a1.A then (some (a0, (-1))) else ((zke q a0.L a1.A).bind fun r1 => ((zkd q a0.L a1.A).bind fun r2 => (if a1.Code = 6 then (if r2.2 = true then ((zjx q a0.L).bind fun r3 => ((zka q r3 r2.1 (wrp .i64 (r2.1 + 2))).bind fun r4 => (some ((⟨a0.Kind, ⟨r4.n, r4.xs⟩, a0.Sealed, a0.To⟩ : zjf), r1)))) else (if a1.Code = 5 then none else (some (a0, r1)))) else (if a1.Code = 5 then none else (some (a0, r1)))))))) else (if a1.Code = 6 then (if a1.A < 0 then (some (a0, (-1))) else (if 255 < a1.A then (some (a0, (-1))) else ((zke q a0.L a1.A).bind fun r7 => ((zkd q a0.L a1.A).bind fun r8 => (if r8.2 = true then ((zjx q a0.L).bind fun r9 => ((zka q r9 r8.1 (wrp .i64 (r8.1 + 2))).bind fun r10 => (some ((⟨a0.Kind, ⟨r10.n, r10.xs⟩, a0.Sealed, a0.To⟩ : zjf), r7)))) else (if a1.Code = 5 then none else (some (a0, r7)))))))) else (if a1.Code = 5 then (if a1.A < 0 then (some (a0, (-1))) else (if 255 < a1.A then (some (a0, (-1))) else ((zke q a0.L a1.A).bind fun r12 => ((zkd q a0.L a1.A).bind fun r13 => none)))) else (some (a0, 0)))))
def zkg : Nat → zjf → zjj → Option (zjf × Int)
 | 0, _, _ => none
 | q + 1, a0, a1 => (if a1.A < 0 then (some (a0, 0)) else (if 65536 ≤ a1.A then (some (a0, 0)) else (if a1.B < 0 then (some (a0, 0)) else ((zke q a0.L (wrp .i64 (Int.tdiv a1.A 256))).bind fun r1 => ((zke q a0.L (Int.tmod a1.A 256)).bind fun r2 => (if r1 < a1.B then (some (a0, 0)) else (if (wrp .i64 (Int.tdiv a1.A 256)) = (Int.tmod a1.A 256) then (some (a0, 1)) else none)))))))
def zkh : Nat → zjf → zjj → Option (zjf × Int)
 | 0, _, _ => none
 | q + 1, a0, a1 => (if a1.Code = 9 then ((zkg q a0 a1).bind fun r1 => (some (r1.1, r1.2))) else (if a1.Code = 7 then (if a1.A < 0 then (some (a0, (-1))) else (if 255 < a1.A then (some (a0, (-1))) else ((zke q a0.L a1.A).bind fun r2 => (some (a0, r2))))) else (if a1.Code = 8 then (if a1.A < 0 then (some (a0, (-1))) else (if 255 < a1.A then (some (a0, (-1))) else (if a1.B < 0 then (some (a0, (-1))) else ((zke q a0.L a1.A).bind fun r3 => ((zjm q a1.B).bind fun r4 => ((zjm q (wrp .i64 ((if r3 < 0 then 0 else r3) + r4))).bind fun r5 => none)))))) else (some (a0, 0)))))
def zki : Nat → zjf → zjj → Option (zjf × Int)
 | 0, _, _ => none
 | q + 1, a0, a1 => ((zjs q a0).bind fun r1 => (if r1 = true then (if a0.Sealed = true then (some (a0, (-1125899906842624))) else (if a1.Code = 10 then (if 0 ≤ a1.A then (if a1.A < 3 then (some ((⟨a0.Kind, a0.L, true, a1.A⟩ : zjf), 0)) else (some ((⟨a0.Kind, a0.L, true, a0.To⟩ : zjf), 0))) else (some ((⟨a0.Kind, a0.L, true, a0.To⟩ : zjf), 0))) else (if a0.Kind = 0 then ((zj9 q a0 a1).bind fun r2 => (some (r2.1, r2.2))) else (if a0.Kind = 1 then ((zj9 q a0 a1).bind fun r3 => (some (r3.1, r3.2))) else (if a0.Kind = 2 then ((zkb q a0 a1).bind fun r4 => (some (r4.1, r4.2))) else (if a0.Kind = 3 then ((zkb q a0 a1).bind fun r5 => (some (r5.1, r5.2))) else (if a0.Kind = 4 then ((zkf q a0 a1).bind fun r6 => (some (r6.1, r6.2))) else ((zkh q a0 a1).bind fun r7 => (some (r7.1, r7.2)))))))))) else (some (a0, 0))))
def zkj : Nat → Bool → (List zjk) → Int → Int → Int → Int → Bool → (List Int) → Bool → Int → Bool → (List zjg) → Bool → Option (zjh × Int)
 | 0, _, _, _, _, _, _, _, _, _, _, _, _, _ => none
 | q + 1, v8z, v8l, v9, v10, h0_0, h0_1, h0_2z, h0_2l, h0_3, h0_4, h2z, h2l, h2x => (if v10 < v9 then (if 0 ≤ v10 then ((v8l[v10.toNat]?).bind fun e5 => (if e5.Index = h0_0 then ((zj8 q e5).bind fun r6 => (if r6 = true then ((zki q (⟨h0_1, ⟨h0_2z, h0_2l⟩, h0_3, h0_4⟩ : zjf) e5.Op).bind fun r7 => ((zj6 q ⟨h2z, h2l⟩ (⟨e5.Index, e5.Proc, e5.Seq, e5.Op, r7.2⟩ : zjk)).bind fun r8 => (zkj q v8z v8l v9 (wrp .i64 (v10 + 1)) (wrp .i64 (h0_0 + 1)) r7.1.Kind r7.1.L.z r7.1.L.l r7.1.Sealed r7.1.To r8.n r8.xs r8.x))) else (some ((⟨0, (⟨0, ⟨true, []⟩, false, 0⟩ : zjf), ⟨true, []⟩⟩ : zjh), 1)))) else (some ((⟨0, (⟨0, ⟨true, []⟩, false, 0⟩ : zjf), ⟨true, []⟩⟩ : zjh), 15)))) else none) else (some ((⟨h0_0, (⟨h0_1, ⟨h0_2z, h0_2l⟩, h0_3, h0_4⟩ : zjf), ⟨h2z, h2l⟩⟩ : zjh), 0)))
def zkk : Nat → Bool → (List zjk) → Int → Int → Int → Bool → (List Int) → Bool → Int → Bool → (List zjg) → Option (zjh × Int)
 | 0, _, _, _, _, _, _, _, _, _, _, _ => none
 | q + 1, v8z, v8l, v9, h0_0, h0_1, h0_2z, h0_2l, h0_3, h0_4, h0_5z, h0_5l => (if 0 < v9 then ((v8l[0]?).bind fun e1 => (if e1.Index = h0_0 then ((zj8 q e1).bind fun r2 => (if r2 = true then ((zki q (⟨h0_1, ⟨h0_2z, h0_2l⟩, h0_3, h0_4⟩ : zjf) e1.Op).bind fun r3 => ((zj6 q ⟨h0_5z, h0_5l⟩ (⟨e1.Index, e1.Proc, e1.Seq, e1.Op, r3.2⟩ : zjk)).bind fun r4 => (zkj q v8z v8l v9 (wrp .i64 1) (wrp .i64 (h0_0 + 1)) r3.1.Kind r3.1.L.z r3.1.L.l r3.1.Sealed r3.1.To r4.n r4.xs r4.x))) else (some ((⟨0, (⟨0, ⟨true, []⟩, false, 0⟩ : zjf), ⟨true, []⟩⟩ : zjh), 1)))) else (some ((⟨0, (⟨0, ⟨true, []⟩, false, 0⟩ : zjf), ⟨true, []⟩⟩ : zjh), 15)))) else (some ((⟨h0_0, (⟨h0_1, ⟨h0_2z, h0_2l⟩, h0_3, h0_4⟩ : zjf), ⟨h0_5z, h0_5l⟩⟩ : zjh), 0)))
def zkl : Nat → zjh → (Sl zjk) → Option (zjh × Int)
 | 0, _, _ => none
 | q + 1, a0, a1 => (zkk q a1.z a1.l (a1.l.length : Int) a0.Index a0.State.Kind a0.State.L.z a0.State.L.l a0.State.Sealed a0.State.To a0.Table.z a0.Table.l)
def zkm : Nat → Int → Option (Bool)
 | 0, _ => none
 | q + 1, a0 => (some (decide (a0 < 128)))
def zkn : Nat → Bool → (List Int) → Int → Int → Option (Int)
 | 0, _, _, _, _ => none
 | q + 1, v0z, v0l, v7, v8 => (if v8 < v7 then (if 0 ≤ v8 then ((v0l[v8.toNat]?).bind fun e1 => ((zkm q e1).bind fun r2 => (if r2 = true then (some v8) else (zkn q v0z v0l v7 (wrp .i64 (v8 + 1)))))) else none) else (some (-1)))
def zko : Nat → Bool → (List Int) → Option (Int)
 | 0, _, _ => none
 | q + 1, v0z, v0l => (zkn q v0z v0l (v0l.length : Int) 0)
def zkp : Nat → (Sl Int) → Option (Bool)
 | 0, _ => none
 | q + 1, a0 => (if (a0.l.length : Int) < 10 then ((zko q a0.z a0.l).bind fun r1 => (some (!(decide (0 ≤ r1))))) else (some false))
def zkq : Nat → Bool → (List Int) → Int → Int → Int → Option (Int × Int)
 | 0, _, _, _, _, _ => none
 | q + 1, v0z, v0l, v4, v9, v10 => (if v10 < v9 then (if 0 ≤ v10 then ((v0l[v10.toNat]?).bind fun e1 => (if (wrp .i64 (7 * v10)) < 0 then none else (if v10 = 9 then (if 1 < e1 then (some (0, 0)) else (if e1 = 0 then (if 0 < v10 then (some (0, 0)) else (if e1 < 128 then (some ((ibits .or .u64 v4 (ishl .u64 (wrp .u64 (ibits .and .u8 e1 127)) (wrp .i64 (7 * v10)))), (wrp .i64 (v10 + 1)))) else (zkq q v0z v0l (ibits .or .u64 v4 (ishl .u64 (wrp .u64 (ibits .and .u8 e1 127)) (wrp .i64 (7 * v10)))) v9 (wrp .i64 (v10 + 1))))) else (if e1 < 128 then (some ((ibits .or .u64 v4 (ishl .u64 (wrp .u64 (ibits .and .u8 e1 127)) (wrp .i64 (7 * v10)))), (wrp .i64 (v10 + 1)))) else (zkq q v0z v0l (ibits .or .u64 v4 (ishl .u64 (wrp .u64 (ibits .and .u8 e1 127)) (wrp .i64 (7 * v10)))) v9 (wrp .i64 (v10 + 1)))))) else (if e1 = 0 then (if 0 < v10 then (some (0, 0)) else (if e1 < 128 then (some ((ibits .or .u64 v4 (ishl .u64 (wrp .u64 (ibits .and .u8 e1 127)) (wrp .i64 (7 * v10)))), (wrp .i64 (v10 + 1)))) else (zkq q v0z v0l (ibits .or .u64 v4 (ishl .u64 (wrp .u64 (ibits .and .u8 e1 127)) (wrp .i64 (7 * v10)))) v9 (wrp .i64 (v10 + 1))))) else (if e1 < 128 then (some ((ibits .or .u64 v4 (ishl .u64 (wrp .u64 (ibits .and .u8 e1 127)) (wrp .i64 (7 * v10)))), (wrp .i64 (v10 + 1)))) else (zkq q v0z v0l (ibits .or .u64 v4 (ishl .u64 (wrp .u64 (ibits .and .u8 e1 127)) (wrp .i64 (7 * v10)))) v9 (wrp .i64 (v10 + 1)))))))) else none) else (some (0, 0)))
def zkr : Nat → (Sl Int) → Option (Int × Int)
 | 0, _ => none
 | q + 1, a0 => (zkq q a0.z a0.l 0 (if 10 < (a0.l.length : Int) then 10 else (a0.l.length : Int)) 0)
def zks : Nat → (Sl Int) → Option (Int × Int)
 | 0, _ => none
 | q + 1, a0 => ((zkr q a0).bind fun r1 => (if 4611686018427387904 ≤ r1.1 then (some (0, 0)) else (some ((wrp .i64 r1.1), r1.2))))
mutual
def zkt : Nat → Int → (List Int) → (List Int) → Option ((List Int))
 | 0, _, _, _ => none
 | q + 1, v5, h0_0, h1_0 => (if v5 < 256 then (zku q v5 (wrp .u32 v5) v5 0 h0_0 h1_0) else (if 256 ≤ h1_0.length then (if (min 256 h1_0.length) = 256 then (if 256 ≤ h0_0.length then (if 256 ≤ (256 + (h0_0.length - 256)) then (some (List.take 256 ((List.take 256 h1_0) ++ (List.drop 256 h0_0)))) else none) else none) else none) else none))
def zku : Nat → Int → Int → Int → Int → (List Int) → (List Int) → Option ((List Int))
 | 0, _, _, _, _, _, _ => none
 | q + 1, v2, v3, v5, v10, h0_0, h1_0 => (if v10 < 8 then (zku q v2 (ibits .xor .u32 (ishr .u32 v3 1) (ibits .and .u32 2197175160 (wrp .u32 (0 - (ibits .and .u32 v3 1))))) v5 (wrp .i64 (v10 + 1)) h0_0 h1_0) else (if 0 ≤ v2 then (if v2.toNat < 256 then (if (v2.toNat + 1) ≤ h1_0.length then (zkt q (wrp .i64 (v5 + 1)) h0_0 (List.set h1_0 v2.toNat v3)) else none) else none) else none))
end
def zkv : Nat → Option ((List Int))
 | 0 => none
 | q + 1 => (zkt q 0 (List.replicate 256 0) (List.replicate 256 0))
def zkw : Nat → Int → Bool → (List Int) → Int → Int → (List Int) → Option (Int)
 | 0, _, _, _, _, _, _ => none
 | q + 1, v6, v12z, v12l, v13, v14, h0_0 => (if v14 < v13 then (if 0 ≤ v14 then ((v12l[v14.toNat]?).bind fun e2 => (if 0 ≤ (ibits .xor .u8 (wrp .u8 v6) e2) then (if (ibits .xor .u8 (wrp .u8 v6) e2).toNat < 256 then ((h0_0[(ibits .xor .u8 (wrp .u8 v6) e2).toNat]?).bind fun e3 => (zkw q (ibits .xor .u32 e3 (ishr .u32 v6 8)) v12z v12l v13 (wrp .i64 (v14 + 1)) h0_0)) else none) else none)) else none) else (some (ibits .xor .u32 4294967295 v6)))
def zkx : Nat → Int → (Sl Int) → Option (Int)
 | 0, _, _ => none
 | q + 1, a0, a1 => ((zkv q).bind fun r1 => (if r1.length = 256 then (zkw q (ibits .xor .u32 4294967295 a0) a1.z a1.l (a1.l.length : Int) 0 r1) else none))
def zky : Nat → (Sl Int) → Option (Int)
 | 0, _ => none
 | q + 1, a0 => ((zkx q 0 a0).bind fun r1 => (some r1))
def zkz : Nat → Int → Int → Int → Bool → (List Int) → Option ((Ow Int))
 | 0, _, _, _, _, _ => none
 | q + 1, v0, v7, v8, h0z, h0l => (if v8 < v7 then (if (wrp .i64 (8 * v8)) < 0 then none else (if (h0l.length + 1) ≤ 4294967296 then (zkz q v0 v7 (wrp .i64 (v8 + 1)) false (h0l ++ [(wrp .u8 (ishr .u64 v0 (wrp .i64 (8 * v8))))])) else none)) else (some ⟨h0z, true, h0l⟩))
def zk0 : Nat → Int → Int → Option ((Ow Int))
 | 0, _, _ => none
 | q + 1, a0, a1 => (zkz q a0 a1 0 true [])
def zk1 : Nat → Int → Option ((Ow Int))
 | 0, _ => none
 | q + 1, a0 => ((zk0 q (wrp .u64 a0) 4).bind fun r1 => (some r1))
def zk2 : Nat → (Sl Int) → (Sl Int) → Option ((Ow Int))
 | 0, _, _ => none
 | q + 1, a0, a1 => ((zky q a0).bind fun r1 => ((zkx q r1 a1).bind fun r2 => ((zk1 q r2).bind fun r3 => (some r3))))
def zk3 : Nat → Bool → (List Int) → Bool → (List Int) → Int → Int → Option (Bool)
 | 0, _, _, _, _, _, _ => none
 | q + 1, v0z, v0l, v1z, v1l, v12, v13 => (if v13 < v12 then (if 0 ≤ v13 then ((v0l[v13.toNat]?).bind fun e1 => ((v1l[v13.toNat]?).bind fun e2 => (if e1 = e2 then (zk3 q v0z v0l v1z v1l v12 (wrp .i64 (v13 + 1))) else (some false)))) else none) else (some true))
def zk4 : Nat → (Sl Int) → (Sl Int) → Option (Bool)
 | 0, _, _ => none
 | q + 1, a0, a1 => (if (a0.l.length : Int) = (a1.l.length : Int) then (zk3 q a0.z a0.l a1.z a1.l (a0.l.length : Int) 0) else (some false))
def zk5 : Nat → (Sl Int) → Option ((Ow Int))
 | 0, _ => none
 | q + 1, a0 => (if a0.z = true then (some ⟨true, true, []⟩) else (if a0.l.length ≤ 4294967296 then (some ⟨false, true, a0.l⟩) else none))
def zk6 : Nat → (Sl Int) → Option ((Ow Int) × Int × Int)
 | 0, _ => none
 | q + 1, a0 => ((zkp q a0).bind fun r1 => (if r1 = true then (some (⟨true, true, []⟩, 0, 2)) else ((zks q a0).bind fun r2 => (if r2.2 = 0 then (some (⟨true, true, []⟩, 0, 3)) else (if 1048576 < r2.1 then (some (⟨true, true, []⟩, 0, 5)) else (if (a0.l.length : Int) < (wrp .i64 ((wrp .i64 (r2.2 + 4)) + r2.1)) then (some (⟨true, true, []⟩, 0, 2)) else (if 0 ≤ r2.2 then (if r2.2 ≤ r2.2 then (if r2.2.toNat ≤ a0.l.length then (if 0 ≤ (wrp .i64 (r2.2 + r2.1)) then (if (wrp .i64 (r2.2 + r2.1)) ≤ (wrp .i64 (r2.2 + r2.1)) then (if (wrp .i64 (r2.2 + r2.1)).toNat ≤ a0.l.length then (if r2.2 ≤ (wrp .i64 (r2.2 + r2.1)) then (if (wrp .i64 (r2.2 + r2.1)) ≤ (wrp .i64 ((wrp .i64 (r2.2 + r2.1)) + 4)) then (if (wrp .i64 ((wrp .i64 (r2.2 + r2.1)) + 4)).toNat ≤ a0.l.length then ((zk2 q ⟨a0.z, (List.take r2.2.toNat a0.l)⟩ ⟨a0.z, (List.drop r2.2.toNat (List.take ((wrp .i64 (r2.2 + r2.1)).toNat) a0.l))⟩).bind fun r3 => ((zk4 q ⟨a0.z, (List.drop ((wrp .i64 (r2.2 + r2.1)).toNat) (List.take ((wrp .i64 ((wrp .i64 (r2.2 + r2.1)) + 4)).toNat) a0.l))⟩ ⟨r3.n, r3.xs⟩).bind fun r4 => (if r4 = true then ((zk5 q ⟨a0.z, (List.drop r2.2.toNat (List.take ((wrp .i64 (r2.2 + r2.1)).toNat) a0.l))⟩).bind fun r5 => (some (r5, (wrp .i64 ((wrp .i64 (r2.2 + r2.1)) + 4)), 0))) else (some (⟨true, true, []⟩, 0, 4))))) else none) else none) else none) else none) else none) else none) else none) else none) else none)))))))
def zk7 : Nat → Int → Option (Int)
 | 0, _ => none
 | q + 1, a0 => (some (ibits .xor .i64 (wrp .i64 (ishr .u64 a0 1)) (wrp .i64 (0 - (wrp .i64 (ibits .and .u64 a0 1))))))
def zk8 : Nat → (Sl Int) → Option (Int × Int)
 | 0, _ => none
 | q + 1, a0 => ((zkr q a0).bind fun r1 => (if r1.2 = 0 then (some (0, 0)) else ((zk7 q r1.1).bind fun r2 => (some (r2, r1.2)))))
def zk9 : Nat → Int → Bool → (List Int) → Bool → Option ((Ow Int))
 | 0, _, _, _, _ => none
 | q + 1, v1, h0z, h0l, h0x => (if 128 ≤ v1 then (if (h0l.length + 1) ≤ 4294967296 then (zk9 q (ishr .u64 v1 7) false (h0l ++ [(ibits .or .u8 (wrp .u8 v1) 128)]) h0x) else none) else (if (h0l.length + 1) ≤ 4294967296 then (some ⟨false, h0x, (h0l ++ [(wrp .u8 v1)])⟩) else none))
def zla : Nat → (Ow Int) → Int → Option ((Ow Int))
 | 0, _, _ => none
 | q + 1, a0, a1 => (zk9 q a1 a0.n a0.xs a0.x)
def zlb : Nat → (Ow Int) → Int → Option ((Ow Int))
 | 0, _, _ => none
 | q + 1, a0, a1 => (if a1 < 0 then (some a0) else (if 4611686018427387904 ≤ a1 then (some a0) else ((zla q a0 (wrp .u64 a1)).bind fun r1 => (some r1))))
def zlc : Nat → Int → Option (Int)
 | 0, _ => none
 | q + 1, a0 => (some (ibits .xor .u64 (ishl .u64 (wrp .u64 a0) 1) (wrp .u64 (ishr .i64 a0 63))))
def zld : Nat → (Ow Int) → Int → Option ((Ow Int))
 | 0, _, _ => none
 | q + 1, a0, a1 => ((zlc q a1).bind fun r1 => ((zla q a0 r1).bind fun r2 => (some r2)))
def zle : Nat → Nat → Bool → (List (Sl Int)) → Int → Int → Bool → (List Int) → Option ((Ow Int))
 | 0, _, _, _, _, _, _, _ => none
 | q + 1, v6len, v25z, v25l, v26, v27, h0z, h0l => (if v27 < v26 then (if 0 ≤ v27 then ((v25l[v27.toNat]?).bind fun e2 => (if (v6len + e2.l.length) ≤ h0l.length then (zle q (v6len + e2.l.length) v25z v25l v26 (wrp .i64 (v27 + 1)) h0z (((List.take v6len h0l) ++ e2.l) ++ (List.drop (v6len + e2.l.length) h0l))) else none)) else none) else (some ⟨h0z, true, (List.take v6len h0l)⟩))
def zlf : Nat → Bool → (List (Sl Int)) → Int → Int → Bool → (List Int) → Option ((Ow Int))
 | 0, _, _, _, _, _, _ => none
 | q + 1, v25z, v25l, v26, v27, h0z, h0l => (if v27 < v26 then (if 0 ≤ v27 then ((v25l[v27.toNat]?).bind fun e4 => (if (h0l.length + e4.l.length) ≤ 4294967296 then (zlf q v25z v25l v26 (wrp .i64 (v27 + 1)) (h0z && (decide (e4.l.length = 0))) (h0l ++ e4.l)) else none)) else none) else (some ⟨h0z, true, h0l⟩))
def zlg : Nat → Bool → (List (Sl Int)) → Int → Option ((Ow Int))
 | 0, _, _, _ => none
 | q + 1, v25z, v25l, v26 => (if 0 < v26 then ((v25l[0]?).bind fun e3 => (if e3.l.length ≤ 4294967296 then (zlf q v25z v25l v26 (wrp .i64 1) (decide (e3.l.length = 0)) e3.l) else none)) else (some ⟨true, true, []⟩))
def zlh : Nat → Bool → (List (Sl Int)) → Int → Bool → (List (Sl Int)) → Int → Int → Option ((Ow Int))
 | 0, _, _, _, _, _, _, _ => none
 | q + 1, v0z, v0l, v3, v9z, v9l, v10, v11 => (if v11 < v10 then (if 0 ≤ v11 then ((v9l[v11.toNat]?).bind fun e1 => (if (wrp .i64 (v3 + (e1.l.length : Int))) < 0 then none else (zlh q v0z v0l (wrp .i64 (v3 + (e1.l.length : Int))) v9z v9l v10 (wrp .i64 (v11 + 1))))) else none) else (if v3 < 0 then none else (if 0 < (wrp .i64 (v3 - (wrp .i64 0))) then (if 0 ≤ (wrp .i64 (v3 - (wrp .i64 0))) then (if (wrp .i64 (v3 - (wrp .i64 0))).toNat ≤ 4294967296 then (if (wrp .i64 (v3 - (wrp .i64 0))) = 0 then none else (zle q 0 v0z v0l (v0l.length : Int) 0 (decide ((wrp .i64 (v3 - (wrp .i64 0))) = 0)) (List.replicate ((wrp .i64 (v3 - (wrp .i64 0))).toNat) 0))) else none) else none) else (zlg q v0z v0l (v0l.length : Int)))))
def zli : Nat → (Sl (Sl Int)) → Option ((Ow Int))
 | 0, _ => none
 | q + 1, a0 => (zlh q a0.z a0.l 0 a0.z a0.l (a0.l.length : Int) 0)
def zlj : Nat → (Sl Int) → Option ((Ow Int) × Int)
 | 0, _ => none
 | q + 1, a0 => (if 1048576 < (a0.l.length : Int) then (some (⟨true, true, []⟩, 5)) else ((zlb q ⟨true, true, []⟩ (a0.l.length : Int)).bind fun r1 => ((zk2 q ⟨r1.n, r1.xs⟩ a0).bind fun r2 => ((zli q ⟨false, [⟨r1.n, r1.xs⟩, a0, ⟨r2.n, r2.xs⟩]⟩).bind fun r3 => (some (r3, 0))))))
def zlk : Nat → zjf → Option (Int)
 | 0, _ => none
 | q + 1, a0 => (if a0.Sealed = true then (some (wrp .i64 (a0.To + 1))) else (some 0))
def zll : Nat → Bool → (List Int) → Int → Int → Bool → (List Int) → Bool → Option ((Ow Int) × Int)
 | 0, _, _, _, _, _, _, _ => none
 | q + 1, v21z, v21l, v22, v23, h0z, h0l, h0x => (if v23 < v22 then (if 0 ≤ v23 then ((v21l[v23.toNat]?).bind fun e6 => ((zld q ⟨h0z, h0x, h0l⟩ e6).bind fun r7 => (zll q v21z v21l v22 (wrp .i64 (v23 + 1)) r7.n r7.xs r7.x))) else none) else (some (⟨h0z, h0x, h0l⟩, 0)))
def zlm : Nat → zjf → Option ((Ow Int) × Int)
 | 0, _ => none
 | q + 1, a0 => ((zjs q a0).bind fun r1 => (if r1 = true then ((zlb q ⟨true, true, []⟩ a0.Kind).bind fun r2 => ((zlk q a0).bind fun r3 => ((zlb q r2 r3).bind fun r4 => ((zlb q r4 (a0.L.l.length : Int)).bind fun r5 => (zll q a0.L.z a0.L.l (a0.L.l.length : Int) 0 r5.n r5.xs r5.x))))) else (some (⟨true, true, []⟩, 1))))
def zln : Nat → Bool → (List zjg) → Int → Int → Bool → (List Int) → Bool → Option ((Ow Int))
 | 0, _, _, _, _, _, _, _ => none
 | q + 1, v24z, v24l, v25, v26, h0z, h0l, h0x => (if v26 < v25 then (if 0 ≤ v26 then ((v24l[v26.toNat]?).bind fun e4 => ((zlb q ⟨h0z, h0x, h0l⟩ e4.Proc).bind fun r5 => ((zlb q r5 e4.Seq).bind fun r6 => ((zld q r6 e4.Resp).bind fun r7 => (zln q v24z v24l v25 (wrp .i64 (v26 + 1)) r7.n r7.xs r7.x))))) else none) else (some ⟨h0z, h0x, h0l⟩))
def zlo : Nat → zjh → Option ((Ow Int))
 | 0, _ => none
 | q + 1, a0 => ((zlm q a0.State).bind fun r1 => ((zlb q ⟨true, true, []⟩ (r1.1.xs.length : Int)).bind fun r2 => (if (r2.xs.length + r1.1.xs.length) ≤ 4294967296 then ((zlb q ⟨(r2.n && (decide (r1.1.xs.length = 0))), r2.x, (r2.xs ++ r1.1.xs)⟩ (a0.Table.l.length : Int)).bind fun r3 => (zln q a0.Table.z a0.Table.l (a0.Table.l.length : Int) 0 r3.n r3.xs r3.x)) else none)))
def zlp : Nat → (Sl Int) → Option ((Ow Int))
 | 0, _ => none
 | q + 1, a0 => ((zlj q a0).bind fun r1 => (some r1.1))
def zlq : Nat → Nat → Nat → Bool → (List Int) → Bool → (List Int) → Bool → Option ((Ow Int) × Int)
 | 0, _, _, _, _, _, _, _ => none
 | q + 1, v4off, v4len, h0z, h0l, h1z, h1l, h1x => (if 0 < (v4len : Int) then (if 0 ≤ (if 64 < (v4len : Int) then 64 else (v4len : Int)) then (if (if 64 < (v4len : Int) then 64 else (v4len : Int)) ≤ (if 64 < (v4len : Int) then 64 else (v4len : Int)) then (if (v4off + (if 64 < (v4len : Int) then 64 else (v4len : Int)).toNat) ≤ h0l.length then ((zlp q ⟨h0z, (List.take ((if 64 < (v4len : Int) then 64 else (v4len : Int)).toNat) (List.drop v4off h0l))⟩).bind fun r10 => (if (h1l.length + r10.xs.length) ≤ 4294967296 then (if (if 64 < (v4len : Int) then 64 else (v4len : Int)).toNat ≤ v4len then (zlq q (v4off + (if 64 < (v4len : Int) then 64 else (v4len : Int)).toNat) (v4len - (if 64 < (v4len : Int) then 64 else (v4len : Int)).toNat) h0z h0l (h1z && (decide (r10.xs.length = 0))) (h1l ++ r10.xs) h1x) else none) else none)) else none) else none) else none) else (some (⟨h1z, h1x, h1l⟩, 0)))
def zlr : Nat → Bool → (List Int) → Bool → Bool → (List Int) → Bool → Option ((Ow Int) × Int)
 | 0, _, _, _, _, _, _ => none
 | q + 1, h0z, h0l, h0x, h1z, h1l, h1x => (if 0 < (h0l.length : Int) then (if 0 ≤ (if 64 < (h0l.length : Int) then 64 else (h0l.length : Int)) then (if (if 64 < (h0l.length : Int) then 64 else (h0l.length : Int)) ≤ (if 64 < (h0l.length : Int) then 64 else (h0l.length : Int)) then (if (if 64 < (h0l.length : Int) then 64 else (h0l.length : Int)).toNat ≤ h0l.length then ((zlp q ⟨h0z, (List.take ((if 64 < (h0l.length : Int) then 64 else (h0l.length : Int)).toNat) h0l)⟩).bind fun r9 => (if (h1l.length + r9.xs.length) ≤ 4294967296 then (zlq q ((if 64 < (h0l.length : Int) then 64 else (h0l.length : Int)).toNat) (h0l.length - (if 64 < (h0l.length : Int) then 64 else (h0l.length : Int)).toNat) h0z h0l (h1z && (decide (r9.xs.length = 0))) (h1l ++ r9.xs) h1x) else none)) else none) else none) else none) else (some (⟨h1z, h1x, h1l⟩, 0)))
def zls : Nat → zjh → Option ((Ow Int) × Int)
 | 0, _ => none
 | q + 1, a0 => ((zjw q a0).bind fun r1 => (if r1 = true then ((zlo q a0).bind fun r2 => ((zlb q ⟨false, true, [115]⟩ 3).bind fun r3 => ((zlb q r3 a0.Index).bind fun r4 => ((zlb q r4 (r2.xs.length : Int)).bind fun r5 => ((zky q ⟨r2.n, r2.xs⟩).bind fun r6 => ((zk1 q r6).bind fun r7 => (if (r5.xs.length + r7.xs.length) ≤ 4294967296 then ((zlp q ⟨(r5.n && (decide (r7.xs.length = 0))), (r5.xs ++ r7.xs)⟩).bind fun r8 => (zlr q r2.n r2.xs r2.x r8.n r8.xs r8.x)) else none))))))) else (some (⟨true, true, []⟩, 1))))
def zlt : Nat → Option (Bool)
 | 0 => none
 | q + 1 => ((zkl q (⟨0, (⟨0, ⟨false, [0]⟩, false, 0⟩ : zjf), ⟨true, []⟩⟩ : zjh) ⟨false, [(⟨0, 2, 1, (⟨1, 5, 0⟩ : zjj), 0⟩ : zjk)]⟩).bind fun r1 => ((zls q r1.1).bind fun r2 => (if r1.2 = 0 then (if r2.2 = 0 then (if 10 < (r2.1.xs.length : Int) then (if r1.1.Index = 1 then (if (r1.1.Table.l.length : Int) = 1 then ((r1.1.Table.l[0]?).bind fun e3 => (if e3.Proc = 2 then (if e3.Seq = 1 then (if e3.Resp = 0 then (if (r1.1.State.L.l.length : Int) = 1 then ((r1.1.State.L.l[0]?).bind fun e4 => (some (decide (e4 = 5)))) else (some false)) else (some false)) else (some false)) else (some false))) else (some false)) else (some false)) else (some false)) else (some false)) else (some false))))
def zlu : Nat → Bool → (List Int) → Int → Bool → (List (Sl Int)) → Option ((Ow (Sl Int)) × Int × Int)
 | 0, _, _, _, _, _ => none
 | q + 1, v0z, v0l, v3, h0z, h0l => (if v3 < (v0l.length : Int) then (if 0 ≤ v3 then (if v3 ≤ (v0l.length : Int) then ((zk6 q ⟨v0z, (List.drop v3.toNat v0l)⟩).bind fun r1 => (if r1.2.2 = 0 then (if (h0l.length + 1) ≤ 4294967296 then (zlu q v0z v0l (wrp .i64 (v3 + r1.2.1)) false (h0l ++ [⟨r1.1.n, r1.1.xs⟩])) else none) else (some (⟨h0z, true, h0l⟩, v3, r1.2.2)))) else none) else none) else (some (⟨h0z, true, h0l⟩, v3, 0)))
def zlv : Nat → (Sl Int) → Option ((Ow (Sl Int)) × Int × Int)
 | 0, _ => none
 | q + 1, a0 => (zlu q a0.z a0.l 0 true [])
def zlw : Nat → (Sl Int) → Option ((Ow (Sl Int)) × Int)
 | 0, _ => none
 | q + 1, a0 => ((zlv q a0).bind fun r1 => (if r1.2.2 = 0 then (some (r1.1, 0)) else (some (⟨true, true, []⟩, r1.2.2))))
def zlx : Nat → Bool → (List Int) → Int → Int → Int → Option (Int)
 | 0, _, _, _, _, _ => none
 | q + 1, v0z, v0l, v3, v7, v8 => (if v8 < v7 then (if 0 ≤ v8 then ((v0l[v8.toNat]?).bind fun e1 => (if (wrp .i64 (8 * v8)) < 0 then none else (zlx q v0z v0l (ibits .or .u64 v3 (ishl .u64 (wrp .u64 e1) (wrp .i64 (8 * v8)))) v7 (wrp .i64 (v8 + 1))))) else none) else (some v3))
def zly : Nat → (Sl Int) → Option (Int)
 | 0, _ => none
 | q + 1, a0 => (zlx q a0.z a0.l 0 (if 8 < (a0.l.length : Int) then 8 else (a0.l.length : Int)) 0)
def zlz : Nat → (Sl Int) → Option (zjl × Int)
 | 0, _ => none
 | q + 1, a0 => (if (a0.l.length : Int) = 0 then (some ((⟨0, 0, 0⟩ : zjl), 3)) else ((a0.l[0]?).bind fun e1 => (if e1 = 115 then (if 1 ≤ (a0.l.length : Int) then ((zks q ⟨a0.z, (List.drop 1 a0.l)⟩).bind fun r2 => (if 0 ≤ r2.2 then (if r2.2 ≤ (((a0.l.length - 1) : Nat) : Int) then ((zks q ⟨a0.z, (List.drop r2.2.toNat (List.drop 1 a0.l))⟩).bind fun r3 => (if 0 ≤ r3.2 then (if r3.2 ≤ ((((a0.l.length - 1) - r2.2.toNat) : Nat) : Int) then ((zks q ⟨a0.z, (List.drop r3.2.toNat (List.drop r2.2.toNat (List.drop 1 a0.l)))⟩).bind fun r4 => (if 0 ≤ r4.2 then (if r4.2 ≤ (((((a0.l.length - 1) - r2.2.toNat) - r3.2.toNat) : Nat) : Int) then (if r2.2 = 0 then (some ((⟨r3.1, r4.1, 0⟩ : zjl), 3)) else (if r3.2 = 0 then (some ((⟨r3.1, r4.1, 0⟩ : zjl), 3)) else (if r4.2 = 0 then (some ((⟨r3.1, r4.1, 0⟩ : zjl), 3)) else (if r2.1 = 3 then (if ((((((a0.l.length - 1) - r2.2.toNat) - r3.2.toNat) - r4.2.toNat) : Nat) : Int) = 4 then ((zly q ⟨a0.z, (List.drop r4.2.toNat (List.drop r3.2.toNat (List.drop r2.2.toNat (List.drop 1 a0.l))))⟩).bind fun r5 => (some ((⟨r3.1, r4.1, r5⟩ : zjl), 0))) else (some ((⟨r3.1, r4.1, 0⟩ : zjl), 3))) else (some ((⟨r3.1, r4.1, 0⟩ : zjl), 6)))))) else none) else none)) else none) else none)) else none) else none)) else none) else (some ((⟨0, 0, 0⟩ : zjl), 3)))))
def zl0 : Nat → Bool → (List (Sl Int)) → Bool → (List (Sl Int)) → Int → Int → Option (Bool)
 | 0, _, _, _, _, _, _ => none
 | q + 1, v0z, v0l, v5z, v5l, v6, v7 => (if v7 < v6 then (if 0 ≤ v7 then ((v5l[v7.toNat]?).bind fun e1 => (if (e1.l.length : Int) = 0 then (some false) else (if 64 < (e1.l.length : Int) then (some false) else (if (e1.l.length : Int) < 64 then (if v7 < (wrp .i64 ((v0l.length : Int) - 1)) then (some false) else (zl0 q v0z v0l v5z v5l v6 (wrp .i64 (v7 + 1)))) else (zl0 q v0z v0l v5z v5l v6 (wrp .i64 (v7 + 1))))))) else none) else (some true))
def zl1 : Nat → (Sl (Sl Int)) → Option (Bool)
 | 0, _ => none
 | q + 1, a0 => (zl0 q a0.z a0.l a0.z a0.l (a0.l.length : Int) 0)
def zl2 : Nat → Int → Int → Bool → (List Int) → Bool → Int → Bool → Int → (List Int) → Option (zjf × Int)
 | 0, _, _, _, _, _, _, _, _, _ => none
 | q + 1, v42, v43, h1_0z, h1_0l, h2_0, h3_0, h3_2, h3_3, h4l => (if v43 < v42 then ((zk8 q ⟨h1_0z, h1_0l⟩).bind fun r7 => (if h2_0 = true then (if 0 ≤ r7.2 then (if r7.2 ≤ (h1_0l.length : Int) then (if (h4l.length + 1) ≤ 4294967296 then (zl2 q v42 (wrp .i64 (v43 + 1)) h1_0z (List.drop r7.2.toNat h1_0l) (decide (0 < r7.2)) h3_0 h3_2 h3_3 (h4l ++ [r7.1])) else none) else none) else none) else (if 0 ≤ r7.2 then (if r7.2 ≤ (h1_0l.length : Int) then (if (h4l.length + 1) ≤ 4294967296 then (zl2 q v42 (wrp .i64 (v43 + 1)) h1_0z (List.drop r7.2.toNat h1_0l) false h3_0 h3_2 h3_3 (h4l ++ [r7.1])) else none) else none) else none))) else (if h2_0 = true then (if 0 < (h1_0l.length : Int) then (some ((⟨0, ⟨true, []⟩, false, 0⟩ : zjf), 3)) else ((zjs q (⟨h3_0, ⟨false, h4l⟩, h3_2, h3_3⟩ : zjf)).bind fun r8 => (if r8 = true then (some ((⟨h3_0, ⟨false, h4l⟩, h3_2, h3_3⟩ : zjf), 0)) else (some ((⟨0, ⟨true, []⟩, false, 0⟩ : zjf), 1))))) else (some ((⟨0, ⟨true, []⟩, false, 0⟩ : zjf), 3))))
def zl3 : Nat → Int → Bool → (List Int) → Bool → Int → Bool → Int → Option (zjf × Int)
 | 0, _, _, _, _, _, _, _ => none
 | q + 1, v42, h1_0z, h1_0l, h2_0, h3_0, h3_2, h3_3 => (if 0 < v42 then ((zk8 q ⟨h1_0z, h1_0l⟩).bind fun r5 => (if h2_0 = true then (if 0 ≤ r5.2 then (if r5.2 ≤ (h1_0l.length : Int) then (zl2 q v42 (wrp .i64 1) h1_0z (List.drop r5.2.toNat h1_0l) (decide (0 < r5.2)) h3_0 h3_2 h3_3 [r5.1]) else none) else none) else (if 0 ≤ r5.2 then (if r5.2 ≤ (h1_0l.length : Int) then (zl2 q v42 (wrp .i64 1) h1_0z (List.drop r5.2.toNat h1_0l) false h3_0 h3_2 h3_3 [r5.1]) else none) else none))) else (if h2_0 = true then (if 0 < (h1_0l.length : Int) then (some ((⟨0, ⟨true, []⟩, false, 0⟩ : zjf), 3)) else ((zjs q (⟨h3_0, ⟨true, []⟩, h3_2, h3_3⟩ : zjf)).bind fun r6 => (if r6 = true then (some ((⟨h3_0, ⟨true, []⟩, h3_2, h3_3⟩ : zjf), 0)) else (some ((⟨0, ⟨true, []⟩, false, 0⟩ : zjf), 1))))) else (some ((⟨0, ⟨true, []⟩, false, 0⟩ : zjf), 3))))
def zl4 : Nat → (Sl Int) → Option (zjf × Int)
 | 0, _ => none
 | q + 1, a0 => ((zks q a0).bind fun r1 => (if 0 ≤ r1.2 then (if r1.2 ≤ (a0.l.length : Int) then ((zks q ⟨a0.z, (List.drop r1.2.toNat a0.l)⟩).bind fun r2 => (if 0 < r1.2 then (if 0 ≤ r2.2 then (if r2.2 ≤ (((a0.l.length - r1.2.toNat) : Nat) : Int) then ((zks q ⟨a0.z, (List.drop r2.2.toNat (List.drop r1.2.toNat a0.l))⟩).bind fun r3 => (if 0 < r2.2 then (if 0 ≤ r3.2 then (if r3.2 ≤ ((((a0.l.length - r1.2.toNat) - r2.2.toNat) : Nat) : Int) then (if 0 < r3.2 then (if 3 < r2.1 then (some ((⟨0, ⟨true, []⟩, false, 0⟩ : zjf), 3)) else (if 128 < r3.1 then (some ((⟨0, ⟨true, []⟩, false, 0⟩ : zjf), 3)) else (zl3 q r3.1 a0.z (List.drop r3.2.toNat (List.drop r2.2.toNat (List.drop r1.2.toNat a0.l))) (decide (0 < r3.2)) r1.1 (decide (0 < r2.1)) (if (wrp .i64 (r2.1 - 1)) < 0 then 0 else (wrp .i64 (r2.1 - 1)))))) else (some ((⟨0, ⟨true, []⟩, false, 0⟩ : zjf), 3))) else none) else none) else (if 0 ≤ r3.2 then (if r3.2 ≤ ((((a0.l.length - r1.2.toNat) - r2.2.toNat) : Nat) : Int) then (some ((⟨0, ⟨true, []⟩, false, 0⟩ : zjf), 3)) else none) else none))) else none) else none) else (if 0 ≤ r2.2 then (if r2.2 ≤ (((a0.l.length - r1.2.toNat) : Nat) : Int) then ((zks q ⟨a0.z, (List.drop r2.2.toNat (List.drop r1.2.toNat a0.l))⟩).bind fun r4 => (if 0 ≤ r4.2 then (if r4.2 ≤ ((((a0.l.length - r1.2.toNat) - r2.2.toNat) : Nat) : Int) then (some ((⟨0, ⟨true, []⟩, false, 0⟩ : zjf), 3)) else none) else none)) else none) else none))) else none) else none))
def zl5 : Nat → (Sl Int) → Option (zjg × Int)
 | 0, _ => none
 | q + 1, a0 => ((zks q a0).bind fun r1 => (if 0 ≤ r1.2 then (if r1.2 ≤ (a0.l.length : Int) then ((zks q ⟨a0.z, (List.drop r1.2.toNat a0.l)⟩).bind fun r2 => (if 0 ≤ r2.2 then (if r2.2 ≤ (((a0.l.length - r1.2.toNat) : Nat) : Int) then ((zk8 q ⟨a0.z, (List.drop r2.2.toNat (List.drop r1.2.toNat a0.l))⟩).bind fun r3 => (if r1.2 = 0 then (some ((⟨r1.1, r2.1, r3.1⟩ : zjg), 0)) else (if r2.2 = 0 then (some ((⟨r1.1, r2.1, r3.1⟩ : zjg), 0)) else (if r3.2 = 0 then (some ((⟨r1.1, r2.1, r3.1⟩ : zjg), 0)) else (some ((⟨r1.1, r2.1, r3.1⟩ : zjg), (wrp .i64 ((wrp .i64 (r1.2 + r2.2)) + r3.2)))))))) else none) else none)) else none) else none))
def zl6 : Nat → Bool → (List Int) → Int → Int → Int → Int → Bool → (List Int) → Bool → Int → (List zjg) → Option (zjh × Int)
 | 0, _, _, _, _, _, _, _, _, _, _, _ => none
 | q + 1, v0z, v0l, v3, v62, v63, h1_0, h1_1z, h1_1l, h1_2, h1_3, h2l => (if v63 < v62 then ((zl5 q ⟨v0z, v0l⟩).bind fun r5 => (if r5.2 = 0 then (some ((⟨0, (⟨0, ⟨true, []⟩, false, 0⟩ : zjf), ⟨false, h2l⟩⟩ : zjh), 3)) else (if (h2l.length + 1) ≤ 4294967296 then (if 0 ≤ r5.2 then (if r5.2 ≤ (v0l.length : Int) then (zl6 q v0z (List.drop r5.2.toNat v0l) v3 v62 (wrp .i64 (v63 + 1)) h1_0 h1_1z h1_1l h1_2 h1_3 (h2l ++ [r5.1])) else none) else none) else none))) else (if 0 < (v0l.length : Int) then (some ((⟨0, (⟨0, ⟨true, []⟩, false, 0⟩ : zjf), ⟨false, h2l⟩⟩ : zjh), 3)) else (some ((⟨0, (⟨h1_0, ⟨h1_1z, h1_1l⟩, h1_2, h1_3⟩ : zjf), ⟨false, h2l⟩⟩ : zjh), v3))))
def zl7 : Nat → Bool → (List Int) → Int → Int → Int → Bool → (List Int) → Bool → Int → Option (zjh × Int)
 | 0, _, _, _, _, _, _, _, _, _ => none
 | q + 1, v0z, v0l, v3, v62, h1_0, h1_1z, h1_1l, h1_2, h1_3 => (if 0 < v62 then ((zl5 q ⟨v0z, v0l⟩).bind fun r4 => (if r4.2 = 0 then (some ((⟨0, (⟨0, ⟨true, []⟩, false, 0⟩ : zjf), ⟨true, []⟩⟩ : zjh), 3)) else (if 0 ≤ r4.2 then (if r4.2 ≤ (v0l.length : Int) then (zl6 q v0z (List.drop r4.2.toNat v0l) v3 v62 (wrp .i64 1) h1_0 h1_1z h1_1l h1_2 h1_3 [r4.1]) else none) else none))) else (if 0 < (v0l.length : Int) then (some ((⟨0, (⟨0, ⟨true, []⟩, false, 0⟩ : zjf), ⟨true, []⟩⟩ : zjh), 3)) else (some ((⟨0, (⟨h1_0, ⟨h1_1z, h1_1l⟩, h1_2, h1_3⟩ : zjf), ⟨true, []⟩⟩ : zjh), v3))))
def zl8 : Nat → (Sl Int) → Option (zjh × Int)
 | 0, _ => none
 | q + 1, a0 => ((zks q a0).bind fun r1 => (if r1.2 = 0 then (some ((⟨0, (⟨0, ⟨true, []⟩, false, 0⟩ : zjf), ⟨true, []⟩⟩ : zjh), 3)) else (if (wrp .i64 ((a0.l.length : Int) - r1.2)) < r1.1 then (some ((⟨0, (⟨0, ⟨true, []⟩, false, 0⟩ : zjf), ⟨true, []⟩⟩ : zjh), 3)) else (if 0 ≤ r1.2 then (if r1.2 ≤ (wrp .i64 (r1.2 + r1.1)) then (if (wrp .i64 (r1.2 + r1.1)).toNat ≤ a0.l.length then ((zl4 q ⟨a0.z, (List.drop r1.2.toNat (List.take ((wrp .i64 (r1.2 + r1.1)).toNat) a0.l))⟩).bind fun r2 => (if r2.2 = 3 then (some ((⟨0, (⟨0, ⟨true, []⟩, false, 0⟩ : zjf), ⟨true, []⟩⟩ : zjh), r2.2)) else (if 0 ≤ (wrp .i64 (r1.2 + r1.1)) then (if (wrp .i64 (r1.2 + r1.1)) ≤ (a0.l.length : Int) then ((zks q ⟨a0.z, (List.drop ((wrp .i64 (r1.2 + r1.1)).toNat) a0.l)⟩).bind fun r3 => (if r3.2 = 0 then (some ((⟨0, (⟨0, ⟨true, []⟩, false, 0⟩ : zjf), ⟨true, []⟩⟩ : zjh), 3)) else (if (((a0.l.length - (wrp .i64 (r1.2 + r1.1)).toNat) : Nat) : Int) < r3.1 then (some ((⟨0, (⟨0, ⟨true, []⟩, false, 0⟩ : zjf), ⟨true, []⟩⟩ : zjh), 3)) else (if 0 ≤ r3.2 then (if r3.2 ≤ (((a0.l.length - (wrp .i64 (r1.2 + r1.1)).toNat) : Nat) : Int) then (zl7 q a0.z (List.drop r3.2.toNat (List.drop ((wrp .i64 (r1.2 + r1.1)).toNat) a0.l)) r2.2 r3.1 r2.1.Kind r2.1.L.z r2.1.L.l r2.1.Sealed r2.1.To) else none) else none)))) else none) else none))) else none) else none) else none))))
def zl9 : Nat → (Sl Int) → Option (zjh × Int)
 | 0, _ => none
 | q + 1, a0 => ((zlw q a0).bind fun r1 => (if r1.2 = 0 then (if (r1.1.xs.length : Int) = 0 then (some ((⟨0, (⟨0, ⟨true, []⟩, false, 0⟩ : zjf), ⟨true, []⟩⟩ : zjh), 16)) else (if 0 < r1.1.xs.length then ((r1.1.xs[0]?).bind fun e2 => ((zlz q e2).bind fun r3 => (if r3.2 = 0 then (if 1 ≤ r1.1.xs.length then ((zli q ⟨r1.1.n, (List.drop 1 r1.1.xs)⟩).bind fun r4 => (if (r4.xs.length : Int) = r3.1.size then ((zl1 q ⟨r1.1.n, (List.drop 1 r1.1.xs)⟩).bind fun r5 => (if r5 = true then ((zky q ⟨r4.n, r4.xs⟩).bind fun r6 => (if (wrp .u64 r6) = r3.1.sum then ((zl8 q ⟨r4.n, r4.xs⟩).bind fun r7 => (if r7.2 = 0 then ((zjw q (⟨r3.1.index, r7.1.State, r7.1.Table⟩ : zjh)).bind fun r8 => (if r8 = true then (some ((⟨r3.1.index, r7.1.State, r7.1.Table⟩ : zjh), 0)) else (some ((⟨0, (⟨0, ⟨true, []⟩, false, 0⟩ : zjf), ⟨true, []⟩⟩ : zjh), 1)))) else (some ((⟨0, (⟨0, ⟨true, []⟩, false, 0⟩ : zjf), ⟨true, []⟩⟩ : zjh), r7.2)))) else (some ((⟨0, (⟨0, ⟨true, []⟩, false, 0⟩ : zjf), ⟨true, []⟩⟩ : zjh), 4)))) else (some ((⟨0, (⟨0, ⟨true, []⟩, false, 0⟩ : zjf), ⟨true, []⟩⟩ : zjh), 3)))) else (some ((⟨0, (⟨0, ⟨true, []⟩, false, 0⟩ : zjf), ⟨true, []⟩⟩ : zjh), 16)))) else none) else (some ((⟨0, (⟨0, ⟨true, []⟩, false, 0⟩ : zjf), ⟨true, []⟩⟩ : zjh), r3.2))))) else none)) else (some ((⟨0, (⟨0, ⟨true, []⟩, false, 0⟩ : zjf), ⟨true, []⟩⟩ : zjh), r1.2))))
def zma : Nat → (Sl Int) → Option (Bool)
 | 0, _ => none
 | q + 1, a0 => ((zlt q).bind fun r1 => (if 5000 < (a0.l.length : Int) then (some r1) else ((zl9 q a0).bind fun r2 => (if r2.2 = 0 then ((zls q r2.1).bind fun r3 => (if r1 = true then (if r3.2 = 0 then (if r3.1.xs = a0.l then ((zjw q r2.1).bind fun r4 => (some r4)) else (some false)) else (some false)) else (some false))) else (some r1)))))
end Go.Dvm.I
