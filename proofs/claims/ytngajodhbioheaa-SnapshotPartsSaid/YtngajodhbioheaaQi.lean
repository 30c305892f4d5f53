/- The functions of the law, as they answer, over typed data. -/
import Derived.Test.YtngajodhbioheaaQv2
set_option linter.all false
set_option maxRecDepth 100000
set_option maxHeartbeats 4000000
namespace Go.Dvm.I
open Go Go.Dvm
structure zjq where
 Kind : Int
 L : (Sl Int)
 Sealed : Bool
 To : Int
def zjq.enc (r : zjq) : V := .agg [V.int .i64 r.Kind, (Sl.enc (V.int .i64)) r.L, V.bool r.Sealed, V.int .i64 r.To]
structure zjr where
 Proc : Int
 Seq : Int
 Resp : Int
def zjr.enc (r : zjr) : V := .agg [V.int .i64 r.Proc, V.int .i64 r.Seq, V.int .i64 r.Resp]
structure zjs where
 Index : Int
 State : zjq
 Table : (Sl zjr)
def zjs.enc (r : zjs) : V := .agg [V.int .i64 r.Index, V.int .i64 r.State.Kind, (Sl.enc (V.int .i64)) r.State.L, V.bool r.State.Sealed, V.int .i64 r.State.To, (Sl.enc zjr.enc) r.Table]
structure zjt where
 From : Int
 To : Int
 Ahead : Int
 Behind : Int
 Mid : (Sl Int)
 Sealed : Bool
 Engine : Int
 Table : (Sl zjr)
def zjt.enc (r : zjt) : V := .agg [V.int .i64 r.From, V.int .i64 r.To, V.int .i64 r.Ahead, V.int .i64 r.Behind, (Sl.enc (V.int .i64)) r.Mid, V.bool r.Sealed, V.int .i64 r.Engine, (Sl.enc zjr.enc) r.Table]
structure zju where
 Code : Int
 A : Int
 B : Int
def zju.enc (r : zju) : V := .agg [V.int .i64 r.Code, V.int .i64 r.A, V.int .i64 r.B]
structure zjv where
 Index : Int
 Proc : Int
 Seq : Int
 Op : zju
 Resp : Int
def zjv.enc (r : zjv) : V := .agg [V.int .i64 r.Index, V.int .i64 r.Proc, V.int .i64 r.Seq, V.int .i64 r.Op.Code, V.int .i64 r.Op.A, V.int .i64 r.Op.B, V.int .i64 r.Resp]
structure zjw where
 index : Int
 size : Int
 sum : Int
def zjw.enc (r : zjw) : V := .agg [V.int .i64 r.index, V.int .i64 r.size, V.int .u64 r.sum]
def okSl {α : Type} (ok : α → Prop) (s : Sl α) : Prop := (s.z = true → s.l = []) ∧ s.l.length ≤ maxLen ∧ ∀ a ∈ s.l, ok a
def zjq.ok (r : zjq) : Prop := inR .i64 r.Kind ∧ okSl (fun x => inR .i64 x) r.L ∧ True ∧ inR .i64 r.To
def zjr.ok (r : zjr) : Prop := inR .i64 r.Proc ∧ inR .i64 r.Seq ∧ inR .i64 r.Resp
def zjs.ok (r : zjs) : Prop := inR .i64 r.Index ∧ zjq.ok r.State ∧ okSl (fun x => zjr.ok x) r.Table
def zjt.ok (r : zjt) : Prop := inR .i64 r.From ∧ inR .i64 r.To ∧ inR .i64 r.Ahead ∧ inR .i64 r.Behind ∧ okSl (fun x => inR .i64 x) r.Mid ∧ True ∧ inR .i64 r.Engine ∧ okSl (fun x => zjr.ok x) r.Table
def zju.ok (r : zju) : Prop := inR .i64 r.Code ∧ inR .i64 r.A ∧ inR .i64 r.B
def zjv.ok (r : zjv) : Prop := inR .i64 r.Index ∧ inR .i64 r.Proc ∧ inR .i64 r.Seq ∧ zju.ok r.Op ∧ inR .i64 r.Resp
def zjw.ok (r : zjw) : Prop := inR .i64 r.index ∧ inR .i64 r.size ∧ inR .u64 r.sum
def zjx : Nat → Int → Option (Int)
 | 0, _ => none
 | q + 1, a0 => (some (if (-1099511627776) < (if 1099511627776 < a0 then 1099511627776 else a0) then (if 1099511627776 < a0 then 1099511627776 else a0) else (-1099511627776)))
def zjy : Nat → Int → Option (Bool)
 | 0, _ => none
 | q + 1, a0 => ((zjx q a0).bind fun r1 => (some (!(decide (a0 = r1)))))
def zjz : Nat → Bool → (List Int) → Int → Int → Int → Option (Bool)
 | 0, _, _, _, _, _ => none
 | q + 1, v0z, v0l, v1, v5, v6 => (if (wrp .i64 (v6 + 1)) < (v0l.length : Int) then (if 0 ≤ v6 then ((v0l[v6.toNat]?).bind fun e1 => (if e1 ≤ v5 then (some false) else (if 255 < e1 then (some false) else (if 0 ≤ (wrp .i64 (v6 + 1)) then ((v0l[(wrp .i64 (v6 + 1)).toNat]?).bind fun e2 => (if e2 < v1 then (some false) else (if 1099511627776 < e2 then (some false) else (zjz q v0z v0l v1 e1 (wrp .i64 (v6 + 2)))))) else none)))) else none) else (if (Int.tmod (v0l.length : Int) 2) = 0 then (some (decide ((v0l.length : Int) ≤ 128))) else (some false)))
def zj0 : Nat → (Sl Int) → Int → Option (Bool)
 | 0, _, _ => none
 | q + 1, a0, a1 => (zjz q a0.z a0.l a1 (-1) 0)
def zj1 : Nat → Bool → (List Int) → Int → Int → Int → Bool → (List Int) → Bool → Int → Option (Int)
 | 0, _, _, _, _, _, _, _, _, _ => none
 | q + 1, v0z, v0l, v7, v8, h0_0, h0_1z, h0_1l, h0_2, h0_3 => (if v8 < v7 then (if 0 ≤ v8 then ((v0l[v8.toNat]?).bind fun e1 => ((zjy q e1).bind fun r2 => (if r2 = true then (some v8) else (zj1 q v0z v0l v7 (wrp .i64 (v8 + 1)) h0_0 h0_1z h0_1l h0_2 h0_3)))) else none) else (some (-1)))
def zj2 : Nat → Bool → (List Int) → Int → Bool → (List Int) → Bool → Int → Option (Int)
 | 0, _, _, _, _, _, _, _ => none
 | q + 1, v0z, v0l, h0_0, h0_1z, h0_1l, h0_2, h0_3 => (zj1 q v0z v0l (v0l.length : Int) 0 h0_0 h0_1z h0_1l h0_2 h0_3)
def zj3 : Nat → zjq → Option (Bool)
 | 0, _ => none
 | q + 1, a0 => (if a0.To < 0 then (some false) else (if 3 ≤ a0.To then (some false) else (if a0.Sealed = true then ((zj2 q a0.L.z a0.L.l a0.Kind a0.L.z a0.L.l a0.Sealed a0.To).bind fun r1 => (if a0.Kind = 0 then (if (a0.L.l.length : Int) = 1 then (some (!(decide (0 ≤ r1)))) else (some false)) else (if a0.Kind = 1 then (if (a0.L.l.length : Int) = 1 then (some (!(decide (0 ≤ r1)))) else (some false)) else (if a0.Kind = 2 then (if (a0.L.l.length : Int) ≤ 64 then (some (!(decide (0 ≤ r1)))) else (some false)) else (if a0.Kind = 3 then (if (a0.L.l.length : Int) ≤ 64 then (some (!(decide (0 ≤ r1)))) else (some false)) else (if a0.Kind = 4 then ((zj0 q a0.L (-1099511627776)).bind fun r2 => (some r2)) else (if a0.Kind = 5 then ((zj0 q a0.L 0).bind fun r3 => (some r3)) else (some false)))))))) else (if a0.To = 0 then ((zj2 q a0.L.z a0.L.l a0.Kind a0.L.z a0.L.l a0.Sealed a0.To).bind fun r4 => (if a0.Kind = 0 then (if (a0.L.l.length : Int) = 1 then (some (!(decide (0 ≤ r4)))) else (some false)) else (if a0.Kind = 1 then (if (a0.L.l.length : Int) = 1 then (some (!(decide (0 ≤ r4)))) else (some false)) else (if a0.Kind = 2 then (if (a0.L.l.length : Int) ≤ 64 then (some (!(decide (0 ≤ r4)))) else (some false)) else (if a0.Kind = 3 then (if (a0.L.l.length : Int) ≤ 64 then (some (!(decide (0 ≤ r4)))) else (some false)) else (if a0.Kind = 4 then ((zj0 q a0.L (-1099511627776)).bind fun r5 => (some r5)) else (if a0.Kind = 5 then ((zj0 q a0.L 0).bind fun r6 => (some r6)) else (some false)))))))) else (some false)))))
def zj4 : Nat → zjr → Option (Bool)
 | 0, _ => none
 | q + 1, a0 => (if 0 ≤ a0.Proc then (if a0.Proc ≤ 64 then (if 0 ≤ a0.Seq then (if a0.Seq < 4611686018427387904 then (if (-1125899906842624) ≤ a0.Resp then (some (decide (a0.Resp ≤ 1125899906842624))) else (some false)) else (some false)) else (some false)) else (some false)) else (some false))
def zj5 : Nat → Bool → (List zjr) → Bool → (List zjr) → Int → Int → Option (Bool)
 | 0, _, _, _, _, _, _ => none
 | q + 1, v0z, v0l, v5z, v5l, v6, v7 => (if v7 < v6 then (if 0 ≤ v7 then ((v5l[v7.toNat]?).bind fun e1 => ((zj4 q e1).bind fun r2 => (if r2 = true then (if 0 < v7 then (if 0 ≤ (wrp .i64 (v7 - 1)) then ((v0l[(wrp .i64 (v7 - 1)).toNat]?).bind fun e3 => (if e1.Proc ≤ e3.Proc then (some false) else (zj5 q v0z v0l v5z v5l v6 (wrp .i64 (v7 + 1))))) else none) else (zj5 q v0z v0l v5z v5l v6 (wrp .i64 (v7 + 1)))) else (some false)))) else none) else (some true))
def zj6 : Nat → (Sl zjr) → Option (Bool)
 | 0, _ => none
 | q + 1, a0 => (zj5 q a0.z a0.l a0.z a0.l (a0.l.length : Int) 0)
def zj7 : Nat → zjs → Option (Bool)
 | 0, _ => none
 | q + 1, a0 => (if 0 ≤ a0.Index then (if a0.Index < 4611686018427387904 then ((zj3 q a0.State).bind fun r1 => (if r1 = true then ((zj6 q a0.Table).bind fun r2 => (some r2)) else (some false))) else (some false)) else (some false))
def zj8 : Nat → (Sl Int) → Option ((Ow Int))
 | 0, _ => none
 | q + 1, a0 => (if a0.z = true then (some ⟨true, true, []⟩) else (if a0.l.length ≤ 4294967296 then (some ⟨false, true, a0.l⟩) else none))
def zj9 : Nat → (Sl zjr) → Option ((Ow zjr))
 | 0, _ => none
 | q + 1, a0 => (if a0.z = true then (some ⟨true, true, []⟩) else (if a0.l.length ≤ 4294967296 then (some ⟨false, true, a0.l⟩) else none))
def zka : Nat → (Ow zjr) → Int → (Ow zjr) → Option (Ow zjr)
 | 0, _, _, _ => none
 | q + 1, a0, a1, a2 => (if insOk a0 a1 a2 then (some (insR a0 a1 a2)) else none)
def zkb : Nat → Int → Int → Int → Int → Int → Int → Int → Int → Int → Bool → (List zjr) → Bool → Option (Int)
 | 0, _, _, _, _, _, _, _, _, _, _, _, _ => none
 | q + 1, v7, v8, h0_0, h0_1, h0_2, h0_3, h0_4, h0_5, h0_6, h1z, h1l, h1x => (if v8 < v7 then (if 0 ≤ v8 then (if v8.toNat < h1l.length then ((h1l[v8.toNat]?).bind fun e1 => (if e1.Proc = h0_1 then (some v8) else (zkb q v7 (wrp .i64 (v8 + 1)) h0_0 h0_1 h0_2 h0_3 h0_4 h0_5 h0_6 h1z h1l h1x))) else none) else none) else (some (-1)))
def zkc : Nat → Int → Int → Int → Int → Int → Int → Int → Bool → (List zjr) → Bool → Option (Int)
 | 0, _, _, _, _, _, _, _, _, _, _ => none
 | q + 1, h0_0, h0_1, h0_2, h0_3, h0_4, h0_5, h0_6, h1z, h1l, h1x => (zkb q (h1l.length : Int) 0 h0_0 h0_1 h0_2 h0_3 h0_4 h0_5 h0_6 h1z h1l h1x)
def zkd : Nat → Int → Int → Int → Int → Int → Int → Int → Int → Int → Bool → (List zjr) → Bool → Option (Nat × (List zjr) × Bool)
 | 0, _, _, _, _, _, _, _, _, _, _, _, _ => none
 | q + 1, v5, v6, h0_0, h0_1, h0_2, h0_3, h0_4, h0_5, h0_6, h1z, h1l, h1x => (if v6 < (h1l.length : Int) then (if 0 ≤ v6 then (if v6.toNat < h1l.length then ((h1l[v6.toNat]?).bind fun e2 => (if e2.Proc = h0_1 then (zkd q v5 (wrp .i64 (v6 + 1)) h0_0 h0_1 h0_2 h0_3 h0_4 h0_5 h0_6 h1z h1l h1x) else (if 0 ≤ v5 then (if v5.toNat < h1l.length then ((h1l[v5.toNat]?).bind fun e3 => (if h1x = true then (zkd q (wrp .i64 (v5 + 1)) (wrp .i64 (v6 + 1)) h0_0 h0_1 h0_2 h0_3 h0_4 h0_5 h0_6 h1z (List.set h1l v5.toNat e2) true) else none)) else none) else none))) else none) else none) else (if 0 ≤ v5 then (if v5.toNat ≤ h1l.length then (if h1x = true then (if v5.toNat ≤ (((min v5.toNat h1l.length) + (h1l.length - v5.toNat)) + (h1l.length - (v5.toNat + (h1l.length - v5.toNat)))) then (if h1z = true then (some (v5.toNat, (((List.take v5.toNat h1l) ++ (List.replicate (h1l.length - v5.toNat) (⟨0, 0, 0⟩ : zjr))) ++ (List.drop (v5.toNat + (h1l.length - v5.toNat)) h1l)), true)) else (some (v5.toNat, (((List.take v5.toNat h1l) ++ (List.replicate (h1l.length - v5.toNat) (⟨0, 0, 0⟩ : zjr))) ++ (List.drop (v5.toNat + (h1l.length - v5.toNat)) h1l)), true))) else none) else none) else none) else none))
def zke : Nat → Int → Int → Int → Int → Int → Int → Int → Bool → (List zjr) → Bool → Option (Nat × (List zjr) × Bool)
 | 0, _, _, _, _, _, _, _, _, _, _ => none
 | q + 1, h0_0, h0_1, h0_2, h0_3, h0_4, h0_5, h0_6, h1z, h1l, h1x => ((zkc q h0_0 h0_1 h0_2 h0_3 h0_4 h0_5 h0_6 h1z h1l h1x).bind fun r1 => (if r1 = (-1) then (some (h1l.length, h1l, h1x)) else (zkd q r1 (wrp .i64 (r1 + 1)) h0_0 h0_1 h0_2 h0_3 h0_4 h0_5 h0_6 h1z h1l h1x)))
def zkf : Nat → Nat → Int → Int → Int → Int → Int → Int → Int → Int → Int → Bool → (List zjr) → Bool → Option (Int)
 | 0, _, _, _, _, _, _, _, _, _, _, _, _, _ => none
 | q + 1, v0len, v7, v8, h0_0, h0_1, h0_2, h0_3, h0_4, h0_5, h0_6, h1z, h1l, h1x => (if v8 < v7 then (if 0 ≤ v8 then (if v8.toNat < v0len then ((h1l[v8.toNat]?).bind fun e1 => (if h0_1 < e1.Proc then (some v8) else (zkf q v0len v7 (wrp .i64 (v8 + 1)) h0_0 h0_1 h0_2 h0_3 h0_4 h0_5 h0_6 h1z h1l h1x))) else none) else none) else (some (-1)))
def zkg : Nat → Nat → Int → Int → Int → Int → Int → Int → Int → Bool → (List zjr) → Bool → Option (Int)
 | 0, _, _, _, _, _, _, _, _, _, _, _ => none
 | q + 1, v0len, h0_0, h0_1, h0_2, h0_3, h0_4, h0_5, h0_6, h1z, h1l, h1x => (zkf q v0len (v0len : Int) 0 h0_0 h0_1 h0_2 h0_3 h0_4 h0_5 h0_6 h1z h1l h1x)
def zkh : Nat → (Sl zjr) → zjv → Option ((Ow zjr))
 | 0, _, _ => none
 | q + 1, a0, a1 => ((zj9 q a0).bind fun r1 => ((zke q a1.Index a1.Proc a1.Seq a1.Op.Code a1.Op.A a1.Op.B a1.Resp r1.n r1.xs r1.x).bind fun r2 => ((zkg q r2.1 a1.Index a1.Proc a1.Seq a1.Op.Code a1.Op.A a1.Op.B a1.Resp r1.n r2.2.1 r2.2.2).bind fun r3 => (if r3 < 0 then (if r2.2.2 = true then ((zka q ⟨r1.n, r2.2.2, (List.take r2.1 r2.2.1)⟩ (r2.1 : Int) ⟨false, true, [(⟨a1.Proc, a1.Seq, a1.Resp⟩ : zjr)]⟩).bind fun r4 => (some r4)) else none) else (if r2.2.2 = true then ((zka q ⟨r1.n, r2.2.2, (List.take r2.1 r2.2.1)⟩ r3 ⟨false, true, [(⟨a1.Proc, a1.Seq, a1.Resp⟩ : zjr)]⟩).bind fun r5 => (some r5)) else none)))))
def zki : Nat → Bool → (List Int) → Bool → (List Int) → Int → Int → Option (Bool)
 | 0, _, _, _, _, _, _ => none
 | q + 1, v0z, v0l, v1z, v1l, v12, v13 => (if v13 < v12 then (if 0 ≤ v13 then ((v0l[v13.toNat]?).bind fun e1 => ((v1l[v13.toNat]?).bind fun e2 => (if e1 = e2 then (zki q v0z v0l v1z v1l v12 (wrp .i64 (v13 + 1))) else (some false)))) else none) else (some true))
def zkj : Nat → (Sl Int) → (Sl Int) → Option (Bool)
 | 0, _, _ => none
 | q + 1, a0, a1 => (if (a0.l.length : Int) = (a1.l.length : Int) then (zki q a0.z a0.l a1.z a1.l (a0.l.length : Int) 0) else (some false))
def zkk : Nat → zjq → zjq → Option (Bool)
 | 0, _, _ => none
 | q + 1, a0, a1 => (if a0.Kind = a1.Kind then (if (a0.Sealed == a1.Sealed) = true then (if a0.To = a1.To then ((zkj q a0.L a1.L).bind fun r1 => (some r1)) else (some false)) else (some false)) else (some false))
def zkl : Nat → Bool → (List zjr) → Bool → (List zjr) → Int → Int → Option (Bool)
 | 0, _, _, _, _, _, _ => none
 | q + 1, v0z, v0l, v1z, v1l, v12, v13 => (if v13 < v12 then (if 0 ≤ v13 then ((v0l[v13.toNat]?).bind fun e1 => ((v1l[v13.toNat]?).bind fun e2 => (if e1.Proc = e2.Proc then (if e1.Seq = e2.Seq then (if e1.Resp = e2.Resp then (zkl q v0z v0l v1z v1l v12 (wrp .i64 (v13 + 1))) else (some false)) else (some false)) else (some false)))) else none) else (some true))
def zkm : Nat → (Sl zjr) → (Sl zjr) → Option (Bool)
 | 0, _, _ => none
 | q + 1, a0, a1 => (if (a0.l.length : Int) = (a1.l.length : Int) then (zkl q a0.z a0.l a1.z a1.l (a0.l.length : Int) 0) else (some false))
def zkn : Nat → zjs → zjs → Option (Bool)
 | 0, _, _ => none
 | q + 1, a0, a1 => (if a0.Index = a1.Index then ((zkk q a0.State a1.State).bind fun r1 => (if r1 = true then ((zkm q a0.Table a1.Table).bind fun r2 => (some r2)) else (some false))) else (some false))
def zko : Nat → zjq → Option (Bool)
 | 0, _ => none
 | q + 1, a0 => (some (decide ((a0.L.l.length : Int) ≤ 300)))
def zkp : Nat → zjs → Option (Bool)
 | 0, _ => none
 | q + 1, a0 => ((zko q a0.State).bind fun r1 => (if r1 = true then (some (decide ((a0.Table.l.length : Int) ≤ 100))) else (some false)))
def zkq : Nat → zju → Option (Bool)
 | 0, _ => none
 | q + 1, a0 => (if 0 ≤ a0.Code then (if a0.Code ≤ 10 then ((zjx q a0.A).bind fun r1 => (if a0.A = r1 then ((zjx q a0.B).bind fun r2 => (some (decide (a0.B = r2)))) else (some false))) else (some false)) else (some false))
def zkr : Nat → zjv → Option (Bool)
 | 0, _ => none
 | q + 1, a0 => (if 0 ≤ a0.Index then (if a0.Index < 4611686018427387904 then (if 0 ≤ a0.Proc then (if a0.Proc ≤ 64 then (if 0 ≤ a0.Seq then (if a0.Seq < 4611686018427387904 then ((zkq q a0.Op).bind fun r1 => (if r1 = true then (if (-1125899906842624) ≤ a0.Resp then (some (decide (a0.Resp ≤ 1125899906842624))) else (some false)) else (some false))) else (some false)) else (some false)) else (some false)) else (some false)) else (some false)) else (some false))
def zks : Nat → zjq → zju → Option (zjq × Int)
 | 0, _, _ => none
 | q + 1, a0, a1 => ((a0.L.l[0]?).bind fun e1 => (if a1.Code = 7 then (some (a0, e1)) else (if a0.Kind = 0 then (if a1.Code = 1 then ((zjx q a1.A).bind fun r2 => ((zjx q (wrp .i64 (e1 + r2))).bind fun r3 => (some ((⟨a0.Kind, ⟨false, [r3]⟩, a0.Sealed, a0.To⟩ : zjq), e1)))) else (if a0.Kind = 1 then (if a1.Code = 2 then ((zjx q a1.A).bind fun r4 => (some ((⟨a0.Kind, ⟨false, [r4]⟩, a0.Sealed, a0.To⟩ : zjq), e1))) else (some (a0, 0))) else (some (a0, 0)))) else (if a0.Kind = 1 then (if a1.Code = 2 then ((zjx q a1.A).bind fun r5 => (some ((⟨a0.Kind, ⟨false, [r5]⟩, a0.Sealed, a0.To⟩ : zjq), e1))) else (some (a0, 0))) else (some (a0, 0))))))
def zkt : Nat → (Ow Int) → Int → Int → Option ((Ow Int))
 | 0, _, _, _ => none
 | q + 1, a0, a1, a2 => (if 0 ≤ a1 then (if a1 ≤ a2 then (if a2 ≤ (a0.xs.length : Int) then (if a1 = a2 then (some a0) else (if a1.toNat ≤ a0.xs.length then (if a0.n = true then (if 0 ≤ a2 then (if a2.toNat ≤ a0.xs.length then (if (a0.xs.length + (a0.xs.length - a2.toNat)) ≤ 4294967296 then (if (((a0.xs.length + (a0.xs.length - a2.toNat)) : Nat) : Int) ≤ (a0.xs.length : Int) then (if a0.xs.length ≤ (a0.xs.length + (a0.xs.length - a2.toNat)) then (if (a0.xs.length - a2.toNat) = 0 then none else (if a0.x = true then (some ⟨(a0.n && (decide ((a0.xs.length - a2.toNat) = 0))), true, (((List.take (a0.xs.length + (a0.xs.length - a2.toNat)) (a0.xs ++ (List.drop a2.toNat a0.xs))) ++ (List.replicate (a0.xs.length - (a0.xs.length + (a0.xs.length - a2.toNat))) 0)) ++ (List.drop ((a0.xs.length + (a0.xs.length - a2.toNat)) + (a0.xs.length - (a0.xs.length + (a0.xs.length - a2.toNat)))) (a0.xs ++ (List.drop a2.toNat a0.xs))))⟩) else none)) else none) else none) else none) else none) else none) else (if 0 ≤ a2 then (if a2.toNat ≤ a0.xs.length then (if (a1.toNat + (a0.xs.length - a2.toNat)) ≤ a0.xs.length then (if a0.x = true then (if (((a1.toNat + (a0.xs.length - a2.toNat)) : Nat) : Int) ≤ (a0.xs.length : Int) then (if a0.xs.length ≤ (((min a1.toNat a0.xs.length) + (a0.xs.length - a2.toNat)) + (a0.xs.length - (a1.toNat + (a0.xs.length - a2.toNat)))) then (some ⟨a0.n, true, (List.take (a1.toNat + (a0.xs.length - a2.toNat)) (((List.take (a1.toNat + (a0.xs.length - a2.toNat)) (((List.take a1.toNat a0.xs) ++ (List.drop a2.toNat a0.xs)) ++ (List.drop (a1.toNat + (a0.xs.length - a2.toNat)) a0.xs))) ++ (List.replicate (a0.xs.length - (a1.toNat + (a0.xs.length - a2.toNat))) 0)) ++ (List.drop ((a1.toNat + (a0.xs.length - a2.toNat)) + (a0.xs.length - (a1.toNat + (a0.xs.length - a2.toNat)))) (((List.take a1.toNat a0.xs) ++ (List.drop a2.toNat a0.xs)) ++ (List.drop (a1.toNat + (a0.xs.length - a2.toNat)) a0.xs)))))⟩) else none) else none) else none) else none) else none) else none)) else none)) else none) else none) else none)
def zku : Nat → zjq → zju → Option (zjq × Int)
 | 0, _, _ => none
 | q + 1, a0, a1 => (if a1.Code = 7 then (some (a0, (a0.L.l.length : Int))) else (if a1.Code = 3 then (if (a0.L.l.length : Int) < 64 then ((zj8 q a0.L).bind fun r1 => ((zjx q a1.A).bind fun r2 => (if (r1.xs.length + 1) ≤ 4294967296 then (some ((⟨a0.Kind, ⟨false, (r1.xs ++ [r2])⟩, a0.Sealed, a0.To⟩ : zjq), (wrp .i64 ((a0.L.l.length : Int) + 1)))) else none))) else (some (a0, (-1)))) else (if a1.Code = 4 then (if (a0.L.l.length : Int) = 0 then (some (a0, (-1))) else (if a0.Kind = 2 then ((a0.L.l[0]?).bind fun e3 => ((zj8 q a0.L).bind fun r4 => ((zkt q r4 0 (wrp .i64 1)).bind fun r5 => (some ((⟨a0.Kind, ⟨r5.n, r5.xs⟩, a0.Sealed, a0.To⟩ : zjq), e3))))) else (if 0 ≤ (wrp .i64 ((a0.L.l.length : Int) - 1)) then ((a0.L.l[(wrp .i64 ((a0.L.l.length : Int) - 1)).toNat]?).bind fun e6 => ((zj8 q a0.L).bind fun r7 => ((zkt q r7 (wrp .i64 ((a0.L.l.length : Int) - 1)) (wrp .i64 ((wrp .i64 ((a0.L.l.length : Int) - 1)) + 1))).bind fun r8 => (some ((⟨a0.Kind, ⟨r8.n, r8.xs⟩, a0.Sealed, a0.To⟩ : zjq), e6))))) else none))) else (some (a0, 0)))))
def zkv : Nat → Bool → (List Int) → Int → Int → Option (Int × Bool)
 | 0, _, _, _, _ => none
 | q + 1, v0z, v0l, v1, v6 => (if v6 < (v0l.length : Int) then (if 0 ≤ v6 then ((v0l[v6.toNat]?).bind fun e1 => (if e1 < v1 then (zkv q v0z v0l v1 (wrp .i64 (v6 + 2))) else (some (v6, (decide (e1 = v1)))))) else none) else (some (v6, false)))
def zkw : Nat → (Sl Int) → Int → Option (Int × Bool)
 | 0, _, _ => none
 | q + 1, a0, a1 => (zkv q a0.z a0.l a1 0)
def zkx : Nat → (Sl Int) → Int → Option (Int)
 | 0, _, _ => none
 | q + 1, a0, a1 => ((zkw q a0 a1).bind fun r1 => (if r1.2 = true then (if 0 ≤ (wrp .i64 (r1.1 + 1)) then ((a0.l[(wrp .i64 (r1.1 + 1)).toNat]?).bind fun e2 => (some e2)) else none) else (some (-1))))
def zky : Nat → (Ow Int) → Int → (Ow Int) → Option (Ow Int)
 | 0, _, _, _ => none
 | q + 1, a0, a1, a2 => (if insOk a0 a1 a2 then (some (insR a0 a1 a2)) else none)
def zkz : Nat → (Sl Int) → Int → Int → Option ((Sl Int) × Bool)
 | 0, _, _, _ => none
 | q + 1, a0, a1, a2 => ((zkw q a0 a1).bind fun r1 => (if r1.2 = true then ((zj8 q a0).bind fun r2 => (if 0 ≤ (wrp .i64 (r1.1 + 1)) then (if (wrp .i64 (r1.1 + 1)).toNat < r2.xs.length then ((r2.xs[(wrp .i64 (r1.1 + 1)).toNat]?).bind fun e3 => (if r2.x = true then (some (⟨r2.n, (List.set r2.xs ((wrp .i64 (r1.1 + 1)).toNat) a2)⟩, true)) else none)) else none) else none)) else (if 128 ≤ (a0.l.length : Int) then (some (a0, false)) else ((zj8 q a0).bind fun r4 => ((zky q r4 r1.1 ⟨false, true, [a1, a2]⟩).bind fun r5 => (some (⟨r5.n, r5.xs⟩, true)))))))
def zk0 : Nat → zjq → zju → Option (zjq × Int)
 | 0, _, _ => none
 | q + 1, a0, a1 => (if a1.Code = 7 then (if a1.A < 0 then (some (a0, (-1))) else (if 255 < a1.A then (some (a0, (-1))) else ((zkx q a0.L a1.A).bind fun r1 => ((zkw q a0.L a1.A).bind fun r2 => (if a1.Code = 6 then (if r2.2 = true then ((zj8 q a0.L).bind fun r3 => ((zkt q r3 r2.1 (wrp .i64 (r2.1 + 2))).bind fun r4 => (some ((⟨a0.Kind, ⟨r4.n, r4.xs⟩, a0.Sealed, a0.To⟩ : zjq), r1)))) else (if a1.Code = 5 then ((zjx q a1.B).bind fun r5 => ((zkz q a0.L a1.A r5).bind fun r6 => (if r6.2 = true then (some ((⟨a0.Kind, r6.1, a0.Sealed, a0.To⟩ : zjq), r1)) else (some (a0, (-2)))))) else (some (a0, r1)))) else (if a1.Code = 5 then ((zjx q a1.B).bind fun r7 => ((zkz q a0.L a1.A r7).bind fun r8 => (if r8.2 = true then (some ((⟨a0.Kind, r8.1, a0.Sealed, a0.To⟩ : zjq), r1)) else (some (a0, (-2)))))) else (some (a0, r1)))))))) else (if a1.Code = 6 then (if a1.A < 0 then (some (a0, (-1))) else (if 255 < a1.A then (some (a0, (-1))) else ((zkx q a0.L a1.A).bind fun r9 => ((zkw q a0.L a1.A).bind fun r10 => (if r10.2 = true then ((zj8 q a0.L).bind fun r11 => ((zkt q r11 r10.1 (wrp .i64 (r10.1 + 2))).bind fun r12 => (some ((⟨a0.Kind, ⟨r12.n, r12.xs⟩, a0.Sealed, a0.To⟩ : zjq), r9)))) else (if a1.Code = 5 then ((zjx q a1.B).bind fun r13 => ((zkz q a0.L a1.A r13).bind fun r14 => (if r14.2 = true then (some ((⟨a0.Kind, r14.1, a0.Sealed, a0.To⟩ : zjq), r9)) else (some (a0, (-2)))))) else (some (a0, r9)))))))) else (if a1.Code = 5 then (if a1.A < 0 then (some (a0, (-1))) else (if 255 < a1.A then (some (a0, (-1))) else ((zkx q a0.L a1.A).bind fun r15 => ((zkw q a0.L a1.A).bind fun r16 => ((zjx q a1.B).bind fun r17 => ((zkz q a0.L a1.A r17).bind fun r18 => (if r18.2 = true then (some ((⟨a0.Kind, r18.1, a0.Sealed, a0.To⟩ : zjq), r15)) else (some (a0, (-2)))))))))) else (some (a0, 0)))))
def zk1 : Nat → zjq → zju → Option (zjq × Int)
 | 0, _, _ => none
 | q + 1, a0, a1 => (if a1.A < 0 then (some (a0, 0)) else (if 65536 ≤ a1.A then (some (a0, 0)) else (if a1.B < 0 then (some (a0, 0)) else ((zkx q a0.L (wrp .i64 (Int.tdiv a1.A 256))).bind fun r1 => ((zkx q a0.L (Int.tmod a1.A 256)).bind fun r2 => (if r1 < a1.B then (some (a0, 0)) else (if (wrp .i64 (Int.tdiv a1.A 256)) = (Int.tmod a1.A 256) then (some (a0, 1)) else ((zkz q a0.L (Int.tmod a1.A 256) (wrp .i64 ((if r2 < 0 then 0 else r2) + a1.B))).bind fun r3 => (if r3.2 = true then (if 1099511627776 < (wrp .i64 ((if r2 < 0 then 0 else r2) + a1.B)) then (some (a0, 0)) else ((zkz q r3.1 (wrp .i64 (Int.tdiv a1.A 256)) (wrp .i64 (r1 - a1.B))).bind fun r4 => (some ((⟨a0.Kind, r4.1, a0.Sealed, a0.To⟩ : zjq), 1)))) else (some (a0, 0)))))))))))
def zk2 : Nat → zjq → zju → Option (zjq × Int)
 | 0, _, _ => none
 | q + 1, a0, a1 => (if a1.Code = 9 then ((zk1 q a0 a1).bind fun r1 => (some (r1.1, r1.2))) else (if a1.Code = 7 then (if a1.A < 0 then (some (a0, (-1))) else (if 255 < a1.A then (some (a0, (-1))) else ((zkx q a0.L a1.A).bind fun r2 => (some (a0, r2))))) else (if a1.Code = 8 then (if a1.A < 0 then (some (a0, (-1))) else (if 255 < a1.A then (some (a0, (-1))) else (if a1.B < 0 then (some (a0, (-1))) else ((zkx q a0.L a1.A).bind fun r3 => ((zjx q a1.B).bind fun r4 => ((zjx q (wrp .i64 ((if r3 < 0 then 0 else r3) + r4))).bind fun r5 => ((zkz q a0.L a1.A r5).bind fun r6 => (if r6.2 = true then (some ((⟨a0.Kind, r6.1, a0.Sealed, a0.To⟩ : zjq), r5)) else (some (a0, (-2))))))))))) else (some (a0, 0)))))
def zk3 : Nat → zjq → zju → Option (zjq × Int)
 | 0, _, _ => none
 | q + 1, a0, a1 => ((zj3 q a0).bind fun r1 => (if r1 = true then (if a0.Sealed = true then (some (a0, (-1125899906842624))) else (if a1.Code = 10 then (if 0 ≤ a1.A then (if a1.A < 3 then (some ((⟨a0.Kind, a0.L, true, a1.A⟩ : zjq), 0)) else (some ((⟨a0.Kind, a0.L, true, a0.To⟩ : zjq), 0))) else (some ((⟨a0.Kind, a0.L, true, a0.To⟩ : zjq), 0))) else (if a0.Kind = 0 then ((zks q a0 a1).bind fun r2 => (some (r2.1, r2.2))) else (if a0.Kind = 1 then ((zks q a0 a1).bind fun r3 => (some (r3.1, r3.2))) else (if a0.Kind = 2 then ((zku q a0 a1).bind fun r4 => (some (r4.1, r4.2))) else (if a0.Kind = 3 then ((zku q a0 a1).bind fun r5 => (some (r5.1, r5.2))) else (if a0.Kind = 4 then ((zk0 q a0 a1).bind fun r6 => (some (r6.1, r6.2))) else ((zk2 q a0 a1).bind fun r7 => (some (r7.1, r7.2)))))))))) else (some (a0, 0))))
def zk4 : Nat → Bool → (List zjv) → Int → Int → Int → Int → Bool → (List Int) → Bool → Int → Bool → (List zjr) → Bool → Option (zjs × Int)
 | 0, _, _, _, _, _, _, _, _, _, _, _, _, _ => none
 | q + 1, v8z, v8l, v9, v10, h0_0, h0_1, h0_2z, h0_2l, h0_3, h0_4, h2z, h2l, h2x => (if v10 < v9 then (if 0 ≤ v10 then ((v8l[v10.toNat]?).bind fun e5 => (if e5.Index = h0_0 then ((zkr q e5).bind fun r6 => (if r6 = true then ((zk3 q (⟨h0_1, ⟨h0_2z, h0_2l⟩, h0_3, h0_4⟩ : zjq) e5.Op).bind fun r7 => ((zkh q ⟨h2z, h2l⟩ (⟨e5.Index, e5.Proc, e5.Seq, e5.Op, r7.2⟩ : zjv)).bind fun r8 => (zk4 q v8z v8l v9 (wrp .i64 (v10 + 1)) (wrp .i64 (h0_0 + 1)) r7.1.Kind r7.1.L.z r7.1.L.l r7.1.Sealed r7.1.To r8.n r8.xs r8.x))) else (some ((⟨0, (⟨0, ⟨true, []⟩, false, 0⟩ : zjq), ⟨true, []⟩⟩ : zjs), 1)))) else (some ((⟨0, (⟨0, ⟨true, []⟩, false, 0⟩ : zjq), ⟨true, []⟩⟩ : zjs), 15)))) else none) else (some ((⟨h0_0, (⟨h0_1, ⟨h0_2z, h0_2l⟩, h0_3, h0_4⟩ : zjq), ⟨h2z, h2l⟩⟩ : zjs), 0)))
def zk5 : Nat → Bool → (List zjv) → Int → Int → Int → Bool → (List Int) → Bool → Int → Bool → (List zjr) → Option (zjs × Int)
 | 0, _, _, _, _, _, _, _, _, _, _, _ => none
 | q + 1, v8z, v8l, v9, h0_0, h0_1, h0_2z, h0_2l, h0_3, h0_4, h0_5z, h0_5l => (if 0 < v9 then ((v8l[0]?).bind fun e1 => (if e1.Index = h0_0 then ((zkr q e1).bind fun r2 => (if r2 = true then ((zk3 q (⟨h0_1, ⟨h0_2z, h0_2l⟩, h0_3, h0_4⟩ : zjq) e1.Op).bind fun r3 => ((zkh q ⟨h0_5z, h0_5l⟩ (⟨e1.Index, e1.Proc, e1.Seq, e1.Op, r3.2⟩ : zjv)).bind fun r4 => (zk4 q v8z v8l v9 (wrp .i64 1) (wrp .i64 (h0_0 + 1)) r3.1.Kind r3.1.L.z r3.1.L.l r3.1.Sealed r3.1.To r4.n r4.xs r4.x))) else (some ((⟨0, (⟨0, ⟨true, []⟩, false, 0⟩ : zjq), ⟨true, []⟩⟩ : zjs), 1)))) else (some ((⟨0, (⟨0, ⟨true, []⟩, false, 0⟩ : zjq), ⟨true, []⟩⟩ : zjs), 15)))) else (some ((⟨h0_0, (⟨h0_1, ⟨h0_2z, h0_2l⟩, h0_3, h0_4⟩ : zjq), ⟨h0_5z, h0_5l⟩⟩ : zjs), 0)))
def zk6 : Nat → zjs → (Sl zjv) → Option (zjs × Int)
 | 0, _, _ => none
 | q + 1, a0, a1 => (zk5 q a1.z a1.l (a1.l.length : Int) a0.Index a0.State.Kind a0.State.L.z a0.State.L.l a0.State.Sealed a0.State.To a0.Table.z a0.Table.l)
mutual
def zk7 : Nat → Int → (List Int) → (List Int) → Option ((List Int))
 | 0, _, _, _ => none
 | q + 1, v5, h0_0, h1_0 => (if v5 < 256 then (zk8 q v5 (wrp .u32 v5) v5 0 h0_0 h1_0) else (if 256 ≤ h1_0.length then (if (min 256 h1_0.length) = 256 then (if 256 ≤ h0_0.length then (if 256 ≤ (256 + (h0_0.length - 256)) then (some (List.take 256 ((List.take 256 h1_0) ++ (List.drop 256 h0_0)))) else none) else none) else none) else none))
def zk8 : Nat → Int → Int → Int → Int → (List Int) → (List Int) → Option ((List Int))
 | 0, _, _, _, _, _, _ => none
 | q + 1, v2, v3, v5, v10, h0_0, h1_0 => (if v10 < 8 then (zk8 q v2 (ibits .xor .u32 (ishr .u32 v3 1) (ibits .and .u32 2197175160 (wrp .u32 (0 - (ibits .and .u32 v3 1))))) v5 (wrp .i64 (v10 + 1)) h0_0 h1_0) else (if 0 ≤ v2 then (if v2.toNat < 256 then (if (v2.toNat + 1) ≤ h1_0.length then (zk7 q (wrp .i64 (v5 + 1)) h0_0 (List.set h1_0 v2.toNat v3)) else none) else none) else none))
end
def zk9 : Nat → Option ((List Int))
 | 0 => none
 | q + 1 => (zk7 q 0 (List.replicate 256 0) (List.replicate 256 0))
def zla : Nat → Int → Bool → (List Int) → Int → Int → (List Int) → Option (Int)
 | 0, _, _, _, _, _, _ => none
 | q + 1, v6, v12z, v12l, v13, v14, h0_0 => (if v14 < v13 then (if 0 ≤ v14 then ((v12l[v14.toNat]?).bind fun e2 => (if 0 ≤ (ibits .xor .u8 (wrp .u8 v6) e2) then (if (ibits .xor .u8 (wrp .u8 v6) e2).toNat < 256 then ((h0_0[(ibits .xor .u8 (wrp .u8 v6) e2).toNat]?).bind fun e3 => (zla q (ibits .xor .u32 e3 (ishr .u32 v6 8)) v12z v12l v13 (wrp .i64 (v14 + 1)) h0_0)) else none) else none)) else none) else (some (ibits .xor .u32 4294967295 v6)))
def zlb : Nat → Int → (Sl Int) → Option (Int)
 | 0, _, _ => none
 | q + 1, a0, a1 => ((zk9 q).bind fun r1 => (if r1.length = 256 then (zla q (ibits .xor .u32 4294967295 a0) a1.z a1.l (a1.l.length : Int) 0 r1) else none))
def zlc : Nat → (Sl Int) → Option (Int)
 | 0, _ => none
 | q + 1, a0 => ((zlb q 0 a0).bind fun r1 => (some r1))
def zld : Nat → Int → Int → Int → Bool → (List Int) → Option ((Ow Int))
 | 0, _, _, _, _, _ => none
 | q + 1, v0, v7, v8, h0z, h0l => (if v8 < v7 then (if (wrp .i64 (8 * v8)) < 0 then none else (if (h0l.length + 1) ≤ 4294967296 then (zld q v0 v7 (wrp .i64 (v8 + 1)) false (h0l ++ [(wrp .u8 (ishr .u64 v0 (wrp .i64 (8 * v8))))])) else none)) else (some ⟨h0z, true, h0l⟩))
def zle : Nat → Int → Int → Option ((Ow Int))
 | 0, _, _ => none
 | q + 1, a0, a1 => (zld q a0 a1 0 true [])
def zlf : Nat → Int → Option ((Ow Int))
 | 0, _ => none
 | q + 1, a0 => ((zle q (wrp .u64 a0) 4).bind fun r1 => (some r1))
def zlg : Nat → (Sl Int) → (Sl Int) → Option ((Ow Int))
 | 0, _, _ => none
 | q + 1, a0, a1 => ((zlc q a0).bind fun r1 => ((zlb q r1 a1).bind fun r2 => ((zlf q r2).bind fun r3 => (some r3))))
def zlh : Nat → Int → Bool → (List Int) → Bool → Option ((Ow Int))
 | 0, _, _, _, _ => none
 | q + 1, v1, h0z, h0l, h0x => (if 128 ≤ v1 then (if (h0l.length + 1) ≤ 4294967296 then (zlh q (ishr .u64 v1 7) false (h0l ++ [(ibits .or .u8 (wrp .u8 v1) 128)]) h0x) else none) else (if (h0l.length + 1) ≤ 4294967296 then (some ⟨false, h0x, (h0l ++ [(wrp .u8 v1)])⟩) else none))
def zli : Nat → (Ow Int) → Int → Option ((Ow Int))
 | 0, _, _ => none
 | q + 1, a0, a1 => (zlh q a1 a0.n a0.xs a0.x)
def zlj : Nat → (Ow Int) → Int → Option ((Ow Int))
 | 0, _, _ => none
 | q + 1, a0, a1 => (if a1 < 0 then (some a0) else (if 4611686018427387904 ≤ a1 then (some a0) else ((zli q a0 (wrp .u64 a1)).bind fun r1 => (some r1))))
def zlk : Nat → Int → Option (Int)
 | 0, _ => none
 | q + 1, a0 => (some (ibits .xor .u64 (ishl .u64 (wrp .u64 a0) 1) (wrp .u64 (ishr .i64 a0 63))))
def zll : Nat → (Ow Int) → Int → Option ((Ow Int))
 | 0, _, _ => none
 | q + 1, a0, a1 => ((zlk q a1).bind fun r1 => ((zli q a0 r1).bind fun r2 => (some r2)))
def zlm : Nat → Nat → Bool → (List (Sl Int)) → Int → Int → Bool → (List Int) → Option ((Ow Int))
 | 0, _, _, _, _, _, _, _ => none
 | q + 1, v6len, v25z, v25l, v26, v27, h0z, h0l => (if v27 < v26 then (if 0 ≤ v27 then ((v25l[v27.toNat]?).bind fun e2 => (if (v6len + e2.l.length) ≤ h0l.length then (zlm q (v6len + e2.l.length) v25z v25l v26 (wrp .i64 (v27 + 1)) h0z (((List.take v6len h0l) ++ e2.l) ++ (List.drop (v6len + e2.l.length) h0l))) else none)) else none) else (some ⟨h0z, true, (List.take v6len h0l)⟩))
def zln : Nat → Bool → (List (Sl Int)) → Int → Int → Bool → (List Int) → Option ((Ow Int))
 | 0, _, _, _, _, _, _ => none
 | q + 1, v25z, v25l, v26, v27, h0z, h0l => (if v27 < v26 then (if 0 ≤ v27 then ((v25l[v27.toNat]?).bind fun e4 => (if (h0l.length + e4.l.length) ≤ 4294967296 then (zln q v25z v25l v26 (wrp .i64 (v27 + 1)) (h0z && (decide (e4.l.length = 0))) (h0l ++ e4.l)) else none)) else none) else (some ⟨h0z, true, h0l⟩))
def zlo : Nat → Bool → (List (Sl Int)) → Int → Option ((Ow Int))
 | 0, _, _, _ => none
 | q + 1, v25z, v25l, v26 => (if 0 < v26 then ((v25l[0]?).bind fun e3 => (if e3.l.length ≤ 4294967296 then (zln q v25z v25l v26 (wrp .i64 1) (decide (e3.l.length = 0)) e3.l) else none)) else (some ⟨true, true, []⟩))
def zlp : Nat → Bool → (List (Sl Int)) → Int → Bool → (List (Sl Int)) → Int → Int → Option ((Ow Int))
 | 0, _, _, _, _, _, _, _ => none
 | q + 1, v0z, v0l, v3, v9z, v9l, v10, v11 => (if v11 < v10 then (if 0 ≤ v11 then ((v9l[v11.toNat]?).bind fun e1 => (if (wrp .i64 (v3 + (e1.l.length : Int))) < 0 then none else (zlp q v0z v0l (wrp .i64 (v3 + (e1.l.length : Int))) v9z v9l v10 (wrp .i64 (v11 + 1))))) else none) else (if v3 < 0 then none else (if 0 < (wrp .i64 (v3 - (wrp .i64 0))) then (if 0 ≤ (wrp .i64 (v3 - (wrp .i64 0))) then (if (wrp .i64 (v3 - (wrp .i64 0))).toNat ≤ 4294967296 then (if (wrp .i64 (v3 - (wrp .i64 0))) = 0 then none else (zlm q 0 v0z v0l (v0l.length : Int) 0 (decide ((wrp .i64 (v3 - (wrp .i64 0))) = 0)) (List.replicate ((wrp .i64 (v3 - (wrp .i64 0))).toNat) 0))) else none) else none) else (zlo q v0z v0l (v0l.length : Int)))))
def zlq : Nat → (Sl (Sl Int)) → Option ((Ow Int))
 | 0, _ => none
 | q + 1, a0 => (zlp q a0.z a0.l 0 a0.z a0.l (a0.l.length : Int) 0)
def zlr : Nat → (Sl Int) → Option ((Ow Int) × Int)
 | 0, _ => none
 | q + 1, a0 => (if 1048576 < (a0.l.length : Int) then (some (⟨true, true, []⟩, 5)) else ((zlj q ⟨true, true, []⟩ (a0.l.length : Int)).bind fun r1 => ((zlg q ⟨r1.n, r1.xs⟩ a0).bind fun r2 => ((zlq q ⟨false, [⟨r1.n, r1.xs⟩, a0, ⟨r2.n, r2.xs⟩]⟩).bind fun r3 => (some (r3, 0))))))
def zls : Nat → zjq → Option (Int)
 | 0, _ => none
 | q + 1, a0 => (if a0.Sealed = true then (some (wrp .i64 (a0.To + 1))) else (some 0))
def zlt : Nat → Bool → (List Int) → Int → Int → Bool → (List Int) → Bool → Option ((Ow Int) × Int)
 | 0, _, _, _, _, _, _, _ => none
 | q + 1, v21z, v21l, v22, v23, h0z, h0l, h0x => (if v23 < v22 then (if 0 ≤ v23 then ((v21l[v23.toNat]?).bind fun e6 => ((zll q ⟨h0z, h0x, h0l⟩ e6).bind fun r7 => (zlt q v21z v21l v22 (wrp .i64 (v23 + 1)) r7.n r7.xs r7.x))) else none) else (some (⟨h0z, h0x, h0l⟩, 0)))
def zlu : Nat → zjq → Option ((Ow Int) × Int)
 | 0, _ => none
 | q + 1, a0 => ((zj3 q a0).bind fun r1 => (if r1 = true then ((zlj q ⟨true, true, []⟩ a0.Kind).bind fun r2 => ((zls q a0).bind fun r3 => ((zlj q r2 r3).bind fun r4 => ((zlj q r4 (a0.L.l.length : Int)).bind fun r5 => (zlt q a0.L.z a0.L.l (a0.L.l.length : Int) 0 r5.n r5.xs r5.x))))) else (some (⟨true, true, []⟩, 1))))
def zlv : Nat → Bool → (List zjr) → Int → Int → Bool → (List Int) → Bool → Option ((Ow Int))
 | 0, _, _, _, _, _, _, _ => none
 | q + 1, v24z, v24l, v25, v26, h0z, h0l, h0x => (if v26 < v25 then (if 0 ≤ v26 then ((v24l[v26.toNat]?).bind fun e4 => ((zlj q ⟨h0z, h0x, h0l⟩ e4.Proc).bind fun r5 => ((zlj q r5 e4.Seq).bind fun r6 => ((zll q r6 e4.Resp).bind fun r7 => (zlv q v24z v24l v25 (wrp .i64 (v26 + 1)) r7.n r7.xs r7.x))))) else none) else (some ⟨h0z, h0x, h0l⟩))
def zlw : Nat → zjs → Option ((Ow Int))
 | 0, _ => none
 | q + 1, a0 => ((zlu q a0.State).bind fun r1 => ((zlj q ⟨true, true, []⟩ (r1.1.xs.length : Int)).bind fun r2 => (if (r2.xs.length + r1.1.xs.length) ≤ 4294967296 then ((zlj q ⟨(r2.n && (decide (r1.1.xs.length = 0))), r2.x, (r2.xs ++ r1.1.xs)⟩ (a0.Table.l.length : Int)).bind fun r3 => (zlv q a0.Table.z a0.Table.l (a0.Table.l.length : Int) 0 r3.n r3.xs r3.x)) else none)))
def zlx : Nat → (Sl Int) → Option ((Ow Int))
 | 0, _ => none
 | q + 1, a0 => ((zlr q a0).bind fun r1 => (some r1.1))
def zly : Nat → Nat → Nat → Bool → (List Int) → Bool → (List Int) → Bool → Option ((Ow Int) × Int)
 | 0, _, _, _, _, _, _, _ => none
 | q + 1, v4off, v4len, h0z, h0l, h1z, h1l, h1x => (if 0 < (v4len : Int) then (if 0 ≤ (if 64 < (v4len : Int) then 64 else (v4len : Int)) then (if (if 64 < (v4len : Int) then 64 else (v4len : Int)) ≤ (if 64 < (v4len : Int) then 64 else (v4len : Int)) then (if (v4off + (if 64 < (v4len : Int) then 64 else (v4len : Int)).toNat) ≤ h0l.length then ((zlx q ⟨h0z, (List.take ((if 64 < (v4len : Int) then 64 else (v4len : Int)).toNat) (List.drop v4off h0l))⟩).bind fun r10 => (if (h1l.length + r10.xs.length) ≤ 4294967296 then (if (if 64 < (v4len : Int) then 64 else (v4len : Int)).toNat ≤ v4len then (zly q (v4off + (if 64 < (v4len : Int) then 64 else (v4len : Int)).toNat) (v4len - (if 64 < (v4len : Int) then 64 else (v4len : Int)).toNat) h0z h0l (h1z && (decide (r10.xs.length = 0))) (h1l ++ r10.xs) h1x) else none) else none)) else none) else none) else none) else (some (⟨h1z, h1x, h1l⟩, 0)))
def zlz : Nat → Bool → (List Int) → Bool → Bool → (List Int) → Bool → Option ((Ow Int) × Int)
 | 0, _, _, _, _, _, _ => none
 | q + 1, h0z, h0l, h0x, h1z, h1l, h1x => (if 0 < (h0l.length : Int) then (if 0 ≤ (if 64 < (h0l.length : Int) then 64 else (h0l.length : Int)) then (if (if 64 < (h0l.length : Int) then 64 else (h0l.length : Int)) ≤ (if 64 < (h0l.length : Int) then 64 else (h0l.length : Int)) then (if (if 64 < (h0l.length : Int) then 64 else (h0l.length : Int)).toNat ≤ h0l.length then ((zlx q ⟨h0z, (List.take ((if 64 < (h0l.length : Int) then 64 else (h0l.length : Int)).toNat) h0l)⟩).bind fun r9 => (if (h1l.length + r9.xs.length) ≤ 4294967296 then (zly q ((if 64 < (h0l.length : Int) then 64 else (h0l.length : Int)).toNat) (h0l.length - (if 64 < (h0l.length : Int) then 64 else (h0l.length : Int)).toNat) h0z h0l (h1z && (decide (r9.xs.length = 0))) (h1l ++ r9.xs) h1x) else none)) else none) else none) else none) else (some (⟨h1z, h1x, h1l⟩, 0)))
def zl0 : Nat → zjs → Option ((Ow Int) × Int)
 | 0, _ => none
 | q + 1, a0 => ((zj7 q a0).bind fun r1 => (if r1 = true then ((zlw q a0).bind fun r2 => ((zlj q ⟨false, true, [115]⟩ 3).bind fun r3 => ((zlj q r3 a0.Index).bind fun r4 => ((zlj q r4 (r2.xs.length : Int)).bind fun r5 => ((zlc q ⟨r2.n, r2.xs⟩).bind fun r6 => ((zlf q r6).bind fun r7 => (if (r5.xs.length + r7.xs.length) ≤ 4294967296 then ((zlx q ⟨(r5.n && (decide (r7.xs.length = 0))), (r5.xs ++ r7.xs)⟩).bind fun r8 => (zlz q r2.n r2.xs r2.x r8.n r8.xs r8.x)) else none))))))) else (some (⟨true, true, []⟩, 1))))
def zl1 : Nat → Option (Bool)
 | 0 => none
 | q + 1 => ((zk6 q (⟨0, (⟨0, ⟨false, [0]⟩, false, 0⟩ : zjq), ⟨true, []⟩⟩ : zjs) ⟨false, [(⟨0, 2, 1, (⟨1, 5, 0⟩ : zju), 0⟩ : zjv)]⟩).bind fun r1 => ((zl0 q r1.1).bind fun r2 => (if r1.2 = 0 then (if r2.2 = 0 then (if 10 < (r2.1.xs.length : Int) then (if r1.1.Index = 1 then (if (r1.1.Table.l.length : Int) = 1 then ((r1.1.Table.l[0]?).bind fun e3 => (if e3.Proc = 2 then (if e3.Seq = 1 then (if e3.Resp = 0 then (if (r1.1.State.L.l.length : Int) = 1 then ((r1.1.State.L.l[0]?).bind fun e4 => (some (decide (e4 = 5)))) else (some false)) else (some false)) else (some false)) else (some false))) else (some false)) else (some false)) else (some false)) else (some false)) else (some false))))
def zl2 : Nat → Bool → (List zju) → Int → Int → Int → Bool → (List Int) → Bool → Int → Bool → (List Int) → Option (zjq × (Ow Int))
 | 0, _, _, _, _, _, _, _, _, _, _, _ => none
 | q + 1, v11z, v11l, v12, v13, h0_0, h0_1z, h0_1l, h0_2, h0_3, h2z, h2l => (if v13 < v12 then (if 0 ≤ v13 then ((v11l[v13.toNat]?).bind fun e1 => ((zk3 q (⟨h0_0, ⟨h0_1z, h0_1l⟩, h0_2, h0_3⟩ : zjq) e1).bind fun r2 => (if (h2l.length + 1) ≤ 4294967296 then (zl2 q v11z v11l v12 (wrp .i64 (v13 + 1)) r2.1.Kind r2.1.L.z r2.1.L.l r2.1.Sealed r2.1.To false (h2l ++ [r2.2])) else none))) else none) else (some ((⟨h0_0, ⟨h0_1z, h0_1l⟩, h0_2, h0_3⟩ : zjq), ⟨h2z, true, h2l⟩)))
def zl3 : Nat → zjq → (Sl zju) → Option (zjq × (Ow Int))
 | 0, _, _ => none
 | q + 1, a0, a1 => (zl2 q a1.z a1.l (a1.l.length : Int) 0 a0.Kind a0.L.z a0.L.l a0.Sealed a0.To true [])
def zl4 : Nat → Bool → (List zjv) → Int → Int → Int → Int → Int → Bool → (List Int) → Bool → Int → Bool → (List zjr) → Int → Int → Bool → (List Int) → Bool → Int → Bool → (List zjr) → Int → Int → Bool → (List Int) → Bool → Int → Bool → (List zjr) → Bool → (List zju) → Option (Bool)
 | 0, _, _, _, _, _, _, _, _, _, _, _, _, _, _, _, _, _, _, _, _, _, _, _, _, _, _, _, _, _, _, _ => none
 | q + 1, v1z, v1l, v12, v14, v16, h0_0, h0_1, h0_2z, h0_2l, h0_3, h0_4, h0_5z, h0_5l, h1_0, h1_1, h1_2z, h1_2l, h1_3, h1_4, h1_5z, h1_5l, h2_0, h2_1, h2_2z, h2_2l, h2_3, h2_4, h2_5z, h2_5l, h3z, h3l => (if v16 < (v1l.length : Int) then (if 0 ≤ v16 then ((v1l[v16.toNat]?).bind fun e6 => (if (h3l.length + 1) ≤ 4294967296 then (zl4 q v1z v1l v12 v14 (wrp .i64 (v16 + 1)) h0_0 h0_1 h0_2z h0_2l h0_3 h0_4 h0_5z h0_5l h1_0 h1_1 h1_2z h1_2l h1_3 h1_4 h1_5z h1_5l h2_0 h2_1 h2_2z h2_2l h2_3 h2_4 h2_5z h2_5l false (h3l ++ [e6.Op])) else none)) else none) else ((zl3 q (⟨h0_1, ⟨h0_2z, h0_2l⟩, h0_3, h0_4⟩ : zjq) ⟨h3z, h3l⟩).bind fun r7 => (if v12 = 0 then (if v14 = 0 then ((zkn q (⟨h1_0, (⟨h1_1, ⟨h1_2z, h1_2l⟩, h1_3, h1_4⟩ : zjq), ⟨h1_5z, h1_5l⟩⟩ : zjs) (⟨h2_0, (⟨h2_1, ⟨h2_2z, h2_2l⟩, h2_3, h2_4⟩ : zjq), ⟨h2_5z, h2_5l⟩⟩ : zjs)).bind fun r8 => (if r8 = true then ((zkk q (⟨h1_1, ⟨h1_2z, h1_2l⟩, h1_3, h1_4⟩ : zjq) r7.1).bind fun r9 => (if r9 = true then (some (decide (h1_0 = (wrp .i64 (h0_0 + (v1l.length : Int)))))) else (some false))) else (some false))) else (some false)) else (some false))))
def zl5 : Nat → zjs → (Sl zjv) → Int → Option (Bool)
 | 0, _, _, _ => none
 | q + 1, a0, a1, a2 => ((zl1 q).bind fun r1 => ((zkp q a0).bind fun r2 => (if r1 = true then (if r2 = true then (if 60 < (a1.l.length : Int) then (some r1) else (if a2 < 0 then (some r1) else (if (a1.l.length : Int) < a2 then (some r1) else (if a0.Index = 9223372036854775807 then (some r1) else ((zk6 q a0 a1).bind fun r3 => (if 0 ≤ a2 then (if a2.toNat ≤ a1.l.length then ((zk6 q a0 ⟨a1.z, (List.take a2.toNat a1.l)⟩).bind fun r4 => (if r3.2 = 0 then (if a2 ≤ (a1.l.length : Int) then ((zk6 q r4.1 ⟨a1.z, (List.drop a2.toNat a1.l)⟩).bind fun r5 => (zl4 q a1.z a1.l r4.2 r5.2 0 a0.Index a0.State.Kind a0.State.L.z a0.State.L.l a0.State.Sealed a0.State.To a0.Table.z a0.Table.l r3.1.Index r3.1.State.Kind r3.1.State.L.z r3.1.State.L.l r3.1.State.Sealed r3.1.State.To r3.1.Table.z r3.1.Table.l r5.1.Index r5.1.State.Kind r5.1.State.L.z r5.1.State.L.l r5.1.State.Sealed r5.1.State.To r5.1.Table.z r5.1.Table.l true [])) else none) else (if r4.2 = 0 then (some true) else (some (decide (r4.2 = r3.2)))))) else none) else none)))))) else (some r1)) else (some r1))))
end Go.Dvm.I
