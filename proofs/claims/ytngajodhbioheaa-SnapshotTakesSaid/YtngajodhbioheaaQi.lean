/- The functions of the law, as they answer, over typed data. -/
import Derived.Test.YtngajodhbioheaaQv2
set_option linter.all false
set_option maxRecDepth 100000
set_option maxHeartbeats 4000000
namespace Go.Dvm.I
open Go Go.Dvm
structure zjm where
 Kind : Int
 L : (Sl Int)
 Sealed : Bool
 To : Int
def zjm.enc (r : zjm) : V := .agg [V.int .i64 r.Kind, (Sl.enc (V.int .i64)) r.L, V.bool r.Sealed, V.int .i64 r.To]
structure zjn where
 Proc : Int
 Seq : Int
 Resp : Int
def zjn.enc (r : zjn) : V := .agg [V.int .i64 r.Proc, V.int .i64 r.Seq, V.int .i64 r.Resp]
structure zjo where
 Index : Int
 State : zjm
 Table : (Sl zjn)
def zjo.enc (r : zjo) : V := .agg [V.int .i64 r.Index, V.int .i64 r.State.Kind, (Sl.enc (V.int .i64)) r.State.L, V.bool r.State.Sealed, V.int .i64 r.State.To, (Sl.enc zjn.enc) r.Table]
structure zjp where
 From : Int
 To : Int
 Ahead : Int
 Behind : Int
 Mid : (Sl Int)
 Sealed : Bool
 Engine : Int
 Table : (Sl zjn)
def zjp.enc (r : zjp) : V := .agg [V.int .i64 r.From, V.int .i64 r.To, V.int .i64 r.Ahead, V.int .i64 r.Behind, (Sl.enc (V.int .i64)) r.Mid, V.bool r.Sealed, V.int .i64 r.Engine, (Sl.enc zjn.enc) r.Table]
structure zjq where
 Code : Int
 A : Int
 B : Int
def zjq.enc (r : zjq) : V := .agg [V.int .i64 r.Code, V.int .i64 r.A, V.int .i64 r.B]
structure zjr where
 Index : Int
 Proc : Int
 Seq : Int
 Op : zjq
 Resp : Int
def zjr.enc (r : zjr) : V := .agg [V.int .i64 r.Index, V.int .i64 r.Proc, V.int .i64 r.Seq, V.int .i64 r.Op.Code, V.int .i64 r.Op.A, V.int .i64 r.Op.B, V.int .i64 r.Resp]
structure zjs where
 index : Int
 size : Int
 sum : Int
def zjs.enc (r : zjs) : V := .agg [V.int .i64 r.index, V.int .i64 r.size, V.int .u64 r.sum]
def okSl {α : Type} (ok : α → Prop) (s : Sl α) : Prop := (s.z = true → s.l = []) ∧ s.l.length ≤ maxLen ∧ ∀ a ∈ s.l, ok a
def zjm.ok (r : zjm) : Prop := inR .i64 r.Kind ∧ okSl (fun x => inR .i64 x) r.L ∧ True ∧ inR .i64 r.To
def zjn.ok (r : zjn) : Prop := inR .i64 r.Proc ∧ inR .i64 r.Seq ∧ inR .i64 r.Resp
def zjo.ok (r : zjo) : Prop := inR .i64 r.Index ∧ zjm.ok r.State ∧ okSl (fun x => zjn.ok x) r.Table
def zjp.ok (r : zjp) : Prop := inR .i64 r.From ∧ inR .i64 r.To ∧ inR .i64 r.Ahead ∧ inR .i64 r.Behind ∧ okSl (fun x => inR .i64 x) r.Mid ∧ True ∧ inR .i64 r.Engine ∧ okSl (fun x => zjn.ok x) r.Table
def zjq.ok (r : zjq) : Prop := inR .i64 r.Code ∧ inR .i64 r.A ∧ inR .i64 r.B
def zjr.ok (r : zjr) : Prop := inR .i64 r.Index ∧ inR .i64 r.Proc ∧ inR .i64 r.Seq ∧ zjq.ok r.Op ∧ inR .i64 r.Resp
def zjs.ok (r : zjs) : Prop := inR .i64 r.index ∧ inR .i64 r.size ∧ inR .u64 r.sum
def zjt : Nat → Int → Option (Int)
 | 0, _ => none
 | q + 1, a0 => (some (if (-1099511627776) < (if 1099511627776 < a0 then 1099511627776 else a0) then (if 1099511627776 < a0 then 1099511627776 else a0) else (-1099511627776)))
def zju : Nat → Int → Option (Bool)
 | 0, _ => none
 | q + 1, a0 => ((zjt q a0).bind fun r1 => (some (!(decide (a0 = r1)))))
def zjv : Nat → Bool → (List Int) → Int → Int → Int → Option (Bool)
 | 0, _, _, _, _, _ => none
 | q + 1, v0z, v0l, v1, v5, v6 => (if (wrp .i64 (v6 + 1)) < (v0l.length : Int) then (if 0 ≤ v6 then ((v0l[v6.toNat]?).bind fun e1 => (if e1 ≤ v5 then (some false) else (if 255 < e1 then (some false) else (if 0 ≤ (wrp .i64 (v6 + 1)) then ((v0l[(wrp .i64 (v6 + 1)).toNat]?).bind fun e2 => (if e2 < v1 then (some false) else (if 1099511627776 < e2 then (some false) else (zjv q v0z v0l v1 e1 (wrp .i64 (v6 + 2)))))) else none)))) else none) else (if (Int.tmod (v0l.length : Int) 2) = 0 then (some (decide ((v0l.length : Int) ≤ 128))) else (some false)))
def zjw : Nat → (Sl Int) → Int → Option (Bool)
 | 0, _, _ => none
 | q + 1, a0, a1 => (zjv q a0.z a0.l a1 (-1) 0)
def zjx : Nat → Bool → (List Int) → Int → Int → Int → Bool → (List Int) → Bool → Int → Option (Int)
 | 0, _, _, _, _, _, _, _, _, _ => none
 | q + 1, v0z, v0l, v7, v8, h0_0, h0_1z, h0_1l, h0_2, h0_3 => (if v8 < v7 then (if 0 ≤ v8 then ((v0l[v8.toNat]?).bind fun e1 => ((zju q e1).bind fun r2 => (if r2 = true then (some v8) else (zjx q v0z v0l v7 (wrp .i64 (v8 + 1)) h0_0 h0_1z h0_1l h0_2 h0_3)))) else none) else (some (-1)))
def zjy : Nat → Bool → (List Int) → Int → Bool → (List Int) → Bool → Int → Option (Int)
 | 0, _, _, _, _, _, _, _ => none
 | q + 1, v0z, v0l, h0_0, h0_1z, h0_1l, h0_2, h0_3 => (zjx q v0z v0l (v0l.length : Int) 0 h0_0 h0_1z h0_1l h0_2 h0_3)
def zjz : Nat → zjm → Option (Bool)
 | 0, _ => none
 | q + 1, a0 => (if a0.To < 0 then (some false) else (if 3 ≤ a0.To then (some false) else (if a0.Sealed = true then ((zjy q a0.L.z a0.L.l a0.Kind a0.L.z a0.L.l a0.Sealed a0.To).bind fun r1 => (if a0.Kind = 0 then (if (a0.L.l.length : Int) = 1 then (some (!(decide (0 ≤ r1)))) else (some false)) else (if a0.Kind = 1 then (if (a0.L.l.length : Int) = 1 then (some (!(decide (0 ≤ r1)))) else (some false)) else (if a0.Kind = 2 then (if (a0.L.l.length : Int) ≤ 64 then (some (!(decide (0 ≤ r1)))) else (some false)) else (if a0.Kind = 3 then (if (a0.L.l.length : Int) ≤ 64 then (some (!(decide (0 ≤ r1)))) else (some false)) else (if a0.Kind = 4 then ((zjw q a0.L (-1099511627776)).bind fun r2 => (some r2)) else (if a0.Kind = 5 then ((zjw q a0.L 0).bind fun r3 => (some r3)) else (some false)))))))) else (if a0.To = 0 then ((zjy q a0.L.z a0.L.l a0.Kind a0.L.z a0.L.l a0.Sealed a0.To).bind fun r4 => (if a0.Kind = 0 then (if (a0.L.l.length : Int) = 1 then (some (!(decide (0 ≤ r4)))) else (some false)) else (if a0.Kind = 1 then (if (a0.L.l.length : Int) = 1 then (some (!(decide (0 ≤ r4)))) else (some false)) else (if a0.Kind = 2 then (if (a0.L.l.length : Int) ≤ 64 then (some (!(decide (0 ≤ r4)))) else (some false)) else (if a0.Kind = 3 then (if (a0.L.l.length : Int) ≤ 64 then (some (!(decide (0 ≤ r4)))) else (some false)) else (if a0.Kind = 4 then ((zjw q a0.L (-1099511627776)).bind fun r5 => (some r5)) else (if a0.Kind = 5 then ((zjw q a0.L 0).bind fun r6 => (some r6)) else (some false)))))))) else (some false)))))
def zj0 : Nat → zjn → Option (Bool)
 | 0, _ => none
 | q + 1, a0 => (if 0 ≤ a0.Proc then (if a0.Proc ≤ 64 then (if 0 ≤ a0.Seq then (if a0.Seq < 4611686018427387904 then (if (-1125899906842624) ≤ a0.Resp then (some (decide (a0.Resp ≤ 1125899906842624))) else (some false)) else (some false)) else (some false)) else (some false)) else (some false))
def zj1 : Nat → Bool → (List zjn) → Bool → (List zjn) → Int → Int → Option (Bool)
 | 0, _, _, _, _, _, _ => none
 | q + 1, v0z, v0l, v5z, v5l, v6, v7 => (if v7 < v6 then (if 0 ≤ v7 then ((v5l[v7.toNat]?).bind fun e1 => ((zj0 q e1).bind fun r2 => (if r2 = true then (if 0 < v7 then (if 0 ≤ (wrp .i64 (v7 - 1)) then ((v0l[(wrp .i64 (v7 - 1)).toNat]?).bind fun e3 => (if e1.Proc ≤ e3.Proc then (some false) else (zj1 q v0z v0l v5z v5l v6 (wrp .i64 (v7 + 1))))) else none) else (zj1 q v0z v0l v5z v5l v6 (wrp .i64 (v7 + 1)))) else (some false)))) else none) else (some true))
def zj2 : Nat → (Sl zjn) → Option (Bool)
 | 0, _ => none
 | q + 1, a0 => (zj1 q a0.z a0.l a0.z a0.l (a0.l.length : Int) 0)
def zj3 : Nat → zjo → Option (Bool)
 | 0, _ => none
 | q + 1, a0 => (if 0 ≤ a0.Index then (if a0.Index < 4611686018427387904 then ((zjz q a0.State).bind fun r1 => (if r1 = true then ((zj2 q a0.Table).bind fun r2 => (some r2)) else (some false))) else (some false)) else (some false))
def zj4 : Nat → (Sl Int) → Option ((Ow Int))
 | 0, _ => none
 | q + 1, a0 => (if a0.z = true then (some ⟨true, true, []⟩) else (if a0.l.length ≤ 4294967296 then (some ⟨false, true, a0.l⟩) else none))
def zj5 : Nat → (Sl zjn) → Option ((Ow zjn))
 | 0, _ => none
 | q + 1, a0 => (if a0.z = true then (some ⟨true, true, []⟩) else (if a0.l.length ≤ 4294967296 then (some ⟨false, true, a0.l⟩) else none))
def zj6 : Nat → (Ow zjn) → Int → (Ow zjn) → Option (Ow zjn)
 | 0, _, _, _ => none
 | q + 1, a0, a1, a2 => (if insOk a0 a1 a2 then (some (insR a0 a1 a2)) else none)
def zj7 : Nat → Int → Int → Int → Int → Int → Int → Int → Int → Int → Bool → (List zjn) → Bool → Option (Int)
 | 0, _, _, _, _, _, _, _, _, _, _, _, _ => none
 | q + 1, v7, v8, h0_0, h0_1, h0_2, h0_3, h0_4, h0_5, h0_6, h1z, h1l, h1x => (if v8 < v7 then (if 0 ≤ v8 then (if v8.toNat < h1l.length then ((h1l[v8.toNat]?).bind fun e1 => (if e1.Proc = h0_1 then (some v8) else (zj7 q v7 (wrp .i64 (v8 + 1)) h0_0 h0_1 h0_2 h0_3 h0_4 h0_5 h0_6 h1z h1l h1x))) else none) else none) else (some (-1)))
def zj8 : Nat → Int → Int → Int → Int → Int → Int → Int → Bool → (List zjn) → Bool → Option (Int)
 | 0, _, _, _, _, _, _, _, _, _, _ => none
 | q + 1, h0_0, h0_1, h0_2, h0_3, h0_4, h0_5, h0_6, h1z, h1l, h1x => (zj7 q (h1l.length : Int) 0 h0_0 h0_1 h0_2 h0_3 h0_4 h0_5 h0_6 h1z h1l h1x)
def zj9 : Nat → Int → Int → Int → Int → Int → Int → Int → Int → Int → Bool → (List zjn) → Bool → Option (Nat × (List zjn) × Bool)
 | 0, _, _, _, _, _, _, _, _, _, _, _, _ => none
 | q + 1, v5, v6, h0_0, h0_1, h0_2, h0_3, h0_4, h0_5, h0_6, h1z, h1l, h1x => (if v6 < (h1l.length : Int) then (if 0 ≤ v6 then (if v6.toNat < h1l.length then ((h1l[v6.toNat]?).bind fun e2 => (if e2.Proc = h0_1 then (zj9 q v5 (wrp .i64 (v6 + 1)) h0_0 h0_1 h0_2 h0_3 h0_4 h0_5 h0_6 h1z h1l h1x) else (if 0 ≤ v5 then (if v5.toNat < h1l.length then ((h1l[v5.toNat]?).bind fun e3 => (if h1x = true then (zj9 q (wrp .i64 (v5 + 1)) (wrp .i64 (v6 + 1)) h0_0 h0_1 h0_2 h0_3 h0_4 h0_5 h0_6 h1z (List.set h1l v5.toNat e2) true) else none)) else none) else none))) else none) else none) else (if 0 ≤ v5 then (if v5.toNat ≤ h1l.length then (if h1x = true then (if v5.toNat ≤ (((min v5.toNat h1l.length) + (h1l.length - v5.toNat)) + (h1l.length - (v5.toNat + (h1l.length - v5.toNat)))) then (if h1z = true then (some (v5.toNat, (((List.take v5.toNat h1l) ++ (List.replicate (h1l.length - v5.toNat) (⟨0, 0, 0⟩ : zjn))) ++ (List.drop (v5.toNat + (h1l.length - v5.toNat)) h1l)), true)) else (some (v5.toNat, (((List.take v5.toNat h1l) ++ (List.replicate (h1l.length - v5.toNat) (⟨0, 0, 0⟩ : zjn))) ++ (List.drop (v5.toNat + (h1l.length - v5.toNat)) h1l)), true))) else none) else none) else none) else none))
def zka : Nat → Int → Int → Int → Int → Int → Int → Int → Bool → (List zjn) → Bool → Option (Nat × (List zjn) × Bool)
 | 0, _, _, _, _, _, _, _, _, _, _ => none
 | q + 1, h0_0, h0_1, h0_2, h0_3, h0_4, h0_5, h0_6, h1z, h1l, h1x => ((zj8 q h0_0 h0_1 h0_2 h0_3 h0_4 h0_5 h0_6 h1z h1l h1x).bind fun r1 => (if r1 = (-1) then (some (h1l.length, h1l, h1x)) else (zj9 q r1 (wrp .i64 (r1 + 1)) h0_0 h0_1 h0_2 h0_3 h0_4 h0_5 h0_6 h1z h1l h1x)))
def zkb : Nat → Nat → Int → Int → Int → Int → Int → Int → Int → Int → Int → Bool → (List zjn) → Bool → Option (Int)
 | 0, _, _, _, _, _, _, _, _, _, _, _, _, _ => none
 | q + 1, v0len, v7, v8, h0_0, h0_1, h0_2, h0_3, h0_4, h0_5, h0_6, h1z, h1l, h1x => (if v8 < v7 then (if 0 ≤ v8 then (if v8.toNat < v0len then ((h1l[v8.toNat]?).bind fun e1 => (if h0_1 < e1.Proc then (some v8) else (zkb q v0len v7 (wrp .i64 (v8 + 1)) h0_0 h0_1 h0_2 h0_3 h0_4 h0_5 h0_6 h1z h1l h1x))) else none) else none) else (some (-1)))
def zkc : Nat → Nat → Int → Int → Int → Int → Int → Int → Int → Bool → (List zjn) → Bool → Option (Int)
 | 0, _, _, _, _, _, _, _, _, _, _, _ => none
 | q + 1, v0len, h0_0, h0_1, h0_2, h0_3, h0_4, h0_5, h0_6, h1z, h1l, h1x => (zkb q v0len (v0len : Int) 0 h0_0 h0_1 h0_2 h0_3 h0_4 h0_5 h0_6 h1z h1l h1x)
def zkd : Nat → (Sl zjn) → zjr → Option ((Ow zjn))
 | 0, _, _ => none
 | q + 1, a0, a1 => ((zj5 q a0).bind fun r1 => ((zka q a1.Index a1.Proc a1.Seq a1.Op.Code a1.Op.A a1.Op.B a1.Resp r1.n r1.xs r1.x).bind fun r2 => ((zkc q r2.1 a1.Index a1.Proc a1.Seq a1.Op.Code a1.Op.A a1.Op.B a1.Resp r1.n r2.2.1 r2.2.2).bind fun r3 => (if r3 < 0 then (if r2.2.2 = true then ((zj6 q ⟨r1.n, r2.2.2, (List.take r2.1 r2.2.1)⟩ (r2.1 : Int) ⟨false, true, [(⟨a1.Proc, a1.Seq, a1.Resp⟩ : zjn)]⟩).bind fun r4 => (some r4)) else none) else (if r2.2.2 = true then ((zj6 q ⟨r1.n, r2.2.2, (List.take r2.1 r2.2.1)⟩ r3 ⟨false, true, [(⟨a1.Proc, a1.Seq, a1.Resp⟩ : zjn)]⟩).bind fun r5 => (some r5)) else none)))))
def zke : Nat → zjm → Option (Bool)
 | 0, _ => none
 | q + 1, a0 => (some (decide ((a0.L.l.length : Int) ≤ 300)))
def zkf : Nat → zjo → Option (Bool)
 | 0, _ => none
 | q + 1, a0 => ((zke q a0.State).bind fun r1 => (if r1 = true then (some (decide ((a0.Table.l.length : Int) ≤ 100))) else (some false)))
def zkg : Nat → Bool → (List Int) → Int → Int → Option (Bool)
 | 0, _, _, _, _ => none
 | q + 1, v0z, v0l, v1, v5 => (if v5 < (v0l.length : Int) then (if 0 ≤ v5 then ((v0l[v5.toNat]?).bind fun e1 => (if e1 < 0 then (some false) else (if 255 < e1 then (some false) else (if 0 < v5 then (if 0 ≤ (wrp .i64 (v5 - 2)) then ((v0l[(wrp .i64 (v5 - 2)).toNat]?).bind fun e2 => (if e1 ≤ e2 then (some false) else (if 0 ≤ (wrp .i64 (v5 + 1)) then ((v0l[(wrp .i64 (v5 + 1)).toNat]?).bind fun e3 => (if e3 < v1 then (some false) else (if 1099511627776 < e3 then (some false) else (zkg q v0z v0l v1 (wrp .i64 (v5 + 2)))))) else none))) else none) else (if 0 ≤ (wrp .i64 (v5 + 1)) then ((v0l[(wrp .i64 (v5 + 1)).toNat]?).bind fun e4 => (if e4 < v1 then (some false) else (if 1099511627776 < e4 then (some false) else (zkg q v0z v0l v1 (wrp .i64 (v5 + 2)))))) else none))))) else none) else (some true))
def zkh : Nat → (Sl Int) → Int → Option (Bool)
 | 0, _, _ => none
 | q + 1, a0, a1 => (if (Int.tmod (a0.l.length : Int) 2) = 0 then (if 128 < (a0.l.length : Int) then (some false) else (zkg q a0.z a0.l a1 0)) else (some false))
def zki : Nat → Int → Option (Int)
 | 0, _ => none
 | q + 1, a0 => (if a0 < (-1099511627776) then (some (-1099511627776)) else (if 1099511627776 < a0 then (some 1099511627776) else (some a0)))
def zkj : Nat → Int → Int → Bool → (List Int) → Bool → Int → Option (Bool)
 | 0, _, _, _, _, _, _ => none
 | q + 1, v3, h0_0, h0_1z, h0_1l, h0_2, h0_3 => (if v3 < (h0_1l.length : Int) then (if 0 ≤ v3 then ((h0_1l[v3.toNat]?).bind fun e5 => ((zki q e5).bind fun r6 => (if e5 = r6 then (zkj q (wrp .i64 (v3 + 1)) h0_0 h0_1z h0_1l h0_2 h0_3) else (some false)))) else none) else (some true))
def zkk : Nat → zjm → Option (Bool)
 | 0, _ => none
 | q + 1, a0 => (if a0.To < 0 then (some false) else (if 2 < a0.To then (some false) else (if a0.Sealed = true then (if a0.Kind < 0 then (some false) else (if 6 ≤ a0.Kind then (some false) else (if a0.Kind = 4 then ((zkh q a0.L (-1099511627776)).bind fun r1 => (some r1)) else (if a0.Kind = 5 then ((zkh q a0.L 0).bind fun r2 => (some r2)) else (if 64 < (a0.L.l.length : Int) then (some false) else (if (a0.L.l.length : Int) = 1 then (zkj q 0 a0.Kind a0.L.z a0.L.l a0.Sealed a0.To) else (if a0.Kind ≤ 1 then (some false) else (zkj q 0 a0.Kind a0.L.z a0.L.l a0.Sealed a0.To)))))))) else (if a0.To = 0 then (if a0.Kind < 0 then (some false) else (if 6 ≤ a0.Kind then (some false) else (if a0.Kind = 4 then ((zkh q a0.L (-1099511627776)).bind fun r3 => (some r3)) else (if a0.Kind = 5 then ((zkh q a0.L 0).bind fun r4 => (some r4)) else (if 64 < (a0.L.l.length : Int) then (some false) else (if (a0.L.l.length : Int) = 1 then (zkj q 0 a0.Kind a0.L.z a0.L.l a0.Sealed a0.To) else (if a0.Kind ≤ 1 then (some false) else (zkj q 0 a0.Kind a0.L.z a0.L.l a0.Sealed a0.To)))))))) else (some false)))))
def zkl : Nat → zjq → Option (Bool)
 | 0, _ => none
 | q + 1, a0 => (if 0 ≤ a0.Code then (if a0.Code ≤ 10 then ((zjt q a0.A).bind fun r1 => (if a0.A = r1 then ((zjt q a0.B).bind fun r2 => (some (decide (a0.B = r2)))) else (some false))) else (some false)) else (some false))
def zkm : Nat → zjr → Option (Bool)
 | 0, _ => none
 | q + 1, a0 => (if 0 ≤ a0.Index then (if a0.Index < 4611686018427387904 then (if 0 ≤ a0.Proc then (if a0.Proc ≤ 64 then (if 0 ≤ a0.Seq then (if a0.Seq < 4611686018427387904 then ((zkl q a0.Op).bind fun r1 => (if r1 = true then (if (-1125899906842624) ≤ a0.Resp then (some (decide (a0.Resp ≤ 1125899906842624))) else (some false)) else (some false))) else (some false)) else (some false)) else (some false)) else (some false)) else (some false)) else (some false))
def zkn : Nat → zjm → zjq → Option (zjm × Int)
 | 0, _, _ => none
 | q + 1, a0, a1 => ((a0.L.l[0]?).bind fun e1 => (if a1.Code = 7 then (some (a0, e1)) else (if a0.Kind = 0 then (if a1.Code = 1 then ((zjt q a1.A).bind fun r2 => ((zjt q (wrp .i64 (e1 + r2))).bind fun r3 => (some ((⟨a0.Kind, ⟨false, [r3]⟩, a0.Sealed, a0.To⟩ : zjm), e1)))) else (if a0.Kind = 1 then (if a1.Code = 2 then ((zjt q a1.A).bind fun r4 => (some ((⟨a0.Kind, ⟨false, [r4]⟩, a0.Sealed, a0.To⟩ : zjm), e1))) else (some (a0, 0))) else (some (a0, 0)))) else (if a0.Kind = 1 then (if a1.Code = 2 then ((zjt q a1.A).bind fun r5 => (some ((⟨a0.Kind, ⟨false, [r5]⟩, a0.Sealed, a0.To⟩ : zjm), e1))) else (some (a0, 0))) else (some (a0, 0))))))
def zko : Nat → (Ow Int) → Int → Int → Option ((Ow Int))
 | 0, _, _, _ => none
 | q + 1, a0, a1, a2 => (if 0 ≤ a1 then (if a1 ≤ a2 then (if a2 ≤ (a0.xs.length : Int) then (if a1 = a2 then (some a0) else (if a1.toNat ≤ a0.xs.length then (if a0.n = true then (if 0 ≤ a2 then (if a2.toNat ≤ a0.xs.length then (if (a0.xs.length + (a0.xs.length - a2.toNat)) ≤ 4294967296 then (if (((a0.xs.length + (a0.xs.length - a2.toNat)) : Nat) : Int) ≤ (a0.xs.length : Int) then (if a0.xs.length ≤ (a0.xs.length + (a0.xs.length - a2.toNat)) then (if (a0.xs.length - a2.toNat) = 0 then none else (if a0.x = true then (some ⟨(a0.n && (decide ((a0.xs.length - a2.toNat) = 0))), true, (((List.take (a0.xs.length + (a0.xs.length - a2.toNat)) (a0.xs ++ (List.drop a2.toNat a0.xs))) ++ (List.replicate (a0.xs.length - (a0.xs.length + (a0.xs.length - a2.toNat))) 0)) ++ (List.drop ((a0.xs.length + (a0.xs.length - a2.toNat)) + (a0.xs.length - (a0.xs.length + (a0.xs.length - a2.toNat)))) (a0.xs ++ (List.drop a2.toNat a0.xs))))⟩) else none)) else none) else none) else none) else none) else none) else (if 0 ≤ a2 then (if a2.toNat ≤ a0.xs.length then (if (a1.toNat + (a0.xs.length - a2.toNat)) ≤ a0.xs.length then (if a0.x = true then (if (((a1.toNat + (a0.xs.length - a2.toNat)) : Nat) : Int) ≤ (a0.xs.length : Int) then (if a0.xs.length ≤ (((min a1.toNat a0.xs.length) + (a0.xs.length - a2.toNat)) + (a0.xs.length - (a1.toNat + (a0.xs.length - a2.toNat)))) then (some ⟨a0.n, true, (List.take (a1.toNat + (a0.xs.length - a2.toNat)) (((List.take (a1.toNat + (a0.xs.length - a2.toNat)) (((List.take a1.toNat a0.xs) ++ (List.drop a2.toNat a0.xs)) ++ (List.drop (a1.toNat + (a0.xs.length - a2.toNat)) a0.xs))) ++ (List.replicate (a0.xs.length - (a1.toNat + (a0.xs.length - a2.toNat))) 0)) ++ (List.drop ((a1.toNat + (a0.xs.length - a2.toNat)) + (a0.xs.length - (a1.toNat + (a0.xs.length - a2.toNat)))) (((List.take a1.toNat a0.xs) ++ (List.drop a2.toNat a0.xs)) ++ (List.drop (a1.toNat + (a0.xs.length - a2.toNat)) a0.xs)))))⟩) else none) else none) else none) else none) else none) else none)) else none)) else none) else none) else none)
def zkp : Nat → zjm → zjq → Option (zjm × Int)
 | 0, _, _ => none
 | q + 1, a0, a1 => (if a1.Code = 7 then (some (a0, (a0.L.l.length : Int))) else (if a1.Code = 3 then (if (a0.L.l.length : Int) < 64 then ((zj4 q a0.L).bind fun r1 => ((zjt q a1.A).bind fun r2 => (if (r1.xs.length + 1) ≤ 4294967296 then (some ((⟨a0.Kind, ⟨false, (r1.xs ++ [r2])⟩, a0.Sealed, a0.To⟩ : zjm), (wrp .i64 ((a0.L.l.length : Int) + 1)))) else none))) else (some (a0, (-1)))) else (if a1.Code = 4 then (if (a0.L.l.length : Int) = 0 then (some (a0, (-1))) else (if a0.Kind = 2 then ((a0.L.l[0]?).bind fun e3 => ((zj4 q a0.L).bind fun r4 => ((zko q r4 0 (wrp .i64 1)).bind fun r5 => (some ((⟨a0.Kind, ⟨r5.n, r5.xs⟩, a0.Sealed, a0.To⟩ : zjm), e3))))) else (if 0 ≤ (wrp .i64 ((a0.L.l.length : Int) - 1)) then ((a0.L.l[(wrp .i64 ((a0.L.l.length : Int) - 1)).toNat]?).bind fun e6 => ((zj4 q a0.L).bind fun r7 => ((zko q r7 (wrp .i64 ((a0.L.l.length : Int) - 1)) (wrp .i64 ((wrp .i64 ((a0.L.l.length : Int) - 1)) + 1))).bind fun r8 => (some ((⟨a0.Kind, ⟨r8.n, r8.xs⟩, a0.Sealed, a0.To⟩ : zjm), e6))))) else none))) else (some (a0, 0)))))
def zkq : Nat → Bool → (List Int) → Int → Int → Option (Int × Bool)
 | 0, _, _, _, _ => none
 | q + 1, v0z, v0l, v1, v6 => (if v6 < (v0l.length : Int) then (if 0 ≤ v6 then ((v0l[v6.toNat]?).bind fun e1 => (if e1 < v1 then (zkq q v0z v0l v1 (wrp .i64 (v6 + 2))) else (some (v6, (decide (e1 = v1)))))) else none) else (some (v6, false)))
def zkr : Nat → (Sl Int) → Int → Option (Int × Bool)
 | 0, _, _ => none
 | q + 1, a0, a1 => (zkq q a0.z a0.l a1 0)
def zks : Nat → (Sl Int) → Int → Option (Int)
 | 0, _, _ => none
 | q + 1, a0, a1 => ((zkr q a0 a1).bind fun r1 => (if r1.2 = true then (if 0 ≤ (wrp .i64 (r1.1 + 1)) then ((a0.l[(wrp .i64 (r1.1 + 1)).toNat]?).bind fun e2 => (some e2)) else none) else (some (-1))))
def zkt : Nat → (Ow Int) → Int → (Ow Int) → Option (Ow Int)
 | 0, _, _, _ => none
 | q + 1, a0, a1, a2 => (if insOk a0 a1 a2 then (some (insR a0 a1 a2)) else none)
def zku : Nat → (Sl Int) → Int → Int → Option ((Sl Int) × Bool)
 | 0, _, _, _ => none
 | q + 1, a0, a1, a2 => ((zkr q a0 a1).bind fun r1 => (if r1.2 = true then ((zj4 q a0).bind fun r2 => (if 0 ≤ (wrp .i64 (r1.1 + 1)) then (if (wrp .i64 (r1.1 + 1)).toNat < r2.xs.length then ((r2.xs[(wrp .i64 (r1.1 + 1)).toNat]?).bind fun e3 => (if r2.x = true then (some (⟨r2.n, (List.set r2.xs ((wrp .i64 (r1.1 + 1)).toNat) a2)⟩, true)) else none)) else none) else none)) else (if 128 ≤ (a0.l.length : Int) then (some (a0, false)) else ((zj4 q a0).bind fun r4 => ((zkt q r4 r1.1 ⟨false, true, [a1, a2]⟩).bind fun r5 => (some (⟨r5.n, r5.xs⟩, true)))))))
def zkv : Nat → zjm → zjq → Option (zjm × Int)
 | 0, _, _ => none
 | q + 1, a0, a1 => (if a1.Code = 7 then (if a1.A < 0 then (some (a0, (-1))) else (if 255 < a1.A then (some (a0, (-1))) else ((zks q a0.L a1.A).bind fun r1 => ((zkr q a0.L a1.A).bind fun r2 => (if a1.Code = 6 then (if r2.2 = true then ((zj4 q a0.L).bind fun r3 => ((zko q r3 r2.1 (wrp .i64 (r2.1 + 2))).bind fun r4 => (some ((⟨a0.Kind, ⟨r4.n, r4.xs⟩, a0.Sealed, a0.To⟩ : zjm), r1)))) else (if a1.Code = 5 then ((zjt q a1.B).bind fun r5 => ((zku q a0.L a1.A r5).bind fun r6 => (if r6.2 = true then (some ((⟨a0.Kind, r6.1, a0.Sealed, a0.To⟩ : zjm), r1)) else (some (a0, (-2)))))) else (some (a0, r1)))) else (if a1.Code = 5 then ((zjt q a1.B).bind fun r7 => ((zku q a0.L a1.A r7).bind fun r8 => (if r8.2 = true then (some ((⟨a0.Kind, r8.1, a0.Sealed, a0.To⟩ : zjm), r1)) else (some (a0, (-2)))))) else (some (a0, r1)))))))) else (if a1.Code = 6 then (if a1.A < 0 then (some (a0, (-1))) else (if 255 < a1.A then (some (a0, (-1))) else ((zks q a0.L a1.A).bind fun r9 => ((zkr q a0.L a1.A).bind fun r10 => (if r10.2 = true then ((zj4 q a0.L).bind fun r11 => ((zko q r11 r10.1 (wrp .i64 (r10.1 + 2))).bind fun r12 => (some ((⟨a0.Kind, ⟨r12.n, r12.xs⟩, a0.Sealed, a0.To⟩ : zjm), r9)))) else (if a1.Code = 5 then ((zjt q a1.B).bind fun r13 => ((zku q a0.L a1.A r13).bind fun r14 => (if r14.2 = true then (some ((⟨a0.Kind, r14.1, a0.Sealed, a0.To⟩ : zjm), r9)) else (some (a0, (-2)))))) else (some (a0, r9)))))))) else (if a1.Code = 5 then (if a1.A < 0 then (some (a0, (-1))) else (if 255 < a1.A then (some (a0, (-1))) else ((zks q a0.L a1.A).bind fun r15 => ((zkr q a0.L a1.A).bind fun r16 => ((zjt q a1.B).bind fun r17 => ((zku q a0.L a1.A r17).bind fun r18 => (if r18.2 = true then (some ((⟨a0.Kind, r18.1, a0.Sealed, a0.To⟩ : zjm), r15)) else (some (a0, (-2)))))))))) else (some (a0, 0)))))
def zkw : Nat → zjm → zjq → Option (zjm × Int)
 | 0, _, _ => none
 | q + 1, a0, a1 => (if a1.A < 0 then (some (a0, 0)) else (if 65536 ≤ a1.A then (some (a0, 0)) else (if a1.B < 0 then (some (a0, 0)) else ((zks q a0.L (wrp .i64 (Int.tdiv a1.A 256))).bind fun r1 => ((zks q a0.L (Int.tmod a1.A 256)).bind fun r2 => (if r1 < a1.B then (some (a0, 0)) else (if (wrp .i64 (Int.tdiv a1.A 256)) = (Int.tmod a1.A 256) then (some (a0, 1)) else ((zku q a0.L (Int.tmod a1.A 256) (wrp .i64 ((if r2 < 0 then 0 else r2) + a1.B))).bind fun r3 => (if r3.2 = true then (if 1099511627776 < (wrp .i64 ((if r2 < 0 then 0 else r2) + a1.B)) then (some (a0, 0)) else ((zku q r3.1 (wrp .i64 (Int.tdiv a1.A 256)) (wrp .i64 (r1 - a1.B))).bind fun r4 => (some ((⟨a0.Kind, r4.1, a0.Sealed, a0.To⟩ : zjm), 1)))) else (some (a0, 0)))))))))))
def zkx : Nat → zjm → zjq → Option (zjm × Int)
 | 0, _, _ => none
 | q + 1, a0, a1 => (if a1.Code = 9 then ((zkw q a0 a1).bind fun r1 => (some (r1.1, r1.2))) else (if a1.Code = 7 then (if a1.A < 0 then (some (a0, (-1))) else (if 255 < a1.A then (some (a0, (-1))) else ((zks q a0.L a1.A).bind fun r2 => (some (a0, r2))))) else (if a1.Code = 8 then (if a1.A < 0 then (some (a0, (-1))) else (if 255 < a1.A then (some (a0, (-1))) else (if a1.B < 0 then (some (a0, (-1))) else ((zks q a0.L a1.A).bind fun r3 => ((zjt q a1.B).bind fun r4 => ((zjt q (wrp .i64 ((if r3 < 0 then 0 else r3) + r4))).bind fun r5 => ((zku q a0.L a1.A r5).bind fun r6 => (if r6.2 = true then (some ((⟨a0.Kind, r6.1, a0.Sealed, a0.To⟩ : zjm), r5)) else (some (a0, (-2))))))))))) else (some (a0, 0)))))
def zky : Nat → zjm → zjq → Option (zjm × Int)
 | 0, _, _ => none
 | q + 1, a0, a1 => ((zjz q a0).bind fun r1 => (if r1 = true then (if a0.Sealed = true then (some (a0, (-1125899906842624))) else (if a1.Code = 10 then (if 0 ≤ a1.A then (if a1.A < 3 then (some ((⟨a0.Kind, a0.L, true, a1.A⟩ : zjm), 0)) else (some ((⟨a0.Kind, a0.L, true, a0.To⟩ : zjm), 0))) else (some ((⟨a0.Kind, a0.L, true, a0.To⟩ : zjm), 0))) else (if a0.Kind = 0 then ((zkn q a0 a1).bind fun r2 => (some (r2.1, r2.2))) else (if a0.Kind = 1 then ((zkn q a0 a1).bind fun r3 => (some (r3.1, r3.2))) else (if a0.Kind = 2 then ((zkp q a0 a1).bind fun r4 => (some (r4.1, r4.2))) else (if a0.Kind = 3 then ((zkp q a0 a1).bind fun r5 => (some (r5.1, r5.2))) else (if a0.Kind = 4 then ((zkv q a0 a1).bind fun r6 => (some (r6.1, r6.2))) else ((zkx q a0 a1).bind fun r7 => (some (r7.1, r7.2)))))))))) else (some (a0, 0))))
def zkz : Nat → Bool → (List zjr) → Int → Int → Int → Int → Bool → (List Int) → Bool → Int → Bool → (List zjn) → Bool → Option (zjo × Int)
 | 0, _, _, _, _, _, _, _, _, _, _, _, _, _ => none
 | q + 1, v8z, v8l, v9, v10, h0_0, h0_1, h0_2z, h0_2l, h0_3, h0_4, h2z, h2l, h2x => (if v10 < v9 then (if 0 ≤ v10 then ((v8l[v10.toNat]?).bind fun e5 => (if e5.Index = h0_0 then ((zkm q e5).bind fun r6 => (if r6 = true then ((zky q (⟨h0_1, ⟨h0_2z, h0_2l⟩, h0_3, h0_4⟩ : zjm) e5.Op).bind fun r7 => ((zkd q ⟨h2z, h2l⟩ (⟨e5.Index, e5.Proc, e5.Seq, e5.Op, r7.2⟩ : zjr)).bind fun r8 => (zkz q v8z v8l v9 (wrp .i64 (v10 + 1)) (wrp .i64 (h0_0 + 1)) r7.1.Kind r7.1.L.z r7.1.L.l r7.1.Sealed r7.1.To r8.n r8.xs r8.x))) else (some ((⟨0, (⟨0, ⟨true, []⟩, false, 0⟩ : zjm), ⟨true, []⟩⟩ : zjo), 1)))) else (some ((⟨0, (⟨0, ⟨true, []⟩, false, 0⟩ : zjm), ⟨true, []⟩⟩ : zjo), 15)))) else none) else (some ((⟨h0_0, (⟨h0_1, ⟨h0_2z, h0_2l⟩, h0_3, h0_4⟩ : zjm), ⟨h2z, h2l⟩⟩ : zjo), 0)))
def zk0 : Nat → Bool → (List zjr) → Int → Int → Int → Bool → (List Int) → Bool → Int → Bool → (List zjn) → Option (zjo × Int)
 | 0, _, _, _, _, _, _, _, _, _, _, _ => none
 | q + 1, v8z, v8l, v9, h0_0, h0_1, h0_2z, h0_2l, h0_3, h0_4, h0_5z, h0_5l => (if 0 < v9 then ((v8l[0]?).bind fun e1 => (if e1.Index = h0_0 then ((zkm q e1).bind fun r2 => (if r2 = true then ((zky q (⟨h0_1, ⟨h0_2z, h0_2l⟩, h0_3, h0_4⟩ : zjm) e1.Op).bind fun r3 => ((zkd q ⟨h0_5z, h0_5l⟩ (⟨e1.Index, e1.Proc, e1.Seq, e1.Op, r3.2⟩ : zjr)).bind fun r4 => (zkz q v8z v8l v9 (wrp .i64 1) (wrp .i64 (h0_0 + 1)) r3.1.Kind r3.1.L.z r3.1.L.l r3.1.Sealed r3.1.To r4.n r4.xs r4.x))) else (some ((⟨0, (⟨0, ⟨true, []⟩, false, 0⟩ : zjm), ⟨true, []⟩⟩ : zjo), 1)))) else (some ((⟨0, (⟨0, ⟨true, []⟩, false, 0⟩ : zjm), ⟨true, []⟩⟩ : zjo), 15)))) else (some ((⟨h0_0, (⟨h0_1, ⟨h0_2z, h0_2l⟩, h0_3, h0_4⟩ : zjm), ⟨h0_5z, h0_5l⟩⟩ : zjo), 0)))
def zk1 : Nat → zjo → (Sl zjr) → Option (zjo × Int)
 | 0, _, _ => none
 | q + 1, a0, a1 => (zk0 q a1.z a1.l (a1.l.length : Int) a0.Index a0.State.Kind a0.State.L.z a0.State.L.l a0.State.Sealed a0.State.To a0.Table.z a0.Table.l)
mutual
def zk2 : Nat → Int → (List Int) → (List Int) → Option ((List Int))
 | 0, _, _, _ => none
 | q + 1, v5, h0_0, h1_0 => (if v5 < 256 then (zk3 q v5 (wrp .u32 v5) v5 0 h0_0 h1_0) else (if 256 ≤ h1_0.length then (if (min 256 h1_0.length) = 256 then (if 256 ≤ h0_0.length then (if 256 ≤ (256 + (h0_0.length - 256)) then (some (List.take 256 ((List.take 256 h1_0) ++ (List.drop 256 h0_0)))) else none) else none) else none) else none))
def zk3 : Nat → Int → Int → Int → Int → (List Int) → (List Int) → Option ((List Int))
 | 0, _, _, _, _, _, _ => none
 | q + 1, v2, v3, v5, v10, h0_0, h1_0 => (if v10 < 8 then (zk3 q v2 (ibits .xor .u32 (ishr .u32 v3 1) (ibits .and .u32 2197175160 (wrp .u32 (0 - (ibits .and .u32 v3 1))))) v5 (wrp .i64 (v10 + 1)) h0_0 h1_0) else (if 0 ≤ v2 then (if v2.toNat < 256 then (if (v2.toNat + 1) ≤ h1_0.length then (zk2 q (wrp .i64 (v5 + 1)) h0_0 (List.set h1_0 v2.toNat v3)) else none) else none) else none))
end
def zk4 : Nat → Option ((List Int))
 | 0 => none
 | q + 1 => (zk2 q 0 (List.replicate 256 0) (List.replicate 256 0))
def zk5 : Nat → Int → Bool → (List Int) → Int → Int → (List Int) → Option (Int)
 | 0, _, _, _, _, _, _ => none
 | q + 1, v6, v12z, v12l, v13, v14, h0_0 => (if v14 < v13 then (if 0 ≤ v14 then ((v12l[v14.toNat]?).bind fun e2 => (if 0 ≤ (ibits .xor .u8 (wrp .u8 v6) e2) then (if (ibits .xor .u8 (wrp .u8 v6) e2).toNat < 256 then ((h0_0[(ibits .xor .u8 (wrp .u8 v6) e2).toNat]?).bind fun e3 => (zk5 q (ibits .xor .u32 e3 (ishr .u32 v6 8)) v12z v12l v13 (wrp .i64 (v14 + 1)) h0_0)) else none) else none)) else none) else (some (ibits .xor .u32 4294967295 v6)))
def zk6 : Nat → Int → (Sl Int) → Option (Int)
 | 0, _, _ => none
 | q + 1, a0, a1 => ((zk4 q).bind fun r1 => (if r1.length = 256 then (zk5 q (ibits .xor .u32 4294967295 a0) a1.z a1.l (a1.l.length : Int) 0 r1) else none))
def zk7 : Nat → (Sl Int) → Option (Int)
 | 0, _ => none
 | q + 1, a0 => ((zk6 q 0 a0).bind fun r1 => (some r1))
def zk8 : Nat → Int → Int → Int → Bool → (List Int) → Option ((Ow Int))
 | 0, _, _, _, _, _ => none
 | q + 1, v0, v7, v8, h0z, h0l => (if v8 < v7 then (if (wrp .i64 (8 * v8)) < 0 then none else (if (h0l.length + 1) ≤ 4294967296 then (zk8 q v0 v7 (wrp .i64 (v8 + 1)) false (h0l ++ [(wrp .u8 (ishr .u64 v0 (wrp .i64 (8 * v8))))])) else none)) else (some ⟨h0z, true, h0l⟩))
def zk9 : Nat → Int → Int → Option ((Ow Int))
 | 0, _, _ => none
 | q + 1, a0, a1 => (zk8 q a0 a1 0 true [])
def zla : Nat → Int → Option ((Ow Int))
 | 0, _ => none
 | q + 1, a0 => ((zk9 q (wrp .u64 a0) 4).bind fun r1 => (some r1))
def zlb : Nat → (Sl Int) → (Sl Int) → Option ((Ow Int))
 | 0, _, _ => none
 | q + 1, a0, a1 => ((zk7 q a0).bind fun r1 => ((zk6 q r1 a1).bind fun r2 => ((zla q r2).bind fun r3 => (some r3))))
def zlc : Nat → Int → Bool → (List Int) → Bool → Option ((Ow Int))
 | 0, _, _, _, _ => none
 | q + 1, v1, h0z, h0l, h0x => (if 128 ≤ v1 then (if (h0l.length + 1) ≤ 4294967296 then (zlc q (ishr .u64 v1 7) false (h0l ++ [(ibits .or .u8 (wrp .u8 v1) 128)]) h0x) else none) else (if (h0l.length + 1) ≤ 4294967296 then (some ⟨false, h0x, (h0l ++ [(wrp .u8 v1)])⟩) else none))
def zld : Nat → (Ow Int) → Int → Option ((Ow Int))
 | 0, _, _ => none
 | q + 1, a0, a1 => (zlc q a1 a0.n a0.xs a0.x)
def zle : Nat → (Ow Int) → Int → Option ((Ow Int))
 | 0, _, _ => none
 | q + 1, a0, a1 => (if a1 < 0 then (some a0) else (if 4611686018427387904 ≤ a1 then (some a0) else ((zld q a0 (wrp .u64 a1)).bind fun r1 => (some r1))))
def zlf : Nat → Int → Option (Int)
 | 0, _ => none
 | q + 1, a0 => (some (ibits .xor .u64 (ishl .u64 (wrp .u64 a0) 1) (wrp .u64 (ishr .i64 a0 63))))
def zlg : Nat → (Ow Int) → Int → Option ((Ow Int))
 | 0, _, _ => none
 | q + 1, a0, a1 => ((zlf q a1).bind fun r1 => ((zld q a0 r1).bind fun r2 => (some r2)))
def zlh : Nat → Nat → Bool → (List (Sl Int)) → Int → Int → Bool → (List Int) → Option ((Ow Int))
 | 0, _, _, _, _, _, _, _ => none
 | q + 1, v6len, v25z, v25l, v26, v27, h0z, h0l => (if v27 < v26 then (if 0 ≤ v27 then ((v25l[v27.toNat]?).bind fun e2 => (if (v6len + e2.l.length) ≤ h0l.length then (zlh q (v6len + e2.l.length) v25z v25l v26 (wrp .i64 (v27 + 1)) h0z (((List.take v6len h0l) ++ e2.l) ++ (List.drop (v6len + e2.l.length) h0l))) else none)) else none) else (some ⟨h0z, true, (List.take v6len h0l)⟩))
def zli : Nat → Bool → (List (Sl Int)) → Int → Int → Bool → (List Int) → Option ((Ow Int))
 | 0, _, _, _, _, _, _ => none
 | q + 1, v25z, v25l, v26, v27, h0z, h0l => (if v27 < v26 then (if 0 ≤ v27 then ((v25l[v27.toNat]?).bind fun e4 => (if (h0l.length + e4.l.length) ≤ 4294967296 then (zli q v25z v25l v26 (wrp .i64 (v27 + 1)) (h0z && (decide (e4.l.length = 0))) (h0l ++ e4.l)) else none)) else none) else (some ⟨h0z, true, h0l⟩))
def zlj : Nat → Bool → (List (Sl Int)) → Int → Option ((Ow Int))
 | 0, _, _, _ => none
 | q + 1, v25z, v25l, v26 => (if 0 < v26 then ((v25l[0]?).bind fun e3 => (if e3.l.length ≤ 4294967296 then (zli q v25z v25l v26 (wrp .i64 1) (decide (e3.l.length = 0)) e3.l) else none)) else (some ⟨true, true, []⟩))
def zlk : Nat → Bool → (List (Sl Int)) → Int → Bool → (List (Sl Int)) → Int → Int → Option ((Ow Int))
 | 0, _, _, _, _, _, _, _ => none
 | q + 1, v0z, v0l, v3, v9z, v9l, v10, v11 => (if v11 < v10 then (if 0 ≤ v11 then ((v9l[v11.toNat]?).bind fun e1 => (if (wrp .i64 (v3 + (e1.l.length : Int))) < 0 then none else (zlk q v0z v0l (wrp .i64 (v3 + (e1.l.length : Int))) v9z v9l v10 (wrp .i64 (v11 + 1))))) else none) else (if v3 < 0 then none else (if 0 < (wrp .i64 (v3 - (wrp .i64 0))) then (if 0 ≤ (wrp .i64 (v3 - (wrp .i64 0))) then (if (wrp .i64 (v3 - (wrp .i64 0))).toNat ≤ 4294967296 then (if (wrp .i64 (v3 - (wrp .i64 0))) = 0 then none else (zlh q 0 v0z v0l (v0l.length : Int) 0 (decide ((wrp .i64 (v3 - (wrp .i64 0))) = 0)) (List.replicate ((wrp .i64 (v3 - (wrp .i64 0))).toNat) 0))) else none) else none) else (zlj q v0z v0l (v0l.length : Int)))))
def zll : Nat → (Sl (Sl Int)) → Option ((Ow Int))
 | 0, _ => none
 | q + 1, a0 => (zlk q a0.z a0.l 0 a0.z a0.l (a0.l.length : Int) 0)
def zlm : Nat → (Sl Int) → Option ((Ow Int) × Int)
 | 0, _ => none
 | q + 1, a0 => (if 1048576 < (a0.l.length : Int) then (some (⟨true, true, []⟩, 5)) else ((zle q ⟨true, true, []⟩ (a0.l.length : Int)).bind fun r1 => ((zlb q ⟨r1.n, r1.xs⟩ a0).bind fun r2 => ((zll q ⟨false, [⟨r1.n, r1.xs⟩, a0, ⟨r2.n, r2.xs⟩]⟩).bind fun r3 => (some (r3, 0))))))
def zln : Nat → zjm → Option (Int)
 | 0, _ => none
 | q + 1, a0 => (if a0.Sealed = true then (some (wrp .i64 (a0.To + 1))) else (some 0))
def zlo : Nat → Bool → (List Int) → Int → Int → Bool → (List Int) → Bool → Option ((Ow Int) × Int)
 | 0, _, _, _, _, _, _, _ => none
 | q + 1, v21z, v21l, v22, v23, h0z, h0l, h0x => (if v23 < v22 then (if 0 ≤ v23 then ((v21l[v23.toNat]?).bind fun e6 => ((zlg q ⟨h0z, h0x, h0l⟩ e6).bind fun r7 => (zlo q v21z v21l v22 (wrp .i64 (v23 + 1)) r7.n r7.xs r7.x))) else none) else (some (⟨h0z, h0x, h0l⟩, 0)))
def zlp : Nat → zjm → Option ((Ow Int) × Int)
 | 0, _ => none
 | q + 1, a0 => ((zjz q a0).bind fun r1 => (if r1 = true then ((zle q ⟨true, true, []⟩ a0.Kind).bind fun r2 => ((zln q a0).bind fun r3 => ((zle q r2 r3).bind fun r4 => ((zle q r4 (a0.L.l.length : Int)).bind fun r5 => (zlo q a0.L.z a0.L.l (a0.L.l.length : Int) 0 r5.n r5.xs r5.x))))) else (some (⟨true, true, []⟩, 1))))
def zlq : Nat → Bool → (List zjn) → Int → Int → Bool → (List Int) → Bool → Option ((Ow Int))
 | 0, _, _, _, _, _, _, _ => none
 | q + 1, v24z, v24l, v25, v26, h0z, h0l, h0x => (if v26 < v25 then (if 0 ≤ v26 then ((v24l[v26.toNat]?).bind fun e4 => ((zle q ⟨h0z, h0x, h0l⟩ e4.Proc).bind fun r5 => ((zle q r5 e4.Seq).bind fun r6 => ((zlg q r6 e4.Resp).bind fun r7 => (zlq q v24z v24l v25 (wrp .i64 (v26 + 1)) r7.n r7.xs r7.x))))) else none) else (some ⟨h0z, h0x, h0l⟩))
def zlr : Nat → zjo → Option ((Ow Int))
 | 0, _ => none
 | q + 1, a0 => ((zlp q a0.State).bind fun r1 => ((zle q ⟨true, true, []⟩ (r1.1.xs.length : Int)).bind fun r2 => (if (r2.xs.length + r1.1.xs.length) ≤ 4294967296 then ((zle q ⟨(r2.n && (decide (r1.1.xs.length = 0))), r2.x, (r2.xs ++ r1.1.xs)⟩ (a0.Table.l.length : Int)).bind fun r3 => (zlq q a0.Table.z a0.Table.l (a0.Table.l.length : Int) 0 r3.n r3.xs r3.x)) else none)))
def zls : Nat → (Sl Int) → Option ((Ow Int))
 | 0, _ => none
 | q + 1, a0 => ((zlm q a0).bind fun r1 => (some r1.1))
def zlt : Nat → Nat → Nat → Bool → (List Int) → Bool → (List Int) → Bool → Option ((Ow Int) × Int)
 | 0, _, _, _, _, _, _, _ => none
 | q + 1, v4off, v4len, h0z, h0l, h1z, h1l, h1x => (if 0 < (v4len : Int) then (if 0 ≤ (if 64 < (v4len : Int) then 64 else (v4len : Int)) then (if (if 64 < (v4len : Int) then 64 else (v4len : Int)) ≤ (if 64 < (v4len : Int) then 64 else (v4len : Int)) then (if (v4off + (if 64 < (v4len : Int) then 64 else (v4len : Int)).toNat) ≤ h0l.length then ((zls q ⟨h0z, (List.take ((if 64 < (v4len : Int) then 64 else (v4len : Int)).toNat) (List.drop v4off h0l))⟩).bind fun r10 => (if (h1l.length + r10.xs.length) ≤ 4294967296 then (if (if 64 < (v4len : Int) then 64 else (v4len : Int)).toNat ≤ v4len then (zlt q (v4off + (if 64 < (v4len : Int) then 64 else (v4len : Int)).toNat) (v4len - (if 64 < (v4len : Int) then 64 else (v4len : Int)).toNat) h0z h0l (h1z && (decide (r10.xs.length = 0))) (h1l ++ r10.xs) h1x) else none) else none)) else none) else none) else none) else (some (⟨h1z, h1x, h1l⟩, 0)))
def zlu : Nat → Bool → (List Int) → Bool → Bool → (List Int) → Bool → Option ((Ow Int) × Int)
 | 0, _, _, _, _, _, _ => none
 | q + 1, h0z, h0l, h0x, h1z, h1l, h1x => (if 0 < (h0l.length : Int) then (if 0 ≤ (if 64 < (h0l.length : Int) then 64 else (h0l.length : Int)) then (if (if 64 < (h0l.length : Int) then 64 else (h0l.length : Int)) ≤ (if 64 < (h0l.length : Int) then 64 else (h0l.length : Int)) then (if (if 64 < (h0l.length : Int) then 64 else (h0l.length : Int)).toNat ≤ h0l.length then ((zls q ⟨h0z, (List.take ((if 64 < (h0l.length : Int) then 64 else (h0l.length : Int)).toNat) h0l)⟩).bind fun r9 => (if (h1l.length + r9.xs.length) ≤ 4294967296 then (zlt q ((if 64 < (h0l.length : Int) then 64 else (h0l.length : Int)).toNat) (h0l.length - (if 64 < (h0l.length : Int) then 64 else (h0l.length : Int)).toNat) h0z h0l (h1z && (decide (r9.xs.length = 0))) (h1l ++ r9.xs) h1x) else none)) else none) else none) else none) else (some (⟨h1z, h1x, h1l⟩, 0)))
def zlv : Nat → zjo → Option ((Ow Int) × Int)
 | 0, _ => none
 | q + 1, a0 => ((zj3 q a0).bind fun r1 => (if r1 = true then ((zlr q a0).bind fun r2 => ((zle q ⟨false, true, [115]⟩ 3).bind fun r3 => ((zle q r3 a0.Index).bind fun r4 => ((zle q r4 (r2.xs.length : Int)).bind fun r5 => ((zk7 q ⟨r2.n, r2.xs⟩).bind fun r6 => ((zla q r6).bind fun r7 => (if (r5.xs.length + r7.xs.length) ≤ 4294967296 then ((zls q ⟨(r5.n && (decide (r7.xs.length = 0))), (r5.xs ++ r7.xs)⟩).bind fun r8 => (zlu q r2.n r2.xs r2.x r8.n r8.xs r8.x)) else none))))))) else (some (⟨true, true, []⟩, 1))))
def zlw : Nat → Option (Bool)
 | 0 => none
 | q + 1 => ((zk1 q (⟨0, (⟨0, ⟨false, [0]⟩, false, 0⟩ : zjm), ⟨true, []⟩⟩ : zjo) ⟨false, [(⟨0, 2, 1, (⟨1, 5, 0⟩ : zjq), 0⟩ : zjr)]⟩).bind fun r1 => ((zlv q r1.1).bind fun r2 => (if r1.2 = 0 then (if r2.2 = 0 then (if 10 < (r2.1.xs.length : Int) then (if r1.1.Index = 1 then (if (r1.1.Table.l.length : Int) = 1 then ((r1.1.Table.l[0]?).bind fun e3 => (if e3.Proc = 2 then (if e3.Seq = 1 then (if e3.Resp = 0 then (if (r1.1.State.L.l.length : Int) = 1 then ((r1.1.State.L.l[0]?).bind fun e4 => (some (decide (e4 = 5)))) else (some false)) else (some false)) else (some false)) else (some false))) else (some false)) else (some false)) else (some false)) else (some false)) else (some false))))
def zlx : Nat → zjq → Option (Bool)
 | 0, _ => none
 | q + 1, a0 => (if 0 ≤ a0.Code then (if a0.Code ≤ 10 then ((zki q a0.A).bind fun r1 => (if a0.A = r1 then ((zki q a0.B).bind fun r2 => (some (decide (a0.B = r2)))) else (some false))) else (some false)) else (some false))
def zly : Nat → zjr → Option (Bool)
 | 0, _ => none
 | q + 1, a0 => ((zlx q a0.Op).bind fun r1 => (if r1 = true then (if 0 ≤ a0.Index then (if a0.Index < 4611686018427387904 then (if 0 ≤ a0.Seq then (if a0.Seq < 4611686018427387904 then (if 0 ≤ a0.Proc then (if a0.Proc ≤ 64 then (if (-1125899906842624) ≤ a0.Resp then (some (decide (a0.Resp ≤ 1125899906842624))) else (some false)) else (some false)) else (some false)) else (some false)) else (some false)) else (some false)) else (some false)) else (some false)))
def zlz : Nat → zjm → zjq → Option (zjm × Int)
 | 0, _, _ => none
 | q + 1, a0, a1 => ((a0.L.l[0]?).bind fun e1 => (if a0.Kind = 0 then (if a1.Code = 1 then ((zki q a1.A).bind fun r2 => ((zki q (wrp .i64 (e1 + r2))).bind fun r3 => (some ((⟨a0.Kind, ⟨false, [r3]⟩, a0.Sealed, a0.To⟩ : zjm), e1)))) else (if a0.Kind = 1 then (if a1.Code = 2 then ((zki q a1.A).bind fun r4 => (some ((⟨a0.Kind, ⟨false, [r4]⟩, a0.Sealed, a0.To⟩ : zjm), e1))) else (if a1.Code = 7 then (some (a0, e1)) else (some (a0, 0)))) else (if a1.Code = 7 then (some (a0, e1)) else (some (a0, 0))))) else (if a0.Kind = 1 then (if a1.Code = 2 then ((zki q a1.A).bind fun r5 => (some ((⟨a0.Kind, ⟨false, [r5]⟩, a0.Sealed, a0.To⟩ : zjm), e1))) else (if a1.Code = 7 then (some (a0, e1)) else (some (a0, 0)))) else (if a1.Code = 7 then (some (a0, e1)) else (some (a0, 0))))))
def zl0 : Nat → zjm → zjq → Option (zjm × Int)
 | 0, _, _ => none
 | q + 1, a0, a1 => (if a1.Code = 3 then (if (a0.L.l.length : Int) = 64 then (some (a0, (-1))) else (if a0.L.l.length ≤ 4294967296 then ((zki q a1.A).bind fun r1 => (if (a0.L.l.length + 1) ≤ 4294967296 then (some ((⟨a0.Kind, ⟨false, (a0.L.l ++ [r1])⟩, a0.Sealed, a0.To⟩ : zjm), (wrp .i64 ((a0.L.l.length : Int) + 1)))) else none)) else none)) else (if a1.Code = 4 then (if (a0.L.l.length : Int) = 0 then (some (a0, (-1))) else (if a0.L.l.length ≤ 4294967296 then (if a0.Kind = 2 then (if 1 ≤ a0.L.l.length then (if 0 < a0.L.l.length then ((a0.L.l[0]?).bind fun e2 => (some ((⟨a0.Kind, ⟨(decide (a0.L.l.length = 0)), (List.drop 1 a0.L.l)⟩, a0.Sealed, a0.To⟩ : zjm), e2))) else none) else none) else (if 0 ≤ (wrp .i64 ((a0.L.l.length : Int) - 1)) then (if (wrp .i64 ((a0.L.l.length : Int) - 1)).toNat ≤ a0.L.l.length then (if a0.L.l.length = 0 then none else (if (wrp .i64 ((a0.L.l.length : Int) - 1)).toNat < a0.L.l.length then ((a0.L.l[(wrp .i64 ((a0.L.l.length : Int) - 1)).toNat]?).bind fun e3 => (some ((⟨a0.Kind, ⟨(decide (a0.L.l.length = 0)), (List.take ((wrp .i64 ((a0.L.l.length : Int) - 1)).toNat) a0.L.l)⟩, a0.Sealed, a0.To⟩ : zjm), e3))) else none)) else none) else none)) else none)) else (if a1.Code = 7 then (some (a0, (a0.L.l.length : Int))) else (some (a0, 0)))))
def zl1 : Nat → Bool → (List Int) → Int → Int → Option (Int)
 | 0, _, _, _, _ => none
 | q + 1, v0z, v0l, v1, v5 => (if v5 < (v0l.length : Int) then (if 0 ≤ v5 then ((v0l[v5.toNat]?).bind fun e1 => (if e1 = v1 then (some v5) else (zl1 q v0z v0l v1 (wrp .i64 (v5 + 2))))) else none) else (some (-1)))
def zl2 : Nat → (Sl Int) → Int → Option (Int)
 | 0, _, _ => none
 | q + 1, a0, a1 => (zl1 q a0.z a0.l a1 0)
def zl3 : Nat → Bool → (List Int) → Int → Int → Bool → (List Int) → Option ((Ow Int))
 | 0, _, _, _, _, _, _ => none
 | q + 1, v0z, v0l, v1, v6, h0z, h0l => (if v6 < (v0l.length : Int) then (if 0 ≤ v6 then ((v0l[v6.toNat]?).bind fun e1 => (if e1 = v1 then (zl3 q v0z v0l v1 (wrp .i64 (v6 + 2)) h0z h0l) else (if (h0l.length + 1) ≤ 4294967296 then (if 0 ≤ (wrp .i64 (v6 + 1)) then ((v0l[(wrp .i64 (v6 + 1)).toNat]?).bind fun e2 => (if ((h0l.length + 1) + 1) ≤ 4294967296 then (zl3 q v0z v0l v1 (wrp .i64 (v6 + 2)) false ((h0l ++ [e1]) ++ [e2])) else none)) else none) else none))) else none) else (some ⟨h0z, true, h0l⟩))
def zl4 : Nat → (Sl Int) → Int → Option ((Ow Int))
 | 0, _, _ => none
 | q + 1, a0, a1 => (zl3 q a0.z a0.l a1 0 true [])
def zl5 : Nat → Bool → (List Int) → Int → Int → Bool → Int → Bool → (List Int) → Option ((Ow Int))
 | 0, _, _, _, _, _, _, _, _ => none
 | q + 1, v0z, v0l, v1, v2, v8, v9, h0z, h0l => (if v9 < (v0l.length : Int) then (if v8 = true then (if 0 ≤ v9 then ((v0l[v9.toNat]?).bind fun e1 => (if e1 = v1 then (zl5 q v0z v0l v1 v2 v8 (wrp .i64 (v9 + 2)) h0z h0l) else (if (h0l.length + 1) ≤ 4294967296 then (if 0 ≤ (wrp .i64 (v9 + 1)) then ((v0l[(wrp .i64 (v9 + 1)).toNat]?).bind fun e2 => (if ((h0l.length + 1) + 1) ≤ 4294967296 then (zl5 q v0z v0l v1 v2 v8 (wrp .i64 (v9 + 2)) false ((h0l ++ [e1]) ++ [e2])) else none)) else none) else none))) else none) else (if 0 ≤ v9 then ((v0l[v9.toNat]?).bind fun e3 => (if v1 ≤ e3 then (if (h0l.length + 1) ≤ 4294967296 then (if ((h0l.length + 1) + 1) ≤ 4294967296 then (if e3 = v1 then (zl5 q v0z v0l v1 v2 true (wrp .i64 (v9 + 2)) false ((h0l ++ [v1]) ++ [v2])) else (if (((h0l.length + 1) + 1) + 1) ≤ 4294967296 then (if 0 ≤ (wrp .i64 (v9 + 1)) then ((v0l[(wrp .i64 (v9 + 1)).toNat]?).bind fun e4 => (if ((((h0l.length + 1) + 1) + 1) + 1) ≤ 4294967296 then (zl5 q v0z v0l v1 v2 true (wrp .i64 (v9 + 2)) false ((((h0l ++ [v1]) ++ [v2]) ++ [e3]) ++ [e4])) else none)) else none) else none)) else none) else none) else (if e3 = v1 then (zl5 q v0z v0l v1 v2 v8 (wrp .i64 (v9 + 2)) h0z h0l) else (if (h0l.length + 1) ≤ 4294967296 then (if 0 ≤ (wrp .i64 (v9 + 1)) then ((v0l[(wrp .i64 (v9 + 1)).toNat]?).bind fun e5 => (if ((h0l.length + 1) + 1) ≤ 4294967296 then (zl5 q v0z v0l v1 v2 v8 (wrp .i64 (v9 + 2)) false ((h0l ++ [e3]) ++ [e5])) else none)) else none) else none)))) else none)) else (if v8 = true then (some ⟨h0z, true, h0l⟩) else (if (h0l.length + 1) ≤ 4294967296 then (if ((h0l.length + 1) + 1) ≤ 4294967296 then (some ⟨false, true, ((h0l ++ [v1]) ++ [v2])⟩) else none) else none)))
def zl6 : Nat → (Sl Int) → Int → Int → Option ((Ow Int))
 | 0, _, _, _ => none
 | q + 1, a0, a1, a2 => (zl5 q a0.z a0.l a1 a2 false 0 true [])
def zl7 : Nat → zjm → zjq → Option (zjm × Int)
 | 0, _, _ => none
 | q + 1, a0, a1 => (if a1.Code = 7 then (if a1.A < 0 then (some (a0, (-1))) else (if 255 < a1.A then (some (a0, (-1))) else ((zl2 q a0.L a1.A).bind fun r1 => (if 0 ≤ r1 then (if 0 ≤ (wrp .i64 (r1 + 1)) then ((a0.L.l[(wrp .i64 (r1 + 1)).toNat]?).bind fun e2 => (if a1.Code = 6 then ((zl4 q a0.L a1.A).bind fun r3 => (if a1.Code = 5 then (if r1 < 0 then (if (r3.xs.length : Int) = 128 then (some ((⟨a0.Kind, ⟨r3.n, r3.xs⟩, a0.Sealed, a0.To⟩ : zjm), (-2))) else ((zki q a1.B).bind fun r4 => ((zl6 q ⟨r3.n, r3.xs⟩ a1.A r4).bind fun r5 => (some ((⟨a0.Kind, ⟨r5.n, r5.xs⟩, a0.Sealed, a0.To⟩ : zjm), e2))))) else ((zki q a1.B).bind fun r6 => ((zl6 q ⟨r3.n, r3.xs⟩ a1.A r6).bind fun r7 => (some ((⟨a0.Kind, ⟨r7.n, r7.xs⟩, a0.Sealed, a0.To⟩ : zjm), e2))))) else (some ((⟨a0.Kind, ⟨r3.n, r3.xs⟩, a0.Sealed, a0.To⟩ : zjm), e2)))) else (if a1.Code = 5 then (if r1 < 0 then (if (a0.L.l.length : Int) = 128 then (some (a0, (-2))) else ((zki q a1.B).bind fun r8 => ((zl6 q a0.L a1.A r8).bind fun r9 => (some ((⟨a0.Kind, ⟨r9.n, r9.xs⟩, a0.Sealed, a0.To⟩ : zjm), e2))))) else ((zki q a1.B).bind fun r10 => ((zl6 q a0.L a1.A r10).bind fun r11 => (some ((⟨a0.Kind, ⟨r11.n, r11.xs⟩, a0.Sealed, a0.To⟩ : zjm), e2))))) else (some (a0, e2))))) else none) else (if a1.Code = 6 then ((zl4 q a0.L a1.A).bind fun r12 => (if a1.Code = 5 then (if r1 < 0 then (if (r12.xs.length : Int) = 128 then (some ((⟨a0.Kind, ⟨r12.n, r12.xs⟩, a0.Sealed, a0.To⟩ : zjm), (-2))) else ((zki q a1.B).bind fun r13 => ((zl6 q ⟨r12.n, r12.xs⟩ a1.A r13).bind fun r14 => (some ((⟨a0.Kind, ⟨r14.n, r14.xs⟩, a0.Sealed, a0.To⟩ : zjm), (-1)))))) else ((zki q a1.B).bind fun r15 => ((zl6 q ⟨r12.n, r12.xs⟩ a1.A r15).bind fun r16 => (some ((⟨a0.Kind, ⟨r16.n, r16.xs⟩, a0.Sealed, a0.To⟩ : zjm), (-1)))))) else (some ((⟨a0.Kind, ⟨r12.n, r12.xs⟩, a0.Sealed, a0.To⟩ : zjm), (-1))))) else (if a1.Code = 5 then (if r1 < 0 then (if (a0.L.l.length : Int) = 128 then (some (a0, (-2))) else ((zki q a1.B).bind fun r17 => ((zl6 q a0.L a1.A r17).bind fun r18 => (some ((⟨a0.Kind, ⟨r18.n, r18.xs⟩, a0.Sealed, a0.To⟩ : zjm), (-1)))))) else ((zki q a1.B).bind fun r19 => ((zl6 q a0.L a1.A r19).bind fun r20 => (some ((⟨a0.Kind, ⟨r20.n, r20.xs⟩, a0.Sealed, a0.To⟩ : zjm), (-1)))))) else (some (a0, (-1))))))))) else (if a1.Code = 6 then (if a1.A < 0 then (some (a0, (-1))) else (if 255 < a1.A then (some (a0, (-1))) else ((zl2 q a0.L a1.A).bind fun r21 => (if 0 ≤ r21 then (if 0 ≤ (wrp .i64 (r21 + 1)) then ((a0.L.l[(wrp .i64 (r21 + 1)).toNat]?).bind fun e22 => ((zl4 q a0.L a1.A).bind fun r23 => (if a1.Code = 5 then (if r21 < 0 then (if (r23.xs.length : Int) = 128 then (some ((⟨a0.Kind, ⟨r23.n, r23.xs⟩, a0.Sealed, a0.To⟩ : zjm), (-2))) else ((zki q a1.B).bind fun r24 => ((zl6 q ⟨r23.n, r23.xs⟩ a1.A r24).bind fun r25 => (some ((⟨a0.Kind, ⟨r25.n, r25.xs⟩, a0.Sealed, a0.To⟩ : zjm), e22))))) else ((zki q a1.B).bind fun r26 => ((zl6 q ⟨r23.n, r23.xs⟩ a1.A r26).bind fun r27 => (some ((⟨a0.Kind, ⟨r27.n, r27.xs⟩, a0.Sealed, a0.To⟩ : zjm), e22))))) else (some ((⟨a0.Kind, ⟨r23.n, r23.xs⟩, a0.Sealed, a0.To⟩ : zjm), e22))))) else none) else ((zl4 q a0.L a1.A).bind fun r28 => (if a1.Code = 5 then (if r21 < 0 then (if (r28.xs.length : Int) = 128 then (some ((⟨a0.Kind, ⟨r28.n, r28.xs⟩, a0.Sealed, a0.To⟩ : zjm), (-2))) else ((zki q a1.B).bind fun r29 => ((zl6 q ⟨r28.n, r28.xs⟩ a1.A r29).bind fun r30 => (some ((⟨a0.Kind, ⟨r30.n, r30.xs⟩, a0.Sealed, a0.To⟩ : zjm), (-1)))))) else ((zki q a1.B).bind fun r31 => ((zl6 q ⟨r28.n, r28.xs⟩ a1.A r31).bind fun r32 => (some ((⟨a0.Kind, ⟨r32.n, r32.xs⟩, a0.Sealed, a0.To⟩ : zjm), (-1)))))) else (some ((⟨a0.Kind, ⟨r28.n, r28.xs⟩, a0.Sealed, a0.To⟩ : zjm), (-1))))))))) else (if a1.Code = 5 then (if a1.A < 0 then (some (a0, (-1))) else (if 255 < a1.A then (some (a0, (-1))) else ((zl2 q a0.L a1.A).bind fun r33 => (if 0 ≤ r33 then (if 0 ≤ (wrp .i64 (r33 + 1)) then ((a0.L.l[(wrp .i64 (r33 + 1)).toNat]?).bind fun e34 => (if r33 < 0 then (if (a0.L.l.length : Int) = 128 then (some (a0, (-2))) else ((zki q a1.B).bind fun r35 => ((zl6 q a0.L a1.A r35).bind fun r36 => (some ((⟨a0.Kind, ⟨r36.n, r36.xs⟩, a0.Sealed, a0.To⟩ : zjm), e34))))) else ((zki q a1.B).bind fun r37 => ((zl6 q a0.L a1.A r37).bind fun r38 => (some ((⟨a0.Kind, ⟨r38.n, r38.xs⟩, a0.Sealed, a0.To⟩ : zjm), e34)))))) else none) else (if r33 < 0 then (if (a0.L.l.length : Int) = 128 then (some (a0, (-2))) else ((zki q a1.B).bind fun r39 => ((zl6 q a0.L a1.A r39).bind fun r40 => (some ((⟨a0.Kind, ⟨r40.n, r40.xs⟩, a0.Sealed, a0.To⟩ : zjm), (-1)))))) else ((zki q a1.B).bind fun r41 => ((zl6 q a0.L a1.A r41).bind fun r42 => (some ((⟨a0.Kind, ⟨r42.n, r42.xs⟩, a0.Sealed, a0.To⟩ : zjm), (-1)))))))))) else (some (a0, 0)))))
def zl8 : Nat → zjm → zjq → Option (zjm × Int)
 | 0, _, _ => none
 | q + 1, a0, a1 => (if a1.A < 0 then (some (a0, 0)) else (if 65535 < a1.A then (some (a0, 0)) else (if a1.B < 0 then (some (a0, 0)) else ((zl2 q a0.L (wrp .i64 (Int.tdiv a1.A 256))).bind fun r1 => ((zl2 q a0.L (Int.tmod a1.A 256)).bind fun r2 => (if r1 < 0 then (some (a0, 0)) else (if 0 ≤ (wrp .i64 (r1 + 1)) then ((a0.L.l[(wrp .i64 (r1 + 1)).toNat]?).bind fun e3 => (if e3 < a1.B then (some (a0, 0)) else (if (wrp .i64 (Int.tdiv a1.A 256)) = (Int.tmod a1.A 256) then (some (a0, 1)) else (if 0 ≤ r2 then (if 0 ≤ (wrp .i64 (r2 + 1)) then ((a0.L.l[(wrp .i64 (r2 + 1)).toNat]?).bind fun e4 => (if r2 < 0 then (if (a0.L.l.length : Int) = 128 then (some (a0, 0)) else (if 1099511627776 < (wrp .i64 (e4 + a1.B)) then (some (a0, 0)) else ((zl6 q a0.L (wrp .i64 (Int.tdiv a1.A 256)) (wrp .i64 (e3 - a1.B))).bind fun r5 => ((zl6 q ⟨r5.n, r5.xs⟩ (Int.tmod a1.A 256) (wrp .i64 (e4 + a1.B))).bind fun r6 => (some ((⟨a0.Kind, ⟨r6.n, r6.xs⟩, a0.Sealed, a0.To⟩ : zjm), 1)))))) else (if 1099511627776 < (wrp .i64 (e4 + a1.B)) then (some (a0, 0)) else ((zl6 q a0.L (wrp .i64 (Int.tdiv a1.A 256)) (wrp .i64 (e3 - a1.B))).bind fun r7 => ((zl6 q ⟨r7.n, r7.xs⟩ (Int.tmod a1.A 256) (wrp .i64 (e4 + a1.B))).bind fun r8 => (some ((⟨a0.Kind, ⟨r8.n, r8.xs⟩, a0.Sealed, a0.To⟩ : zjm), 1))))))) else none) else (if r2 < 0 then (if (a0.L.l.length : Int) = 128 then (some (a0, 0)) else (if 1099511627776 < (wrp .i64 (0 + a1.B)) then (some (a0, 0)) else ((zl6 q a0.L (wrp .i64 (Int.tdiv a1.A 256)) (wrp .i64 (e3 - a1.B))).bind fun r9 => ((zl6 q ⟨r9.n, r9.xs⟩ (Int.tmod a1.A 256) (wrp .i64 (0 + a1.B))).bind fun r10 => (some ((⟨a0.Kind, ⟨r10.n, r10.xs⟩, a0.Sealed, a0.To⟩ : zjm), 1)))))) else (if 1099511627776 < (wrp .i64 (0 + a1.B)) then (some (a0, 0)) else ((zl6 q a0.L (wrp .i64 (Int.tdiv a1.A 256)) (wrp .i64 (e3 - a1.B))).bind fun r11 => ((zl6 q ⟨r11.n, r11.xs⟩ (Int.tmod a1.A 256) (wrp .i64 (0 + a1.B))).bind fun r12 => (some ((⟨a0.Kind, ⟨r12.n, r12.xs⟩, a0.Sealed, a0.To⟩ : zjm), 1)))))))))) else none)))))))
def zl9 : Nat → zjm → zjq → Option (zjm × Int)
 | 0, _, _ => none
 | q + 1, a0, a1 => (if a1.Code = 9 then ((zl8 q a0 a1).bind fun r1 => (some (r1.1, r1.2))) else (if a1.Code = 7 then (if a1.A < 0 then (some (a0, (-1))) else (if 255 < a1.A then (some (a0, (-1))) else ((zl2 q a0.L a1.A).bind fun r2 => (if 0 ≤ r2 then (if 0 ≤ (wrp .i64 (r2 + 1)) then ((a0.L.l[(wrp .i64 (r2 + 1)).toNat]?).bind fun e3 => (some (a0, e3))) else none) else (some (a0, (-1))))))) else (if a1.Code = 8 then (if a1.A < 0 then (some (a0, (-1))) else (if 255 < a1.A then (some (a0, (-1))) else ((zl2 q a0.L a1.A).bind fun r4 => (if 0 ≤ r4 then (if 0 ≤ (wrp .i64 (r4 + 1)) then ((a0.L.l[(wrp .i64 (r4 + 1)).toNat]?).bind fun e5 => (if a1.B < 0 then (some (a0, (-1))) else (if r4 < 0 then (if (a0.L.l.length : Int) = 128 then (some (a0, (-2))) else (if e5 < 0 then ((zki q a1.B).bind fun r6 => ((zki q (wrp .i64 (0 + r6))).bind fun r7 => ((zl6 q a0.L a1.A r7).bind fun r8 => (some ((⟨a0.Kind, ⟨r8.n, r8.xs⟩, a0.Sealed, a0.To⟩ : zjm), r7))))) else ((zki q a1.B).bind fun r9 => ((zki q (wrp .i64 (e5 + r9))).bind fun r10 => ((zl6 q a0.L a1.A r10).bind fun r11 => (some ((⟨a0.Kind, ⟨r11.n, r11.xs⟩, a0.Sealed, a0.To⟩ : zjm), r10))))))) else (if e5 < 0 then ((zki q a1.B).bind fun r12 => ((zki q (wrp .i64 (0 + r12))).bind fun r13 => ((zl6 q a0.L a1.A r13).bind fun r14 => (some ((⟨a0.Kind, ⟨r14.n, r14.xs⟩, a0.Sealed, a0.To⟩ : zjm), r13))))) else ((zki q a1.B).bind fun r15 => ((zki q (wrp .i64 (e5 + r15))).bind fun r16 => ((zl6 q a0.L a1.A r16).bind fun r17 => (some ((⟨a0.Kind, ⟨r17.n, r17.xs⟩, a0.Sealed, a0.To⟩ : zjm), r16))))))))) else none) else (if a1.B < 0 then (some (a0, (-1))) else (if r4 < 0 then (if (a0.L.l.length : Int) = 128 then (some (a0, (-2))) else ((zki q a1.B).bind fun r18 => ((zki q (wrp .i64 (0 + r18))).bind fun r19 => ((zl6 q a0.L a1.A r19).bind fun r20 => (some ((⟨a0.Kind, ⟨r20.n, r20.xs⟩, a0.Sealed, a0.To⟩ : zjm), r19)))))) else ((zki q a1.B).bind fun r21 => ((zki q (wrp .i64 (0 + r21))).bind fun r22 => ((zl6 q a0.L a1.A r22).bind fun r23 => (some ((⟨a0.Kind, ⟨r23.n, r23.xs⟩, a0.Sealed, a0.To⟩ : zjm), r22))))))))))) else (some (a0, 0)))))
def zma : Nat → zjm → zjq → Option (zjm × Int)
 | 0, _, _ => none
 | q + 1, a0, a1 => ((zkk q a0).bind fun r1 => (if r1 = true then (if a0.Sealed = true then (some (a0, (-1125899906842624))) else (if a1.Code = 10 then (if 0 ≤ a1.A then (if a1.A ≤ 2 then (some ((⟨a0.Kind, a0.L, true, a1.A⟩ : zjm), 0)) else (some ((⟨a0.Kind, a0.L, true, a0.To⟩ : zjm), 0))) else (some ((⟨a0.Kind, a0.L, true, a0.To⟩ : zjm), 0))) else (if a0.Kind = 0 then ((zlz q a0 a1).bind fun r2 => (some (r2.1, r2.2))) else (if a0.Kind = 1 then ((zlz q a0 a1).bind fun r3 => (some (r3.1, r3.2))) else (if a0.Kind = 2 then ((zl0 q a0 a1).bind fun r4 => (some (r4.1, r4.2))) else (if a0.Kind = 3 then ((zl0 q a0 a1).bind fun r5 => (some (r5.1, r5.2))) else (if a0.Kind = 4 then ((zl7 q a0 a1).bind fun r6 => (some (r6.1, r6.2))) else (if a0.Kind = 5 then ((zl9 q a0 a1).bind fun r7 => (some (r7.1, r7.2))) else (some (a0, 0)))))))))) else (some (a0, 0))))
def zmb : Nat → Bool → (List zjn) → Bool → Int → Int → Int → Int → Int → Int → Int → Int → Bool → (List zjn) → Option ((Ow zjn))
 | 0, _, _, _, _, _, _, _, _, _, _, _, _, _ => none
 | q + 1, v0z, v0l, v6, v7, h0_0, h0_1, h0_2, h0_3, h0_4, h0_5, h0_6, h1z, h1l => (if v7 < (v0l.length : Int) then (if v6 = true then (if 0 ≤ v7 then ((v0l[v7.toNat]?).bind fun e1 => (if e1.Proc = h0_1 then (zmb q v0z v0l v6 (wrp .i64 (v7 + 1)) h0_0 h0_1 h0_2 h0_3 h0_4 h0_5 h0_6 h1z h1l) else (if (h1l.length + 1) ≤ 4294967296 then (zmb q v0z v0l v6 (wrp .i64 (v7 + 1)) h0_0 h0_1 h0_2 h0_3 h0_4 h0_5 h0_6 false (h1l ++ [e1])) else none))) else none) else (if 0 ≤ v7 then ((v0l[v7.toNat]?).bind fun e2 => (if h0_1 < e2.Proc then (if (h1l.length + 1) ≤ 4294967296 then (if e2.Proc = h0_1 then (zmb q v0z v0l true (wrp .i64 (v7 + 1)) h0_0 h0_1 h0_2 h0_3 h0_4 h0_5 h0_6 false (h1l ++ [(⟨h0_1, h0_2, h0_6⟩ : zjn)])) else (if ((h1l.length + 1) + 1) ≤ 4294967296 then (zmb q v0z v0l true (wrp .i64 (v7 + 1)) h0_0 h0_1 h0_2 h0_3 h0_4 h0_5 h0_6 false ((h1l ++ [(⟨h0_1, h0_2, h0_6⟩ : zjn)]) ++ [e2])) else none)) else none) else (if e2.Proc = h0_1 then (zmb q v0z v0l v6 (wrp .i64 (v7 + 1)) h0_0 h0_1 h0_2 h0_3 h0_4 h0_5 h0_6 h1z h1l) else (if (h1l.length + 1) ≤ 4294967296 then (zmb q v0z v0l v6 (wrp .i64 (v7 + 1)) h0_0 h0_1 h0_2 h0_3 h0_4 h0_5 h0_6 false (h1l ++ [e2])) else none)))) else none)) else (if v6 = true then (some ⟨h1z, true, h1l⟩) else (if (h1l.length + 1) ≤ 4294967296 then (some ⟨false, true, (h1l ++ [(⟨h0_1, h0_2, h0_6⟩ : zjn)])⟩) else none)))
def zmc : Nat → (Sl zjn) → zjr → Option ((Ow zjn))
 | 0, _, _ => none
 | q + 1, a0, a1 => (zmb q a0.z a0.l false 0 a1.Index a1.Proc a1.Seq a1.Op.Code a1.Op.A a1.Op.B a1.Resp true [])
def zmd : Nat → Bool → (List zjr) → Int → Int → Int → Bool → (List Int) → Bool → Int → Bool → (List zjn) → Bool → Option (zjo × Int)
 | 0, _, _, _, _, _, _, _, _, _, _, _, _ => none
 | q + 1, v1z, v1l, v6, h0_0, h0_1, h0_2z, h0_2l, h0_3, h0_4, h2z, h2l, h2x => (if v6 < (v1l.length : Int) then (if 0 ≤ v6 then ((v1l[v6.toNat]?).bind fun e5 => (if e5.Index = h0_0 then ((zly q e5).bind fun r6 => (if r6 = true then ((zma q (⟨h0_1, ⟨h0_2z, h0_2l⟩, h0_3, h0_4⟩ : zjm) e5.Op).bind fun r7 => ((zmc q ⟨h2z, h2l⟩ (⟨e5.Index, e5.Proc, e5.Seq, e5.Op, r7.2⟩ : zjr)).bind fun r8 => (zmd q v1z v1l (wrp .i64 (v6 + 1)) (wrp .i64 (h0_0 + 1)) r7.1.Kind r7.1.L.z r7.1.L.l r7.1.Sealed r7.1.To r8.n r8.xs r8.x))) else (some ((⟨0, (⟨0, ⟨true, []⟩, false, 0⟩ : zjm), ⟨true, []⟩⟩ : zjo), 1)))) else (some ((⟨0, (⟨0, ⟨true, []⟩, false, 0⟩ : zjm), ⟨true, []⟩⟩ : zjo), 15)))) else none) else (some ((⟨h0_0, (⟨h0_1, ⟨h0_2z, h0_2l⟩, h0_3, h0_4⟩ : zjm), ⟨h2z, h2l⟩⟩ : zjo), 0)))
def zme : Nat → Bool → (List zjr) → Int → Int → Bool → (List Int) → Bool → Int → Bool → (List zjn) → Option (zjo × Int)
 | 0, _, _, _, _, _, _, _, _, _, _ => none
 | q + 1, v1z, v1l, h0_0, h0_1, h0_2z, h0_2l, h0_3, h0_4, h0_5z, h0_5l => (if 0 < (v1l.length : Int) then ((v1l[0]?).bind fun e1 => (if e1.Index = h0_0 then ((zly q e1).bind fun r2 => (if r2 = true then ((zma q (⟨h0_1, ⟨h0_2z, h0_2l⟩, h0_3, h0_4⟩ : zjm) e1.Op).bind fun r3 => ((zmc q ⟨h0_5z, h0_5l⟩ (⟨e1.Index, e1.Proc, e1.Seq, e1.Op, r3.2⟩ : zjr)).bind fun r4 => (zmd q v1z v1l (wrp .i64 1) (wrp .i64 (h0_0 + 1)) r3.1.Kind r3.1.L.z r3.1.L.l r3.1.Sealed r3.1.To r4.n r4.xs r4.x))) else (some ((⟨0, (⟨0, ⟨true, []⟩, false, 0⟩ : zjm), ⟨true, []⟩⟩ : zjo), 1)))) else (some ((⟨0, (⟨0, ⟨true, []⟩, false, 0⟩ : zjm), ⟨true, []⟩⟩ : zjo), 15)))) else (some ((⟨h0_0, (⟨h0_1, ⟨h0_2z, h0_2l⟩, h0_3, h0_4⟩ : zjm), ⟨h0_5z, h0_5l⟩⟩ : zjo), 0)))
def zmf : Nat → zjo → (Sl zjr) → Option (zjo × Int)
 | 0, _, _ => none
 | q + 1, a0, a1 => (zme q a1.z a1.l a0.Index a0.State.Kind a0.State.L.z a0.State.L.l a0.State.Sealed a0.State.To a0.Table.z a0.Table.l)
def zmg : Nat → Int → Int → Bool → (List Int) → Bool → Int → Int → Bool → (List Int) → Bool → Int → Option (Bool)
 | 0, _, _, _, _, _, _, _, _, _, _, _ => none
 | q + 1, v5, h0_0, h0_1z, h0_1l, h0_2, h0_3, h1_0, h1_1z, h1_1l, h1_2, h1_3 => (if v5 < (h0_1l.length : Int) then (if 0 ≤ v5 then ((h0_1l[v5.toNat]?).bind fun e1 => ((h1_1l[v5.toNat]?).bind fun e2 => (if e1 = e2 then (zmg q (wrp .i64 (v5 + 1)) h0_0 h0_1z h0_1l h0_2 h0_3 h1_0 h1_1z h1_1l h1_2 h1_3) else (some false)))) else none) else (some true))
def zmh : Nat → zjm → zjm → Option (Bool)
 | 0, _, _ => none
 | q + 1, a0, a1 => (if a0.Kind = a1.Kind then (if (a0.Sealed == a1.Sealed) = true then (if a0.To = a1.To then (if (a0.L.l.length : Int) = (a1.L.l.length : Int) then (zmg q 0 a0.Kind a0.L.z a0.L.l a0.Sealed a0.To a1.Kind a1.L.z a1.L.l a1.Sealed a1.To) else (some false)) else (some false)) else (some false)) else (some false))
def zmi : Nat → Int → Int → Int → Bool → (List Int) → Bool → Int → Bool → (List zjn) → Int → Int → Bool → (List Int) → Bool → Int → Bool → (List zjn) → Option (Bool)
 | 0, _, _, _, _, _, _, _, _, _, _, _, _, _, _, _, _, _ => none
 | q + 1, v6, h0_0, h0_1, h0_2z, h0_2l, h0_3, h0_4, h0_5z, h0_5l, h1_0, h1_1, h1_2z, h1_2l, h1_3, h1_4, h1_5z, h1_5l => (if v6 < (h0_5l.length : Int) then (if 0 ≤ v6 then ((h0_5l[v6.toNat]?).bind fun e2 => ((h1_5l[v6.toNat]?).bind fun e3 => (if e2.Proc = e3.Proc then (if e2.Seq = e3.Seq then (if e2.Resp = e3.Resp then (zmi q (wrp .i64 (v6 + 1)) h0_0 h0_1 h0_2z h0_2l h0_3 h0_4 h0_5z h0_5l h1_0 h1_1 h1_2z h1_2l h1_3 h1_4 h1_5z h1_5l) else (some false)) else (some false)) else (some false)))) else none) else (some true))
def zmj : Nat → zjo → zjo → Option (Bool)
 | 0, _, _ => none
 | q + 1, a0, a1 => ((zmh q a0.State a1.State).bind fun r1 => (if r1 = true then (if a0.Index = a1.Index then (if (a0.Table.l.length : Int) = (a1.Table.l.length : Int) then (zmi q 0 a0.Index a0.State.Kind a0.State.L.z a0.State.L.l a0.State.Sealed a0.State.To a0.Table.z a0.Table.l a1.Index a1.State.Kind a1.State.L.z a1.State.L.l a1.State.Sealed a1.State.To a1.Table.z a1.Table.l) else (some false)) else (some false)) else (some false)))
def zmk : Nat → zjo → (Sl zjr) → zjr → Option (Bool)
 | 0, _, _, _ => none
 | q + 1, a0, a1, a2 => ((zlw q).bind fun r1 => ((zkf q a0).bind fun r2 => (if r1 = true then (if r2 = true then (if 60 < (a1.l.length : Int) then (some r1) else (if a0.Index = 9223372036854775807 then (some r1) else (if a0.Table.l.length ≤ 4294967296 then (if a0.State.L.l.length ≤ 4294967296 then ((zk1 q (⟨a0.Index, (⟨a0.State.Kind, ⟨(decide (a0.State.L.l.length = 0)), a0.State.L.l⟩, a0.State.Sealed, a0.State.To⟩ : zjm), ⟨(decide (a0.Table.l.length = 0)), a0.Table.l⟩⟩ : zjo) a1).bind fun r3 => ((zmf q a0 a1).bind fun r4 => ((zmj q r3.1 r4.1).bind fun r5 => ((zkd q ⟨(decide (a0.Table.l.length = 0)), a0.Table.l⟩ a2).bind fun r6 => ((zmc q a0.Table a2).bind fun r7 => ((zmj q (⟨0, (⟨0, ⟨true, []⟩, false, 0⟩ : zjm), ⟨r6.n, r6.xs⟩⟩ : zjo) (⟨0, (⟨0, ⟨true, []⟩, false, 0⟩ : zjm), ⟨r7.n, r7.xs⟩⟩ : zjo)).bind fun r8 => ((zmj q (⟨a0.Index, (⟨a0.State.Kind, ⟨(decide (a0.State.L.l.length = 0)), a0.State.L.l⟩, a0.State.Sealed, a0.State.To⟩ : zjm), ⟨(decide (a0.Table.l.length = 0)), a0.Table.l⟩⟩ : zjo) a0).bind fun r9 => (if r5 = true then (if r3.2 = r4.2 then (if r8 = true then (some r9) else (some false)) else (some false)) else (some false))))))))) else none) else none))) else (some r1)) else (some r1))))
end Go.Dvm.I
