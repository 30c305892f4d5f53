/- The functions of the law, as they answer, over typed data. -/
import Derived.Test.YtngajodhbioheaaQv2
set_option linter.all false
set_option maxRecDepth 100000
set_option maxHeartbeats 4000000
namespace Go.Dvm.I
open Go Go.Dvm
structure zjp where
 Kind : Int
 L : (Sl Int)
 Sealed : Bool
 To : Int
def zjp.enc (r : zjp) : V := .agg [V.int .i64 r.Kind, (Sl.enc (V.int .i64)) r.L, V.bool r.Sealed, V.int .i64 r.To]
structure zjq where
 Proc : Int
 Seq : Int
 Resp : Int
def zjq.enc (r : zjq) : V := .agg [V.int .i64 r.Proc, V.int .i64 r.Seq, V.int .i64 r.Resp]
structure zjr where
 Index : Int
 State : zjp
 Table : (Sl zjq)
def zjr.enc (r : zjr) : V := .agg [V.int .i64 r.Index, V.int .i64 r.State.Kind, (Sl.enc (V.int .i64)) r.State.L, V.bool r.State.Sealed, V.int .i64 r.State.To, (Sl.enc zjq.enc) r.Table]
structure zjs where
 From : Int
 To : Int
 Ahead : Int
 Behind : Int
 Mid : (Sl Int)
 Sealed : Bool
 Engine : Int
 Table : (Sl zjq)
def zjs.enc (r : zjs) : V := .agg [V.int .i64 r.From, V.int .i64 r.To, V.int .i64 r.Ahead, V.int .i64 r.Behind, (Sl.enc (V.int .i64)) r.Mid, V.bool r.Sealed, V.int .i64 r.Engine, (Sl.enc zjq.enc) r.Table]
structure zjt where
 Code : Int
 A : Int
 B : Int
def zjt.enc (r : zjt) : V := .agg [V.int .i64 r.Code, V.int .i64 r.A, V.int .i64 r.B]
structure zju where
 Index : Int
 Proc : Int
 Seq : Int
 Op : zjt
 Resp : Int
def zju.enc (r : zju) : V := .agg [V.int .i64 r.Index, V.int .i64 r.Proc, V.int .i64 r.Seq, V.int .i64 r.Op.Code, V.int .i64 r.Op.A, V.int .i64 r.Op.B, V.int .i64 r.Resp]
structure zjv where
 index : Int
 size : Int
 sum : Int
def zjv.enc (r : zjv) : V := .agg [V.int .i64 r.index, V.int .i64 r.size, V.int .u64 r.sum]
def okSl {α : Type} (ok : α → Prop) (s : Sl α) : Prop := (s.z = true → s.l = []) ∧ s.l.length ≤ maxLen ∧ ∀ a ∈ s.l, ok a
def zjp.ok (r : zjp) : Prop := inR .i64 r.Kind ∧ okSl (fun x => inR .i64 x) r.L ∧ True ∧ inR .i64 r.To
def zjq.ok (r : zjq) : Prop := inR .i64 r.Proc ∧ inR .i64 r.Seq ∧ inR .i64 r.Resp
def zjr.ok (r : zjr) : Prop := inR .i64 r.Index ∧ zjp.ok r.State ∧ okSl (fun x => zjq.ok x) r.Table
def zjs.ok (r : zjs) : Prop := inR .i64 r.From ∧ inR .i64 r.To ∧ inR .i64 r.Ahead ∧ inR .i64 r.Behind ∧ okSl (fun x => inR .i64 x) r.Mid ∧ True ∧ inR .i64 r.Engine ∧ okSl (fun x => zjq.ok x) r.Table
def zjt.ok (r : zjt) : Prop := inR .i64 r.Code ∧ inR .i64 r.A ∧ inR .i64 r.B
def zju.ok (r : zju) : Prop := inR .i64 r.Index ∧ inR .i64 r.Proc ∧ inR .i64 r.Seq ∧ zjt.ok r.Op ∧ inR .i64 r.Resp
def zjv.ok (r : zjv) : Prop := inR .i64 r.index ∧ inR .i64 r.size ∧ inR .u64 r.sum
def zjw : Nat → Int → Option (Int)
 | 0, _ => none
 | q + 1, a0 => (some (if (-1099511627776) < (if 1099511627776 < a0 then 1099511627776 else a0) then (if 1099511627776 < a0 then 1099511627776 else a0) else (-1099511627776)))
def zjx : Nat → Int → Option (Bool)
 | 0, _ => none
 | q + 1, a0 => ((zjw q a0).bind fun r1 => (some (!(decide (a0 = r1)))))
def zjy : Nat → Bool → (List Int) → Int → Int → Int → Option (Bool)
 | 0, _, _, _, _, _ => none
 | q + 1, v0z, v0l, v1, v5, v6 => (if (wrp .i64 (v6 + 1)) < (v0l.length : Int) then (if 0 ≤ v6 then ((v0l[v6.toNat]?).bind fun e1 => (if e1 ≤ v5 then (some false) else (if 255 < e1 then (some false) else (if 0 ≤ (wrp .i64 (v6 + 1)) then ((v0l[(wrp .i64 (v6 + 1)).toNat]?).bind fun e2 => (if e2 < v1 then (some false) else (if 1099511627776 < e2 then (some false) else (zjy q v0z v0l v1 e1 (wrp .i64 (v6 + 2)))))) else none)))) else none) else (if (Int.tmod (v0l.length : Int) 2) = 0 then (some (decide ((v0l.length : Int) ≤ 128))) else (some false)))
def zjz : Nat → (Sl Int) → Int → Option (Bool)
 | 0, _, _ => none
 | q + 1, a0, a1 => (zjy q a0.z a0.l a1 (-1) 0)
def zj0 : Nat → Bool → (List Int) → Int → Int → Int → Bool → (List Int) → Bool → Int → Option (Int)
 | 0, _, _, _, _, _, _, _, _, _ => none
 | q + 1, v0z, v0l, v7, v8, h0_0, h0_1z, h0_1l, h0_2, h0_3 => (if v8 < v7 then (if 0 ≤ v8 then ((v0l[v8.toNat]?).bind fun e1 => ((zjx q e1).bind fun r2 => (if r2 = true then (some v8) else (zj0 q v0z v0l v7 (wrp .i64 (v8 + 1)) h0_0 h0_1z h0_1l h0_2 h0_3)))) else none) else (some (-1)))
def zj1 : Nat → Bool → (List Int) → Int → Bool → (List Int) → Bool → Int → Option (Int)
 | 0, _, _, _, _, _, _, _ => none
 | q + 1, v0z, v0l, h0_0, h0_1z, h0_1l, h0_2, h0_3 => (zj0 q v0z v0l (v0l.length : Int) 0 h0_0 h0_1z h0_1l h0_2 h0_3)
def zj2 : Nat → zjp → Option (Bool)
 | 0, _ => none
 | q + 1, a0 => (if a0.To < 0 then (some false) else (if 3 ≤ a0.To then (some false) else (if a0.Sealed = true then ((zj1 q a0.L.z a0.L.l a0.Kind a0.L.z a0.L.l a0.Sealed a0.To).bind fun r1 => (if a0.Kind = 0 then (if (a0.L.l.length : Int) = 1 then (some (!(decide (0 ≤ r1)))) else (some false)) else (if a0.Kind = 1 then (if (a0.L.l.length : Int) = 1 then (some (!(decide (0 ≤ r1)))) else (some false)) else (if a0.Kind = 2 then (if (a0.L.l.length : Int) ≤ 64 then (some (!(decide (0 ≤ r1)))) else (some false)) else (if a0.Kind = 3 then (if (a0.L.l.length : Int) ≤ 64 then (some (!(decide (0 ≤ r1)))) else (some false)) else (if a0.Kind = 4 then ((zjz q a0.L (-1099511627776)).bind fun r2 => (some r2)) else (if a0.Kind = 5 then ((zjz q a0.L 0).bind fun r3 => (some r3)) else (some false)))))))) else (if a0.To = 0 then ((zj1 q a0.L.z a0.L.l a0.Kind a0.L.z a0.L.l a0.Sealed a0.To).bind fun r4 => (if a0.Kind = 0 then (if (a0.L.l.length : Int) = 1 then (some (!(decide (0 ≤ r4)))) else (some false)) else (if a0.Kind = 1 then (if (a0.L.l.length : Int) = 1 then (some (!(decide (0 ≤ r4)))) else (some false)) else (if a0.Kind = 2 then (if (a0.L.l.length : Int) ≤ 64 then (some (!(decide (0 ≤ r4)))) else (some false)) else (if a0.Kind = 3 then (if (a0.L.l.length : Int) ≤ 64 then (some (!(decide (0 ≤ r4)))) else (some false)) else (if a0.Kind = 4 then ((zjz q a0.L (-1099511627776)).bind fun r5 => (some r5)) else (if a0.Kind = 5 then ((zjz q a0.L 0).bind fun r6 => (some r6)) else (some false)))))))) else (some false)))))
def zj3 : Nat → zjq → Option (Bool)
 | 0, _ => none
 | q + 1, a0 => (if 0 ≤ a0.Proc then (if a0.Proc ≤ 64 then (if 0 ≤ a0.Seq then (if a0.Seq < 4611686018427387904 then (if (-1125899906842624) ≤ a0.Resp then (some (decide (a0.Resp ≤ 1125899906842624))) else (some false)) else (some false)) else (some false)) else (some false)) else (some false))
def zj4 : Nat → Bool → (List zjq) → Bool → (List zjq) → Int → Int → Option (Bool)
 | 0, _, _, _, _, _, _ => none
 | q + 1, v0z, v0l, v5z, v5l, v6, v7 => (if v7 < v6 then (if 0 ≤ v7 then ((v5l[v7.toNat]?).bind fun e1 => ((zj3 q e1).bind fun r2 => (if r2 = true then (if 0 < v7 then (if 0 ≤ (wrp .i64 (v7 - 1)) then ((v0l[(wrp .i64 (v7 - 1)).toNat]?).bind fun e3 => (if e1.Proc ≤ e3.Proc then (some false) else (zj4 q v0z v0l v5z v5l v6 (wrp .i64 (v7 + 1))))) else none) else (zj4 q v0z v0l v5z v5l v6 (wrp .i64 (v7 + 1)))) else (some false)))) else none) else (some true))
def zj5 : Nat → (Sl zjq) → Option (Bool)
 | 0, _ => none
 | q + 1, a0 => (zj4 q a0.z a0.l a0.z a0.l (a0.l.length : Int) 0)
def zj6 : Nat → zjr → Option (Bool)
 | 0, _ => none
 | q + 1, a0 => (if 0 ≤ a0.Index then (if a0.Index < 4611686018427387904 then ((zj2 q a0.State).bind fun r1 => (if r1 = true then ((zj5 q a0.Table).bind fun r2 => (some r2)) else (some false))) else (some false)) else (some false))
def zj7 : Nat → Bool → (List zjq) → Int → Int → Int → Option (Int)
 | 0, _, _, _, _, _ => none
 | q + 1, v0z, v0l, v7, v8, h0_0 => (if v8 < v7 then (if 0 ≤ v8 then ((v0l[v8.toNat]?).bind fun e1 => (if e1.Proc = h0_0 then (some v8) else (zj7 q v0z v0l v7 (wrp .i64 (v8 + 1)) h0_0))) else none) else (some (-1)))
def zj8 : Nat → Bool → (List zjq) → Int → Option (Int)
 | 0, _, _, _ => none
 | q + 1, v0z, v0l, h0_0 => (zj7 q v0z v0l (v0l.length : Int) 0 h0_0)
def zj9 : Nat → (Sl zjq) → Int → Option (Int)
 | 0, _, _ => none
 | q + 1, a0, a1 => ((zj8 q a0.z a0.l a1).bind fun r1 => (some r1))
def zka : Nat → Bool → (List Int) → Bool → (List Int) → Int → Option (Int)
 | 0, _, _, _, _, _ => none
 | q + 1, v0z, v0l, v1z, v1l, v5 => (if v5 < (v0l.length : Int) then (if v5 < (v1l.length : Int) then (if 0 ≤ v5 then ((v0l[v5.toNat]?).bind fun e1 => ((v1l[v5.toNat]?).bind fun e2 => (if e1 = e2 then (zka q v0z v0l v1z v1l (wrp .i64 (v5 + 1))) else (some v5)))) else none) else (some v5)) else (some v5))
def zkb : Nat → (Sl Int) → (Sl Int) → Option (Int)
 | 0, _, _ => none
 | q + 1, a0, a1 => (zka q a0.z a0.l a1.z a1.l 0)
def zkc : Nat → Bool → (List Int) → Bool → (List Int) → Int → Option (Int)
 | 0, _, _, _, _, _ => none
 | q + 1, v0z, v0l, v1z, v1l, v5 => (if v5 < (v0l.length : Int) then (if v5 < (v1l.length : Int) then (if 0 ≤ (wrp .i64 ((wrp .i64 ((v0l.length : Int) - 1)) - v5)) then ((v0l[(wrp .i64 ((wrp .i64 ((v0l.length : Int) - 1)) - v5)).toNat]?).bind fun e1 => (if 0 ≤ (wrp .i64 ((wrp .i64 ((v1l.length : Int) - 1)) - v5)) then ((v1l[(wrp .i64 ((wrp .i64 ((v1l.length : Int) - 1)) - v5)).toNat]?).bind fun e2 => (if e1 = e2 then (zkc q v0z v0l v1z v1l (wrp .i64 (v5 + 1))) else (some v5))) else none)) else none) else (some v5)) else (some v5))
def zkd : Nat → (Sl Int) → (Sl Int) → Option (Int)
 | 0, _, _ => none
 | q + 1, a0, a1 => (zkc q a0.z a0.l a1.z a1.l 0)
def zke : Nat → (Sl Int) → Option ((Ow Int))
 | 0, _ => none
 | q + 1, a0 => (if a0.z = true then (some ⟨true, true, []⟩) else (if a0.l.length ≤ 4294967296 then (some ⟨false, true, a0.l⟩) else none))
def zkf : Nat → Bool → (List zjq) → Int → Int → Int → Int → Bool → (List Int) → Bool → Int → Bool → (List zjq) → Int → Int → Bool → (List Int) → Bool → Int → Bool → (List zjq) → Option (Int)
 | 0, _, _, _, _, _, _, _, _, _, _, _, _, _, _, _, _, _, _, _, _ => none
 | q + 1, v0z, v0l, v7, v8, h0_0, h0_1, h0_2z, h0_2l, h0_3, h0_4, h0_5z, h0_5l, h1_0, h1_1, h1_2z, h1_2l, h1_3, h1_4, h1_5z, h1_5l => (if v8 < v7 then (if 0 ≤ v8 then ((v0l[v8.toNat]?).bind fun e1 => ((zj9 q ⟨h1_5z, h1_5l⟩ e1.Proc).bind fun r2 => (if r2 < 0 then (some v8) else (zkf q v0z v0l v7 (wrp .i64 (v8 + 1)) h0_0 h0_1 h0_2z h0_2l h0_3 h0_4 h0_5z h0_5l h1_0 h1_1 h1_2z h1_2l h1_3 h1_4 h1_5z h1_5l)))) else none) else (some (-1)))
def zkg : Nat → Bool → (List zjq) → Int → Int → Bool → (List Int) → Bool → Int → Bool → (List zjq) → Int → Int → Bool → (List Int) → Bool → Int → Bool → (List zjq) → Option (Int)
 | 0, _, _, _, _, _, _, _, _, _, _, _, _, _, _, _, _, _, _ => none
 | q + 1, v0z, v0l, h0_0, h0_1, h0_2z, h0_2l, h0_3, h0_4, h0_5z, h0_5l, h1_0, h1_1, h1_2z, h1_2l, h1_3, h1_4, h1_5z, h1_5l => (zkf q v0z v0l (v0l.length : Int) 0 h0_0 h0_1 h0_2z h0_2l h0_3 h0_4 h0_5z h0_5l h1_0 h1_1 h1_2z h1_2l h1_3 h1_4 h1_5z h1_5l)
def zkh : Nat → Bool → (List zjq) → Int → Int → Int → Int → Bool → (List Int) → Bool → Int → Bool → (List zjq) → Int → Int → Int → Int → Bool → Int → Bool → (List Int) → Bool → (List zjq) → Option (zjs × Int)
 | 0, _, _, _, _, _, _, _, _, _, _, _, _, _, _, _, _, _, _, _, _, _, _ => none
 | q + 1, v89z, v89l, v90, v91, h0_0, h0_1, h0_2z, h0_2l, h0_3, h0_4, h0_5z, h0_5l, h2_0, h2_1, h2_2, h2_3, h2_5, h2_6, h3z, h3l, h3x, h4l => (if v91 < v90 then (if 0 ≤ v91 then ((v89l[v91.toNat]?).bind fun e10 => ((zj9 q ⟨h0_5z, h0_5l⟩ e10.Proc).bind fun r11 => (if r11 < 0 then (if (h4l.length + 1) ≤ 4294967296 then (zkh q v89z v89l v90 (wrp .i64 (v91 + 1)) h0_0 h0_1 h0_2z h0_2l h0_3 h0_4 h0_5z h0_5l h2_0 h2_1 h2_2 h2_3 h2_5 h2_6 h3z h3l h3x (h4l ++ [e10])) else none) else (if 0 ≤ r11 then ((h0_5l[r11.toNat]?).bind fun e12 => (if e12.Proc = e10.Proc then (if e12.Seq = e10.Seq then (if e12.Resp = e10.Resp then (zkh q v89z v89l v90 (wrp .i64 (v91 + 1)) h0_0 h0_1 h0_2z h0_2l h0_3 h0_4 h0_5z h0_5l h2_0 h2_1 h2_2 h2_3 h2_5 h2_6 h3z h3l h3x h4l) else (if (h4l.length + 1) ≤ 4294967296 then (zkh q v89z v89l v90 (wrp .i64 (v91 + 1)) h0_0 h0_1 h0_2z h0_2l h0_3 h0_4 h0_5z h0_5l h2_0 h2_1 h2_2 h2_3 h2_5 h2_6 h3z h3l h3x (h4l ++ [e10])) else none)) else (if (h4l.length + 1) ≤ 4294967296 then (zkh q v89z v89l v90 (wrp .i64 (v91 + 1)) h0_0 h0_1 h0_2z h0_2l h0_3 h0_4 h0_5z h0_5l h2_0 h2_1 h2_2 h2_3 h2_5 h2_6 h3z h3l h3x (h4l ++ [e10])) else none)) else (if (h4l.length + 1) ≤ 4294967296 then (zkh q v89z v89l v90 (wrp .i64 (v91 + 1)) h0_0 h0_1 h0_2z h0_2l h0_3 h0_4 h0_5z h0_5l h2_0 h2_1 h2_2 h2_3 h2_5 h2_6 h3z h3l h3x (h4l ++ [e10])) else none))) else none)))) else none) else (some ((⟨h2_0, h2_1, h2_2, h2_3, ⟨h3z, h3l⟩, h2_5, h2_6, ⟨false, h4l⟩⟩ : zjs), 0)))
def zki : Nat → Bool → (List zjq) → Int → Int → Int → Int → Bool → (List Int) → Bool → Int → Bool → (List zjq) → Int → Int → Int → Int → Bool → Int → Bool → (List Int) → Bool → Option (zjs × Int)
 | 0, _, _, _, _, _, _, _, _, _, _, _, _, _, _, _, _, _, _, _, _, _ => none
 | q + 1, v89z, v89l, v90, v91, h0_0, h0_1, h0_2z, h0_2l, h0_3, h0_4, h0_5z, h0_5l, h2_0, h2_1, h2_2, h2_3, h2_5, h2_6, h3z, h3l, h3x => (if v91 < v90 then (if 0 ≤ v91 then ((v89l[v91.toNat]?).bind fun e7 => ((zj9 q ⟨h0_5z, h0_5l⟩ e7.Proc).bind fun r8 => (if r8 < 0 then (zkh q v89z v89l v90 (wrp .i64 (v91 + 1)) h0_0 h0_1 h0_2z h0_2l h0_3 h0_4 h0_5z h0_5l h2_0 h2_1 h2_2 h2_3 h2_5 h2_6 h3z h3l h3x [e7]) else (if 0 ≤ r8 then ((h0_5l[r8.toNat]?).bind fun e9 => (if e9.Proc = e7.Proc then (if e9.Seq = e7.Seq then (if e9.Resp = e7.Resp then (zki q v89z v89l v90 (wrp .i64 (v91 + 1)) h0_0 h0_1 h0_2z h0_2l h0_3 h0_4 h0_5z h0_5l h2_0 h2_1 h2_2 h2_3 h2_5 h2_6 h3z h3l h3x) else (zkh q v89z v89l v90 (wrp .i64 (v91 + 1)) h0_0 h0_1 h0_2z h0_2l h0_3 h0_4 h0_5z h0_5l h2_0 h2_1 h2_2 h2_3 h2_5 h2_6 h3z h3l h3x [e7])) else (zkh q v89z v89l v90 (wrp .i64 (v91 + 1)) h0_0 h0_1 h0_2z h0_2l h0_3 h0_4 h0_5z h0_5l h2_0 h2_1 h2_2 h2_3 h2_5 h2_6 h3z h3l h3x [e7])) else (zkh q v89z v89l v90 (wrp .i64 (v91 + 1)) h0_0 h0_1 h0_2z h0_2l h0_3 h0_4 h0_5z h0_5l h2_0 h2_1 h2_2 h2_3 h2_5 h2_6 h3z h3l h3x [e7]))) else none)))) else none) else (some ((⟨h2_0, h2_1, h2_2, h2_3, ⟨h3z, h3l⟩, h2_5, h2_6, ⟨true, []⟩⟩ : zjs), 0)))
def zkj : Nat → zjr → zjr → Option (zjs × Int)
 | 0, _, _ => none
 | q + 1, a0, a1 => ((zj6 q a0).bind fun r1 => (if r1 = true then ((zj6 q a1).bind fun r2 => (if r2 = true then (if a0.State.Kind = a1.State.Kind then (if a1.Index < a0.Index then (some ((⟨0, 0, 0, 0, ⟨true, []⟩, false, 0, ⟨true, []⟩⟩ : zjs), 15)) else ((zkg q a0.Table.z a0.Table.l a0.Index a0.State.Kind a0.State.L.z a0.State.L.l a0.State.Sealed a0.State.To a0.Table.z a0.Table.l a1.Index a1.State.Kind a1.State.L.z a1.State.L.l a1.State.Sealed a1.State.To a1.Table.z a1.Table.l).bind fun r3 => (if 0 ≤ r3 then (some ((⟨0, 0, 0, 0, ⟨true, []⟩, false, 0, ⟨true, []⟩⟩ : zjs), 15)) else ((zkb q a0.State.L a1.State.L).bind fun r4 => (if 0 ≤ r4 then (if r4 ≤ (a0.State.L.l.length : Int) then (if r4 ≤ (a1.State.L.l.length : Int) then ((zkd q ⟨a0.State.L.z, (List.drop r4.toNat a0.State.L.l)⟩ ⟨a1.State.L.z, (List.drop r4.toNat a1.State.L.l)⟩).bind fun r5 => (if 0 ≤ (wrp .i64 ((((a1.State.L.l.length - r4.toNat) : Nat) : Int) - r5)) then (if (wrp .i64 ((((a1.State.L.l.length - r4.toNat) : Nat) : Int) - r5)).toNat ≤ (a1.State.L.l.length - r4.toNat) then ((zke q ⟨a1.State.L.z, (List.take ((wrp .i64 ((((a1.State.L.l.length - r4.toNat) : Nat) : Int) - r5)).toNat) (List.drop r4.toNat a1.State.L.l))⟩).bind fun r6 => (zki q a1.Table.z a1.Table.l (a1.Table.l.length : Int) 0 a0.Index a0.State.Kind a0.State.L.z a0.State.L.l a0.State.Sealed a0.State.To a0.Table.z a0.Table.l a0.Index a1.Index r4 r5 a1.State.Sealed a1.State.To r6.n r6.xs r6.x)) else none) else none)) else none) else none) else none))))) else (some ((⟨0, 0, 0, 0, ⟨true, []⟩, false, 0, ⟨true, []⟩⟩ : zjs), 1))) else (some ((⟨0, 0, 0, 0, ⟨true, []⟩, false, 0, ⟨true, []⟩⟩ : zjs), 1)))) else (some ((⟨0, 0, 0, 0, ⟨true, []⟩, false, 0, ⟨true, []⟩⟩ : zjs), 1))))
def zkk : Nat → Nat → Bool → (List (Sl Int)) → Int → Int → Bool → (List Int) → Option ((Ow Int))
 | 0, _, _, _, _, _, _, _ => none
 | q + 1, v6len, v25z, v25l, v26, v27, h0z, h0l => (if v27 < v26 then (if 0 ≤ v27 then ((v25l[v27.toNat]?).bind fun e2 => (if (v6len + e2.l.length) ≤ h0l.length then (zkk q (v6len + e2.l.length) v25z v25l v26 (wrp .i64 (v27 + 1)) h0z (((List.take v6len h0l) ++ e2.l) ++ (List.drop (v6len + e2.l.length) h0l))) else none)) else none) else (some ⟨h0z, true, (List.take v6len h0l)⟩))
def zkl : Nat → Bool → (List (Sl Int)) → Int → Int → Bool → (List Int) → Option ((Ow Int))
 | 0, _, _, _, _, _, _ => none
 | q + 1, v25z, v25l, v26, v27, h0z, h0l => (if v27 < v26 then (if 0 ≤ v27 then ((v25l[v27.toNat]?).bind fun e4 => (if (h0l.length + e4.l.length) ≤ 4294967296 then (zkl q v25z v25l v26 (wrp .i64 (v27 + 1)) (h0z && (decide (e4.l.length = 0))) (h0l ++ e4.l)) else none)) else none) else (some ⟨h0z, true, h0l⟩))
def zkm : Nat → Bool → (List (Sl Int)) → Int → Option ((Ow Int))
 | 0, _, _, _ => none
 | q + 1, v25z, v25l, v26 => (if 0 < v26 then ((v25l[0]?).bind fun e3 => (if e3.l.length ≤ 4294967296 then (zkl q v25z v25l v26 (wrp .i64 1) (decide (e3.l.length = 0)) e3.l) else none)) else (some ⟨true, true, []⟩))
def zkn : Nat → Bool → (List (Sl Int)) → Int → Bool → (List (Sl Int)) → Int → Int → Option ((Ow Int))
 | 0, _, _, _, _, _, _, _ => none
 | q + 1, v0z, v0l, v3, v9z, v9l, v10, v11 => (if v11 < v10 then (if 0 ≤ v11 then ((v9l[v11.toNat]?).bind fun e1 => (if (wrp .i64 (v3 + (e1.l.length : Int))) < 0 then none else (zkn q v0z v0l (wrp .i64 (v3 + (e1.l.length : Int))) v9z v9l v10 (wrp .i64 (v11 + 1))))) else none) else (if v3 < 0 then none else (if 0 < (wrp .i64 (v3 - (wrp .i64 0))) then (if 0 ≤ (wrp .i64 (v3 - (wrp .i64 0))) then (if (wrp .i64 (v3 - (wrp .i64 0))).toNat ≤ 4294967296 then (if (wrp .i64 (v3 - (wrp .i64 0))) = 0 then none else (zkk q 0 v0z v0l (v0l.length : Int) 0 (decide ((wrp .i64 (v3 - (wrp .i64 0))) = 0)) (List.replicate ((wrp .i64 (v3 - (wrp .i64 0))).toNat) 0))) else none) else none) else (zkm q v0z v0l (v0l.length : Int)))))
def zko : Nat → (Sl (Sl Int)) → Option ((Ow Int))
 | 0, _ => none
 | q + 1, a0 => (zkn q a0.z a0.l 0 a0.z a0.l (a0.l.length : Int) 0)
def zkp : Nat → (Sl zjq) → Option ((Ow zjq))
 | 0, _ => none
 | q + 1, a0 => (if a0.z = true then (some ⟨true, true, []⟩) else (if a0.l.length ≤ 4294967296 then (some ⟨false, true, a0.l⟩) else none))
def zkq : Nat → (Ow zjq) → Int → (Ow zjq) → Option (Ow zjq)
 | 0, _, _, _ => none
 | q + 1, a0, a1, a2 => (if insOk a0 a1 a2 then (some (insR a0 a1 a2)) else none)
def zkr : Nat → Int → Int → Int → Int → Int → Int → Int → Int → Int → Bool → (List zjq) → Bool → Option (Int)
 | 0, _, _, _, _, _, _, _, _, _, _, _, _ => none
 | q + 1, v7, v8, h0_0, h0_1, h0_2, h0_3, h0_4, h0_5, h0_6, h1z, h1l, h1x => (if v8 < v7 then (if 0 ≤ v8 then (if v8.toNat < h1l.length then ((h1l[v8.toNat]?).bind fun e1 => (if e1.Proc = h0_1 then (some v8) else (zkr q v7 (wrp .i64 (v8 + 1)) h0_0 h0_1 h0_2 h0_3 h0_4 h0_5 h0_6 h1z h1l h1x))) else none) else none) else (some (-1)))
def zks : Nat → Int → Int → Int → Int → Int → Int → Int → Bool → (List zjq) → Bool → Option (Int)
 | 0, _, _, _, _, _, _, _, _, _, _ => none
 | q + 1, h0_0, h0_1, h0_2, h0_3, h0_4, h0_5, h0_6, h1z, h1l, h1x => (zkr q (h1l.length : Int) 0 h0_0 h0_1 h0_2 h0_3 h0_4 h0_5 h0_6 h1z h1l h1x)
def zkt : Nat → Int → Int → Int → Int → Int → Int → Int → Int → Int → Bool → (List zjq) → Bool → Option (Nat × (List zjq) × Bool)
 | 0, _, _, _, _, _, _, _, _, _, _, _, _ => none
 | q + 1, v5, v6, h0_0, h0_1, h0_2, h0_3, h0_4, h0_5, h0_6, h1z, h1l, h1x => (if v6 < (h1l.length : Int) then (if 0 ≤ v6 then (if v6.toNat < h1l.length then ((h1l[v6.toNat]?).bind fun e2 => (if e2.Proc = h0_1 then (zkt q v5 (wrp .i64 (v6 + 1)) h0_0 h0_1 h0_2 h0_3 h0_4 h0_5 h0_6 h1z h1l h1x) else (if 0 ≤ v5 then (if v5.toNat < h1l.length then ((h1l[v5.toNat]?).bind fun e3 => (if h1x = true then (zkt q (wrp .i64 (v5 + 1)) (wrp .i64 (v6 + 1)) h0_0 h0_1 h0_2 h0_3 h0_4 h0_5 h0_6 h1z (List.set h1l v5.toNat e2) true) else none)) else none) else none))) else none) else none) else (if 0 ≤ v5 then (if v5.toNat ≤ h1l.length then (if h1x = true then (if v5.toNat ≤ (((min v5.toNat h1l.length) + (h1l.length - v5.toNat)) + (h1l.length - (v5.toNat + (h1l.length - v5.toNat)))) then (if h1z = true then (some (v5.toNat, (((List.take v5.toNat h1l) ++ (List.replicate (h1l.length - v5.toNat) (⟨0, 0, 0⟩ : zjq))) ++ (List.drop (v5.toNat + (h1l.length - v5.toNat)) h1l)), true)) else (some (v5.toNat, (((List.take v5.toNat h1l) ++ (List.replicate (h1l.length - v5.toNat) (⟨0, 0, 0⟩ : zjq))) ++ (List.drop (v5.toNat + (h1l.length - v5.toNat)) h1l)), true))) else none) else none) else none) else none))
def zku : Nat → Int → Int → Int → Int → Int → Int → Int → Bool → (List zjq) → Bool → Option (Nat × (List zjq) × Bool)
 | 0, _, _, _, _, _, _, _, _, _, _ => none
 | q + 1, h0_0, h0_1, h0_2, h0_3, h0_4, h0_5, h0_6, h1z, h1l, h1x => ((zks q h0_0 h0_1 h0_2 h0_3 h0_4 h0_5 h0_6 h1z h1l h1x).bind fun r1 => (if r1 = (-1) then (some (h1l.length, h1l, h1x)) else (zkt q r1 (wrp .i64 (r1 + 1)) h0_0 h0_1 h0_2 h0_3 h0_4 h0_5 h0_6 h1z h1l h1x)))
def zkv : Nat → Nat → Int → Int → Int → Int → Int → Int → Int → Int → Int → Bool → (List zjq) → Bool → Option (Int)
 | 0, _, _, _, _, _, _, _, _, _, _, _, _, _ => none
 | q + 1, v0len, v7, v8, h0_0, h0_1, h0_2, h0_3, h0_4, h0_5, h0_6, h1z, h1l, h1x => (if v8 < v7 then (if 0 ≤ v8 then (if v8.toNat < v0len then ((h1l[v8.toNat]?).bind fun e1 => (if h0_1 < e1.Proc then (some v8) else (zkv q v0len v7 (wrp .i64 (v8 + 1)) h0_0 h0_1 h0_2 h0_3 h0_4 h0_5 h0_6 h1z h1l h1x))) else none) else none) else (some (-1)))
def zkw : Nat → Nat → Int → Int → Int → Int → Int → Int → Int → Bool → (List zjq) → Bool → Option (Int)
 | 0, _, _, _, _, _, _, _, _, _, _, _ => none
 | q + 1, v0len, h0_0, h0_1, h0_2, h0_3, h0_4, h0_5, h0_6, h1z, h1l, h1x => (zkv q v0len (v0len : Int) 0 h0_0 h0_1 h0_2 h0_3 h0_4 h0_5 h0_6 h1z h1l h1x)
def zkx : Nat → (Sl zjq) → zju → Option ((Ow zjq))
 | 0, _, _ => none
 | q + 1, a0, a1 => ((zkp q a0).bind fun r1 => ((zku q a1.Index a1.Proc a1.Seq a1.Op.Code a1.Op.A a1.Op.B a1.Resp r1.n r1.xs r1.x).bind fun r2 => ((zkw q r2.1 a1.Index a1.Proc a1.Seq a1.Op.Code a1.Op.A a1.Op.B a1.Resp r1.n r2.2.1 r2.2.2).bind fun r3 => (if r3 < 0 then (if r2.2.2 = true then ((zkq q ⟨r1.n, r2.2.2, (List.take r2.1 r2.2.1)⟩ (r2.1 : Int) ⟨false, true, [(⟨a1.Proc, a1.Seq, a1.Resp⟩ : zjq)]⟩).bind fun r4 => (some r4)) else none) else (if r2.2.2 = true then ((zkq q ⟨r1.n, r2.2.2, (List.take r2.1 r2.2.1)⟩ r3 ⟨false, true, [(⟨a1.Proc, a1.Seq, a1.Resp⟩ : zjq)]⟩).bind fun r5 => (some r5)) else none)))))
def zky : Nat → Bool → (List zjq) → Int → Int → Int → Int → Bool → Int → Bool → (List Int) → Bool → Bool → (List zjq) → Bool → Option (zjr × Int)
 | 0, _, _, _, _, _, _, _, _, _, _, _, _, _, _ => none
 | q + 1, v89z, v89l, v90, v91, h1_0, h1_1, h1_3, h1_4, h2z, h2l, h2x, h3z, h3l, h3x => (if v91 < v90 then (if 0 ≤ v91 then ((v89l[v91.toNat]?).bind fun e6 => ((zkx q ⟨h3z, h3l⟩ (⟨0, e6.Proc, e6.Seq, (⟨0, 0, 0⟩ : zjt), e6.Resp⟩ : zju)).bind fun r7 => (zky q v89z v89l v90 (wrp .i64 (v91 + 1)) h1_0 h1_1 h1_3 h1_4 h2z h2l h2x r7.n r7.xs r7.x))) else none) else ((zj6 q (⟨h1_0, (⟨h1_1, ⟨h2z, h2l⟩, h1_3, h1_4⟩ : zjp), ⟨h3z, h3l⟩⟩ : zjr)).bind fun r8 => (if r8 = true then (some ((⟨h1_0, (⟨h1_1, ⟨h2z, h2l⟩, h1_3, h1_4⟩ : zjp), ⟨h3z, h3l⟩⟩ : zjr), 0)) else (some ((⟨0, (⟨0, ⟨true, []⟩, false, 0⟩ : zjp), ⟨true, []⟩⟩ : zjr), 1)))))
def zkz : Nat → Bool → (List zjq) → Int → Int → Int → Bool → Int → Bool → (List zjq) → Bool → (List Int) → Bool → Option (zjr × Int)
 | 0, _, _, _, _, _, _, _, _, _, _, _, _ => none
 | q + 1, v89z, v89l, v90, h1_0, h1_1, h1_3, h1_4, h1_5z, h1_5l, h2z, h2l, h2x => (if 0 < v90 then ((v89l[0]?).bind fun e3 => ((zkx q ⟨h1_5z, h1_5l⟩ (⟨0, e3.Proc, e3.Seq, (⟨0, 0, 0⟩ : zjt), e3.Resp⟩ : zju)).bind fun r4 => (zky q v89z v89l v90 (wrp .i64 1) h1_0 h1_1 h1_3 h1_4 h2z h2l h2x r4.n r4.xs r4.x))) else ((zj6 q (⟨h1_0, (⟨h1_1, ⟨h2z, h2l⟩, h1_3, h1_4⟩ : zjp), ⟨h1_5z, h1_5l⟩⟩ : zjr)).bind fun r5 => (if r5 = true then (some ((⟨h1_0, (⟨h1_1, ⟨h2z, h2l⟩, h1_3, h1_4⟩ : zjp), ⟨h1_5z, h1_5l⟩⟩ : zjr), 0)) else (some ((⟨0, (⟨0, ⟨true, []⟩, false, 0⟩ : zjp), ⟨true, []⟩⟩ : zjr), 1)))))
def zk0 : Nat → zjr → zjs → Option (zjr × Int)
 | 0, _, _ => none
 | q + 1, a0, a1 => ((zj6 q a0).bind fun r1 => (if r1 = true then (if a1.Ahead < 0 then (some ((⟨0, (⟨0, ⟨true, []⟩, false, 0⟩ : zjp), ⟨true, []⟩⟩ : zjr), 1)) else (if a1.Behind < 0 then (some ((⟨0, (⟨0, ⟨true, []⟩, false, 0⟩ : zjp), ⟨true, []⟩⟩ : zjr), 1)) else (if (a0.State.L.l.length : Int) < a1.Ahead then (some ((⟨0, (⟨0, ⟨true, []⟩, false, 0⟩ : zjp), ⟨true, []⟩⟩ : zjr), 1)) else (if (wrp .i64 ((a0.State.L.l.length : Int) - a1.Ahead)) < a1.Behind then (some ((⟨0, (⟨0, ⟨true, []⟩, false, 0⟩ : zjp), ⟨true, []⟩⟩ : zjr), 1)) else (if a0.Index = a1.From then (if a1.To < a1.From then (some ((⟨0, (⟨0, ⟨true, []⟩, false, 0⟩ : zjp), ⟨true, []⟩⟩ : zjr), 15)) else (if 0 ≤ a1.Ahead then (if a1.Ahead.toNat ≤ a0.State.L.l.length then (if 0 ≤ (wrp .i64 ((a0.State.L.l.length : Int) - a1.Behind)) then (if (wrp .i64 ((a0.State.L.l.length : Int) - a1.Behind)) ≤ (a0.State.L.l.length : Int) then ((zko q ⟨false, [⟨a0.State.L.z, (List.take a1.Ahead.toNat a0.State.L.l)⟩, a1.Mid, ⟨a0.State.L.z, (List.drop ((wrp .i64 ((a0.State.L.l.length : Int) - a1.Behind)).toNat) a0.State.L.l)⟩]⟩).bind fun r2 => (zkz q a1.Table.z a1.Table.l (a1.Table.l.length : Int) a1.To a0.State.Kind a1.Sealed a1.Engine a0.Table.z a0.Table.l r2.n r2.xs r2.x)) else none) else none) else none) else none)) else (some ((⟨0, (⟨0, ⟨true, []⟩, false, 0⟩ : zjp), ⟨true, []⟩⟩ : zjr), 15))))))) else (some ((⟨0, (⟨0, ⟨true, []⟩, false, 0⟩ : zjp), ⟨true, []⟩⟩ : zjr), 1))))
def zk1 : Nat → Bool → (List Int) → Bool → (List Int) → Int → Int → Option (Bool)
 | 0, _, _, _, _, _, _ => none
 | q + 1, v0z, v0l, v1z, v1l, v12, v13 => (if v13 < v12 then (if 0 ≤ v13 then ((v0l[v13.toNat]?).bind fun e1 => ((v1l[v13.toNat]?).bind fun e2 => (if e1 = e2 then (zk1 q v0z v0l v1z v1l v12 (wrp .i64 (v13 + 1))) else (some false)))) else none) else (some true))
def zk2 : Nat → (Sl Int) → (Sl Int) → Option (Bool)
 | 0, _, _ => none
 | q + 1, a0, a1 => (if (a0.l.length : Int) = (a1.l.length : Int) then (zk1 q a0.z a0.l a1.z a1.l (a0.l.length : Int) 0) else (some false))
def zk3 : Nat → zjp → zjp → Option (Bool)
 | 0, _, _ => none
 | q + 1, a0, a1 => (if a0.Kind = a1.Kind then (if (a0.Sealed == a1.Sealed) = true then (if a0.To = a1.To then ((zk2 q a0.L a1.L).bind fun r1 => (some r1)) else (some false)) else (some false)) else (some false))
def zk4 : Nat → Bool → (List zjq) → Bool → (List zjq) → Int → Int → Option (Bool)
 | 0, _, _, _, _, _, _ => none
 | q + 1, v0z, v0l, v1z, v1l, v12, v13 => (if v13 < v12 then (if 0 ≤ v13 then ((v0l[v13.toNat]?).bind fun e1 => ((v1l[v13.toNat]?).bind fun e2 => (if e1.Proc = e2.Proc then (if e1.Seq = e2.Seq then (if e1.Resp = e2.Resp then (zk4 q v0z v0l v1z v1l v12 (wrp .i64 (v13 + 1))) else (some false)) else (some false)) else (some false)))) else none) else (some true))
def zk5 : Nat → (Sl zjq) → (Sl zjq) → Option (Bool)
 | 0, _, _ => none
 | q + 1, a0, a1 => (if (a0.l.length : Int) = (a1.l.length : Int) then (zk4 q a0.z a0.l a1.z a1.l (a0.l.length : Int) 0) else (some false))
def zk6 : Nat → zjr → zjr → Option (Bool)
 | 0, _, _ => none
 | q + 1, a0, a1 => (if a0.Index = a1.Index then ((zk3 q a0.State a1.State).bind fun r1 => (if r1 = true then ((zk5 q a0.Table a1.Table).bind fun r2 => (some r2)) else (some false))) else (some false))
def zk7 : Nat → Option (Bool)
 | 0 => none
 | q + 1 => ((zkj q (⟨0, (⟨3, ⟨false, [1, 2]⟩, false, 0⟩ : zjp), ⟨true, []⟩⟩ : zjr) (⟨1, (⟨3, ⟨false, [1, 2, 9]⟩, false, 0⟩ : zjp), ⟨true, []⟩⟩ : zjr)).bind fun r1 => ((zk0 q (⟨0, (⟨3, ⟨false, [1, 2]⟩, false, 0⟩ : zjp), ⟨true, []⟩⟩ : zjr) r1.1).bind fun r2 => (if r1.2 = 0 then (if r2.2 = 0 then (if r1.1.Ahead = 2 then (if r1.1.Behind = 0 then (if (r1.1.Mid.l.length : Int) = 1 then ((r1.1.Mid.l[0]?).bind fun e3 => (if e3 = 9 then ((zk6 q (⟨1, (⟨3, ⟨false, [1, 2, 9]⟩, false, 0⟩ : zjp), ⟨true, []⟩⟩ : zjr) r2.1).bind fun r4 => (some r4)) else (some false))) else (some false)) else (some false)) else (some false)) else (some false)) else (some false))))
def zk8 : Nat → zjp → Option (Bool)
 | 0, _ => none
 | q + 1, a0 => (some (decide ((a0.L.l.length : Int) ≤ 300)))
def zk9 : Nat → zjr → Option (Bool)
 | 0, _ => none
 | q + 1, a0 => ((zk8 q a0.State).bind fun r1 => (if r1 = true then (some (decide ((a0.Table.l.length : Int) ≤ 100))) else (some false)))
def zla : Nat → Int → Option (Bool)
 | 0, _ => none
 | q + 1, a0 => (some (decide (a0 < 128)))
def zlb : Nat → Bool → (List Int) → Int → Int → Option (Int)
 | 0, _, _, _, _ => none
 | q + 1, v0z, v0l, v7, v8 => (if v8 < v7 then (if 0 ≤ v8 then ((v0l[v8.toNat]?).bind fun e1 => ((zla q e1).bind fun r2 => (if r2 = true then (some v8) else (zlb q v0z v0l v7 (wrp .i64 (v8 + 1)))))) else none) else (some (-1)))
def zlc : Nat → Bool → (List Int) → Option (Int)
 | 0, _, _ => none
 | q + 1, v0z, v0l => (zlb q v0z v0l (v0l.length : Int) 0)
def zld : Nat → (Sl Int) → Option (Bool)
 | 0, _ => none
 | q + 1, a0 => (if (a0.l.length : Int) < 10 then ((zlc q a0.z a0.l).bind fun r1 => (some (!(decide (0 ≤ r1))))) else (some false))
def zle : Nat → Bool → (List Int) → Int → Int → Int → Option (Int × Int)
 | 0, _, _, _, _, _ => none
 | q + 1, v0z, v0l, v4, v9, v10 => (if v10 < v9 then (if 0 ≤ v10 then ((v0l[v10.toNat]?).bind fun e1 => (if (wrp .i64 (7 * v10)) < 0 then none else (if v10 = 9 then (if 1 < e1 then (some (0, 0)) else (if e1 = 0 then (if 0 < v10 then (some (0, 0)) else (if e1 < 128 then (some ((ibits .or .u64 v4 (ishl .u64 (wrp .u64 (ibits .and .u8 e1 127)) (wrp .i64 (7 * v10)))), (wrp .i64 (v10 + 1)))) else (zle q v0z v0l (ibits .or .u64 v4 (ishl .u64 (wrp .u64 (ibits .and .u8 e1 127)) (wrp .i64 (7 * v10)))) v9 (wrp .i64 (v10 + 1))))) else (if e1 < 128 then (some ((ibits .or .u64 v4 (ishl .u64 (wrp .u64 (ibits .and .u8 e1 127)) (wrp .i64 (7 * v10)))), (wrp .i64 (v10 + 1)))) else (zle q v0z v0l (ibits .or .u64 v4 (ishl .u64 (wrp .u64 (ibits .and .u8 e1 127)) (wrp .i64 (7 * v10)))) v9 (wrp .i64 (v10 + 1)))))) else (if e1 = 0 then (if 0 < v10 then (some (0, 0)) else (if e1 < 128 then (some ((ibits .or .u64 v4 (ishl .u64 (wrp .u64 (ibits .and .u8 e1 127)) (wrp .i64 (7 * v10)))), (wrp .i64 (v10 + 1)))) else (zle q v0z v0l (ibits .or .u64 v4 (ishl .u64 (wrp .u64 (ibits .and .u8 e1 127)) (wrp .i64 (7 * v10)))) v9 (wrp .i64 (v10 + 1))))) else (if e1 < 128 then (some ((ibits .or .u64 v4 (ishl .u64 (wrp .u64 (ibits .and .u8 e1 127)) (wrp .i64 (7 * v10)))), (wrp .i64 (v10 + 1)))) else (zle q v0z v0l (ibits .or .u64 v4 (ishl .u64 (wrp .u64 (ibits .and .u8 e1 127)) (wrp .i64 (7 * v10)))) v9 (wrp .i64 (v10 + 1)))))))) else none) else (some (0, 0)))
def zlf : Nat → (Sl Int) → Option (Int × Int)
 | 0, _ => none
 | q + 1, a0 => (zle q a0.z a0.l 0 (if 10 < (a0.l.length : Int) then 10 else (a0.l.length : Int)) 0)
def zlg : Nat → (Sl Int) → Option (Int × Int)
 | 0, _ => none
 | q + 1, a0 => ((zlf q a0).bind fun r1 => (if 4611686018427387904 ≤ r1.1 then (some (0, 0)) else (some ((wrp .i64 r1.1), r1.2))))
mutual
def zlh : Nat → Int → (List Int) → (List Int) → Option ((List Int))
 | 0, _, _, _ => none
 | q + 1, v5, h0_0, h1_0 => (if v5 < 256 then (zli q v5 (wrp .u32 v5) v5 0 h0_0 h1_0) else (if 256 ≤ h1_0.length then (if (min 256 h1_0.length) = 256 then (if 256 ≤ h0_0.length then (if 256 ≤ (256 + (h0_0.length - 256)) then (some (List.take 256 ((List.take 256 h1_0) ++ (List.drop 256 h0_0)))) else none) else none) else none) else none))
def zli : Nat → Int → Int → Int → Int → (List Int) → (List Int) → Option ((List Int))
 | 0, _, _, _, _, _, _ => none
 | q + 1, v2, v3, v5, v10, h0_0, h1_0 => (if v10 < 8 then (zli q v2 (ibits .xor .u32 (ishr .u32 v3 1) (ibits .and .u32 2197175160 (wrp .u32 (0 - (ibits .and .u32 v3 1))))) v5 (wrp .i64 (v10 + 1)) h0_0 h1_0) else (if 0 ≤ v2 then (if v2.toNat < 256 then (if (v2.toNat + 1) ≤ h1_0.length then (zlh q (wrp .i64 (v5 + 1)) h0_0 (List.set h1_0 v2.toNat v3)) else none) else none) else none))
end
def zlj : Nat → Option ((List Int))
 | 0 => none
 | q + 1 => (zlh q 0 (List.replicate 256 0) (List.replicate 256 0))
def zlk : Nat → Int → Bool → (List Int) → Int → Int → (List Int) → Option (Int)
 | 0, _, _, _, _, _, _ => none
 | q + 1, v6, v12z, v12l, v13, v14, h0_0 => (if v14 < v13 then (if 0 ≤ v14 then ((v12l[v14.toNat]?).bind fun e2 => (if 0 ≤ (ibits .xor .u8 (wrp .u8 v6) e2) then (if (ibits .xor .u8 (wrp .u8 v6) e2).toNat < 256 then ((h0_0[(ibits .xor .u8 (wrp .u8 v6) e2).toNat]?).bind fun e3 => (zlk q (ibits .xor .u32 e3 (ishr .u32 v6 8)) v12z v12l v13 (wrp .i64 (v14 + 1)) h0_0)) else none) else none)) else none) else (some (ibits .xor .u32 4294967295 v6)))
def zll : Nat → Int → (Sl Int) → Option (Int)
 | 0, _, _ => none
 | q + 1, a0, a1 => ((zlj q).bind fun r1 => (if r1.length = 256 then (zlk q (ibits .xor .u32 4294967295 a0) a1.z a1.l (a1.l.length : Int) 0 r1) else none))
def zlm : Nat → (Sl Int) → Option (Int)
 | 0, _ => none
 | q + 1, a0 => ((zll q 0 a0).bind fun r1 => (some r1))
def zln : Nat → Int → Int → Int → Bool → (List Int) → Option ((Ow Int))
 | 0, _, _, _, _, _ => none
 | q + 1, v0, v7, v8, h0z, h0l => (if v8 < v7 then (if (wrp .i64 (8 * v8)) < 0 then none else (if (h0l.length + 1) ≤ 4294967296 then (zln q v0 v7 (wrp .i64 (v8 + 1)) false (h0l ++ [(wrp .u8 (ishr .u64 v0 (wrp .i64 (8 * v8))))])) else none)) else (some ⟨h0z, true, h0l⟩))
def zlo : Nat → Int → Int → Option ((Ow Int))
 | 0, _, _ => none
 | q + 1, a0, a1 => (zln q a0 a1 0 true [])
def zlp : Nat → Int → Option ((Ow Int))
 | 0, _ => none
 | q + 1, a0 => ((zlo q (wrp .u64 a0) 4).bind fun r1 => (some r1))
def zlq : Nat → (Sl Int) → (Sl Int) → Option ((Ow Int))
 | 0, _, _ => none
 | q + 1, a0, a1 => ((zlm q a0).bind fun r1 => ((zll q r1 a1).bind fun r2 => ((zlp q r2).bind fun r3 => (some r3))))
def zlr : Nat → Bool → (List Int) → Bool → (List Int) → Int → Int → Option (Bool)
 | 0, _, _, _, _, _, _ => none
 | q + 1, v0z, v0l, v1z, v1l, v12, v13 => (if v13 < v12 then (if 0 ≤ v13 then ((v0l[v13.toNat]?).bind fun e1 => ((v1l[v13.toNat]?).bind fun e2 => (if e1 = e2 then (zlr q v0z v0l v1z v1l v12 (wrp .i64 (v13 + 1))) else (some false)))) else none) else (some true))
def zls : Nat → (Sl Int) → (Sl Int) → Option (Bool)
 | 0, _, _ => none
 | q + 1, a0, a1 => (if (a0.l.length : Int) = (a1.l.length : Int) then (zlr q a0.z a0.l a1.z a1.l (a0.l.length : Int) 0) else (some false))
def zlt : Nat → (Sl Int) → Option ((Ow Int))
 | 0, _ => none
 | q + 1, a0 => (if a0.z = true then (some ⟨true, true, []⟩) else (if a0.l.length ≤ 4294967296 then (some ⟨false, true, a0.l⟩) else none))
def zlu : Nat → (Sl Int) → Option ((Ow Int) × Int × Int)
 | 0, _ => none
 | q + 1, a0 => ((zld q a0).bind fun r1 => (if r1 = true then (some (⟨true, true, []⟩, 0, 2)) else ((zlg q a0).bind fun r2 => (if r2.2 = 0 then (some (⟨true, true, []⟩, 0, 3)) else (if 1048576 < r2.1 then (some (⟨true, true, []⟩, 0, 5)) else (if (a0.l.length : Int) < (wrp .i64 ((wrp .i64 (r2.2 + 4)) + r2.1)) then (some (⟨true, true, []⟩, 0, 2)) else (if 0 ≤ r2.2 then (if r2.2 ≤ r2.2 then (if r2.2.toNat ≤ a0.l.length then (if 0 ≤ (wrp .i64 (r2.2 + r2.1)) then (if (wrp .i64 (r2.2 + r2.1)) ≤ (wrp .i64 (r2.2 + r2.1)) then (if (wrp .i64 (r2.2 + r2.1)).toNat ≤ a0.l.length then (if r2.2 ≤ (wrp .i64 (r2.2 + r2.1)) then (if (wrp .i64 (r2.2 + r2.1)) ≤ (wrp .i64 ((wrp .i64 (r2.2 + r2.1)) + 4)) then (if (wrp .i64 ((wrp .i64 (r2.2 + r2.1)) + 4)).toNat ≤ a0.l.length then ((zlq q ⟨a0.z, (List.take r2.2.toNat a0.l)⟩ ⟨a0.z, (List.drop r2.2.toNat (List.take ((wrp .i64 (r2.2 + r2.1)).toNat) a0.l))⟩).bind fun r3 => ((zls q ⟨a0.z, (List.drop ((wrp .i64 (r2.2 + r2.1)).toNat) (List.take ((wrp .i64 ((wrp .i64 (r2.2 + r2.1)) + 4)).toNat) a0.l))⟩ ⟨r3.n, r3.xs⟩).bind fun r4 => (if r4 = true then ((zlt q ⟨a0.z, (List.drop r2.2.toNat (List.take ((wrp .i64 (r2.2 + r2.1)).toNat) a0.l))⟩).bind fun r5 => (some (r5, (wrp .i64 ((wrp .i64 (r2.2 + r2.1)) + 4)), 0))) else (some (⟨true, true, []⟩, 0, 4))))) else none) else none) else none) else none) else none) else none) else none) else none) else none)))))))
def zlv : Nat → Int → Option (Int)
 | 0, _ => none
 | q + 1, a0 => (some (ibits .xor .i64 (wrp .i64 (ishr .u64 a0 1)) (wrp .i64 (0 - (wrp .i64 (ibits .and .u64 a0 1))))))
def zlw : Nat → (Sl Int) → Option (Int × Int)
 | 0, _ => none
 | q + 1, a0 => ((zlf q a0).bind fun r1 => (if r1.2 = 0 then (some (0, 0)) else ((zlv q r1.1).bind fun r2 => (some (r2, r1.2)))))
def zlx : Nat → Int → Int → Int → Int → Bool → (List Int) → Bool → Int → Option (Int × Int × Int × Int × (List Int) × Bool × Int)
 | 0, _, _, _, _, _, _, _, _ => none
 | q + 1, h0_0, h0_1, h0_2, h0_3, h1_0z, h1_0l, h1_1, h2_0 => (some (h0_0, h0_1, h0_2, h0_3, h1_0l, h1_1, h2_0))
def zly : Nat → Int → Int → Int → Int → Bool → (List Int) → Bool → Option (Int × Int × Int × Int × (List Int) × Bool × Int)
 | 0, _, _, _, _, _, _, _ => none
 | q + 1, h0_0, h0_1, h0_2, h0_3, h1_0z, h1_0l, h1_1 => ((zlg q ⟨h1_0z, h1_0l⟩).bind fun r5 => (if h1_1 = true then (if 0 ≤ r5.2 then (if r5.2 ≤ (h1_0l.length : Int) then (zlx q h0_0 h0_1 h0_2 h0_3 h1_0z (List.drop r5.2.toNat h1_0l) (decide (0 < r5.2)) r5.1) else none) else none) else (if 0 ≤ r5.2 then (if r5.2 ≤ (h1_0l.length : Int) then (zlx q h0_0 h0_1 h0_2 h0_3 h1_0z (List.drop r5.2.toNat h1_0l) false r5.1) else none) else none)))
def zlz : Nat → Int → Int → Int → Bool → (List Int) → Bool → Option (Int × Int × Int × Int × (List Int) × Bool × Int)
 | 0, _, _, _, _, _, _ => none
 | q + 1, h0_0, h0_1, h0_2, h1_0z, h1_0l, h1_1 => ((zlg q ⟨h1_0z, h1_0l⟩).bind fun r4 => (if h1_1 = true then (if 0 ≤ r4.2 then (if r4.2 ≤ (h1_0l.length : Int) then (zly q h0_0 h0_1 h0_2 r4.1 h1_0z (List.drop r4.2.toNat h1_0l) (decide (0 < r4.2))) else none) else none) else (if 0 ≤ r4.2 then (if r4.2 ≤ (h1_0l.length : Int) then (zly q h0_0 h0_1 h0_2 r4.1 h1_0z (List.drop r4.2.toNat h1_0l) false) else none) else none)))
def zl0 : Nat → Int → Int → Bool → (List Int) → Bool → Option (Int × Int × Int × Int × (List Int) × Bool × Int)
 | 0, _, _, _, _, _ => none
 | q + 1, h0_0, h0_1, h1_0z, h1_0l, h1_1 => ((zlg q ⟨h1_0z, h1_0l⟩).bind fun r3 => (if h1_1 = true then (if 0 ≤ r3.2 then (if r3.2 ≤ (h1_0l.length : Int) then (zlz q h0_0 h0_1 r3.1 h1_0z (List.drop r3.2.toNat h1_0l) (decide (0 < r3.2))) else none) else none) else (if 0 ≤ r3.2 then (if r3.2 ≤ (h1_0l.length : Int) then (zlz q h0_0 h0_1 r3.1 h1_0z (List.drop r3.2.toNat h1_0l) false) else none) else none)))
def zl1 : Nat → Int → Bool → (List Int) → Bool → Option (Int × Int × Int × Int × (List Int) × Bool × Int)
 | 0, _, _, _, _ => none
 | q + 1, h0_0, h1_0z, h1_0l, h1_1 => ((zlg q ⟨h1_0z, h1_0l⟩).bind fun r2 => (if h1_1 = true then (if 0 ≤ r2.2 then (if r2.2 ≤ (h1_0l.length : Int) then (zl0 q h0_0 r2.1 h1_0z (List.drop r2.2.toNat h1_0l) (decide (0 < r2.2))) else none) else none) else (if 0 ≤ r2.2 then (if r2.2 ≤ (h1_0l.length : Int) then (zl0 q h0_0 r2.1 h1_0z (List.drop r2.2.toNat h1_0l) false) else none) else none)))
def zl2 : Nat → Bool → (List Int) → Option (Int × Int × Int × Int × (List Int) × Bool × Int)
 | 0, _, _ => none
 | q + 1, h1_0z, h1_0l => ((zlg q ⟨h1_0z, h1_0l⟩).bind fun r1 => (if 0 ≤ r1.2 then (if r1.2 ≤ (h1_0l.length : Int) then (zl1 q r1.1 h1_0z (List.drop r1.2.toNat h1_0l) (decide (0 < r1.2))) else none) else none))
def zl3 : Nat → Bool → (List Int) → Option (Int × Int × Int × Int × (List Int) × Bool × Int)
 | 0, _, _ => none
 | q + 1, h1_0z, h1_0l => (zl2 q h1_0z h1_0l)
def zl4 : Nat → Int → Int → Int → Int → Bool → (List Int) → Bool → Int → Int → Option ((List Int) × Bool × Int × Int)
 | 0, _, _, _, _, _, _, _, _, _ => none
 | q + 1, h0_0, h0_1, h0_2, h0_3, h1_0z, h1_0l, h1_1, h2_0, h3_0 => (some (h1_0l, h1_1, h2_0, h3_0))
def zl5 : Nat → Int → Int → Int → Int → Bool → (List Int) → Bool → Int → Option ((List Int) × Bool × Int × Int)
 | 0, _, _, _, _, _, _, _, _ => none
 | q + 1, h0_0, h0_1, h0_2, h0_3, h1_0z, h1_0l, h1_1, h2_0 => ((zlg q ⟨h1_0z, h1_0l⟩).bind fun r2 => (if h1_1 = true then (if 0 ≤ r2.2 then (if r2.2 ≤ (h1_0l.length : Int) then (zl4 q h0_0 h0_1 h0_2 h0_3 h1_0z (List.drop r2.2.toNat h1_0l) (decide (0 < r2.2)) h2_0 r2.1) else none) else none) else (if 0 ≤ r2.2 then (if r2.2 ≤ (h1_0l.length : Int) then (zl4 q h0_0 h0_1 h0_2 h0_3 h1_0z (List.drop r2.2.toNat h1_0l) false h2_0 r2.1) else none) else none)))
def zl6 : Nat → Int → Int → Int → Int → Bool → (List Int) → Bool → Option ((List Int) × Bool × Int × Int)
 | 0, _, _, _, _, _, _, _ => none
 | q + 1, h0_0, h0_1, h0_2, h0_3, h1_0z, h1_0l, h1_1 => ((zlg q ⟨h1_0z, h1_0l⟩).bind fun r1 => (if h1_1 = true then (if 0 ≤ r1.2 then (if r1.2 ≤ (h1_0l.length : Int) then (zl5 q h0_0 h0_1 h0_2 h0_3 h1_0z (List.drop r1.2.toNat h1_0l) (decide (0 < r1.2)) r1.1) else none) else none) else (if 0 ≤ r1.2 then (if r1.2 ≤ (h1_0l.length : Int) then (zl5 q h0_0 h0_1 h0_2 h0_3 h1_0z (List.drop r1.2.toNat h1_0l) false r1.1) else none) else none)))
def zl7 : Nat → Int → Int → Int → Int → Bool → (List Int) → Bool → Option ((List Int) × Bool × Int × Int)
 | 0, _, _, _, _, _, _, _ => none
 | q + 1, h0_0, h0_1, h0_2, h0_3, h1_0z, h1_0l, h1_1 => (zl6 q h0_0 h0_1 h0_2 h0_3 h1_0z h1_0l h1_1)
def zl8 : Nat → Int → Int → Int → Int → Bool → (List Int) → Bool → Int → Int → (List Int) → Option (Nat × (List Int) × Bool × Int × Int)
 | 0, _, _, _, _, _, _, _, _, _, _ => none
 | q + 1, h0_0, h0_1, h0_2, h0_3, h1_0z, h1_0l, h1_1, h2_0, h3_0, h4l => (some (h4l.length, h1_0l, h1_1, h2_0, h3_0))
def zl9 : Nat → Int → Int → Int → Int → Bool → (List Int) → Bool → Int → (List Int) → Option (Nat × (List Int) × Bool × Int × Int)
 | 0, _, _, _, _, _, _, _, _, _ => none
 | q + 1, h0_0, h0_1, h0_2, h0_3, h1_0z, h1_0l, h1_1, h2_0, h4l => ((zlg q ⟨h1_0z, h1_0l⟩).bind fun r2 => (if h1_1 = true then (if 0 ≤ r2.2 then (if r2.2 ≤ (h1_0l.length : Int) then (zl8 q h0_0 h0_1 h0_2 h0_3 h1_0z (List.drop r2.2.toNat h1_0l) (decide (0 < r2.2)) h2_0 r2.1 h4l) else none) else none) else (if 0 ≤ r2.2 then (if r2.2 ≤ (h1_0l.length : Int) then (zl8 q h0_0 h0_1 h0_2 h0_3 h1_0z (List.drop r2.2.toNat h1_0l) false h2_0 r2.1 h4l) else none) else none)))
def zma : Nat → Int → Int → Int → Int → Bool → (List Int) → Bool → (List Int) → Option (Nat × (List Int) × Bool × Int × Int)
 | 0, _, _, _, _, _, _, _, _ => none
 | q + 1, h0_0, h0_1, h0_2, h0_3, h1_0z, h1_0l, h1_1, h4l => ((zlg q ⟨h1_0z, h1_0l⟩).bind fun r1 => (if h1_1 = true then (if 0 ≤ r1.2 then (if r1.2 ≤ (h1_0l.length : Int) then (zl9 q h0_0 h0_1 h0_2 h0_3 h1_0z (List.drop r1.2.toNat h1_0l) (decide (0 < r1.2)) r1.1 h4l) else none) else none) else (if 0 ≤ r1.2 then (if r1.2 ≤ (h1_0l.length : Int) then (zl9 q h0_0 h0_1 h0_2 h0_3 h1_0z (List.drop r1.2.toNat h1_0l) false r1.1 h4l) else none) else none)))
def zmb : Nat → Int → Int → Int → Int → Bool → (List Int) → Bool → (List Int) → Option (Nat × (List Int) × Bool × Int × Int)
 | 0, _, _, _, _, _, _, _, _ => none
 | q + 1, h0_0, h0_1, h0_2, h0_3, h1_0z, h1_0l, h1_1, h4l => (zma q h0_0 h0_1 h0_2 h0_3 h1_0z h1_0l h1_1 h4l)
def zmc : Nat → Int → Int → Int → Int → Bool → Int → Bool → (List Int) → Bool → Int → Int → Int → Option ((List Int) × Bool × Int × Int)
 | 0, _, _, _, _, _, _, _, _, _, _, _, _ => none
 | q + 1, h0_0, h0_1, h0_2, h0_3, h0_5, h0_6, h1_0z, h1_0l, h1_1, h2_0, h3_0, h3_1 => (some (h1_0l, h1_1, h3_0, h3_1))
def zmd : Nat → Int → Int → Int → Int → Bool → Int → Bool → (List Int) → Bool → Int → Int → Option ((List Int) × Bool × Int × Int)
 | 0, _, _, _, _, _, _, _, _, _, _, _ => none
 | q + 1, h0_0, h0_1, h0_2, h0_3, h0_5, h0_6, h1_0z, h1_0l, h1_1, h2_0, h3_0 => ((zlg q ⟨h1_0z, h1_0l⟩).bind fun r2 => (if h1_1 = true then (if 0 ≤ r2.2 then (if r2.2 ≤ (h1_0l.length : Int) then (zmc q h0_0 h0_1 h0_2 h0_3 h0_5 h0_6 h1_0z (List.drop r2.2.toNat h1_0l) (decide (0 < r2.2)) h2_0 h3_0 r2.1) else none) else none) else (if 0 ≤ r2.2 then (if r2.2 ≤ (h1_0l.length : Int) then (zmc q h0_0 h0_1 h0_2 h0_3 h0_5 h0_6 h1_0z (List.drop r2.2.toNat h1_0l) false h2_0 h3_0 r2.1) else none) else none)))
def zme : Nat → Int → Int → Int → Int → Bool → Int → Bool → (List Int) → Bool → Int → Option ((List Int) × Bool × Int × Int)
 | 0, _, _, _, _, _, _, _, _, _, _ => none
 | q + 1, h0_0, h0_1, h0_2, h0_3, h0_5, h0_6, h1_0z, h1_0l, h1_1, h2_0 => ((zlg q ⟨h1_0z, h1_0l⟩).bind fun r1 => (if h1_1 = true then (if 0 ≤ r1.2 then (if r1.2 ≤ (h1_0l.length : Int) then (zmd q h0_0 h0_1 h0_2 h0_3 h0_5 h0_6 h1_0z (List.drop r1.2.toNat h1_0l) (decide (0 < r1.2)) h2_0 r1.1) else none) else none) else (if 0 ≤ r1.2 then (if r1.2 ≤ (h1_0l.length : Int) then (zmd q h0_0 h0_1 h0_2 h0_3 h0_5 h0_6 h1_0z (List.drop r1.2.toNat h1_0l) false h2_0 r1.1) else none) else none)))
def zmf : Nat → Int → Int → Int → Int → Bool → Int → Bool → (List Int) → Bool → Int → Option ((List Int) × Bool × Int × Int)
 | 0, _, _, _, _, _, _, _, _, _, _ => none
 | q + 1, h0_0, h0_1, h0_2, h0_3, h0_5, h0_6, h1_0z, h1_0l, h1_1, h2_0 => (zme q h0_0 h0_1 h0_2 h0_3 h0_5 h0_6 h1_0z h1_0l h1_1 h2_0)
def zmg : Nat → Int → Int → Int → Int → Nat → Bool → Int → Bool → (List Int) → Bool → Int → (List Int) → Int → Int → Option ((List Int) × Bool × Int × Int)
 | 0, _, _, _, _, _, _, _, _, _, _, _, _, _, _ => none
 | q + 1, h0_0, h0_1, h0_2, h0_3, h0_4len, h0_5, h0_6, h1_0z, h1_0l, h1_1, h2_0, h3l, h4_0, h4_1 => (some (h1_0l, h1_1, h4_0, h4_1))
def zmh : Nat → Int → Int → Int → Int → Nat → Bool → Int → Bool → (List Int) → Bool → Int → (List Int) → Int → Option ((List Int) × Bool × Int × Int)
 | 0, _, _, _, _, _, _, _, _, _, _, _, _, _ => none
 | q + 1, h0_0, h0_1, h0_2, h0_3, h0_4len, h0_5, h0_6, h1_0z, h1_0l, h1_1, h2_0, h3l, h4_0 => ((zlg q ⟨h1_0z, h1_0l⟩).bind fun r2 => (if h1_1 = true then (if 0 ≤ r2.2 then (if r2.2 ≤ (h1_0l.length : Int) then (zmg q h0_0 h0_1 h0_2 h0_3 h0_4len h0_5 h0_6 h1_0z (List.drop r2.2.toNat h1_0l) (decide (0 < r2.2)) h2_0 h3l h4_0 r2.1) else none) else none) else (if 0 ≤ r2.2 then (if r2.2 ≤ (h1_0l.length : Int) then (zmg q h0_0 h0_1 h0_2 h0_3 h0_4len h0_5 h0_6 h1_0z (List.drop r2.2.toNat h1_0l) false h2_0 h3l h4_0 r2.1) else none) else none)))
def zmi : Nat → Int → Int → Int → Int → Nat → Bool → Int → Bool → (List Int) → Bool → Int → (List Int) → Option ((List Int) × Bool × Int × Int)
 | 0, _, _, _, _, _, _, _, _, _, _, _, _ => none
 | q + 1, h0_0, h0_1, h0_2, h0_3, h0_4len, h0_5, h0_6, h1_0z, h1_0l, h1_1, h2_0, h3l => ((zlg q ⟨h1_0z, h1_0l⟩).bind fun r1 => (if h1_1 = true then (if 0 ≤ r1.2 then (if r1.2 ≤ (h1_0l.length : Int) then (zmh q h0_0 h0_1 h0_2 h0_3 h0_4len h0_5 h0_6 h1_0z (List.drop r1.2.toNat h1_0l) (decide (0 < r1.2)) h2_0 h3l r1.1) else none) else none) else (if 0 ≤ r1.2 then (if r1.2 ≤ (h1_0l.length : Int) then (zmh q h0_0 h0_1 h0_2 h0_3 h0_4len h0_5 h0_6 h1_0z (List.drop r1.2.toNat h1_0l) false h2_0 h3l r1.1) else none) else none)))
def zmj : Nat → Int → Int → Int → Int → Nat → Bool → Int → Bool → (List Int) → Bool → Int → (List Int) → Option ((List Int) × Bool × Int × Int)
 | 0, _, _, _, _, _, _, _, _, _, _, _, _ => none
 | q + 1, h0_0, h0_1, h0_2, h0_3, h0_4len, h0_5, h0_6, h1_0z, h1_0l, h1_1, h2_0, h3l => (zmi q h0_0 h0_1 h0_2 h0_3 h0_4len h0_5 h0_6 h1_0z h1_0l h1_1 h2_0 h3l)
def zmk : Nat → Int → Int → Int → Int → Bool → Int → Bool → (List Int) → Bool → Int → (List zjq) → Int → Int → Option (Nat × (List Int) × Bool × Int × Int)
 | 0, _, _, _, _, _, _, _, _, _, _, _, _, _ => none
 | q + 1, h0_0, h0_1, h0_2, h0_3, h0_5, h0_6, h1_0z, h1_0l, h1_1, h2_0, h3l, h4_0, h4_1 => (some (h3l.length, h1_0l, h1_1, h4_0, h4_1))
def zml : Nat → Int → Int → Int → Int → Bool → Int → Bool → (List Int) → Bool → Int → (List zjq) → Int → Option (Nat × (List Int) × Bool × Int × Int)
 | 0, _, _, _, _, _, _, _, _, _, _, _, _ => none
 | q + 1, h0_0, h0_1, h0_2, h0_3, h0_5, h0_6, h1_0z, h1_0l, h1_1, h2_0, h3l, h4_0 => ((zlg q ⟨h1_0z, h1_0l⟩).bind fun r2 => (if h1_1 = true then (if 0 ≤ r2.2 then (if r2.2 ≤ (h1_0l.length : Int) then (zmk q h0_0 h0_1 h0_2 h0_3 h0_5 h0_6 h1_0z (List.drop r2.2.toNat h1_0l) (decide (0 < r2.2)) h2_0 h3l h4_0 r2.1) else none) else none) else (if 0 ≤ r2.2 then (if r2.2 ≤ (h1_0l.length : Int) then (zmk q h0_0 h0_1 h0_2 h0_3 h0_5 h0_6 h1_0z (List.drop r2.2.toNat h1_0l) false h2_0 h3l h4_0 r2.1) else none) else none)))
def zmm : Nat → Int → Int → Int → Int → Bool → Int → Bool → (List Int) → Bool → Int → (List zjq) → Option (Nat × (List Int) × Bool × Int × Int)
 | 0, _, _, _, _, _, _, _, _, _, _, _ => none
 | q + 1, h0_0, h0_1, h0_2, h0_3, h0_5, h0_6, h1_0z, h1_0l, h1_1, h2_0, h3l => ((zlg q ⟨h1_0z, h1_0l⟩).bind fun r1 => (if h1_1 = true then (if 0 ≤ r1.2 then (if r1.2 ≤ (h1_0l.length : Int) then (zml q h0_0 h0_1 h0_2 h0_3 h0_5 h0_6 h1_0z (List.drop r1.2.toNat h1_0l) (decide (0 < r1.2)) h2_0 h3l r1.1) else none) else none) else (if 0 ≤ r1.2 then (if r1.2 ≤ (h1_0l.length : Int) then (zml q h0_0 h0_1 h0_2 h0_3 h0_5 h0_6 h1_0z (List.drop r1.2.toNat h1_0l) false h2_0 h3l r1.1) else none) else none)))
def zmn : Nat → Int → Int → Int → Int → Bool → Int → Bool → (List Int) → Bool → Int → (List zjq) → Option (Nat × (List Int) × Bool × Int × Int)
 | 0, _, _, _, _, _, _, _, _, _, _, _ => none
 | q + 1, h0_0, h0_1, h0_2, h0_3, h0_5, h0_6, h1_0z, h1_0l, h1_1, h2_0, h3l => (zmm q h0_0 h0_1 h0_2 h0_3 h0_5 h0_6 h1_0z h1_0l h1_1 h2_0 h3l)
def zmo : Nat → Int → Int → Int → Int → Nat → Bool → Int → Bool → (List Int) → Bool → Int → (List Int) → (List zjq) → Int → Int → Option (Nat × (List Int) × Bool × Int × Int)
 | 0, _, _, _, _, _, _, _, _, _, _, _, _, _, _, _ => none
 | q + 1, h0_0, h0_1, h0_2, h0_3, h0_4len, h0_5, h0_6, h1_0z, h1_0l, h1_1, h2_0, h3l, h4l, h5_0, h5_1 => (some (h4l.length, h1_0l, h1_1, h5_0, h5_1))
def zmp : Nat → Int → Int → Int → Int → Nat → Bool → Int → Bool → (List Int) → Bool → Int → (List Int) → (List zjq) → Int → Option (Nat × (List Int) × Bool × Int × Int)
 | 0, _, _, _, _, _, _, _, _, _, _, _, _, _, _ => none
 | q + 1, h0_0, h0_1, h0_2, h0_3, h0_4len, h0_5, h0_6, h1_0z, h1_0l, h1_1, h2_0, h3l, h4l, h5_0 => ((zlg q ⟨h1_0z, h1_0l⟩).bind fun r2 => (if h1_1 = true then (if 0 ≤ r2.2 then (if r2.2 ≤ (h1_0l.length : Int) then (zmo q h0_0 h0_1 h0_2 h0_3 h0_4len h0_5 h0_6 h1_0z (List.drop r2.2.toNat h1_0l) (decide (0 < r2.2)) h2_0 h3l h4l h5_0 r2.1) else none) else none) else (if 0 ≤ r2.2 then (if r2.2 ≤ (h1_0l.length : Int) then (zmo q h0_0 h0_1 h0_2 h0_3 h0_4len h0_5 h0_6 h1_0z (List.drop r2.2.toNat h1_0l) false h2_0 h3l h4l h5_0 r2.1) else none) else none)))
def zmq : Nat → Int → Int → Int → Int → Nat → Bool → Int → Bool → (List Int) → Bool → Int → (List Int) → (List zjq) → Option (Nat × (List Int) × Bool × Int × Int)
 | 0, _, _, _, _, _, _, _, _, _, _, _, _, _ => none
 | q + 1, h0_0, h0_1, h0_2, h0_3, h0_4len, h0_5, h0_6, h1_0z, h1_0l, h1_1, h2_0, h3l, h4l => ((zlg q ⟨h1_0z, h1_0l⟩).bind fun r1 => (if h1_1 = true then (if 0 ≤ r1.2 then (if r1.2 ≤ (h1_0l.length : Int) then (zmp q h0_0 h0_1 h0_2 h0_3 h0_4len h0_5 h0_6 h1_0z (List.drop r1.2.toNat h1_0l) (decide (0 < r1.2)) h2_0 h3l h4l r1.1) else none) else none) else (if 0 ≤ r1.2 then (if r1.2 ≤ (h1_0l.length : Int) then (zmp q h0_0 h0_1 h0_2 h0_3 h0_4len h0_5 h0_6 h1_0z (List.drop r1.2.toNat h1_0l) false h2_0 h3l h4l r1.1) else none) else none)))
def zmr : Nat → Int → Int → Int → Int → Nat → Bool → Int → Bool → (List Int) → Bool → Int → (List Int) → (List zjq) → Option (Nat × (List Int) × Bool × Int × Int)
 | 0, _, _, _, _, _, _, _, _, _, _, _, _, _ => none
 | q + 1, h0_0, h0_1, h0_2, h0_3, h0_4len, h0_5, h0_6, h1_0z, h1_0l, h1_1, h2_0, h3l, h4l => (zmq q h0_0 h0_1 h0_2 h0_3 h0_4len h0_5 h0_6 h1_0z h1_0l h1_1 h2_0 h3l h4l)
def zms : Nat → Int → Int → Int → Int → Int → Nat → Bool → Int → Bool → (List Int) → Bool → Int → (List Int) → (List zjq) → Option (zjs × Bool)
 | 0, _, _, _, _, _, _, _, _, _, _, _, _, _, _ => none
 | q + 1, v8, h0_0, h0_1, h0_2, h0_3, h0_4len, h0_5, h0_6, h1_0z, h1_0l, h1_1, h2_0, h3l, h4l => (if v8 < h2_0 then (if h1_1 = true then ((zmr q h0_0 h0_1 h0_2 h0_3 h0_4len h0_5 h0_6 h1_0z h1_0l h1_1 h2_0 h3l h4l).bind fun r12 => ((zlw q ⟨h1_0z, r12.2.1⟩).bind fun r13 => (if r12.2.2.1 = true then (if 0 ≤ r13.2 then (if r13.2 ≤ (r12.2.1.length : Int) then (if (h4l.length + 1) ≤ 4294967296 then (zms q (wrp .i64 (v8 + 1)) h0_0 h0_1 h0_2 h0_3 h0_4len h0_5 h0_6 h1_0z (List.drop r13.2.toNat r12.2.1) (decide (0 < r13.2)) h2_0 h3l (h4l ++ [(⟨r12.2.2.2.1, r12.2.2.2.2, r13.1⟩ : zjq)])) else none) else none) else none) else (if 0 ≤ r13.2 then (if r13.2 ≤ (r12.2.1.length : Int) then (if (h4l.length + 1) ≤ 4294967296 then (zms q (wrp .i64 (v8 + 1)) h0_0 h0_1 h0_2 h0_3 h0_4len h0_5 h0_6 h1_0z (List.drop r13.2.toNat r12.2.1) false h2_0 h3l (h4l ++ [(⟨r12.2.2.2.1, r12.2.2.2.2, r13.1⟩ : zjq)])) else none) else none) else none)))) else (some ((⟨h0_0, h0_1, h0_2, h0_3, ⟨false, h3l⟩, h0_5, h0_6, ⟨false, h4l⟩⟩ : zjs), false))) else (if h1_1 = true then (some ((⟨h0_0, h0_1, h0_2, h0_3, ⟨false, h3l⟩, h0_5, h0_6, ⟨false, h4l⟩⟩ : zjs), (decide ((h1_0l.length : Int) = 0)))) else (some ((⟨h0_0, h0_1, h0_2, h0_3, ⟨false, h3l⟩, h0_5, h0_6, ⟨false, h4l⟩⟩ : zjs), false))))
def zmt : Nat → Int → Int → Int → Int → Nat → Bool → Int → Bool → (List Int) → Bool → Int → (List Int) → Option (zjs × Bool)
 | 0, _, _, _, _, _, _, _, _, _, _, _, _ => none
 | q + 1, h0_0, h0_1, h0_2, h0_3, h0_4len, h0_5, h0_6, h1_0z, h1_0l, h1_1, h2_0, h3l => (if 0 < h2_0 then (if h1_1 = true then ((zmj q h0_0 h0_1 h0_2 h0_3 h0_4len h0_5 h0_6 h1_0z h1_0l h1_1 h2_0 h3l).bind fun r8 => ((zlw q ⟨h1_0z, r8.1⟩).bind fun r9 => (if r8.2.1 = true then (if 0 ≤ r9.2 then (if r9.2 ≤ (r8.1.length : Int) then (zms q (wrp .i64 1) h0_0 h0_1 h0_2 h0_3 h0_4len h0_5 h0_6 h1_0z (List.drop r9.2.toNat r8.1) (decide (0 < r9.2)) h2_0 h3l [(⟨r8.2.2.1, r8.2.2.2, r9.1⟩ : zjq)]) else none) else none) else (if 0 ≤ r9.2 then (if r9.2 ≤ (r8.1.length : Int) then (zms q (wrp .i64 1) h0_0 h0_1 h0_2 h0_3 h0_4len h0_5 h0_6 h1_0z (List.drop r9.2.toNat r8.1) false h2_0 h3l [(⟨r8.2.2.1, r8.2.2.2, r9.1⟩ : zjq)]) else none) else none)))) else (some ((⟨h0_0, h0_1, h0_2, h0_3, ⟨false, h3l⟩, h0_5, h0_6, ⟨true, []⟩⟩ : zjs), false))) else (if h1_1 = true then (some ((⟨h0_0, h0_1, h0_2, h0_3, ⟨false, h3l⟩, h0_5, h0_6, ⟨true, []⟩⟩ : zjs), (decide ((h1_0l.length : Int) = 0)))) else (some ((⟨h0_0, h0_1, h0_2, h0_3, ⟨false, h3l⟩, h0_5, h0_6, ⟨true, []⟩⟩ : zjs), false))))
def zmu : Nat → Int → Int → Int → Int → Int → Int → Bool → (List Int) → Bool → (List Int) → Option (zjs × Bool)
 | 0, _, _, _, _, _, _, _, _, _, _ => none
 | q + 1, v23, v24, h0_0, h0_1, h0_2, h0_3, h1_0z, h1_0l, h1_1, h4l => (if v24 < v23 then ((zlw q ⟨h1_0z, h1_0l⟩).bind fun r4 => (if h1_1 = true then (if 0 ≤ r4.2 then (if r4.2 ≤ (h1_0l.length : Int) then (if (h4l.length + 1) ≤ 4294967296 then (zmu q v23 (wrp .i64 (v24 + 1)) h0_0 h0_1 h0_2 h0_3 h1_0z (List.drop r4.2.toNat h1_0l) (decide (0 < r4.2)) (h4l ++ [r4.1])) else none) else none) else none) else (if 0 ≤ r4.2 then (if r4.2 ≤ (h1_0l.length : Int) then (if (h4l.length + 1) ≤ 4294967296 then (zmu q v23 (wrp .i64 (v24 + 1)) h0_0 h0_1 h0_2 h0_3 h1_0z (List.drop r4.2.toNat h1_0l) false (h4l ++ [r4.1])) else none) else none) else none))) else ((zmb q h0_0 h0_1 h0_2 h0_3 h1_0z h1_0l h1_1 h4l).bind fun r5 => (if 3 < r5.2.2.2.1 then (some ((⟨h0_0, h0_1, h0_2, h0_3, ⟨false, h4l⟩, false, 0, ⟨true, []⟩⟩ : zjs), false)) else (zmt q h0_0 h0_1 h0_2 h0_3 r5.1 (decide (0 < r5.2.2.2.1)) (if (wrp .i64 (r5.2.2.2.1 - 1)) < 0 then 0 else (wrp .i64 (r5.2.2.2.1 - 1))) h1_0z r5.2.1 r5.2.2.1 r5.2.2.2.2 h4l))))
def zmv : Nat → Int → Int → Int → Int → Int → Bool → Int → Bool → (List Int) → Bool → Int → (List zjq) → Option (zjs × Bool)
 | 0, _, _, _, _, _, _, _, _, _, _, _, _ => none
 | q + 1, v8, h0_0, h0_1, h0_2, h0_3, h0_5, h0_6, h1_0z, h1_0l, h1_1, h2_0, h3l => (if v8 < h2_0 then (if h1_1 = true then ((zmn q h0_0 h0_1 h0_2 h0_3 h0_5 h0_6 h1_0z h1_0l h1_1 h2_0 h3l).bind fun r10 => ((zlw q ⟨h1_0z, r10.2.1⟩).bind fun r11 => (if r10.2.2.1 = true then (if 0 ≤ r11.2 then (if r11.2 ≤ (r10.2.1.length : Int) then (if (h3l.length + 1) ≤ 4294967296 then (zmv q (wrp .i64 (v8 + 1)) h0_0 h0_1 h0_2 h0_3 h0_5 h0_6 h1_0z (List.drop r11.2.toNat r10.2.1) (decide (0 < r11.2)) h2_0 (h3l ++ [(⟨r10.2.2.2.1, r10.2.2.2.2, r11.1⟩ : zjq)])) else none) else none) else none) else (if 0 ≤ r11.2 then (if r11.2 ≤ (r10.2.1.length : Int) then (if (h3l.length + 1) ≤ 4294967296 then (zmv q (wrp .i64 (v8 + 1)) h0_0 h0_1 h0_2 h0_3 h0_5 h0_6 h1_0z (List.drop r11.2.toNat r10.2.1) false h2_0 (h3l ++ [(⟨r10.2.2.2.1, r10.2.2.2.2, r11.1⟩ : zjq)])) else none) else none) else none)))) else (some ((⟨h0_0, h0_1, h0_2, h0_3, ⟨true, []⟩, h0_5, h0_6, ⟨false, h3l⟩⟩ : zjs), false))) else (if h1_1 = true then (some ((⟨h0_0, h0_1, h0_2, h0_3, ⟨true, []⟩, h0_5, h0_6, ⟨false, h3l⟩⟩ : zjs), (decide ((h1_0l.length : Int) = 0)))) else (some ((⟨h0_0, h0_1, h0_2, h0_3, ⟨true, []⟩, h0_5, h0_6, ⟨false, h3l⟩⟩ : zjs), false))))
def zmw : Nat → Int → Int → Int → Int → Bool → Int → Bool → (List Int) → Bool → Int → Option (zjs × Bool)
 | 0, _, _, _, _, _, _, _, _, _, _ => none
 | q + 1, h0_0, h0_1, h0_2, h0_3, h0_5, h0_6, h1_0z, h1_0l, h1_1, h2_0 => (if 0 < h2_0 then (if h1_1 = true then ((zmf q h0_0 h0_1 h0_2 h0_3 h0_5 h0_6 h1_0z h1_0l h1_1 h2_0).bind fun r6 => ((zlw q ⟨h1_0z, r6.1⟩).bind fun r7 => (if r6.2.1 = true then (if 0 ≤ r7.2 then (if r7.2 ≤ (r6.1.length : Int) then (zmv q (wrp .i64 1) h0_0 h0_1 h0_2 h0_3 h0_5 h0_6 h1_0z (List.drop r7.2.toNat r6.1) (decide (0 < r7.2)) h2_0 [(⟨r6.2.2.1, r6.2.2.2, r7.1⟩ : zjq)]) else none) else none) else (if 0 ≤ r7.2 then (if r7.2 ≤ (r6.1.length : Int) then (zmv q (wrp .i64 1) h0_0 h0_1 h0_2 h0_3 h0_5 h0_6 h1_0z (List.drop r7.2.toNat r6.1) false h2_0 [(⟨r6.2.2.1, r6.2.2.2, r7.1⟩ : zjq)]) else none) else none)))) else (some ((⟨h0_0, h0_1, h0_2, h0_3, ⟨true, []⟩, h0_5, h0_6, ⟨true, []⟩⟩ : zjs), false))) else (if h1_1 = true then (some ((⟨h0_0, h0_1, h0_2, h0_3, ⟨true, []⟩, h0_5, h0_6, ⟨true, []⟩⟩ : zjs), (decide ((h1_0l.length : Int) = 0)))) else (some ((⟨h0_0, h0_1, h0_2, h0_3, ⟨true, []⟩, h0_5, h0_6, ⟨true, []⟩⟩ : zjs), false))))
def zmx : Nat → Int → Int → Int → Int → Int → Bool → (List Int) → Bool → Option (zjs × Bool)
 | 0, _, _, _, _, _, _, _, _ => none
 | q + 1, v23, h0_0, h0_1, h0_2, h0_3, h1_0z, h1_0l, h1_1 => (if 0 < v23 then ((zlw q ⟨h1_0z, h1_0l⟩).bind fun r2 => (if h1_1 = true then (if 0 ≤ r2.2 then (if r2.2 ≤ (h1_0l.length : Int) then (zmu q v23 (wrp .i64 1) h0_0 h0_1 h0_2 h0_3 h1_0z (List.drop r2.2.toNat h1_0l) (decide (0 < r2.2)) [r2.1]) else none) else none) else (if 0 ≤ r2.2 then (if r2.2 ≤ (h1_0l.length : Int) then (zmu q v23 (wrp .i64 1) h0_0 h0_1 h0_2 h0_3 h1_0z (List.drop r2.2.toNat h1_0l) false [r2.1]) else none) else none))) else ((zl7 q h0_0 h0_1 h0_2 h0_3 h1_0z h1_0l h1_1).bind fun r3 => (if 3 < r3.2.2.1 then (some ((⟨h0_0, h0_1, h0_2, h0_3, ⟨true, []⟩, false, 0, ⟨true, []⟩⟩ : zjs), false)) else (zmw q h0_0 h0_1 h0_2 h0_3 (decide (0 < r3.2.2.1)) (if (wrp .i64 (r3.2.2.1 - 1)) < 0 then 0 else (wrp .i64 (r3.2.2.1 - 1))) h1_0z r3.1 r3.2.1 r3.2.2.2))))
def zmy : Nat → (Sl Int) → Option (zjs × Bool)
 | 0, _ => none
 | q + 1, a0 => ((zl3 q a0.z a0.l).bind fun r1 => (if 128 < r1.2.2.2.2.2.2 then (some ((⟨r1.1, r1.2.1, r1.2.2.1, r1.2.2.2.1, ⟨true, []⟩, false, 0, ⟨true, []⟩⟩ : zjs), false)) else (zmx q r1.2.2.2.2.2.2 r1.1 r1.2.1 r1.2.2.1 r1.2.2.2.1 a0.z r1.2.2.2.2.1 r1.2.2.2.2.2.1)))
def zmz : Nat → Int → Option (Bool)
 | 0, _ => none
 | q + 1, a0 => (if a0 < 0 then (some true) else (some (decide (4611686018427387904 ≤ a0))))
def zm0 : Nat → Bool → (List Int) → Int → Int → Option (Int)
 | 0, _, _, _, _ => none
 | q + 1, v0z, v0l, v7, v8 => (if v8 < v7 then (if 0 ≤ v8 then ((v0l[v8.toNat]?).bind fun e1 => ((zmz q e1).bind fun r2 => (if r2 = true then (some v8) else (zm0 q v0z v0l v7 (wrp .i64 (v8 + 1)))))) else none) else (some (-1)))
def zm1 : Nat → Bool → (List Int) → Option (Int)
 | 0, _, _ => none
 | q + 1, v0z, v0l => (zm0 q v0z v0l (v0l.length : Int) 0)
def zm2 : Nat → (Sl Int) → Option (Bool)
 | 0, _ => none
 | q + 1, a0 => ((zm1 q a0.z a0.l).bind fun r1 => (some (!(decide (0 ≤ r1)))))
def zm3 : Nat → Int → Option (Bool)
 | 0, _ => none
 | q + 1, a0 => (if a0 < (-1099511627776) then (some true) else (some (decide (1099511627776 < a0))))
def zm4 : Nat → Bool → (List zjq) → Bool → (List zjq) → Int → Int → Option (Bool)
 | 0, _, _, _, _, _, _ => none
 | q + 1, v0z, v0l, v5z, v5l, v6, v7 => (if v7 < v6 then (if 0 ≤ v7 then ((v5l[v7.toNat]?).bind fun e1 => ((zm2 q ⟨false, [e1.Proc, e1.Seq]⟩).bind fun r2 => (if r2 = true then (if 64 < e1.Proc then (some false) else (if e1.Resp < (-1125899906842624) then (some false) else (if 1125899906842624 < e1.Resp then (some false) else (if 0 < v7 then (if 0 ≤ (wrp .i64 (v7 - 1)) then ((v0l[(wrp .i64 (v7 - 1)).toNat]?).bind fun e3 => (if e1.Proc ≤ e3.Proc then (some false) else (zm4 q v0z v0l v5z v5l v6 (wrp .i64 (v7 + 1))))) else none) else (zm4 q v0z v0l v5z v5l v6 (wrp .i64 (v7 + 1))))))) else (some false)))) else none) else (some true))
def zm5 : Nat → (Sl zjq) → Option (Bool)
 | 0, _ => none
 | q + 1, a0 => (zm4 q a0.z a0.l a0.z a0.l (a0.l.length : Int) 0)
def zm6 : Nat → Bool → (List Int) → Int → Int → Int → Int → Int → Int → Bool → (List Int) → Bool → Int → Bool → (List zjq) → (List Int) → Option (Int)
 | 0, _, _, _, _, _, _, _, _, _, _, _, _, _, _, _ => none
 | q + 1, v0z, v0l, v7, v8, h0_0, h0_1, h0_2, h0_3, h0_4z, h0_4l, h0_5, h0_6, h0_7z, h0_7l, h1l => (if v8 < v7 then (if 0 ≤ v8 then ((v0l[v8.toNat]?).bind fun e1 => ((zm3 q e1).bind fun r2 => (if r2 = true then (some v8) else (zm6 q v0z v0l v7 (wrp .i64 (v8 + 1)) h0_0 h0_1 h0_2 h0_3 h0_4z h0_4l h0_5 h0_6 h0_7z h0_7l h1l)))) else none) else (some (-1)))
def zm7 : Nat → Bool → (List Int) → Int → Int → Int → Int → Bool → (List Int) → Bool → Int → Bool → (List zjq) → (List Int) → Option (Int)
 | 0, _, _, _, _, _, _, _, _, _, _, _, _, _ => none
 | q + 1, v0z, v0l, h0_0, h0_1, h0_2, h0_3, h0_4z, h0_4l, h0_5, h0_6, h0_7z, h0_7l, h1l => (zm6 q v0z v0l (v0l.length : Int) 0 h0_0 h0_1 h0_2 h0_3 h0_4z h0_4l h0_5 h0_6 h0_7z h0_7l h1l)
def zm8 : Nat → zjs → Option (Bool)
 | 0, _ => none
 | q + 1, a0 => ((zm2 q ⟨false, [a0.From, a0.To, a0.Ahead, a0.Behind]⟩).bind fun r1 => (if r1 = true then (if (a0.Mid.l.length : Int) ≤ 128 then ((zm7 q a0.Mid.z a0.Mid.l a0.From a0.To a0.Ahead a0.Behind a0.Mid.z a0.Mid.l a0.Sealed a0.Engine a0.Table.z a0.Table.l [a0.From, a0.To, a0.Ahead, a0.Behind]).bind fun r2 => (if 0 ≤ r2 then (some false) else (if 0 ≤ a0.Engine then (if a0.Engine < 3 then (if a0.Sealed = true then ((zm5 q a0.Table).bind fun r3 => (some r3)) else (if a0.Engine = 0 then ((zm5 q a0.Table).bind fun r4 => (some r4)) else (some false))) else (some false)) else (some false)))) else (some false)) else (some false)))
def zm9 : Nat → (Sl Int) → Option (zjs × Int)
 | 0, _ => none
 | q + 1, a0 => ((zlu q a0).bind fun r1 => (if r1.2.2 = 0 then (if r1.2.1 = (a0.l.length : Int) then ((zmy q ⟨r1.1.n, r1.1.xs⟩).bind fun r2 => (if r2.2 = true then ((zm8 q r2.1).bind fun r3 => (if r3 = true then (some (r2.1, 0)) else (some ((⟨0, 0, 0, 0, ⟨true, []⟩, false, 0, ⟨true, []⟩⟩ : zjs), 1)))) else (some ((⟨0, 0, 0, 0, ⟨true, []⟩, false, 0, ⟨true, []⟩⟩ : zjs), 3)))) else (some ((⟨0, 0, 0, 0, ⟨true, []⟩, false, 0, ⟨true, []⟩⟩ : zjs), 16))) else (some ((⟨0, 0, 0, 0, ⟨true, []⟩, false, 0, ⟨true, []⟩⟩ : zjs), r1.2.2))))
def zna : Nat → Int → Bool → (List Int) → Bool → Option ((Ow Int))
 | 0, _, _, _, _ => none
 | q + 1, v1, h0z, h0l, h0x => (if 128 ≤ v1 then (if (h0l.length + 1) ≤ 4294967296 then (zna q (ishr .u64 v1 7) false (h0l ++ [(ibits .or .u8 (wrp .u8 v1) 128)]) h0x) else none) else (if (h0l.length + 1) ≤ 4294967296 then (some ⟨false, h0x, (h0l ++ [(wrp .u8 v1)])⟩) else none))
def znb : Nat → (Ow Int) → Int → Option ((Ow Int))
 | 0, _, _ => none
 | q + 1, a0, a1 => (zna q a1 a0.n a0.xs a0.x)
def znc : Nat → (Ow Int) → Int → Option ((Ow Int))
 | 0, _, _ => none
 | q + 1, a0, a1 => (if a1 < 0 then (some a0) else (if 4611686018427387904 ≤ a1 then (some a0) else ((znb q a0 (wrp .u64 a1)).bind fun r1 => (some r1))))
def znd : Nat → Bool → (List Int) → Int → Int → Bool → (List Int) → Bool → Option ((Ow Int))
 | 0, _, _, _, _, _, _, _ => none
 | q + 1, v7z, v7l, v8, v9, h1z, h1l, h1x => (if v9 < v8 then (if 0 ≤ v9 then ((v7l[v9.toNat]?).bind fun e3 => ((znc q ⟨h1z, h1x, h1l⟩ e3).bind fun r4 => (znd q v7z v7l v8 (wrp .i64 (v9 + 1)) r4.n r4.xs r4.x))) else none) else (some ⟨h1z, h1x, h1l⟩))
def zne : Nat → Bool → (List Int) → Int → Bool → (List Int) → Bool → Option ((Ow Int))
 | 0, _, _, _, _, _, _ => none
 | q + 1, v7z, v7l, v8, h0z, h0l, h0x => (if 0 < v8 then ((v7l[0]?).bind fun e1 => ((znc q ⟨h0z, h0x, h0l⟩ e1).bind fun r2 => (znd q v7z v7l v8 (wrp .i64 1) r2.n r2.xs r2.x))) else (some ⟨h0z, h0x, h0l⟩))
def znf : Nat → (Ow Int) → (Sl Int) → Option ((Ow Int))
 | 0, _, _ => none
 | q + 1, a0, a1 => (zne q a1.z a1.l (a1.l.length : Int) a0.n a0.xs a0.x)
def zng : Nat → Int → Option (Int)
 | 0, _ => none
 | q + 1, a0 => (some (ibits .xor .u64 (ishl .u64 (wrp .u64 a0) 1) (wrp .u64 (ishr .i64 a0 63))))
def znh : Nat → (Ow Int) → Int → Option ((Ow Int))
 | 0, _, _ => none
 | q + 1, a0, a1 => ((zng q a1).bind fun r1 => ((znb q a0 r1).bind fun r2 => (some r2)))
def zni : Nat → Nat → Bool → (List (Sl Int)) → Int → Int → Bool → (List Int) → Option ((Ow Int))
 | 0, _, _, _, _, _, _, _ => none
 | q + 1, v6len, v25z, v25l, v26, v27, h0z, h0l => (if v27 < v26 then (if 0 ≤ v27 then ((v25l[v27.toNat]?).bind fun e2 => (if (v6len + e2.l.length) ≤ h0l.length then (zni q (v6len + e2.l.length) v25z v25l v26 (wrp .i64 (v27 + 1)) h0z (((List.take v6len h0l) ++ e2.l) ++ (List.drop (v6len + e2.l.length) h0l))) else none)) else none) else (some ⟨h0z, true, (List.take v6len h0l)⟩))
def znj : Nat → Bool → (List (Sl Int)) → Int → Int → Bool → (List Int) → Option ((Ow Int))
 | 0, _, _, _, _, _, _ => none
 | q + 1, v25z, v25l, v26, v27, h0z, h0l => (if v27 < v26 then (if 0 ≤ v27 then ((v25l[v27.toNat]?).bind fun e4 => (if (h0l.length + e4.l.length) ≤ 4294967296 then (znj q v25z v25l v26 (wrp .i64 (v27 + 1)) (h0z && (decide (e4.l.length = 0))) (h0l ++ e4.l)) else none)) else none) else (some ⟨h0z, true, h0l⟩))
def znk : Nat → Bool → (List (Sl Int)) → Int → Option ((Ow Int))
 | 0, _, _, _ => none
 | q + 1, v25z, v25l, v26 => (if 0 < v26 then ((v25l[0]?).bind fun e3 => (if e3.l.length ≤ 4294967296 then (znj q v25z v25l v26 (wrp .i64 1) (decide (e3.l.length = 0)) e3.l) else none)) else (some ⟨true, true, []⟩))
def znl : Nat → Bool → (List (Sl Int)) → Int → Bool → (List (Sl Int)) → Int → Int → Option ((Ow Int))
 | 0, _, _, _, _, _, _, _ => none
 | q + 1, v0z, v0l, v3, v9z, v9l, v10, v11 => (if v11 < v10 then (if 0 ≤ v11 then ((v9l[v11.toNat]?).bind fun e1 => (if (wrp .i64 (v3 + (e1.l.length : Int))) < 0 then none else (znl q v0z v0l (wrp .i64 (v3 + (e1.l.length : Int))) v9z v9l v10 (wrp .i64 (v11 + 1))))) else none) else (if v3 < 0 then none else (if 0 < (wrp .i64 (v3 - (wrp .i64 0))) then (if 0 ≤ (wrp .i64 (v3 - (wrp .i64 0))) then (if (wrp .i64 (v3 - (wrp .i64 0))).toNat ≤ 4294967296 then (if (wrp .i64 (v3 - (wrp .i64 0))) = 0 then none else (zni q 0 v0z v0l (v0l.length : Int) 0 (decide ((wrp .i64 (v3 - (wrp .i64 0))) = 0)) (List.replicate ((wrp .i64 (v3 - (wrp .i64 0))).toNat) 0))) else none) else none) else (znk q v0z v0l (v0l.length : Int)))))
def znm : Nat → (Sl (Sl Int)) → Option ((Ow Int))
 | 0, _ => none
 | q + 1, a0 => (znl q a0.z a0.l 0 a0.z a0.l (a0.l.length : Int) 0)
def znn : Nat → (Sl Int) → Option ((Ow Int) × Int)
 | 0, _ => none
 | q + 1, a0 => (if 1048576 < (a0.l.length : Int) then (some (⟨true, true, []⟩, 5)) else ((znc q ⟨true, true, []⟩ (a0.l.length : Int)).bind fun r1 => ((zlq q ⟨r1.n, r1.xs⟩ a0).bind fun r2 => ((znm q ⟨false, [⟨r1.n, r1.xs⟩, a0, ⟨r2.n, r2.xs⟩]⟩).bind fun r3 => (some (r3, 0))))))
def zno : Nat → Bool → (List zjq) → Int → Int → Bool → (List Int) → Bool → Option ((Ow Int) × Int)
 | 0, _, _, _, _, _, _, _ => none
 | q + 1, v50z, v50l, v51, v52, h0z, h0l, h0x => (if v52 < v51 then (if 0 ≤ v52 then ((v50l[v52.toNat]?).bind fun e7 => ((znf q ⟨h0z, h0x, h0l⟩ ⟨false, [e7.Proc, e7.Seq]⟩).bind fun r8 => ((znh q r8 e7.Resp).bind fun r9 => (zno q v50z v50l v51 (wrp .i64 (v52 + 1)) r9.n r9.xs r9.x)))) else none) else ((znn q ⟨h0z, h0l⟩).bind fun r10 => (some (r10.1, r10.2))))
def znp : Nat → Bool → (List Int) → Int → Int → Int → Int → Int → Int → Bool → (List Int) → Bool → Int → Bool → (List zjq) → Bool → (List Int) → Bool → Option ((Ow Int) × Int)
 | 0, _, _, _, _, _, _, _, _, _, _, _, _, _, _, _, _, _ => none
 | q + 1, v27z, v27l, v28, v29, h0_0, h0_1, h0_2, h0_3, h0_4z, h0_4l, h0_5, h0_6, h0_7z, h0_7l, h1z, h1l, h1x => (if v29 < v28 then (if 0 ≤ v29 then ((v27l[v29.toNat]?).bind fun e3 => ((znh q ⟨h1z, h1x, h1l⟩ e3).bind fun r4 => (znp q v27z v27l v28 (wrp .i64 (v29 + 1)) h0_0 h0_1 h0_2 h0_3 h0_4z h0_4l h0_5 h0_6 h0_7z h0_7l r4.n r4.xs r4.x))) else none) else (if h0_5 = true then ((znf q ⟨h1z, h1x, h1l⟩ ⟨false, [(wrp .i64 (1 + h0_6)), (h0_7l.length : Int)]⟩).bind fun r5 => (zno q h0_7z h0_7l (h0_7l.length : Int) 0 r5.n r5.xs r5.x)) else ((znf q ⟨h1z, h1x, h1l⟩ ⟨false, [0, (h0_7l.length : Int)]⟩).bind fun r6 => (zno q h0_7z h0_7l (h0_7l.length : Int) 0 r6.n r6.xs r6.x))))
def znq : Nat → zjs → Option ((Ow Int) × Int)
 | 0, _ => none
 | q + 1, a0 => ((zm8 q a0).bind fun r1 => (if r1 = true then ((znf q ⟨true, true, []⟩ ⟨false, [a0.From, a0.To, a0.Ahead, a0.Behind, (a0.Mid.l.length : Int)]⟩).bind fun r2 => (znp q a0.Mid.z a0.Mid.l (a0.Mid.l.length : Int) 0 a0.From a0.To a0.Ahead a0.Behind a0.Mid.z a0.Mid.l a0.Sealed a0.Engine a0.Table.z a0.Table.l r2.n r2.xs r2.x)) else (some (⟨true, true, []⟩, 1))))
def znr : Nat → zjs → zjs → Option (Bool)
 | 0, _, _ => none
 | q + 1, a0, a1 => (if a0.From = a1.From then (if a0.To = a1.To then (if a0.Ahead = a1.Ahead then (if a0.Behind = a1.Behind then ((zk2 q a0.Mid a1.Mid).bind fun r1 => (if r1 = true then (if (a0.Sealed == a1.Sealed) = true then (if a0.Engine = a1.Engine then ((zk5 q a0.Table a1.Table).bind fun r2 => (some r2)) else (some false)) else (some false)) else (some false))) else (some false)) else (some false)) else (some false)) else (some false))
def zns : Nat → zjr → zjr → Option (Bool)
 | 0, _, _ => none
 | q + 1, a0, a1 => ((zk7 q).bind fun r1 => ((zk9 q a0).bind fun r2 => ((zk9 q a1).bind fun r3 => (if r1 = true then (if r2 = true then (if r3 = true then ((zkj q a0 a1).bind fun r4 => (if r4.2 = 0 then ((znq q r4.1).bind fun r5 => ((zm9 q ⟨r5.1.n, r5.1.xs⟩).bind fun r6 => ((zk0 q a0 r6.1).bind fun r7 => (if r5.2 = 0 then (if r6.2 = 0 then (if r7.2 = 0 then ((znr q r4.1 r6.1).bind fun r8 => (if r8 = true then ((zk6 q r7.1 a1).bind fun r9 => (some r9)) else (some false))) else (some false)) else (some false)) else (some false))))) else (some true))) else (some r1)) else (some r1)) else (some r1)))))
end Go.Dvm.I
