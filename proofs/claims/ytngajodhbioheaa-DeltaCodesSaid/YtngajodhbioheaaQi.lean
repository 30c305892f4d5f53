/- The functions of the law, as they answer, over typed data. -/
import Derived.Test.YtngajodhbioheaaQv2
set_option linter.all false
set_option maxRecDepth 100000
set_option maxHeartbeats 4000000
namespace Go.Dvm.I
open Go Go.Dvm
structure zjp where
 Kind : Int
 L : (Sl Int)
 Sealed : Bool
 To : Int
def zjp.enc (r : zjp) : V := .agg [V.int .i64 r.Kind, (Sl.enc (V.int .i64)) r.L, V.bool r.Sealed, V.int .i64 r.To]
structure zjq where
 Proc : Int
 Seq : Int
 Resp : Int
def zjq.enc (r : zjq) : V := .agg [V.int .i64 r.Proc, V.int .i64 r.Seq, V.int .i64 r.Resp]
structure zjr where
 Index : Int
 State : zjp
 Table : (Sl zjq)
def zjr.enc (r : zjr) : V := .agg [V.int .i64 r.Index, V.int .i64 r.State.Kind, (Sl.enc (V.int .i64)) r.State.L, V.bool r.State.Sealed, V.int .i64 r.State.To, (Sl.enc zjq.enc) r.Table]
structure zjs where
 From : Int
 To : Int
 Ahead : Int
 Behind : Int
 Mid : (Sl Int)
 Sealed : Bool
 Engine : Int
 Table : (Sl zjq)
def zjs.enc (r : zjs) : V := .agg [V.int .i64 r.From, V.int .i64 r.To, V.int .i64 r.Ahead, V.int .i64 r.Behind, (Sl.enc (V.int .i64)) r.Mid, V.bool r.Sealed, V.int .i64 r.Engine, (Sl.enc zjq.enc) r.Table]
structure zjt where
 Code : Int
 A : Int
 B : Int
def zjt.enc (r : zjt) : V := .agg [V.int .i64 r.Code, V.int .i64 r.A, V.int .i64 r.B]
structure zju where
 Index : Int
 Proc : Int
 Seq : Int
 Op : zjt
 Resp : Int
def zju.enc (r : zju) : V := .agg [V.int .i64 r.Index, V.int .i64 r.Proc, V.int .i64 r.Seq, V.int .i64 r.Op.Code, V.int .i64 r.Op.A, V.int .i64 r.Op.B, V.int .i64 r.Resp]
structure zjv where
 index : Int
 size : Int
 sum : Int
def zjv.enc (r : zjv) : V := .agg [V.int .i64 r.index, V.int .i64 r.size, V.int .u64 r.sum]
def okSl {α : Type} (ok : α → Prop) (s : Sl α) : Prop := (s.z = true → s.l = []) ∧ s.l.length ≤ maxLen ∧ ∀ a ∈ s.l, ok a
def zjp.ok (r : zjp) : Prop := inR .i64 r.Kind ∧ okSl (fun x => inR .i64 x) r.L ∧ True ∧ inR .i64 r.To
def zjq.ok (r : zjq) : Prop := inR .i64 r.Proc ∧ inR .i64 r.Seq ∧ inR .i64 r.Resp
def zjr.ok (r : zjr) : Prop := inR .i64 r.Index ∧ zjp.ok r.State ∧ okSl (fun x => zjq.ok x) r.Table
def zjs.ok (r : zjs) : Prop := inR .i64 r.From ∧ inR .i64 r.To ∧ inR .i64 r.Ahead ∧ inR .i64 r.Behind ∧ okSl (fun x => inR .i64 x) r.Mid ∧ True ∧ inR .i64 r.Engine ∧ okSl (fun x => zjq.ok x) r.Table
def zjt.ok (r : zjt) : Prop := inR .i64 r.Code ∧ inR .i64 r.A ∧ inR .i64 r.B
def zju.ok (r : zju) : Prop := inR .i64 r.Index ∧ inR .i64 r.Proc ∧ inR .i64 r.Seq ∧ zjt.ok r.Op ∧ inR .i64 r.Resp
def zjv.ok (r : zjv) : Prop := inR .i64 r.index ∧ inR .i64 r.size ∧ inR .u64 r.sum
def zjw : Nat → Int → Option (Int)
 | 0, _ => none
 | q + 1, a0 => (some (if (-1099511627776) < (if 1099511627776 < a0 then 1099511627776 else a0) then (if 1099511627776 < a0 then 1099511627776 else a0) else (-1099511627776)))
def zjx : Nat → Int → Option (Bool)
 | 0, _ => none
 | q + 1, a0 => ((zjw q a0).bind fun r1 => (some (!(decide (a0 = r1)))))
def zjy : Nat → Bool → (List Int) → Int → Int → Int → Option (Bool)
 | 0, _, _, _, _, _ => none
 | q + 1, v0z, v0l, v1, v5, v6 => (if (wrp .i64 (v6 + 1)) < (v0l.length : Int) then (if 0 ≤ v6 then ((v0l[v6.toNat]?).bind fun e1 => (if e1 ≤ v5 then (some false) else (if 255 < e1 then (some false) else (if 0 ≤ (wrp .i64 (v6 + 1)) then ((v0l[(wrp .i64 (v6 + 1)).toNat]?).bind fun e2 => (if e2 < v1 then (some false) else (if 1099511627776 < e2 then (some false) else (zjy q v0z v0l v1 e1 (wrp .i64 (v6 + 2)))))) else none)))) else none) else (if (Int.tmod (v0l.length : Int) 2) = 0 then (some (decide ((v0l.length : Int) ≤ 128))) else (some false)))
def zjz : Nat → (Sl Int) → Int → Option (Bool)
 | 0, _, _ => none
 | q + 1, a0, a1 => (zjy q a0.z a0.l a1 (-1) 0)
def zj0 : Nat → Bool → (List Int) → Int → Int → Int → Bool → (List Int) → Bool → Int → Option (Int)
 | 0, _, _, _, _, _, _, _, _, _ => none
 | q + 1, v0z, v0l, v7, v8, h0_0, h0_1z, h0_1l, h0_2, h0_3 => (if v8 < v7 then (if 0 ≤ v8 then ((v0l[v8.toNat]?).bind fun e1 => ((zjx q e1).bind fun r2 => (if r2 = true then (some v8) else (zj0 q v0z v0l v7 (wrp .i64 (v8 + 1)) h0_0 h0_1z h0_1l h0_2 h0_3)))) else none) else (some (-1)))
def zj1 : Nat → Bool → (List Int) → Int → Bool → (List Int) → Bool → Int → Option (Int)
 | 0, _, _, _, _, _, _, _ => none
 | q + 1, v0z, v0l, h0_0, h0_1z, h0_1l, h0_2, h0_3 => (zj0 q v0z v0l (v0l.length : Int) 0 h0_0 h0_1z h0_1l h0_2 h0_3)
def zj2 : Nat → zjp → Option (Bool)
 | 0, _ => none
 | q + 1, a0 => (if a0.To < 0 then (some false) else (if 3 ≤ a0.To then (some false) else (if a0.Sealed = true then ((zj1 q a0.L.z a0.L.l a0.Kind a0.L.z a0.L.l a0.Sealed a0.To).bind fun r1 => (if a0.Kind = 0 then (if (a0.L.l.length : Int) = 1 then (some (!(decide (0 ≤ r1)))) else (some false)) else (if a0.Kind = 1 then (if (a0.L.l.length : Int) = 1 then (some (!(decide (0 ≤ r1)))) else (some false)) else (if a0.Kind = 2 then (if (a0.L.l.length : Int) ≤ 64 then (some (!(decide (0 ≤ r1)))) else (some false)) else (if a0.Kind = 3 then (if (a0.L.l.length : Int) ≤ 64 then (some (!(decide (0 ≤ r1)))) else (some false)) else (if a0.Kind = 4 then ((zjz q a0.L (-1099511627776)).bind fun r2 => (some r2)) else (if a0.Kind = 5 then ((zjz q a0.L 0).bind fun r3 => (some r3)) else (some false)))))))) else (if a0.To = 0 then ((zj1 q a0.L.z a0.L.l a0.Kind a0.L.z a0.L.l a0.Sealed a0.To).bind fun r4 => (if a0.Kind = 0 then (if (a0.L.l.length : Int) = 1 then (some (!(decide (0 ≤ r4)))) else (some false)) else (if a0.Kind = 1 then (if (a0.L.l.length : Int) = 1 then (some (!(decide (0 ≤ r4)))) else (some false)) else (if a0.Kind = 2 then (if (a0.L.l.length : Int) ≤ 64 then (some (!(decide (0 ≤ r4)))) else (some false)) else (if a0.Kind = 3 then (if (a0.L.l.length : Int) ≤ 64 then (some (!(decide (0 ≤ r4)))) else (some false)) else (if a0.Kind = 4 then ((zjz q a0.L (-1099511627776)).bind fun r5 => (some r5)) else (if a0.Kind = 5 then ((zjz q a0.L 0).bind fun r6 => (some r6)) else (some false)))))))) else (some false)))))
def zj3 : Nat → zjq → Option (Bool)
 | 0, _ => none
 | q + 1, a0 => (if 0 ≤ a0.Proc then (if a0.Proc ≤ 64 then (if 0 ≤ a0.Seq then (if a0.Seq < 4611686018427387904 then (if (-1125899906842624) ≤ a0.Resp then (some (decide (a0.Resp ≤ 1125899906842624))) else (some false)) else (some false)) else (some false)) else (some false)) else (some false))
def zj4 : Nat → Bool → (List zjq) → Bool → (List zjq) → Int → Int → Option (Bool)
 | 0, _, _, _, _, _, _ => none
 | q + 1, v0z, v0l, v5z, v5l, v6, v7 => (if v7 < v6 then (if 0 ≤ v7 then ((v5l[v7.toNat]?).bind fun e1 => ((zj3 q e1).bind fun r2 => (if r2 = true then (if 0 < v7 then (if 0 ≤ (wrp .i64 (v7 - 1)) then ((v0l[(wrp .i64 (v7 - 1)).toNat]?).bind fun e3 => (if e1.Proc ≤ e3.Proc then (some false) else (zj4 q v0z v0l v5z v5l v6 (wrp .i64 (v7 + 1))))) else none) else (zj4 q v0z v0l v5z v5l v6 (wrp .i64 (v7 + 1)))) else (some false)))) else none) else (some true))
def zj5 : Nat → (Sl zjq) → Option (Bool)
 | 0, _ => none
 | q + 1, a0 => (zj4 q a0.z a0.l a0.z a0.l (a0.l.length : Int) 0)
def zj6 : Nat → zjr → Option (Bool)
 | 0, _ => none
 | q + 1, a0 => (if 0 ≤ a0.Index then (if a0.Index < 4611686018427387904 then ((zj2 q a0.State).bind fun r1 => (if r1 = true then ((zj5 q a0.Table).bind fun r2 => (some r2)) else (some false))) else (some false)) else (some false))
def zj7 : Nat → Bool → (List zjq) → Int → Int → Int → Option (Int)
 | 0, _, _, _, _, _ => none
 | q + 1, v0z, v0l, v7, v8, h0_0 => (if v8 < v7 then (if 0 ≤ v8 then ((v0l[v8.toNat]?).bind fun e1 => (if e1.Proc = h0_0 then (some v8) else (zj7 q v0z v0l v7 (wrp .i64 (v8 + 1)) h0_0))) else none) else (some (-1)))
def zj8 : Nat → Bool → (List zjq) → Int → Option (Int)
 | 0, _, _, _ => none
 | q + 1, v0z, v0l, h0_0 => (zj7 q v0z v0l (v0l.length : Int) 0 h0_0)
def zj9 : Nat → (Sl zjq) → Int → Option (Int)
 | 0, _, _ => none
 | q + 1, a0, a1 => ((zj8 q a0.z a0.l a1).bind fun r1 => (some r1))
def zka : Nat → Bool → (List Int) → Bool → (List Int) → Int → Option (Int)
 | 0, _, _, _, _, _ => none
 | q + 1, v0z, v0l, v1z, v1l, v5 => (if v5 < (v0l.length : Int) then (if v5 < (v1l.length : Int) then (if 0 ≤ v5 then ((v0l[v5.toNat]?).bind fun e1 => ((v1l[v5.toNat]?).bind fun e2 => (if e1 = e2 then (zka q v0z v0l v1z v1l (wrp .i64 (v5 + 1))) else (some v5)))) else none) else (some v5)) else (some v5))
def zkb : Nat → (Sl Int) → (Sl Int) → Option (Int)
 | 0, _, _ => none
 | q + 1, a0, a1 => (zka q a0.z a0.l a1.z a1.l 0)
def zkc : Nat → Bool → (List Int) → Bool → (List Int) → Int → Option (Int)
 | 0, _, _, _, _, _ => none
 | q + 1, v0z, v0l, v1z, v1l, v5 => (if v5 < (v0l.length : Int) then (if v5 < (v1l.length : Int) then (if 0 ≤ (wrp .i64 ((wrp .i64 ((v0l.length : Int) - 1)) - v5)) then ((v0l[(wrp .i64 ((wrp .i64 ((v0l.length : Int) - 1)) - v5)).toNat]?).bind fun e1 => (if 0 ≤ (wrp .i64 ((wrp .i64 ((v1l.length : Int) - 1)) - v5)) then ((v1l[(wrp .i64 ((wrp .i64 ((v1l.length : Int) - 1)) - v5)).toNat]?).bind fun e2 => (if e1 = e2 then (zkc q v0z v0l v1z v1l (wrp .i64 (v5 + 1))) else (some v5))) else none)) else none) else (some v5)) else (some v5))
def zkd : Nat → (Sl Int) → (Sl Int) → Option (Int)
 | 0, _, _ => none
 | q + 1, a0, a1 => (zkc q a0.z a0.l a1.z a1.l 0)
def zke : Nat → (Sl Int) → Option ((Ow Int))
 | 0, _ => none
 | q + 1, a0 => (if a0.z = true then (some ⟨true, true, []⟩) else (if a0.l.length ≤ 4294967296 then (some ⟨false, true, a0.l⟩) else none))
def zkf : Nat → Bool → (List zjq) → Int → Int → Int → Int → Bool → (List Int) → Bool → Int → Bool → (List zjq) → Int → Int → Bool → (List Int) → Bool → Int → Bool → (List zjq) → Option (Int)
 | 0, _, _, _, _, _, _, _, _, _, _, _, _, _, _, _, _, _, _, _, _ => none
 | q + 1, v0z, v0l, v7, v8, h0_0, h0_1, h0_2z, h0_2l, h0_3, h0_4, h0_5z, h0_5l, h1_0, h1_1, h1_2z, h1_2l, h1_3, h1_4, h1_5z, h1_5l => (if v8 < v7 then (if 0 ≤ v8 then ((v0l[v8.toNat]?).bind fun e1 => ((zj9 q ⟨h1_5z, h1_5l⟩ e1.Proc).bind fun r2 => (if r2 < 0 then (some v8) else (zkf q v0z v0l v7 (wrp .i64 (v8 + 1)) h0_0 h0_1 h0_2z h0_2l h0_3 h0_4 h0_5z h0_5l h1_0 h1_1 h1_2z h1_2l h1_3 h1_4 h1_5z h1_5l)))) else none) else (some (-1)))
def zkg : Nat → Bool → (List zjq) → Int → Int → Bool → (List Int) → Bool → Int → Bool → (List zjq) → Int → Int → Bool → (List Int) → Bool → Int → Bool → (List zjq) → Option (Int)
 | 0, _, _, _, _, _, _, _, _, _, _, _, _, _, _, _, _, _, _ => none
 | q + 1, v0z, v0l, h0_0, h0_1, h0_2z, h0_2l, h0_3, h0_4, h0_5z, h0_5l, h1_0, h1_1, h1_2z, h1_2l, h1_3, h1_4, h1_5z, h1_5l => (zkf q v0z v0l (v0l.length : Int) 0 h0_0 h0_1 h0_2z h0_2l h0_3 h0_4 h0_5z h0_5l h1_0 h1_1 h1_2z h1_2l h1_3 h1_4 h1_5z h1_5l)
def zkh : Nat → Bool → (List zjq) → Int → Int → Int → Int → Bool → (List Int) → Bool → Int → Bool → (List zjq) → Int → Int → Int → Int → Bool → Int → Bool → (List Int) → Bool → (List zjq) → Option (zjs × Int)
 | 0, _, _, _, _, _, _, _, _, _, _, _, _, _, _, _, _, _, _, _, _, _, _ => none
 | q + 1, v89z, v89l, v90, v91, h0_0, h0_1, h0_2z, h0_2l, h0_3, h0_4, h0_5z, h0_5l, h2_0, h2_1, h2_2, h2_3, h2_5, h2_6, h3z, h3l, h3x, h4l => (if v91 < v90 then (if 0 ≤ v91 then ((v89l[v91.toNat]?).bind fun e10 => ((zj9 q ⟨h0_5z, h0_5l⟩ e10.Proc).bind fun r11 => (if r11 < 0 then (if (h4l.length + 1) ≤ 4294967296 then (zkh q v89z v89l v90 (wrp .i64 (v91 + 1)) h0_0 h0_1 h0_2z h0_2l h0_3 h0_4 h0_5z h0_5l h2_0 h2_1 h2_2 h2_3 h2_5 h2_6 h3z h3l h3x (h4l ++ [e10])) else none) else (if 0 ≤ r11 then ((h0_5l[r11.toNat]?).bind fun e12 => (if e12.Proc = e10.Proc then (if e12.Seq = e10.Seq then (if e12.Resp = e10.Resp then (zkh q v89z v89l v90 (wrp .i64 (v91 + 1)) h0_0 h0_1 h0_2z h0_2l h0_3 h0_4 h0_5z h0_5l h2_0 h2_1 h2_2 h2_3 h2_5 h2_6 h3z h3l h3x h4l) else (if (h4l.length + 1) ≤ 4294967296 then (zkh q v89z v89l v90 (wrp .i64 (v91 + 1)) h0_0 h0_1 h0_2z h0_2l h0_3 h0_4 h0_5z h0_5l h2_0 h2_1 h2_2 h2_3 h2_5 h2_6 h3z h3l h3x (h4l ++ [e10])) else none)) else (if (h4l.length + 1) ≤ 4294967296 then (zkh q v89z v89l v90 (wrp .i64 (v91 + 1)) h0_0 h0_1 h0_2z h0_2l h0_3 h0_4 h0_5z h0_5l h2_0 h2_1 h2_2 h2_3 h2_5 h2_6 h3z h3l h3x (h4l ++ [e10])) else none)) else (if (h4l.length + 1) ≤ 4294967296 then (zkh q v89z v89l v90 (wrp .i64 (v91 + 1)) h0_0 h0_1 h0_2z h0_2l h0_3 h0_4 h0_5z h0_5l h2_0 h2_1 h2_2 h2_3 h2_5 h2_6 h3z h3l h3x (h4l ++ [e10])) else none))) else none)))) else none) else (some ((⟨h2_0, h2_1, h2_2, h2_3, ⟨h3z, h3l⟩, h2_5, h2_6, ⟨false, h4l⟩⟩ : zjs), 0)))
def zki : Nat → Bool → (List zjq) → Int → Int → Int → Int → Bool → (List Int) → Bool → Int → Bool → (List zjq) → Int → Int → Int → Int → Bool → Int → Bool → (List Int) → Bool → Option (zjs × Int)
 | 0, _, _, _, _, _, _, _, _, _, _, _, _, _, _, _, _, _, _, _, _, _ => none
 | q + 1, v89z, v89l, v90, v91, h0_0, h0_1, h0_2z, h0_2l, h0_3, h0_4, h0_5z, h0_5l, h2_0, h2_1, h2_2, h2_3, h2_5, h2_6, h3z, h3l, h3x => (if v91 < v90 then (if 0 ≤ v91 then ((v89l[v91.toNat]?).bind fun e7 => ((zj9 q ⟨h0_5z, h0_5l⟩ e7.Proc).bind fun r8 => (if r8 < 0 then (zkh q v89z v89l v90 (wrp .i64 (v91 + 1)) h0_0 h0_1 h0_2z h0_2l h0_3 h0_4 h0_5z h0_5l h2_0 h2_1 h2_2 h2_3 h2_5 h2_6 h3z h3l h3x [e7]) else (if 0 ≤ r8 then ((h0_5l[r8.toNat]?).bind fun e9 => (if e9.Proc = e7.Proc then (if e9.Seq = e7.Seq then (if e9.Resp = e7.Resp then (zki q v89z v89l v90 (wrp .i64 (v91 + 1)) h0_0 h0_1 h0_2z h0_2l h0_3 h0_4 h0_5z h0_5l h2_0 h2_1 h2_2 h2_3 h2_5 h2_6 h3z h3l h3x) else (zkh q v89z v89l v90 (wrp .i64 (v91 + 1)) h0_0 h0_1 h0_2z h0_2l h0_3 h0_4 h0_5z h0_5l h2_0 h2_1 h2_2 h2_3 h2_5 h2_6 h3z h3l h3x [e7])) else (zkh q v89z v89l v90 (wrp .i64 (v91 + 1)) h0_0 h0_1 h0_2z h0_2l h0_3 h0_4 h0_5z h0_5l h2_0 h2_1 h2_2 h2_3 h2_5 h2_6 h3z h3l h3x [e7])) else (zkh q v89z v89l v90 (wrp .i64 (v91 + 1)) h0_0 h0_1 h0_2z h0_2l h0_3 h0_4 h0_5z h0_5l h2_0 h2_1 h2_2 h2_3 h2_5 h2_6 h3z h3l h3x [e7]))) else none)))) else none) else (some ((⟨h2_0, h2_1, h2_2, h2_3, ⟨h3z, h3l⟩, h2_5, h2_6, ⟨true, []⟩⟩ : zjs), 0)))
def zkj : Nat → zjr → zjr → Option (zjs × Int)
 | 0, _, _ => none
 | q + 1, a0, a1 => ((zj6 q a0).bind fun r1 => (if r1 = true then ((zj6 q a1).bind fun r2 => (if r2 = true then (if a0.State.Kind = a1.State.Kind then (if a1.Index < a0.Index then (some ((⟨0, 0, 0, 0, ⟨true, []⟩, false, 0, ⟨true, []⟩⟩ : zjs), 15)) else ((zkg q a0.Table.z a0.Table.l a0.Index a0.State.Kind a0.State.L.z a0.State.L.l a0.State.Sealed a0.State.To a0.Table.z a0.Table.l a1.Index a1.State.Kind a1.State.L.z a1.State.L.l a1.State.Sealed a1.State.To a1.Table.z a1.Table.l).bind fun r3 => (if 0 ≤ r3 then (some ((⟨0, 0, 0, 0, ⟨true, []⟩, false, 0, ⟨true, []⟩⟩ : zjs), 15)) else ((zkb q a0.State.L a1.State.L).bind fun r4 => (if 0 ≤ r4 then (if r4 ≤ (a0.State.L.l.length : Int) then (if r4 ≤ (a1.State.L.l.length : Int) then ((zkd q ⟨a0.State.L.z, (List.drop r4.toNat a0.State.L.l)⟩ ⟨a1.State.L.z, (List.drop r4.toNat a1.State.L.l)⟩).bind fun r5 => (if 0 ≤ (wrp .i64 ((((a1.State.L.l.length - r4.toNat) : Nat) : Int) - r5)) then (if (wrp .i64 ((((a1.State.L.l.length - r4.toNat) : Nat) : Int) - r5)).toNat ≤ (a1.State.L.l.length - r4.toNat) then ((zke q ⟨a1.State.L.z, (List.take ((wrp .i64 ((((a1.State.L.l.length - r4.toNat) : Nat) : Int) - r5)).toNat) (List.drop r4.toNat a1.State.L.l))⟩).bind fun r6 => (zki q a1.Table.z a1.Table.l (a1.Table.l.length : Int) 0 a0.Index a0.State.Kind a0.State.L.z a0.State.L.l a0.State.Sealed a0.State.To a0.Table.z a0.Table.l a0.Index a1.Index r4 r5 a1.State.Sealed a1.State.To r6.n r6.xs r6.x)) else none) else none)) else none) else none) else none))))) else (some ((⟨0, 0, 0, 0, ⟨true, []⟩, false, 0, ⟨true, []⟩⟩ : zjs), 1))) else (some ((⟨0, 0, 0, 0, ⟨true, []⟩, false, 0, ⟨true, []⟩⟩ : zjs), 1)))) else (some ((⟨0, 0, 0, 0, ⟨true, []⟩, false, 0, ⟨true, []⟩⟩ : zjs), 1))))
def zkk : Nat → Nat → Bool → (List (Sl Int)) → Int → Int → Bool → (List Int) → Option ((Ow Int))
 | 0, _, _, _, _, _, _, _ => none
 | q + 1, v6len, v25z, v25l, v26, v27, h0z, h0l => (if v27 < v26 then (if 0 ≤ v27 then ((v25l[v27.toNat]?).bind fun e2 => (if (v6len + e2.l.length) ≤ h0l.length then (zkk q (v6len + e2.l.length) v25z v25l v26 (wrp .i64 (v27 + 1)) h0z (((List.take v6len h0l) ++ e2.l) ++ (List.drop (v6len + e2.l.length) h0l))) else none)) else none) else (some ⟨h0z, true, (List.take v6len h0l)⟩))
def zkl : Nat → Bool → (List (Sl Int)) → Int → Int → Bool → (List Int) → Option ((Ow Int))
 | 0, _, _, _, _, _, _ => none
 | q + 1, v25z, v25l, v26, v27, h0z, h0l => (if v27 < v26 then (if 0 ≤ v27 then ((v25l[v27.toNat]?).bind fun e4 => (if (h0l.length + e4.l.length) ≤ 4294967296 then (zkl q v25z v25l v26 (wrp .i64 (v27 + 1)) (h0z && (decide (e4.l.length = 0))) (h0l ++ e4.l)) else none)) else none) else (some ⟨h0z, true, h0l⟩))
def zkm : Nat → Bool → (List (Sl Int)) → Int → Option ((Ow Int))
 | 0, _, _, _ => none
 | q + 1, v25z, v25l, v26 => (if 0 < v26 then ((v25l[0]?).bind fun e3 => (if e3.l.length ≤ 4294967296 then (zkl q v25z v25l v26 (wrp .i64 1) (decide (e3.l.length = 0)) e3.l) else none)) else (some ⟨true, true, []⟩))
def zkn : Nat → Bool → (List (Sl Int)) → Int → Bool → (List (Sl Int)) → Int → Int → Option ((Ow Int))
 | 0, _, _, _, _, _, _, _ => none
 | q + 1, v0z, v0l, v3, v9z, v9l, v10, v11 => (if v11 < v10 then (if 0 ≤ v11 then ((v9l[v11.toNat]?).bind fun e1 => (if (wrp .i64 (v3 + (e1.l.length : Int))) < 0 then none else (zkn q v0z v0l (wrp .i64 (v3 + (e1.l.length : Int))) v9z v9l v10 (wrp .i64 (v11 + 1))))) else none) else (if v3 < 0 then none else (if 0 < (wrp .i64 (v3 - (wrp .i64 0))) then (if 0 ≤ (wrp .i64 (v3 - (wrp .i64 0))) then (if (wrp .i64 (v3 - (wrp .i64 0))).toNat ≤ 4294967296 then (if (wrp .i64 (v3 - (wrp .i64 0))) = 0 then none else (zkk q 0 v0z v0l (v0l.length : Int) 0 (decide ((wrp .i64 (v3 - (wrp .i64 0))) = 0)) (List.replicate ((wrp .i64 (v3 - (wrp .i64 0))).toNat) 0))) else none) else none) else (zkm q v0z v0l (v0l.length : Int)))))
def zko : Nat → (Sl (Sl Int)) → Option ((Ow Int))
 | 0, _ => none
 | q + 1, a0 => (zkn q a0.z a0.l 0 a0.z a0.l (a0.l.length : Int) 0)
def zkp : Nat → (Sl zjq) → Option ((Ow zjq))
 | 0, _ => none
 | q + 1, a0 => (if a0.z = true then (some ⟨true, true, []⟩) else (if a0.l.length ≤ 4294967296 then (some ⟨false, true, a0.l⟩) else none))
def zkq : Nat → (Ow zjq) → Int → (Ow zjq) → Option (Ow zjq)
 | 0, _, _, _ => none
 | q + 1, a0, a1, a2 => (if insOk a0 a1 a2 then (some (insR a0 a1 a2)) else none)
def zkr : Nat → Int → Int → Int → Int → Int → Int → Int → Int → Int → Bool → (List zjq) → Bool → Option (Int)
 | 0, _, _, _, _, _, _, _, _, _, _, _, _ => none
 | q + 1, v7, v8, h0_0, h0_1, h0_2, h0_3, h0_4, h0_5, h0_6, h1z, h1l, h1x => (if v8 < v7 then (if 0 ≤ v8 then (if v8.toNat < h1l.length then ((h1l[v8.toNat]?).bind fun e1 => (if e1.Proc = h0_1 then (some v8) else (zkr q v7 (wrp .i64 (v8 + 1)) h0_0 h0_1 h0_2 h0_3 h0_4 h0_5 h0_6 h1z h1l h1x))) else none) else none) else (some (-1)))
def zks : Nat → Int → Int → Int → Int → Int → Int → Int → Bool → (List zjq) → Bool → Option (Int)
 | 0, _, _, _, _, _, _, _, _, _, _ => none
 | q + 1, h0_0, h0_1, h0_2, h0_3, h0_4, h0_5, h0_6, h1z, h1l, h1x => (zkr q (h1l.length : Int) 0 h0_0 h0_1 h0_2 h0_3 h0_4 h0_5 h0_6 h1z h1l h1x)
def zkt : Nat → Int → Int → Int → Int → Int → Int → Int → Int → Int → Bool → (List zjq) → Bool → Option (Nat × (List zjq) × Bool)
 | 0, _, _, _, _, _, _, _, _, _, _, _, _ => none
 | q + 1, v5, v6, h0_0, h0_1, h0_2, h0_3, h0_4, h0_5, h0_6, h1z, h1l, h1x => (if v6 < (h1l.length : Int) then (if 0 ≤ v6 then (if v6.toNat < h1l.length then ((h1l[v6.toNat]?).bind fun e2 => (if e2.Proc = h0_1 then (zkt q v5 (wrp .i64 (v6 + 1)) h0_0 h0_1 h0_2 h0_3 h0_4 h0_5 h0_6 h1z h1l h1x) else (if 0 ≤ v5 then (if v5.toNat < h1l.length then ((h1l[v5.toNat]?).bind fun e3 => (if h1x = true then (zkt q (wrp .i64 (v5 + 1)) (wrp .i64 (v6 + 1)) h0_0 h0_1 h0_2 h0_3 h0_4 h0_5 h0_6 h1z (List.set h1l v5.toNat e2) true) else none)) else none) else none))) else none) else none) else (if 0 ≤ v5 then (if v5.toNat ≤ h1l.length then (if h1x = true then (if v5.toNat ≤ (((min v5.toNat h1l.length) + (h1l.length - v5.toNat)) + (h1l.length - (v5.toNat + (h1l.length - v5.toNat)))) then (if h1z = true then (some (v5.toNat, (((List.take v5.toNat h1l) ++ (List.replicate (h1l.length - v5.toNat) (⟨0, 0, 0⟩ : zjq))) ++ (List.drop (v5.toNat + (h1l.length - v5.toNat)) h1l)), true)) else (some (v5.toNat, (((List.take v5.toNat h1l) ++ (List.replicate (h1l.length - v5.toNat) (⟨0, 0, 0⟩ : zjq))) ++ (List.drop (v5.toNat + (h1l.length - v5.toNat)) h1l)), true))) else none) else none) else none) else none))
def zku : Nat → Int → Int → Int → Int → Int → Int → Int → Bool → (List zjq) → Bool → Option (Nat × (List zjq) × Bool)
 | 0, _, _, _, _, _, _, _, _, _, _ => none
 | q + 1, h0_0, h0_1, h0_2, h0_3, h0_4, h0_5, h0_6, h1z, h1l, h1x => ((zks q h0_0 h0_1 h0_2 h0_3 h0_4 h0_5 h0_6 h1z h1l h1x).bind fun r1 => (if r1 = (-1) then (some (h1l.length, h1l, h1x)) else (zkt q r1 (wrp .i64 (r1 + 1)) h0_0 h0_1 h0_2 h0_3 h0_4 h0_5 h0_6 h1z h1l h1x)))
def zkv : Nat → Nat → Int → Int → Int → Int → Int → Int → Int → Int → Int → Bool → (List zjq) → Bool → Option (Int)
 | 0, _, _, _, _, _, _, _, _, _, _, _, _, _ => none
 | q + 1, v0len, v7, v8, h0_0, h0_1, h0_2, h0_3, h0_4, h0_5, h0_6, h1z, h1l, h1x => (if v8 < v7 then (if 0 ≤ v8 then (if v8.toNat < v0len then ((h1l[v8.toNat]?).bind fun e1 => (if h0_1 < e1.Proc then (some v8) else (zkv q v0len v7 (wrp .i64 (v8 + 1)) h0_0 h0_1 h0_2 h0_3 h0_4 h0_5 h0_6 h1z h1l h1x))) else none) else none) else (some (-1)))
def zkw : Nat → Nat → Int → Int → Int → Int → Int → Int → Int → Bool → (List zjq) → Bool → Option (Int)
 | 0, _, _, _, _, _, _, _, _, _, _, _ => none
 | q + 1, v0len, h0_0, h0_1, h0_2, h0_3, h0_4, h0_5, h0_6, h1z, h1l, h1x => (zkv q v0len (v0len : Int) 0 h0_0 h0_1 h0_2 h0_3 h0_4 h0_5 h0_6 h1z h1l h1x)
def zkx : Nat → (Sl zjq) → zju → Option ((Ow zjq))
 | 0, _, _ => none
 | q + 1, a0, a1 => ((zkp q a0).bind fun r1 => ((zku q a1.Index a1.Proc a1.Seq a1.Op.Code a1.Op.A a1.Op.B a1.Resp r1.n r1.xs r1.x).bind fun r2 => ((zkw q r2.1 a1.Index a1.Proc a1.Seq a1.Op.Code a1.Op.A a1.Op.B a1.Resp r1.n r2.2.1 r2.2.2).bind fun r3 => (if r3 < 0 then (if r2.2.2 = true then ((zkq q ⟨r1.n, r2.2.2, (List.take r2.1 r2.2.1)⟩ (r2.1 : Int) ⟨false, true, [(⟨a1.Proc, a1.Seq, a1.Resp⟩ : zjq)]⟩).bind fun r4 => (some r4)) else none) else (if r2.2.2 = true then ((zkq q ⟨r1.n, r2.2.2, (List.take r2.1 r2.2.1)⟩ r3 ⟨false, true, [(⟨a1.Proc, a1.Seq, a1.Resp⟩ : zjq)]⟩).bind fun r5 => (some r5)) else none)))))
def zky : Nat → Bool → (List zjq) → Int → Int → Int → Int → Bool → Int → Bool → (List Int) → Bool → Bool → (List zjq) → Bool → Option (zjr × Int)
 | 0, _, _, _, _, _, _, _, _, _, _, _, _, _, _ => none
 | q + 1, v89z, v89l, v90, v91, h1_0, h1_1, h1_3, h1_4, h2z, h2l, h2x, h3z, h3l, h3x => (if v91 < v90 then (if 0 ≤ v91 then ((v89l[v91.toNat]?).bind fun e6 => ((zkx q ⟨h3z, h3l⟩ (⟨0, e6.Proc, e6.Seq, (⟨0, 0, 0⟩ : zjt), e6.Resp⟩ : zju)).bind fun r7 => (zky q v89z v89l v90 (wrp .i64 (v91 + 1)) h1_0 h1_1 h1_3 h1_4 h2z h2l h2x r7.n r7.xs r7.x))) else none) else ((zj6 q (⟨h1_0, (⟨h1_1, ⟨h2z, h2l⟩, h1_3, h1_4⟩ : zjp), ⟨h3z, h3l⟩⟩ : zjr)).bind fun r8 => (if r8 = true then (some ((⟨h1_0, (⟨h1_1, ⟨h2z, h2l⟩, h1_3, h1_4⟩ : zjp), ⟨h3z, h3l⟩⟩ : zjr), 0)) else (some ((⟨0, (⟨0, ⟨true, []⟩, false, 0⟩ : zjp), ⟨true, []⟩⟩ : zjr), 1)))))
def zkz : Nat → Bool → (List zjq) → Int → Int → Int → Bool → Int → Bool → (List zjq) → Bool → (List Int) → Bool → Option (zjr × Int)
 | 0, _, _, _, _, _, _, _, _, _, _, _, _ => none
 | q + 1, v89z, v89l, v90, h1_0, h1_1, h1_3, h1_4, h1_5z, h1_5l, h2z, h2l, h2x => (if 0 < v90 then ((v89l[0]?).bind fun e3 => ((zkx q ⟨h1_5z, h1_5l⟩ (⟨0, e3.Proc, e3.Seq, (⟨0, 0, 0⟩ : zjt), e3.Resp⟩ : zju)).bind fun r4 => (zky q v89z v89l v90 (wrp .i64 1) h1_0 h1_1 h1_3 h1_4 h2z h2l h2x r4.n r4.xs r4.x))) else ((zj6 q (⟨h1_0, (⟨h1_1, ⟨h2z, h2l⟩, h1_3, h1_4⟩ : zjp), ⟨h1_5z, h1_5l⟩⟩ : zjr)).bind fun r5 => (if r5 = true then (some ((⟨h1_0, (⟨h1_1, ⟨h2z, h2l⟩, h1_3, h1_4⟩ : zjp), ⟨h1_5z, h1_5l⟩⟩ : zjr), 0)) else (some ((⟨0, (⟨0, ⟨true, []⟩, false, 0⟩ : zjp), ⟨true, []⟩⟩ : zjr), 1)))))
def zk0 : Nat → zjr → zjs → Option (zjr × Int)
 | 0, _, _ => none
 | q + 1, a0, a1 => ((zj6 q a0).bind fun r1 => (if r1 = true then (if a1.Ahead < 0 then (some ((⟨0, (⟨0, ⟨true, []⟩, false, 0⟩ : zjp), ⟨true, []⟩⟩ : zjr), 1)) else (if a1.Behind < 0 then (some ((⟨0, (⟨0, ⟨true, []⟩, false, 0⟩ : zjp), ⟨true, []⟩⟩ : zjr), 1)) else (if (a0.State.L.l.length : Int) < a1.Ahead then (some ((⟨0, (⟨0, ⟨true, []⟩, false, 0⟩ : zjp), ⟨true, []⟩⟩ : zjr), 1)) else (if (wrp .i64 ((a0.State.L.l.length : Int) - a1.Ahead)) < a1.Behind then (some ((⟨0, (⟨0, ⟨true, []⟩, false, 0⟩ : zjp), ⟨true, []⟩⟩ : zjr), 1)) else (if a0.Index = a1.From then (if a1.To < a1.From then (some ((⟨0, (⟨0, ⟨true, []⟩, false, 0⟩ : zjp), ⟨true, []⟩⟩ : zjr), 15)) else (if 0 ≤ a1.Ahead then (if a1.Ahead.toNat ≤ a0.State.L.l.length then (if 0 ≤ (wrp .i64 ((a0.State.L.l.length : Int) - a1.Behind)) then (if (wrp .i64 ((a0.State.L.l.length : Int) - a1.Behind)) ≤ (a0.State.L.l.length : Int) then ((zko q ⟨false, [⟨a0.State.L.z, (List.take a1.Ahead.toNat a0.State.L.l)⟩, a1.Mid, ⟨a0.State.L.z, (List.drop ((wrp .i64 ((a0.State.L.l.length : Int) - a1.Behind)).toNat) a0.State.L.l)⟩]⟩).bind fun r2 => (zkz q a1.Table.z a1.Table.l (a1.Table.l.length : Int) a1.To a0.State.Kind a1.Sealed a1.Engine a0.Table.z a0.Table.l r2.n r2.xs r2.x)) else none) else none) else none) else none)) else (some ((⟨0, (⟨0, ⟨true, []⟩, false, 0⟩ : zjp), ⟨true, []⟩⟩ : zjr), 15))))))) else (some ((⟨0, (⟨0, ⟨true, []⟩, false, 0⟩ : zjp), ⟨true, []⟩⟩ : zjr), 1))))
def zk1 : Nat → Bool → (List Int) → Bool → (List Int) → Int → Int → Option (Bool)
 | 0, _, _, _, _, _, _ => none
 | q + 1, v0z, v0l, v1z, v1l, v12, v13 => (if v13 < v12 then (if 0 ≤ v13 then ((v0l[v13.toNat]?).bind fun e1 => ((v1l[v13.toNat]?).bind fun e2 => (if e1 = e2 then (zk1 q v0z v0l v1z v1l v12 (wrp .i64 (v13 + 1))) else (some false)))) else none) else (some true))
def zk2 : Nat → (Sl Int) → (Sl Int) → Option (Bool)
 | 0, _, _ => none
 | q + 1, a0, a1 => (if (a0.l.length : Int) = (a1.l.length : Int) then (zk1 q a0.z a0.l a1.z a1.l (a0.l.length : Int) 0) else (some false))
def zk3 : Nat → zjp → zjp → Option (Bool)
 | 0, _, _ => none
 | q + 1, a0, a1 => (if a0.Kind = a1.Kind then (if (a0.Sealed == a1.Sealed) = true then (if a0.To = a1.To then ((zk2 q a0.L a1.L).bind fun r1 => (some r1)) else (some false)) else (some false)) else (some false))
def zk4 : Nat → Bool → (List zjq) → Bool → (List zjq) → Int → Int → Option (Bool)
 | 0, _, _, _, _, _, _ => none
 | q + 1, v0z, v0l, v1z, v1l, v12, v13 => (if v13 < v12 then (if 0 ≤ v13 then ((v0l[v13.toNat]?).bind fun e1 => ((v1l[v13.toNat]?).bind fun e2 => (if e1.Proc = e2.Proc then (if e1.Seq = e2.Seq then (if e1.Resp = e2.Resp then (zk4 q v0z v0l v1z v1l v12 (wrp .i64 (v13 + 1))) else (some false)) else (some false)) else (some false)))) else none) else (some true))
def zk5 : Nat → (Sl zjq) → (Sl zjq) → Option (Bool)
 | 0, _, _ => none
 | q + 1, a0, a1 => (if (a0.l.length : Int) = (a1.l.length : Int) then (zk4 q a0.z a0.l a1.z a1.l (a0.l.length : Int) 0) else (some false))
def zk6 : Nat → zjr → zjr → Option (Bool)
 | 0, _, _ => none
 | q + 1, a0, a1 => (if a0.Index = a1.Index then ((zk3 q a0.State a1.State).bind fun r1 => (if r1 = true then ((zk5 q a0.Table a1.Table).bind fun r2 => (some r2)) else (some false))) else (some false))
def zk7 : Nat → Option (Bool)
 | 0 => none
 | q + 1 => ((zkj q (⟨0, (⟨3, ⟨false, [1, 2]⟩, false, 0⟩ : zjp), ⟨true, []⟩⟩ : zjr) (⟨1, (⟨3, ⟨false, [1, 2, 9]⟩, false, 0⟩ : zjp), ⟨true, []⟩⟩ : zjr)).bind fun r1 => ((zk0 q (⟨0, (⟨3, ⟨false, [1, 2]⟩, false, 0⟩ : zjp), ⟨true, []⟩⟩ : zjr) r1.1).bind fun r2 => (if r1.2 = 0 then (if r2.2 = 0 then (if r1.1.Ahead = 2 then (if r1.1.Behind = 0 then (if (r1.1.Mid.l.length : Int) = 1 then ((r1.1.Mid.l[0]?).bind fun e3 => (if e3 = 9 then ((zk6 q (⟨1, (⟨3, ⟨false, [1, 2, 9]⟩, false, 0⟩ : zjp), ⟨true, []⟩⟩ : zjr) r2.1).bind fun r4 => (some r4)) else (some false))) else (some false)) else (some false)) else (some false)) else (some false)) else (some false))))
def zk8 : Nat → Bool → (List zjq) → Int → Option (Bool)
 | 0, _, _, _ => none
 | q + 1, v0z, v0l, v3 => (if v3 < (v0l.length : Int) then (if 0 ≤ v3 then ((v0l[v3.toNat]?).bind fun e1 => (if e1.Proc < 0 then (some false) else (if 64 < e1.Proc then (some false) else (if e1.Seq < 0 then (some false) else (if 4611686018427387904 ≤ e1.Seq then (some false) else (if e1.Resp < (-1125899906842624) then (some false) else (if 1125899906842624 < e1.Resp then (some false) else (if 0 < v3 then (if 0 ≤ (wrp .i64 (v3 - 1)) then ((v0l[(wrp .i64 (v3 - 1)).toNat]?).bind fun e2 => (if e1.Proc ≤ e2.Proc then (some false) else (zk8 q v0z v0l (wrp .i64 (v3 + 1))))) else none) else (zk8 q v0z v0l (wrp .i64 (v3 + 1))))))))))) else none) else (some true))
def zk9 : Nat → (Sl zjq) → Option (Bool)
 | 0, _ => none
 | q + 1, a0 => (zk8 q a0.z a0.l 0)
def zla : Nat → Int → Int → Int → Int → Int → Bool → (List Int) → Bool → Int → Bool → (List zjq) → Int → Int → Int → Int → Bool → (List Int) → Bool → Int → Bool → (List zjq) → Option (Bool)
 | 0, _, _, _, _, _, _, _, _, _, _, _, _, _, _, _, _, _, _, _, _, _ => none
 | q + 1, v6, h0_0, h0_1, h0_2, h0_3, h0_4z, h0_4l, h0_5, h0_6, h0_7z, h0_7l, h1_0, h1_1, h1_2, h1_3, h1_4z, h1_4l, h1_5, h1_6, h1_7z, h1_7l => (if v6 < (h0_7l.length : Int) then (if 0 ≤ v6 then ((h0_7l[v6.toNat]?).bind fun e3 => ((h1_7l[v6.toNat]?).bind fun e4 => (if e3.Proc = e4.Proc then (if e3.Seq = e4.Seq then (if e3.Resp = e4.Resp then (zla q (wrp .i64 (v6 + 1)) h0_0 h0_1 h0_2 h0_3 h0_4z h0_4l h0_5 h0_6 h0_7z h0_7l h1_0 h1_1 h1_2 h1_3 h1_4z h1_4l h1_5 h1_6 h1_7z h1_7l) else (some false)) else (some false)) else (some false)))) else none) else (some true))
def zlb : Nat → Int → Int → Int → Int → Int → Bool → (List Int) → Bool → Int → Bool → (List zjq) → Int → Int → Int → Int → Bool → (List Int) → Bool → Int → Bool → (List zjq) → Option (Bool)
 | 0, _, _, _, _, _, _, _, _, _, _, _, _, _, _, _, _, _, _, _, _, _ => none
 | q + 1, v5, h0_0, h0_1, h0_2, h0_3, h0_4z, h0_4l, h0_5, h0_6, h0_7z, h0_7l, h1_0, h1_1, h1_2, h1_3, h1_4z, h1_4l, h1_5, h1_6, h1_7z, h1_7l => (if v5 < (h0_4l.length : Int) then (if 0 ≤ v5 then ((h0_4l[v5.toNat]?).bind fun e1 => ((h1_4l[v5.toNat]?).bind fun e2 => (if e1 = e2 then (zlb q (wrp .i64 (v5 + 1)) h0_0 h0_1 h0_2 h0_3 h0_4z h0_4l h0_5 h0_6 h0_7z h0_7l h1_0 h1_1 h1_2 h1_3 h1_4z h1_4l h1_5 h1_6 h1_7z h1_7l) else (some false)))) else none) else (zla q 0 h0_0 h0_1 h0_2 h0_3 h0_4z h0_4l h0_5 h0_6 h0_7z h0_7l h1_0 h1_1 h1_2 h1_3 h1_4z h1_4l h1_5 h1_6 h1_7z h1_7l))
def zlc : Nat → zjs → zjs → Option (Bool)
 | 0, _, _ => none
 | q + 1, a0, a1 => (if a0.From = a1.From then (if a0.To = a1.To then (if a0.Ahead = a1.Ahead then (if a0.Behind = a1.Behind then (if (a0.Sealed == a1.Sealed) = true then (if a0.Engine = a1.Engine then (if (a0.Mid.l.length : Int) = (a1.Mid.l.length : Int) then (if (a0.Table.l.length : Int) = (a1.Table.l.length : Int) then (zlb q 0 a0.From a0.To a0.Ahead a0.Behind a0.Mid.z a0.Mid.l a0.Sealed a0.Engine a0.Table.z a0.Table.l a1.From a1.To a1.Ahead a1.Behind a1.Mid.z a1.Mid.l a1.Sealed a1.Engine a1.Table.z a1.Table.l) else (some false)) else (some false)) else (some false)) else (some false)) else (some false)) else (some false)) else (some false)) else (some false))
def zld : Nat → Int → Option (Bool)
 | 0, _ => none
 | q + 1, a0 => (some (decide (a0 < 128)))
def zle : Nat → Bool → (List Int) → Int → Int → Option (Int)
 | 0, _, _, _, _ => none
 | q + 1, v0z, v0l, v7, v8 => (if v8 < v7 then (if 0 ≤ v8 then ((v0l[v8.toNat]?).bind fun e1 => ((zld q e1).bind fun r2 => (if r2 = true then (some v8) else (zle q v0z v0l v7 (wrp .i64 (v8 + 1)))))) else none) else (some (-1)))
def zlf : Nat → Bool → (List Int) → Option (Int)
 | 0, _, _ => none
 | q + 1, v0z, v0l => (zle q v0z v0l (v0l.length : Int) 0)
def zlg : Nat → (Sl Int) → Option (Bool)
 | 0, _ => none
 | q + 1, a0 => (if (a0.l.length : Int) < 10 then ((zlf q a0.z a0.l).bind fun r1 => (some (!(decide (0 ≤ r1))))) else (some false))
def zlh : Nat → Bool → (List Int) → Int → Int → Int → Option (Int × Int)
 | 0, _, _, _, _, _ => none
 | q + 1, v0z, v0l, v4, v9, v10 => (if v10 < v9 then (if 0 ≤ v10 then ((v0l[v10.toNat]?).bind fun e1 => (if (wrp .i64 (7 * v10)) < 0 then none else (if v10 = 9 then (if 1 < e1 then (some (0, 0)) else (if e1 = 0 then (if 0 < v10 then (some (0, 0)) else (if e1 < 128 then (some ((ibits .or .u64 v4 (ishl .u64 (wrp .u64 (ibits .and .u8 e1 127)) (wrp .i64 (7 * v10)))), (wrp .i64 (v10 + 1)))) else (zlh q v0z v0l (ibits .or .u64 v4 (ishl .u64 (wrp .u64 (ibits .and .u8 e1 127)) (wrp .i64 (7 * v10)))) v9 (wrp .i64 (v10 + 1))))) else (if e1 < 128 then (some ((ibits .or .u64 v4 (ishl .u64 (wrp .u64 (ibits .and .u8 e1 127)) (wrp .i64 (7 * v10)))), (wrp .i64 (v10 + 1)))) else (zlh q v0z v0l (ibits .or .u64 v4 (ishl .u64 (wrp .u64 (ibits .and .u8 e1 127)) (wrp .i64 (7 * v10)))) v9 (wrp .i64 (v10 + 1)))))) else (if e1 = 0 then (if 0 < v10 then (some (0, 0)) else (if e1 < 128 then (some ((ibits .or .u64 v4 (ishl .u64 (wrp .u64 (ibits .and .u8 e1 127)) (wrp .i64 (7 * v10)))), (wrp .i64 (v10 + 1)))) else (zlh q v0z v0l (ibits .or .u64 v4 (ishl .u64 (wrp .u64 (ibits .and .u8 e1 127)) (wrp .i64 (7 * v10)))) v9 (wrp .i64 (v10 + 1))))) else (if e1 < 128 then (some ((ibits .or .u64 v4 (ishl .u64 (wrp .u64 (ibits .and .u8 e1 127)) (wrp .i64 (7 * v10)))), (wrp .i64 (v10 + 1)))) else (zlh q v0z v0l (ibits .or .u64 v4 (ishl .u64 (wrp .u64 (ibits .and .u8 e1 127)) (wrp .i64 (7 * v10)))) v9 (wrp .i64 (v10 + 1)))))))) else none) else (some (0, 0)))
def zli : Nat → (Sl Int) → Option (Int × Int)
 | 0, _ => none
 | q + 1, a0 => (zlh q a0.z a0.l 0 (if 10 < (a0.l.length : Int) then 10 else (a0.l.length : Int)) 0)
def zlj : Nat → (Sl Int) → Option (Int × Int)
 | 0, _ => none
 | q + 1, a0 => ((zli q a0).bind fun r1 => (if 4611686018427387904 ≤ r1.1 then (some (0, 0)) else (some ((wrp .i64 r1.1), r1.2))))
mutual
def zlk : Nat → Int → (List Int) → (List Int) → Option ((List Int))
 | 0, _, _, _ => none
 | q + 1, v5, h0_0, h1_0 => (if v5 < 256 then (zll q v5 (wrp .u32 v5) v5 0 h0_0 h1_0) else (if 256 ≤ h1_0.length then (if (min 256 h1_0.length) = 256 then (if 256 ≤ h0_0.length then (if 256 ≤ (256 + (h0_0.length - 256)) then (some (List.take 256 ((List.take 256 h1_0) ++ (List.drop 256 h0_0)))) else none) else none) else none) else none))
def zll : Nat → Int → Int → Int → Int → (List Int) → (List Int) → Option ((List Int))
 | 0, _, _, _, _, _, _ => none
 | q + 1, v2, v3, v5, v10, h0_0, h1_0 => (if v10 < 8 then (zll q v2 (ibits .xor .u32 (ishr .u32 v3 1) (ibits .and .u32 2197175160 (wrp .u32 (0 - (ibits .and .u32 v3 1))))) v5 (wrp .i64 (v10 + 1)) h0_0 h1_0) else (if 0 ≤ v2 then (if v2.toNat < 256 then (if (v2.toNat + 1) ≤ h1_0.length then (zlk q (wrp .i64 (v5 + 1)) h0_0 (List.set h1_0 v2.toNat v3)) else none) else none) else none))
end
def zlm : Nat → Option ((List Int))
 | 0 => none
 | q + 1 => (zlk q 0 (List.replicate 256 0) (List.replicate 256 0))
def zln : Nat → Int → Bool → (List Int) → Int → Int → (List Int) → Option (Int)
 | 0, _, _, _, _, _, _ => none
 | q + 1, v6, v12z, v12l, v13, v14, h0_0 => (if v14 < v13 then (if 0 ≤ v14 then ((v12l[v14.toNat]?).bind fun e2 => (if 0 ≤ (ibits .xor .u8 (wrp .u8 v6) e2) then (if (ibits .xor .u8 (wrp .u8 v6) e2).toNat < 256 then ((h0_0[(ibits .xor .u8 (wrp .u8 v6) e2).toNat]?).bind fun e3 => (zln q (ibits .xor .u32 e3 (ishr .u32 v6 8)) v12z v12l v13 (wrp .i64 (v14 + 1)) h0_0)) else none) else none)) else none) else (some (ibits .xor .u32 4294967295 v6)))
def zlo : Nat → Int → (Sl Int) → Option (Int)
 | 0, _, _ => none
 | q + 1, a0, a1 => ((zlm q).bind fun r1 => (if r1.length = 256 then (zln q (ibits .xor .u32 4294967295 a0) a1.z a1.l (a1.l.length : Int) 0 r1) else none))
def zlp : Nat → (Sl Int) → Option (Int)
 | 0, _ => none
 | q + 1, a0 => ((zlo q 0 a0).bind fun r1 => (some r1))
def zlq : Nat → Int → Int → Int → Bool → (List Int) → Option ((Ow Int))
 | 0, _, _, _, _, _ => none
 | q + 1, v0, v7, v8, h0z, h0l => (if v8 < v7 then (if (wrp .i64 (8 * v8)) < 0 then none else (if (h0l.length + 1) ≤ 4294967296 then (zlq q v0 v7 (wrp .i64 (v8 + 1)) false (h0l ++ [(wrp .u8 (ishr .u64 v0 (wrp .i64 (8 * v8))))])) else none)) else (some ⟨h0z, true, h0l⟩))
def zlr : Nat → Int → Int → Option ((Ow Int))
 | 0, _, _ => none
 | q + 1, a0, a1 => (zlq q a0 a1 0 true [])
def zls : Nat → Int → Option ((Ow Int))
 | 0, _ => none
 | q + 1, a0 => ((zlr q (wrp .u64 a0) 4).bind fun r1 => (some r1))
def zlt : Nat → (Sl Int) → (Sl Int) → Option ((Ow Int))
 | 0, _, _ => none
 | q + 1, a0, a1 => ((zlp q a0).bind fun r1 => ((zlo q r1 a1).bind fun r2 => ((zls q r2).bind fun r3 => (some r3))))
def zlu : Nat → Bool → (List Int) → Bool → (List Int) → Int → Int → Option (Bool)
 | 0, _, _, _, _, _, _ => none
 | q + 1, v0z, v0l, v1z, v1l, v12, v13 => (if v13 < v12 then (if 0 ≤ v13 then ((v0l[v13.toNat]?).bind fun e1 => ((v1l[v13.toNat]?).bind fun e2 => (if e1 = e2 then (zlu q v0z v0l v1z v1l v12 (wrp .i64 (v13 + 1))) else (some false)))) else none) else (some true))
def zlv : Nat → (Sl Int) → (Sl Int) → Option (Bool)
 | 0, _, _ => none
 | q + 1, a0, a1 => (if (a0.l.length : Int) = (a1.l.length : Int) then (zlu q a0.z a0.l a1.z a1.l (a0.l.length : Int) 0) else (some false))
def zlw : Nat → (Sl Int) → Option ((Ow Int))
 | 0, _ => none
 | q + 1, a0 => (if a0.z = true then (some ⟨true, true, []⟩) else (if a0.l.length ≤ 4294967296 then (some ⟨false, true, a0.l⟩) else none))
def zlx : Nat → (Sl Int) → Option ((Ow Int) × Int × Int)
 | 0, _ => none
 | q + 1, a0 => ((zlg q a0).bind fun r1 => (if r1 = true then (some (⟨true, true, []⟩, 0, 2)) else ((zlj q a0).bind fun r2 => (if r2.2 = 0 then (some (⟨true, true, []⟩, 0, 3)) else (if 1048576 < r2.1 then (some (⟨true, true, []⟩, 0, 5)) else (if (a0.l.length : Int) < (wrp .i64 ((wrp .i64 (r2.2 + 4)) + r2.1)) then (some (⟨true, true, []⟩, 0, 2)) else (if 0 ≤ r2.2 then (if r2.2 ≤ r2.2 then (if r2.2.toNat ≤ a0.l.length then (if 0 ≤ (wrp .i64 (r2.2 + r2.1)) then (if (wrp .i64 (r2.2 + r2.1)) ≤ (wrp .i64 (r2.2 + r2.1)) then (if (wrp .i64 (r2.2 + r2.1)).toNat ≤ a0.l.length then (if r2.2 ≤ (wrp .i64 (r2.2 + r2.1)) then (if (wrp .i64 (r2.2 + r2.1)) ≤ (wrp .i64 ((wrp .i64 (r2.2 + r2.1)) + 4)) then (if (wrp .i64 ((wrp .i64 (r2.2 + r2.1)) + 4)).toNat ≤ a0.l.length then ((zlt q ⟨a0.z, (List.take r2.2.toNat a0.l)⟩ ⟨a0.z, (List.drop r2.2.toNat (List.take ((wrp .i64 (r2.2 + r2.1)).toNat) a0.l))⟩).bind fun r3 => ((zlv q ⟨a0.z, (List.drop ((wrp .i64 (r2.2 + r2.1)).toNat) (List.take ((wrp .i64 ((wrp .i64 (r2.2 + r2.1)) + 4)).toNat) a0.l))⟩ ⟨r3.n, r3.xs⟩).bind fun r4 => (if r4 = true then ((zlw q ⟨a0.z, (List.drop r2.2.toNat (List.take ((wrp .i64 (r2.2 + r2.1)).toNat) a0.l))⟩).bind fun r5 => (some (r5, (wrp .i64 ((wrp .i64 (r2.2 + r2.1)) + 4)), 0))) else (some (⟨true, true, []⟩, 0, 4))))) else none) else none) else none) else none) else none) else none) else none) else none) else none)))))))
def zly : Nat → Int → Option (Int)
 | 0, _ => none
 | q + 1, a0 => (some (ibits .xor .i64 (wrp .i64 (ishr .u64 a0 1)) (wrp .i64 (0 - (wrp .i64 (ibits .and .u64 a0 1))))))
def zlz : Nat → (Sl Int) → Option (Int × Int)
 | 0, _ => none
 | q + 1, a0 => ((zli q a0).bind fun r1 => (if r1.2 = 0 then (some (0, 0)) else ((zly q r1.1).bind fun r2 => (some (r2, r1.2)))))
def zl0 : Nat → Int → Int → Int → Int → Bool → (List Int) → Bool → Int → Option (Int × Int × Int × Int × (List Int) × Bool × Int)
 | 0, _, _, _, _, _, _, _, _ => none
 | q + 1, h0_0, h0_1, h0_2, h0_3, h1_0z, h1_0l, h1_1, h2_0 => (some (h0_0, h0_1, h0_2, h0_3, h1_0l, h1_1, h2_0))
def zl1 : Nat → Int → Int → Int → Int → Bool → (List Int) → Bool → Option (Int × Int × Int × Int × (List Int) × Bool × Int)
 | 0, _, _, _, _, _, _, _ => none
 | q + 1, h0_0, h0_1, h0_2, h0_3, h1_0z, h1_0l, h1_1 => ((zlj q ⟨h1_0z, h1_0l⟩).bind fun r5 => (if h1_1 = true then (if 0 ≤ r5.2 then (if r5.2 ≤ (h1_0l.length : Int) then (zl0 q h0_0 h0_1 h0_2 h0_3 h1_0z (List.drop r5.2.toNat h1_0l) (decide (0 < r5.2)) r5.1) else none) else none) else (if 0 ≤ r5.2 then (if r5.2 ≤ (h1_0l.length : Int) then (zl0 q h0_0 h0_1 h0_2 h0_3 h1_0z (List.drop r5.2.toNat h1_0l) false r5.1) else none) else none)))
def zl2 : Nat → Int → Int → Int → Bool → (List Int) → Bool → Option (Int × Int × Int × Int × (List Int) × Bool × Int)
 | 0, _, _, _, _, _, _ => none
 | q + 1, h0_0, h0_1, h0_2, h1_0z, h1_0l, h1_1 => ((zlj q ⟨h1_0z, h1_0l⟩).bind fun r4 => (if h1_1 = true then (if 0 ≤ r4.2 then (if r4.2 ≤ (h1_0l.length : Int) then (zl1 q h0_0 h0_1 h0_2 r4.1 h1_0z (List.drop r4.2.toNat h1_0l) (decide (0 < r4.2))) else none) else none) else (if 0 ≤ r4.2 then (if r4.2 ≤ (h1_0l.length : Int) then (zl1 q h0_0 h0_1 h0_2 r4.1 h1_0z (List.drop r4.2.toNat h1_0l) false) else none) else none)))
def zl3 : Nat → Int → Int → Bool → (List Int) → Bool → Option (Int × Int × Int × Int × (List Int) × Bool × Int)
 | 0, _, _, _, _, _ => none
 | q + 1, h0_0, h0_1, h1_0z, h1_0l, h1_1 => ((zlj q ⟨h1_0z, h1_0l⟩).bind fun r3 => (if h1_1 = true then (if 0 ≤ r3.2 then (if r3.2 ≤ (h1_0l.length : Int) then (zl2 q h0_0 h0_1 r3.1 h1_0z (List.drop r3.2.toNat h1_0l) (decide (0 < r3.2))) else none) else none) else (if 0 ≤ r3.2 then (if r3.2 ≤ (h1_0l.length : Int) then (zl2 q h0_0 h0_1 r3.1 h1_0z (List.drop r3.2.toNat h1_0l) false) else none) else none)))
def zl4 : Nat → Int → Bool → (List Int) → Bool → Option (Int × Int × Int × Int × (List Int) × Bool × Int)
 | 0, _, _, _, _ => none
 | q + 1, h0_0, h1_0z, h1_0l, h1_1 => ((zlj q ⟨h1_0z, h1_0l⟩).bind fun r2 => (if h1_1 = true then (if 0 ≤ r2.2 then (if r2.2 ≤ (h1_0l.length : Int) then (zl3 q h0_0 r2.1 h1_0z (List.drop r2.2.toNat h1_0l) (decide (0 < r2.2))) else none) else none) else (if 0 ≤ r2.2 then (if r2.2 ≤ (h1_0l.length : Int) then (zl3 q h0_0 r2.1 h1_0z (List.drop r2.2.toNat h1_0l) false) else none) else none)))
def zl5 : Nat → Bool → (List Int) → Option (Int × Int × Int × Int × (List Int) × Bool × Int)
 | 0, _, _ => none
 | q + 1, h1_0z, h1_0l => ((zlj q ⟨h1_0z, h1_0l⟩).bind fun r1 => (if 0 ≤ r1.2 then (if r1.2 ≤ (h1_0l.length : Int) then (zl4 q r1.1 h1_0z (List.drop r1.2.toNat h1_0l) (decide (0 < r1.2))) else none) else none))
def zl6 : Nat → Bool → (List Int) → Option (Int × Int × Int × Int × (List Int) × Bool × Int)
 | 0, _, _ => none
 | q + 1, h1_0z, h1_0l => (zl5 q h1_0z h1_0l)
def zl7 : Nat → Int → Int → Int → Int → Bool → (List Int) → Bool → Int → Int → Option ((List Int) × Bool × Int × Int)
 | 0, _, _, _, _, _, _, _, _, _ => none
 | q + 1, h0_0, h0_1, h0_2, h0_3, h1_0z, h1_0l, h1_1, h2_0, h3_0 => (some (h1_0l, h1_1, h2_0, h3_0))
def zl8 : Nat → Int → Int → Int → Int → Bool → (List Int) → Bool → Int → Option ((List Int) × Bool × Int × Int)
 | 0, _, _, _, _, _, _, _, _ => none
 | q + 1, h0_0, h0_1, h0_2, h0_3, h1_0z, h1_0l, h1_1, h2_0 => ((zlj q ⟨h1_0z, h1_0l⟩).bind fun r2 => (if h1_1 = true then (if 0 ≤ r2.2 then (if r2.2 ≤ (h1_0l.length : Int) then (zl7 q h0_0 h0_1 h0_2 h0_3 h1_0z (List.drop r2.2.toNat h1_0l) (decide (0 < r2.2)) h2_0 r2.1) else none) else none) else (if 0 ≤ r2.2 then (if r2.2 ≤ (h1_0l.length : Int) then (zl7 q h0_0 h0_1 h0_2 h0_3 h1_0z (List.drop r2.2.toNat h1_0l) false h2_0 r2.1) else none) else none)))
def zl9 : Nat → Int → Int → Int → Int → Bool → (List Int) → Bool → Option ((List Int) × Bool × Int × Int)
 | 0, _, _, _, _, _, _, _ => none
 | q + 1, h0_0, h0_1, h0_2, h0_3, h1_0z, h1_0l, h1_1 => ((zlj q ⟨h1_0z, h1_0l⟩).bind fun r1 => (if h1_1 = true then (if 0 ≤ r1.2 then (if r1.2 ≤ (h1_0l.length : Int) then (zl8 q h0_0 h0_1 h0_2 h0_3 h1_0z (List.drop r1.2.toNat h1_0l) (decide (0 < r1.2)) r1.1) else none) else none) else (if 0 ≤ r1.2 then (if r1.2 ≤ (h1_0l.length : Int) then (zl8 q h0_0 h0_1 h0_2 h0_3 h1_0z (List.drop r1.2.toNat h1_0l) false r1.1) else none) else none)))
def zma : Nat → Int → Int → Int → Int → Bool → (List Int) → Bool → Option ((List Int) × Bool × Int × Int)
 | 0, _, _, _, _, _, _, _ => none
 | q + 1, h0_0, h0_1, h0_2, h0_3, h1_0z, h1_0l, h1_1 => (zl9 q h0_0 h0_1 h0_2 h0_3 h1_0z h1_0l h1_1)
def zmb : Nat → Int → Int → Int → Int → Bool → (List Int) → Bool → Int → Int → (List Int) → Option (Nat × (List Int) × Bool × Int × Int)
 | 0, _, _, _, _, _, _, _, _, _, _ => none
 | q + 1, h0_0, h0_1, h0_2, h0_3, h1_0z, h1_0l, h1_1, h2_0, h3_0, h4l => (some (h4l.length, h1_0l, h1_1, h2_0, h3_0))
def zmc : Nat → Int → Int → Int → Int → Bool → (List Int) → Bool → Int → (List Int) → Option (Nat × (List Int) × Bool × Int × Int)
 | 0, _, _, _, _, _, _, _, _, _ => none
 | q + 1, h0_0, h0_1, h0_2, h0_3, h1_0z, h1_0l, h1_1, h2_0, h4l => ((zlj q ⟨h1_0z, h1_0l⟩).bind fun r2 => (if h1_1 = true then (if 0 ≤ r2.2 then (if r2.2 ≤ (h1_0l.length : Int) then (zmb q h0_0 h0_1 h0_2 h0_3 h1_0z (List.drop r2.2.toNat h1_0l) (decide (0 < r2.2)) h2_0 r2.1 h4l) else none) else none) else (if 0 ≤ r2.2 then (if r2.2 ≤ (h1_0l.length : Int) then (zmb q h0_0 h0_1 h0_2 h0_3 h1_0z (List.drop r2.2.toNat h1_0l) false h2_0 r2.1 h4l) else none) else none)))
def zmd : Nat → Int → Int → Int → Int → Bool → (List Int) → Bool → (List Int) → Option (Nat × (List Int) × Bool × Int × Int)
 | 0, _, _, _, _, _, _, _, _ => none
 | q + 1, h0_0, h0_1, h0_2, h0_3, h1_0z, h1_0l, h1_1, h4l => ((zlj q ⟨h1_0z, h1_0l⟩).bind fun r1 => (if h1_1 = true then (if 0 ≤ r1.2 then (if r1.2 ≤ (h1_0l.length : Int) then (zmc q h0_0 h0_1 h0_2 h0_3 h1_0z (List.drop r1.2.toNat h1_0l) (decide (0 < r1.2)) r1.1 h4l) else none) else none) else (if 0 ≤ r1.2 then (if r1.2 ≤ (h1_0l.length : Int) then (zmc q h0_0 h0_1 h0_2 h0_3 h1_0z (List.drop r1.2.toNat h1_0l) false r1.1 h4l) else none) else none)))
def zme : Nat → Int → Int → Int → Int → Bool → (List Int) → Bool → (List Int) → Option (Nat × (List Int) × Bool × Int × Int)
 | 0, _, _, _, _, _, _, _, _ => none
 | q + 1, h0_0, h0_1, h0_2, h0_3, h1_0z, h1_0l, h1_1, h4l => (zmd q h0_0 h0_1 h0_2 h0_3 h1_0z h1_0l h1_1 h4l)
def zmf : Nat → Int → Int → Int → Int → Bool → Int → Bool → (List Int) → Bool → Int → Int → Int → Option ((List Int) × Bool × Int × Int)
 | 0, _, _, _, _, _, _, _, _, _, _, _, _ => none
 | q + 1, h0_0, h0_1, h0_2, h0_3, h0_5, h0_6, h1_0z, h1_0l, h1_1, h2_0, h3_0, h3_1 => (some (h1_0l, h1_1, h3_0, h3_1))
def zmg : Nat → Int → Int → Int → Int → Bool → Int → Bool → (List Int) → Bool → Int → Int → Option ((List Int) × Bool × Int × Int)
 | 0, _, _, _, _, _, _, _, _, _, _, _ => none
 | q + 1, h0_0, h0_1, h0_2, h0_3, h0_5, h0_6, h1_0z, h1_0l, h1_1, h2_0, h3_0 => ((zlj q ⟨h1_0z, h1_0l⟩).bind fun r2 => (if h1_1 = true then (if 0 ≤ r2.2 then (if r2.2 ≤ (h1_0l.length : Int) then (zmf q h0_0 h0_1 h0_2 h0_3 h0_5 h0_6 h1_0z (List.drop r2.2.toNat h1_0l) (decide (0 < r2.2)) h2_0 h3_0 r2.1) else none) else none) else (if 0 ≤ r2.2 then (if r2.2 ≤ (h1_0l.length : Int) then (zmf q h0_0 h0_1 h0_2 h0_3 h0_5 h0_6 h1_0z (List.drop r2.2.toNat h1_0l) false h2_0 h3_0 r2.1) else none) else none)))
def zmh : Nat → Int → Int → Int → Int → Bool → Int → Bool → (List Int) → Bool → Int → Option ((List Int) × Bool × Int × Int)
 | 0, _, _, _, _, _, _, _, _, _, _ => none
 | q + 1, h0_0, h0_1, h0_2, h0_3, h0_5, h0_6, h1_0z, h1_0l, h1_1, h2_0 => ((zlj q ⟨h1_0z, h1_0l⟩).bind fun r1 => (if h1_1 = true then (if 0 ≤ r1.2 then (if r1.2 ≤ (h1_0l.length : Int) then (zmg q h0_0 h0_1 h0_2 h0_3 h0_5 h0_6 h1_0z (List.drop r1.2.toNat h1_0l) (decide (0 < r1.2)) h2_0 r1.1) else none) else none) else (if 0 ≤ r1.2 then (if r1.2 ≤ (h1_0l.length : Int) then (zmg q h0_0 h0_1 h0_2 h0_3 h0_5 h0_6 h1_0z (List.drop r1.2.toNat h1_0l) false h2_0 r1.1) else none) else none)))
def zmi : Nat → Int → Int → Int → Int → Bool → Int → Bool → (List Int) → Bool → Int → Option ((List Int) × Bool × Int × Int)
 | 0, _, _, _, _, _, _, _, _, _, _ => none
 | q + 1, h0_0, h0_1, h0_2, h0_3, h0_5, h0_6, h1_0z, h1_0l, h1_1, h2_0 => (zmh q h0_0 h0_1 h0_2 h0_3 h0_5 h0_6 h1_0z h1_0l h1_1 h2_0)
def zmj : Nat → Int → Int → Int → Int → Nat → Bool → Int → Bool → (List Int) → Bool → Int → (List Int) → Int → Int → Option ((List Int) × Bool × Int × Int)
 | 0, _, _, _, _, _, _, _, _, _, _, _, _, _, _ => none
 | q + 1, h0_0, h0_1, h0_2, h0_3, h0_4len, h0_5, h0_6, h1_0z, h1_0l, h1_1, h2_0, h3l, h4_0, h4_1 => (some (h1_0l, h1_1, h4_0, h4_1))
def zmk : Nat → Int → Int → Int → Int → Nat → Bool → Int → Bool → (List Int) → Bool → Int → (List Int) → Int → Option ((List Int) × Bool × Int × Int)
 | 0, _, _, _, _, _, _, _, _, _, _, _, _, _ => none
 | q + 1, h0_0, h0_1, h0_2, h0_3, h0_4len, h0_5, h0_6, h1_0z, h1_0l, h1_1, h2_0, h3l, h4_0 => ((zlj q ⟨h1_0z, h1_0l⟩).bind fun r2 => (if h1_1 = true then (if 0 ≤ r2.2 then (if r2.2 ≤ (h1_0l.length : Int) then (zmj q h0_0 h0_1 h0_2 h0_3 h0_4len h0_5 h0_6 h1_0z (List.drop r2.2.toNat h1_0l) (decide (0 < r2.2)) h2_0 h3l h4_0 r2.1) else none) else none) else (if 0 ≤ r2.2 then (if r2.2 ≤ (h1_0l.length : Int) then (zmj q h0_0 h0_1 h0_2 h0_3 h0_4len h0_5 h0_6 h1_0z (List.drop r2.2.toNat h1_0l) false h2_0 h3l h4_0 r2.1) else none) else none)))
def zml : Nat → Int → Int → Int → Int → Nat → Bool → Int → Bool → (List Int) → Bool → Int → (List Int) → Option ((List Int) × Bool × Int × Int)
 | 0, _, _, _, _, _, _, _, _, _, _, _, _ => none
 | q + 1, h0_0, h0_1, h0_2, h0_3, h0_4len, h0_5, h0_6, h1_0z, h1_0l, h1_1, h2_0, h3l => ((zlj q ⟨h1_0z, h1_0l⟩).bind fun r1 => (if h1_1 = true then (if 0 ≤ r1.2 then (if r1.2 ≤ (h1_0l.length : Int) then (zmk q h0_0 h0_1 h0_2 h0_3 h0_4len h0_5 h0_6 h1_0z (List.drop r1.2.toNat h1_0l) (decide (0 < r1.2)) h2_0 h3l r1.1) else none) else none) else (if 0 ≤ r1.2 then (if r1.2 ≤ (h1_0l.length : Int) then (zmk q h0_0 h0_1 h0_2 h0_3 h0_4len h0_5 h0_6 h1_0z (List.drop r1.2.toNat h1_0l) false h2_0 h3l r1.1) else none) else none)))
def zmm : Nat → Int → Int → Int → Int → Nat → Bool → Int → Bool → (List Int) → Bool → Int → (List Int) → Option ((List Int) × Bool × Int × Int)
 | 0, _, _, _, _, _, _, _, _, _, _, _, _ => none
 | q + 1, h0_0, h0_1, h0_2, h0_3, h0_4len, h0_5, h0_6, h1_0z, h1_0l, h1_1, h2_0, h3l => (zml q h0_0 h0_1 h0_2 h0_3 h0_4len h0_5 h0_6 h1_0z h1_0l h1_1 h2_0 h3l)
def zmn : Nat → Int → Int → Int → Int → Bool → Int → Bool → (List Int) → Bool → Int → (List zjq) → Int → Int → Option (Nat × (List Int) × Bool × Int × Int)
 | 0, _, _, _, _, _, _, _, _, _, _, _, _, _ => none
 | q + 1, h0_0, h0_1, h0_2, h0_3, h0_5, h0_6, h1_0z, h1_0l, h1_1, h2_0, h3l, h4_0, h4_1 => (some (h3l.length, h1_0l, h1_1, h4_0, h4_1))
def zmo : Nat → Int → Int → Int → Int → Bool → Int → Bool → (List Int) → Bool → Int → (List zjq) → Int → Option (Nat × (List Int) × Bool × Int × Int)
 | 0, _, _, _, _, _, _, _, _, _, _, _, _ => none
 | q + 1, h0_0, h0_1, h0_2, h0_3, h0_5, h0_6, h1_0z, h1_0l, h1_1, h2_0, h3l, h4_0 => ((zlj q ⟨h1_0z, h1_0l⟩).bind fun r2 => (if h1_1 = true then (if 0 ≤ r2.2 then (if r2.2 ≤ (h1_0l.length : Int) then (zmn q h0_0 h0_1 h0_2 h0_3 h0_5 h0_6 h1_0z (List.drop r2.2.toNat h1_0l) (decide (0 < r2.2)) h2_0 h3l h4_0 r2.1) else none) else none) else (if 0 ≤ r2.2 then (if r2.2 ≤ (h1_0l.length : Int) then (zmn q h0_0 h0_1 h0_2 h0_3 h0_5 h0_6 h1_0z (List.drop r2.2.toNat h1_0l) false h2_0 h3l h4_0 r2.1) else none) else none)))
def zmp : Nat → Int → Int → Int → Int → Bool → Int → Bool → (List Int) → Bool → Int → (List zjq) → Option (Nat × (List Int) × Bool × Int × Int)
 | 0, _, _, _, _, _, _, _, _, _, _, _ => none
 | q + 1, h0_0, h0_1, h0_2, h0_3, h0_5, h0_6, h1_0z, h1_0l, h1_1, h2_0, h3l => ((zlj q ⟨h1_0z, h1_0l⟩).bind fun r1 => (if h1_1 = true then (if 0 ≤ r1.2 then (if r1.2 ≤ (h1_0l.length : Int) then (zmo q h0_0 h0_1 h0_2 h0_3 h0_5 h0_6 h1_0z (List.drop r1.2.toNat h1_0l) (decide (0 < r1.2)) h2_0 h3l r1.1) else none) else none) else (if 0 ≤ r1.2 then (if r1.2 ≤ (h1_0l.length : Int) then (zmo q h0_0 h0_1 h0_2 h0_3 h0_5 h0_6 h1_0z (List.drop r1.2.toNat h1_0l) false h2_0 h3l r1.1) else none) else none)))
def zmq : Nat → Int → Int → Int → Int → Bool → Int → Bool → (List Int) → Bool → Int → (List zjq) → Option (Nat × (List Int) × Bool × Int × Int)
 | 0, _, _, _, _, _, _, _, _, _, _, _ => none
 | q + 1, h0_0, h0_1, h0_2, h0_3, h0_5, h0_6, h1_0z, h1_0l, h1_1, h2_0, h3l => (zmp q h0_0 h0_1 h0_2 h0_3 h0_5 h0_6 h1_0z h1_0l h1_1 h2_0 h3l)
def zmr : Nat → Int → Int → Int → Int → Nat → Bool → Int → Bool → (List Int) → Bool → Int → (List Int) → (List zjq) → Int → Int → Option (Nat × (List Int) × Bool × Int × Int)
 | 0, _, _, _, _, _, _, _, _, _, _, _, _, _, _, _ => none
 | q + 1, h0_0, h0_1, h0_2, h0_3, h0_4len, h0_5, h0_6, h1_0z, h1_0l, h1_1, h2_0, h3l, h4l, h5_0, h5_1 => (some (h4l.length, h1_0l, h1_1, h5_0, h5_1))
def zms : Nat → Int → Int → Int → Int → Nat → Bool → Int → Bool → (List Int) → Bool → Int → (List Int) → (List zjq) → Int → Option (Nat × (List Int) × Bool × Int × Int)
 | 0, _, _, _, _, _, _, _, _, _, _, _, _, _, _ => none
 | q + 1, h0_0, h0_1, h0_2, h0_3, h0_4len, h0_5, h0_6, h1_0z, h1_0l, h1_1, h2_0, h3l, h4l, h5_0 => ((zlj q ⟨h1_0z, h1_0l⟩).bind fun r2 => (if h1_1 = true then (if 0 ≤ r2.2 then (if r2.2 ≤ (h1_0l.length : Int) then (zmr q h0_0 h0_1 h0_2 h0_3 h0_4len h0_5 h0_6 h1_0z (List.drop r2.2.toNat h1_0l) (decide (0 < r2.2)) h2_0 h3l h4l h5_0 r2.1) else none) else none) else (if 0 ≤ r2.2 then (if r2.2 ≤ (h1_0l.length : Int) then (zmr q h0_0 h0_1 h0_2 h0_3 h0_4len h0_5 h0_6 h1_0z (List.drop r2.2.toNat h1_0l) false h2_0 h3l h4l h5_0 r2.1) else none) else none)))
def zmt : Nat → Int → Int → Int → Int → Nat → Bool → Int → Bool → (List Int) → Bool → Int → (List Int) → (List zjq) → Option (Nat × (List Int) × Bool × Int × Int)
 | 0, _, _, _, _, _, _, _, _, _, _, _, _, _ => none
 | q + 1, h0_0, h0_1, h0_2, h0_3, h0_4len, h0_5, h0_6, h1_0z, h1_0l, h1_1, h2_0, h3l, h4l => ((zlj q ⟨h1_0z, h1_0l⟩).bind fun r1 => (if h1_1 = true then (if 0 ≤ r1.2 then (if r1.2 ≤ (h1_0l.length : Int) then (zms q h0_0 h0_1 h0_2 h0_3 h0_4len h0_5 h0_6 h1_0z (List.drop r1.2.toNat h1_0l) (decide (0 < r1.2)) h2_0 h3l h4l r1.1) else none) else none) else (if 0 ≤ r1.2 then (if r1.2 ≤ (h1_0l.length : Int) then (zms q h0_0 h0_1 h0_2 h0_3 h0_4len h0_5 h0_6 h1_0z (List.drop r1.2.toNat h1_0l) false h2_0 h3l h4l r1.1) else none) else none)))
def zmu : Nat → Int → Int → Int → Int → Nat → Bool → Int → Bool → (List Int) → Bool → Int → (List Int) → (List zjq) → Option (Nat × (List Int) × Bool × Int × Int)
 | 0, _, _, _, _, _, _, _, _, _, _, _, _, _ => none
 | q + 1, h0_0, h0_1, h0_2, h0_3, h0_4len, h0_5, h0_6, h1_0z, h1_0l, h1_1, h2_0, h3l, h4l => (zmt q h0_0 h0_1 h0_2 h0_3 h0_4len h0_5 h0_6 h1_0z h1_0l h1_1 h2_0 h3l h4l)
def zmv : Nat → Int → Int → Int → Int → Int → Nat → Bool → Int → Bool → (List Int) → Bool → Int → (List Int) → (List zjq) → Option (zjs × Bool)
 | 0, _, _, _, _, _, _, _, _, _, _, _, _, _, _ => none
 | q + 1, v8, h0_0, h0_1, h0_2, h0_3, h0_4len, h0_5, h0_6, h1_0z, h1_0l, h1_1, h2_0, h3l, h4l => (if v8 < h2_0 then (if h1_1 = true then ((zmu q h0_0 h0_1 h0_2 h0_3 h0_4len h0_5 h0_6 h1_0z h1_0l h1_1 h2_0 h3l h4l).bind fun r12 => ((zlz q ⟨h1_0z, r12.2.1⟩).bind fun r13 => (if r12.2.2.1 = true then (if 0 ≤ r13.2 then (if r13.2 ≤ (r12.2.1.length : Int) then (if (h4l.length + 1) ≤ 4294967296 then (zmv q (wrp .i64 (v8 + 1)) h0_0 h0_1 h0_2 h0_3 h0_4len h0_5 h0_6 h1_0z (List.drop r13.2.toNat r12.2.1) (decide (0 < r13.2)) h2_0 h3l (h4l ++ [(⟨r12.2.2.2.1, r12.2.2.2.2, r13.1⟩ : zjq)])) else none) else none) else none) else (if 0 ≤ r13.2 then (if r13.2 ≤ (r12.2.1.length : Int) then (if (h4l.length + 1) ≤ 4294967296 then (zmv q (wrp .i64 (v8 + 1)) h0_0 h0_1 h0_2 h0_3 h0_4len h0_5 h0_6 h1_0z (List.drop r13.2.toNat r12.2.1) false h2_0 h3l (h4l ++ [(⟨r12.2.2.2.1, r12.2.2.2.2, r13.1⟩ : zjq)])) else none) else none) else none)))) else (some ((⟨h0_0, h0_1, h0_2, h0_3, ⟨false, h3l⟩, h0_5, h0_6, ⟨false, h4l⟩⟩ : zjs), false))) else (if h1_1 = true then (some ((⟨h0_0, h0_1, h0_2, h0_3, ⟨false, h3l⟩, h0_5, h0_6, ⟨false, h4l⟩⟩ : zjs), (decide ((h1_0l.length : Int) = 0)))) else (some ((⟨h0_0, h0_1, h0_2, h0_3, ⟨false, h3l⟩, h0_5, h0_6, ⟨false, h4l⟩⟩ : zjs), false))))
def zmw : Nat → Int → Int → Int → Int → Nat → Bool → Int → Bool → (List Int) → Bool → Int → (List Int) → Option (zjs × Bool)
 | 0, _, _, _, _, _, _, _, _, _, _, _, _ => none
 | q + 1, h0_0, h0_1, h0_2, h0_3, h0_4len, h0_5, h0_6, h1_0z, h1_0l, h1_1, h2_0, h3l => (if 0 < h2_0 then (if h1_1 = true then ((zmm q h0_0 h0_1 h0_2 h0_3 h0_4len h0_5 h0_6 h1_0z h1_0l h1_1 h2_0 h3l).bind fun r8 => ((zlz q ⟨h1_0z, r8.1⟩).bind fun r9 => (if r8.2.1 = true then (if 0 ≤ r9.2 then (if r9.2 ≤ (r8.1.length : Int) then (zmv q (wrp .i64 1) h0_0 h0_1 h0_2 h0_3 h0_4len h0_5 h0_6 h1_0z (List.drop r9.2.toNat r8.1) (decide (0 < r9.2)) h2_0 h3l [(⟨r8.2.2.1, r8.2.2.2, r9.1⟩ : zjq)]) else none) else none) else (if 0 ≤ r9.2 then (if r9.2 ≤ (r8.1.length : Int) then (zmv q (wrp .i64 1) h0_0 h0_1 h0_2 h0_3 h0_4len h0_5 h0_6 h1_0z (List.drop r9.2.toNat r8.1) false h2_0 h3l [(⟨r8.2.2.1, r8.2.2.2, r9.1⟩ : zjq)]) else none) else none)))) else (some ((⟨h0_0, h0_1, h0_2, h0_3, ⟨false, h3l⟩, h0_5, h0_6, ⟨true, []⟩⟩ : zjs), false))) else (if h1_1 = true then (some ((⟨h0_0, h0_1, h0_2, h0_3, ⟨false, h3l⟩, h0_5, h0_6, ⟨true, []⟩⟩ : zjs), (decide ((h1_0l.length : Int) = 0)))) else (some ((⟨h0_0, h0_1, h0_2, h0_3, ⟨false, h3l⟩, h0_5, h0_6, ⟨true, []⟩⟩ : zjs), false))))
def zmx : Nat → Int → Int → Int → Int → Int → Int → Bool → (List Int) → Bool → (List Int) → Option (zjs × Bool)
 | 0, _, _, _, _, _, _, _, _, _, _ => none
 | q + 1, v23, v24, h0_0, h0_1, h0_2, h0_3, h1_0z, h1_0l, h1_1, h4l => (if v24 < v23 then ((zlz q ⟨h1_0z, h1_0l⟩).bind fun r4 => (if h1_1 = true then (if 0 ≤ r4.2 then (if r4.2 ≤ (h1_0l.length : Int) then (if (h4l.length + 1) ≤ 4294967296 then (zmx q v23 (wrp .i64 (v24 + 1)) h0_0 h0_1 h0_2 h0_3 h1_0z (List.drop r4.2.toNat h1_0l) (decide (0 < r4.2)) (h4l ++ [r4.1])) else none) else none) else none) else (if 0 ≤ r4.2 then (if r4.2 ≤ (h1_0l.length : Int) then (if (h4l.length + 1) ≤ 4294967296 then (zmx q v23 (wrp .i64 (v24 + 1)) h0_0 h0_1 h0_2 h0_3 h1_0z (List.drop r4.2.toNat h1_0l) false (h4l ++ [r4.1])) else none) else none) else none))) else ((zme q h0_0 h0_1 h0_2 h0_3 h1_0z h1_0l h1_1 h4l).bind fun r5 => (if 3 < r5.2.2.2.1 then (some ((⟨h0_0, h0_1, h0_2, h0_3, ⟨false, h4l⟩, false, 0, ⟨true, []⟩⟩ : zjs), false)) else (zmw q h0_0 h0_1 h0_2 h0_3 r5.1 (decide (0 < r5.2.2.2.1)) (if (wrp .i64 (r5.2.2.2.1 - 1)) < 0 then 0 else (wrp .i64 (r5.2.2.2.1 - 1))) h1_0z r5.2.1 r5.2.2.1 r5.2.2.2.2 h4l))))
def zmy : Nat → Int → Int → Int → Int → Int → Bool → Int → Bool → (List Int) → Bool → Int → (List zjq) → Option (zjs × Bool)
 | 0, _, _, _, _, _, _, _, _, _, _, _, _ => none
 | q + 1, v8, h0_0, h0_1, h0_2, h0_3, h0_5, h0_6, h1_0z, h1_0l, h1_1, h2_0, h3l => (if v8 < h2_0 then (if h1_1 = true then ((zmq q h0_0 h0_1 h0_2 h0_3 h0_5 h0_6 h1_0z h1_0l h1_1 h2_0 h3l).bind fun r10 => ((zlz q ⟨h1_0z, r10.2.1⟩).bind fun r11 => (if r10.2.2.1 = true then (if 0 ≤ r11.2 then (if r11.2 ≤ (r10.2.1.length : Int) then (if (h3l.length + 1) ≤ 4294967296 then (zmy q (wrp .i64 (v8 + 1)) h0_0 h0_1 h0_2 h0_3 h0_5 h0_6 h1_0z (List.drop r11.2.toNat r10.2.1) (decide (0 < r11.2)) h2_0 (h3l ++ [(⟨r10.2.2.2.1, r10.2.2.2.2, r11.1⟩ : zjq)])) else none) else none) else none) else (if 0 ≤ r11.2 then (if r11.2 ≤ (r10.2.1.length : Int) then (if (h3l.length + 1) ≤ 4294967296 then (zmy q (wrp .i64 (v8 + 1)) h0_0 h0_1 h0_2 h0_3 h0_5 h0_6 h1_0z (List.drop r11.2.toNat r10.2.1) false h2_0 (h3l ++ [(⟨r10.2.2.2.1, r10.2.2.2.2, r11.1⟩ : zjq)])) else none) else none) else none)))) else (some ((⟨h0_0, h0_1, h0_2, h0_3, ⟨true, []⟩, h0_5, h0_6, ⟨false, h3l⟩⟩ : zjs), false))) else (if h1_1 = true then (some ((⟨h0_0, h0_1, h0_2, h0_3, ⟨true, []⟩, h0_5, h0_6, ⟨false, h3l⟩⟩ : zjs), (decide ((h1_0l.length : Int) = 0)))) else (some ((⟨h0_0, h0_1, h0_2, h0_3, ⟨true, []⟩, h0_5, h0_6, ⟨false, h3l⟩⟩ : zjs), false))))
def zmz : Nat → Int → Int → Int → Int → Bool → Int → Bool → (List Int) → Bool → Int → Option (zjs × Bool)
 | 0, _, _, _, _, _, _, _, _, _, _ => none
 | q + 1, h0_0, h0_1, h0_2, h0_3, h0_5, h0_6, h1_0z, h1_0l, h1_1, h2_0 => (if 0 < h2_0 then (if h1_1 = true then ((zmi q h0_0 h0_1 h0_2 h0_3 h0_5 h0_6 h1_0z h1_0l h1_1 h2_0).bind fun r6 => ((zlz q ⟨h1_0z, r6.1⟩).bind fun r7 => (if r6.2.1 = true then (if 0 ≤ r7.2 then (if r7.2 ≤ (r6.1.length : Int) then (zmy q (wrp .i64 1) h0_0 h0_1 h0_2 h0_3 h0_5 h0_6 h1_0z (List.drop r7.2.toNat r6.1) (decide (0 < r7.2)) h2_0 [(⟨r6.2.2.1, r6.2.2.2, r7.1⟩ : zjq)]) else none) else none) else (if 0 ≤ r7.2 then (if r7.2 ≤ (r6.1.length : Int) then (zmy q (wrp .i64 1) h0_0 h0_1 h0_2 h0_3 h0_5 h0_6 h1_0z (List.drop r7.2.toNat r6.1) false h2_0 [(⟨r6.2.2.1, r6.2.2.2, r7.1⟩ : zjq)]) else none) else none)))) else (some ((⟨h0_0, h0_1, h0_2, h0_3, ⟨true, []⟩, h0_5, h0_6, ⟨true, []⟩⟩ : zjs), false))) else (if h1_1 = true then (some ((⟨h0_0, h0_1, h0_2, h0_3, ⟨true, []⟩, h0_5, h0_6, ⟨true, []⟩⟩ : zjs), (decide ((h1_0l.length : Int) = 0)))) else (some ((⟨h0_0, h0_1, h0_2, h0_3, ⟨true, []⟩, h0_5, h0_6, ⟨true, []⟩⟩ : zjs), false))))
def zm0 : Nat → Int → Int → Int → Int → Int → Bool → (List Int) → Bool → Option (zjs × Bool)
 | 0, _, _, _, _, _, _, _, _ => none
 | q + 1, v23, h0_0, h0_1, h0_2, h0_3, h1_0z, h1_0l, h1_1 => (if 0 < v23 then ((zlz q ⟨h1_0z, h1_0l⟩).bind fun r2 => (if h1_1 = true then (if 0 ≤ r2.2 then (if r2.2 ≤ (h1_0l.length : Int) then (zmx q v23 (wrp .i64 1) h0_0 h0_1 h0_2 h0_3 h1_0z (List.drop r2.2.toNat h1_0l) (decide (0 < r2.2)) [r2.1]) else none) else none) else (if 0 ≤ r2.2 then (if r2.2 ≤ (h1_0l.length : Int) then (zmx q v23 (wrp .i64 1) h0_0 h0_1 h0_2 h0_3 h1_0z (List.drop r2.2.toNat h1_0l) false [r2.1]) else none) else none))) else ((zma q h0_0 h0_1 h0_2 h0_3 h1_0z h1_0l h1_1).bind fun r3 => (if 3 < r3.2.2.1 then (some ((⟨h0_0, h0_1, h0_2, h0_3, ⟨true, []⟩, false, 0, ⟨true, []⟩⟩ : zjs), false)) else (zmz q h0_0 h0_1 h0_2 h0_3 (decide (0 < r3.2.2.1)) (if (wrp .i64 (r3.2.2.1 - 1)) < 0 then 0 else (wrp .i64 (r3.2.2.1 - 1))) h1_0z r3.1 r3.2.1 r3.2.2.2))))
def zm1 : Nat → (Sl Int) → Option (zjs × Bool)
 | 0, _ => none
 | q + 1, a0 => ((zl6 q a0.z a0.l).bind fun r1 => (if 128 < r1.2.2.2.2.2.2 then (some ((⟨r1.1, r1.2.1, r1.2.2.1, r1.2.2.2.1, ⟨true, []⟩, false, 0, ⟨true, []⟩⟩ : zjs), false)) else (zm0 q r1.2.2.2.2.2.2 r1.1 r1.2.1 r1.2.2.1 r1.2.2.2.1 a0.z r1.2.2.2.2.1 r1.2.2.2.2.2.1)))
def zm2 : Nat → Int → Option (Bool)
 | 0, _ => none
 | q + 1, a0 => (if a0 < 0 then (some true) else (some (decide (4611686018427387904 ≤ a0))))
def zm3 : Nat → Bool → (List Int) → Int → Int → Option (Int)
 | 0, _, _, _, _ => none
 | q + 1, v0z, v0l, v7, v8 => (if v8 < v7 then (if 0 ≤ v8 then ((v0l[v8.toNat]?).bind fun e1 => ((zm2 q e1).bind fun r2 => (if r2 = true then (some v8) else (zm3 q v0z v0l v7 (wrp .i64 (v8 + 1)))))) else none) else (some (-1)))
def zm4 : Nat → Bool → (List Int) → Option (Int)
 | 0, _, _ => none
 | q + 1, v0z, v0l => (zm3 q v0z v0l (v0l.length : Int) 0)
def zm5 : Nat → (Sl Int) → Option (Bool)
 | 0, _ => none
 | q + 1, a0 => ((zm4 q a0.z a0.l).bind fun r1 => (some (!(decide (0 ≤ r1)))))
def zm6 : Nat → Int → Option (Bool)
 | 0, _ => none
 | q + 1, a0 => (if a0 < (-1099511627776) then (some true) else (some (decide (1099511627776 < a0))))
def zm7 : Nat → Bool → (List zjq) → Bool → (List zjq) → Int → Int → Option (Bool)
 | 0, _, _, _, _, _, _ => none
 | q + 1, v0z, v0l, v5z, v5l, v6, v7 => (if v7 < v6 then (if 0 ≤ v7 then ((v5l[v7.toNat]?).bind fun e1 => ((zm5 q ⟨false, [e1.Proc, e1.Seq]⟩).bind fun r2 => (if r2 = true then (if 64 < e1.Proc then (some false) else (if e1.Resp < (-1125899906842624) then (some false) else (if 1125899906842624 < e1.Resp then (some false) else (if 0 < v7 then (if 0 ≤ (wrp .i64 (v7 - 1)) then ((v0l[(wrp .i64 (v7 - 1)).toNat]?).bind fun e3 => (if e1.Proc ≤ e3.Proc then (some false) else (zm7 q v0z v0l v5z v5l v6 (wrp .i64 (v7 + 1))))) else none) else (zm7 q v0z v0l v5z v5l v6 (wrp .i64 (v7 + 1))))))) else (some false)))) else none) else (some true))
def zm8 : Nat → (Sl zjq) → Option (Bool)
 | 0, _ => none
 | q + 1, a0 => (zm7 q a0.z a0.l a0.z a0.l (a0.l.length : Int) 0)
def zm9 : Nat → Bool → (List Int) → Int → Int → Int → Int → Int → Int → Bool → (List Int) → Bool → Int → Bool → (List zjq) → (List Int) → Option (Int)
 | 0, _, _, _, _, _, _, _, _, _, _, _, _, _, _, _ => none
 | q + 1, v0z, v0l, v7, v8, h0_0, h0_1, h0_2, h0_3, h0_4z, h0_4l, h0_5, h0_6, h0_7z, h0_7l, h1l => (if v8 < v7 then (if 0 ≤ v8 then ((v0l[v8.toNat]?).bind fun e1 => ((zm6 q e1).bind fun r2 => (if r2 = true then (some v8) else (zm9 q v0z v0l v7 (wrp .i64 (v8 + 1)) h0_0 h0_1 h0_2 h0_3 h0_4z h0_4l h0_5 h0_6 h0_7z h0_7l h1l)))) else none) else (some (-1)))
def zna : Nat → Bool → (List Int) → Int → Int → Int → Int → Bool → (List Int) → Bool → Int → Bool → (List zjq) → (List Int) → Option (Int)
 | 0, _, _, _, _, _, _, _, _, _, _, _, _, _ => none
 | q + 1, v0z, v0l, h0_0, h0_1, h0_2, h0_3, h0_4z, h0_4l, h0_5, h0_6, h0_7z, h0_7l, h1l => (zm9 q v0z v0l (v0l.length : Int) 0 h0_0 h0_1 h0_2 h0_3 h0_4z h0_4l h0_5 h0_6 h0_7z h0_7l h1l)
def znb : Nat → zjs → Option (Bool)
 | 0, _ => none
 | q + 1, a0 => ((zm5 q ⟨false, [a0.From, a0.To, a0.Ahead, a0.Behind]⟩).bind fun r1 => (if r1 = true then (if (a0.Mid.l.length : Int) ≤ 128 then ((zna q a0.Mid.z a0.Mid.l a0.From a0.To a0.Ahead a0.Behind a0.Mid.z a0.Mid.l a0.Sealed a0.Engine a0.Table.z a0.Table.l [a0.From, a0.To, a0.Ahead, a0.Behind]).bind fun r2 => (if 0 ≤ r2 then (some false) else (if 0 ≤ a0.Engine then (if a0.Engine < 3 then (if a0.Sealed = true then ((zm8 q a0.Table).bind fun r3 => (some r3)) else (if a0.Engine = 0 then ((zm8 q a0.Table).bind fun r4 => (some r4)) else (some false))) else (some false)) else (some false)))) else (some false)) else (some false)))
def znc : Nat → (Sl Int) → Option (zjs × Int)
 | 0, _ => none
 | q + 1, a0 => ((zlx q a0).bind fun r1 => (if r1.2.2 = 0 then (if r1.2.1 = (a0.l.length : Int) then ((zm1 q ⟨r1.1.n, r1.1.xs⟩).bind fun r2 => (if r2.2 = true then ((znb q r2.1).bind fun r3 => (if r3 = true then (some (r2.1, 0)) else (some ((⟨0, 0, 0, 0, ⟨true, []⟩, false, 0, ⟨true, []⟩⟩ : zjs), 1)))) else (some ((⟨0, 0, 0, 0, ⟨true, []⟩, false, 0, ⟨true, []⟩⟩ : zjs), 3)))) else (some ((⟨0, 0, 0, 0, ⟨true, []⟩, false, 0, ⟨true, []⟩⟩ : zjs), 16))) else (some ((⟨0, 0, 0, 0, ⟨true, []⟩, false, 0, ⟨true, []⟩⟩ : zjs), r1.2.2))))
def znd : Nat → Int → Bool → (List Int) → Bool → Option ((Ow Int))
 | 0, _, _, _, _ => none
 | q + 1, v1, h0z, h0l, h0x => (if 128 ≤ v1 then (if (h0l.length + 1) ≤ 4294967296 then (znd q (ishr .u64 v1 7) false (h0l ++ [(ibits .or .u8 (wrp .u8 v1) 128)]) h0x) else none) else (if (h0l.length + 1) ≤ 4294967296 then (some ⟨false, h0x, (h0l ++ [(wrp .u8 v1)])⟩) else none))
def zne : Nat → (Ow Int) → Int → Option ((Ow Int))
 | 0, _, _ => none
 | q + 1, a0, a1 => (znd q a1 a0.n a0.xs a0.x)
def znf : Nat → (Ow Int) → Int → Option ((Ow Int))
 | 0, _, _ => none
 | q + 1, a0, a1 => (if a1 < 0 then (some a0) else (if 4611686018427387904 ≤ a1 then (some a0) else ((zne q a0 (wrp .u64 a1)).bind fun r1 => (some r1))))
def zng : Nat → Bool → (List Int) → Int → Int → Bool → (List Int) → Bool → Option ((Ow Int))
 | 0, _, _, _, _, _, _, _ => none
 | q + 1, v7z, v7l, v8, v9, h1z, h1l, h1x => (if v9 < v8 then (if 0 ≤ v9 then ((v7l[v9.toNat]?).bind fun e3 => ((znf q ⟨h1z, h1x, h1l⟩ e3).bind fun r4 => (zng q v7z v7l v8 (wrp .i64 (v9 + 1)) r4.n r4.xs r4.x))) else none) else (some ⟨h1z, h1x, h1l⟩))
def znh : Nat → Bool → (List Int) → Int → Bool → (List Int) → Bool → Option ((Ow Int))
 | 0, _, _, _, _, _, _ => none
 | q + 1, v7z, v7l, v8, h0z, h0l, h0x => (if 0 < v8 then ((v7l[0]?).bind fun e1 => ((znf q ⟨h0z, h0x, h0l⟩ e1).bind fun r2 => (zng q v7z v7l v8 (wrp .i64 1) r2.n r2.xs r2.x))) else (some ⟨h0z, h0x, h0l⟩))
def zni : Nat → (Ow Int) → (Sl Int) → Option ((Ow Int))
 | 0, _, _ => none
 | q + 1, a0, a1 => (znh q a1.z a1.l (a1.l.length : Int) a0.n a0.xs a0.x)
def znj : Nat → Int → Option (Int)
 | 0, _ => none
 | q + 1, a0 => (some (ibits .xor .u64 (ishl .u64 (wrp .u64 a0) 1) (wrp .u64 (ishr .i64 a0 63))))
def znk : Nat → (Ow Int) → Int → Option ((Ow Int))
 | 0, _, _ => none
 | q + 1, a0, a1 => ((znj q a1).bind fun r1 => ((zne q a0 r1).bind fun r2 => (some r2)))
def znl : Nat → Nat → Bool → (List (Sl Int)) → Int → Int → Bool → (List Int) → Option ((Ow Int))
 | 0, _, _, _, _, _, _, _ => none
 | q + 1, v6len, v25z, v25l, v26, v27, h0z, h0l => (if v27 < v26 then (if 0 ≤ v27 then ((v25l[v27.toNat]?).bind fun e2 => (if (v6len + e2.l.length) ≤ h0l.length then (znl q (v6len + e2.l.length) v25z v25l v26 (wrp .i64 (v27 + 1)) h0z (((List.take v6len h0l) ++ e2.l) ++ (List.drop (v6len + e2.l.length) h0l))) else none)) else none) else (some ⟨h0z, true, (List.take v6len h0l)⟩))
def znm : Nat → Bool → (List (Sl Int)) → Int → Int → Bool → (List Int) → Option ((Ow Int))
 | 0, _, _, _, _, _, _ => none
 | q + 1, v25z, v25l, v26, v27, h0z, h0l => (if v27 < v26 then (if 0 ≤ v27 then ((v25l[v27.toNat]?).bind fun e4 => (if (h0l.length + e4.l.length) ≤ 4294967296 then (znm q v25z v25l v26 (wrp .i64 (v27 + 1)) (h0z && (decide (e4.l.length = 0))) (h0l ++ e4.l)) else none)) else none) else (some ⟨h0z, true, h0l⟩))
def znn : Nat → Bool → (List (Sl Int)) → Int → Option ((Ow Int))
 | 0, _, _, _ => none
 | q + 1, v25z, v25l, v26 => (if 0 < v26 then ((v25l[0]?).bind fun e3 => (if e3.l.length ≤ 4294967296 then (znm q v25z v25l v26 (wrp .i64 1) (decide (e3.l.length = 0)) e3.l) else none)) else (some ⟨true, true, []⟩))
def zno : Nat → Bool → (List (Sl Int)) → Int → Bool → (List (Sl Int)) → Int → Int → Option ((Ow Int))
 | 0, _, _, _, _, _, _, _ => none
 | q + 1, v0z, v0l, v3, v9z, v9l, v10, v11 => (if v11 < v10 then (if 0 ≤ v11 then ((v9l[v11.toNat]?).bind fun e1 => (if (wrp .i64 (v3 + (e1.l.length : Int))) < 0 then none else (zno q v0z v0l (wrp .i64 (v3 + (e1.l.length : Int))) v9z v9l v10 (wrp .i64 (v11 + 1))))) else none) else (if v3 < 0 then none else (if 0 < (wrp .i64 (v3 - (wrp .i64 0))) then (if 0 ≤ (wrp .i64 (v3 - (wrp .i64 0))) then (if (wrp .i64 (v3 - (wrp .i64 0))).toNat ≤ 4294967296 then (if (wrp .i64 (v3 - (wrp .i64 0))) = 0 then none else (znl q 0 v0z v0l (v0l.length : Int) 0 (decide ((wrp .i64 (v3 - (wrp .i64 0))) = 0)) (List.replicate ((wrp .i64 (v3 - (wrp .i64 0))).toNat) 0))) else none) else none) else (znn q v0z v0l (v0l.length : Int)))))
def znp : Nat → (Sl (Sl Int)) → Option ((Ow Int))
 | 0, _ => none
 | q + 1, a0 => (zno q a0.z a0.l 0 a0.z a0.l (a0.l.length : Int) 0)
def znq : Nat → (Sl Int) → Option ((Ow Int) × Int)
 | 0, _ => none
 | q + 1, a0 => (if 1048576 < (a0.l.length : Int) then (some (⟨true, true, []⟩, 5)) else ((znf q ⟨true, true, []⟩ (a0.l.length : Int)).bind fun r1 => ((zlt q ⟨r1.n, r1.xs⟩ a0).bind fun r2 => ((znp q ⟨false, [⟨r1.n, r1.xs⟩, a0, ⟨r2.n, r2.xs⟩]⟩).bind fun r3 => (some (r3, 0))))))
def znr : Nat → Bool → (List zjq) → Int → Int → Bool → (List Int) → Bool → Option ((Ow Int) × Int)
 | 0, _, _, _, _, _, _, _ => none
 | q + 1, v50z, v50l, v51, v52, h0z, h0l, h0x => (if v52 < v51 then (if 0 ≤ v52 then ((v50l[v52.toNat]?).bind fun e7 => ((zni q ⟨h0z, h0x, h0l⟩ ⟨false, [e7.Proc, e7.Seq]⟩).bind fun r8 => ((znk q r8 e7.Resp).bind fun r9 => (znr q v50z v50l v51 (wrp .i64 (v52 + 1)) r9.n r9.xs r9.x)))) else none) else ((znq q ⟨h0z, h0l⟩).bind fun r10 => (some (r10.1, r10.2))))
def zns : Nat → Bool → (List Int) → Int → Int → Int → Int → Int → Int → Bool → (List Int) → Bool → Int → Bool → (List zjq) → Bool → (List Int) → Bool → Option ((Ow Int) × Int)
 | 0, _, _, _, _, _, _, _, _, _, _, _, _, _, _, _, _, _ => none
 | q + 1, v27z, v27l, v28, v29, h0_0, h0_1, h0_2, h0_3, h0_4z, h0_4l, h0_5, h0_6, h0_7z, h0_7l, h1z, h1l, h1x => (if v29 < v28 then (if 0 ≤ v29 then ((v27l[v29.toNat]?).bind fun e3 => ((znk q ⟨h1z, h1x, h1l⟩ e3).bind fun r4 => (zns q v27z v27l v28 (wrp .i64 (v29 + 1)) h0_0 h0_1 h0_2 h0_3 h0_4z h0_4l h0_5 h0_6 h0_7z h0_7l r4.n r4.xs r4.x))) else none) else (if h0_5 = true then ((zni q ⟨h1z, h1x, h1l⟩ ⟨false, [(wrp .i64 (1 + h0_6)), (h0_7l.length : Int)]⟩).bind fun r5 => (znr q h0_7z h0_7l (h0_7l.length : Int) 0 r5.n r5.xs r5.x)) else ((zni q ⟨h1z, h1x, h1l⟩ ⟨false, [0, (h0_7l.length : Int)]⟩).bind fun r6 => (znr q h0_7z h0_7l (h0_7l.length : Int) 0 r6.n r6.xs r6.x))))
def znt : Nat → zjs → Option ((Ow Int) × Int)
 | 0, _ => none
 | q + 1, a0 => ((znb q a0).bind fun r1 => (if r1 = true then ((zni q ⟨true, true, []⟩ ⟨false, [a0.From, a0.To, a0.Ahead, a0.Behind, (a0.Mid.l.length : Int)]⟩).bind fun r2 => (zns q a0.Mid.z a0.Mid.l (a0.Mid.l.length : Int) 0 a0.From a0.To a0.Ahead a0.Behind a0.Mid.z a0.Mid.l a0.Sealed a0.Engine a0.Table.z a0.Table.l r2.n r2.xs r2.x)) else (some (⟨true, true, []⟩, 1))))
def znu : Nat → zjs → Option (Bool)
 | 0, _ => none
 | q + 1, a0 => (if (a0.Mid.l.length : Int) ≤ 300 then (some (decide ((a0.Table.l.length : Int) ≤ 100))) else (some false))
def znv : Nat → Int → Option (Bool)
 | 0, _ => none
 | q + 1, a0 => (if 0 ≤ a0 then (some (decide (a0 < 4611686018427387904))) else (some false))
def znw : Nat → Int → Int → Int → Int → Int → Bool → (List Int) → Bool → Int → Bool → (List zjq) → Option (Bool)
 | 0, _, _, _, _, _, _, _, _, _, _, _ => none
 | q + 1, v8, h0_0, h0_1, h0_2, h0_3, h0_4z, h0_4l, h0_5, h0_6, h0_7z, h0_7l => (if v8 < (h0_4l.length : Int) then (if 0 ≤ v8 then ((h0_4l[v8.toNat]?).bind fun e6 => (if e6 < (-1099511627776) then (some false) else (if 1099511627776 < e6 then (some false) else (znw q (wrp .i64 (v8 + 1)) h0_0 h0_1 h0_2 h0_3 h0_4z h0_4l h0_5 h0_6 h0_7z h0_7l)))) else none) else (some true))
def znx : Nat → zjs → Option (Bool)
 | 0, _ => none
 | q + 1, a0 => ((znv q a0.From).bind fun r1 => ((znv q a0.To).bind fun r2 => ((znv q a0.Ahead).bind fun r3 => ((znv q a0.Behind).bind fun r4 => ((zk9 q a0.Table).bind fun r5 => (if r1 = true then (if r2 = true then (if r3 = true then (if r4 = true then (if r5 = true then (if 128 < (a0.Mid.l.length : Int) then (some false) else (if a0.Engine < 0 then (some false) else (if 2 < a0.Engine then (some false) else (if a0.Sealed = true then (znw q 0 a0.From a0.To a0.Ahead a0.Behind a0.Mid.z a0.Mid.l a0.Sealed a0.Engine a0.Table.z a0.Table.l) else (if a0.Engine = 0 then (znw q 0 a0.From a0.To a0.Ahead a0.Behind a0.Mid.z a0.Mid.l a0.Sealed a0.Engine a0.Table.z a0.Table.l) else (some false)))))) else (some false)) else (some false)) else (some false)) else (some false)) else (some false)))))))
def zny : Nat → Int → Bool → (List Int) → Option ((Ow Int))
 | 0, _, _, _ => none
 | q + 1, v0, h0z, h0l => (if 127 < v0 then (if (h0l.length + 1) ≤ 4294967296 then (zny q (wrp .u64 (Int.tdiv v0 128)) false (h0l ++ [(wrp .u8 (wrp .u64 ((Int.tmod v0 128) + 128)))])) else none) else (if (h0l.length + 1) ≤ 4294967296 then (some ⟨false, true, (h0l ++ [(wrp .u8 v0)])⟩) else none))
def znz : Nat → Int → Option ((Ow Int))
 | 0, _ => none
 | q + 1, a0 => (zny q a0 true [])
def zn0 : Nat → (Sl Int) → Int → Option ((Ow Int))
 | 0, _, _ => none
 | q + 1, a0, a1 => (if a0.l.length ≤ 4294967296 then (if a1 < 0 then (some ⟨(decide (a0.l.length = 0)), true, a0.l⟩) else (if 4611686018427387904 ≤ a1 then (some ⟨(decide (a0.l.length = 0)), true, a0.l⟩) else ((znz q (wrp .u64 a1)).bind fun r1 => (if (a0.l.length + r1.xs.length) ≤ 4294967296 then (some ⟨((decide (a0.l.length = 0)) && (decide (r1.xs.length = 0))), true, (a0.l ++ r1.xs)⟩) else none)))) else none)
def zn1 : Nat → Int → Option (Int)
 | 0, _ => none
 | q + 1, a0 => (if 0 ≤ a0 then (some (wrp .u64 ((wrp .u64 a0) * 2))) else (some (wrp .u64 ((wrp .u64 ((wrp .u64 (wrp .i64 (0 - (wrp .i64 (a0 + 1))))) * 2)) + 1))))
def zn2 : Nat → (Sl Int) → Int → Option ((Ow Int))
 | 0, _, _ => none
 | q + 1, a0, a1 => (if a0.l.length ≤ 4294967296 then ((zn1 q a1).bind fun r1 => ((znz q r1).bind fun r2 => (if (a0.l.length + r2.xs.length) ≤ 4294967296 then (some ⟨((decide (a0.l.length = 0)) && (decide (r2.xs.length = 0))), true, (a0.l ++ r2.xs)⟩) else none))) else none)
def zn3 : Nat → Int → Int → Option (Int)
 | 0, _, _ => none
 | q + 1, v3, v4 => (if v4 < 8 then (if (Int.tmod v3 2) = 1 then (zn3 q (ibits .xor .u32 (wrp .u32 (Int.tdiv v3 2)) 2197175160) (wrp .i64 (v4 + 1))) else (zn3 q (wrp .u32 (Int.tdiv v3 2)) (wrp .i64 (v4 + 1)))) else (some v3))
def zn4 : Nat → Int → Option (Int)
 | 0, _ => none
 | q + 1, a0 => (zn3 q (wrp .u32 a0) 0)
def zn5 : Nat → Bool → (List Int) → Int → Int → Option (Int)
 | 0, _, _, _, _ => none
 | q + 1, v1z, v1l, v5, v6 => (if v6 < (v1l.length : Int) then (if 0 ≤ v6 then ((v1l[v6.toNat]?).bind fun e1 => ((zn4 q (ibits .xor .u8 (wrp .u8 v5) e1)).bind fun r2 => (zn5 q v1z v1l (ibits .xor .u32 r2 (wrp .u32 (Int.tdiv v5 256))) (wrp .i64 (v6 + 1))))) else none) else (some (ibits .xor .u32 4294967295 v5)))
def zn6 : Nat → Int → (Sl Int) → Option (Int)
 | 0, _, _ => none
 | q + 1, a0, a1 => (zn5 q a1.z a1.l (ibits .xor .u32 4294967295 a0) 0)
def zn7 : Nat → (Sl Int) → Option (Int)
 | 0, _ => none
 | q + 1, a0 => ((zn6 q 0 a0).bind fun r1 => (some r1))
def zn8 : Nat → Int → Int → Int → Bool → (List Int) → Option ((Ow Int))
 | 0, _, _, _, _, _ => none
 | q + 1, v0, v1, v6, h0z, h0l => (if v6 < v1 then (if (h0l.length + 1) ≤ 4294967296 then (zn8 q (wrp .u64 (Int.tdiv v0 256)) v1 (wrp .i64 (v6 + 1)) false (h0l ++ [(wrp .u8 (Int.tmod v0 256))])) else none) else (some ⟨h0z, true, h0l⟩))
def zn9 : Nat → Int → Int → Option ((Ow Int))
 | 0, _, _ => none
 | q + 1, a0, a1 => (zn8 q a0 a1 0 true [])
def zoa : Nat → (Sl Int) → Option ((Ow Int) × Int)
 | 0, _ => none
 | q + 1, a0 => (if 1048576 < (a0.l.length : Int) then (some (⟨true, true, []⟩, 5)) else ((zn0 q ⟨true, []⟩ (a0.l.length : Int)).bind fun r1 => ((zn7 q ⟨r1.n, r1.xs⟩).bind fun r2 => ((zn6 q r2 a0).bind fun r3 => (if r1.xs.length ≤ 4294967296 then (if (r1.xs.length + a0.l.length) ≤ 4294967296 then ((zn9 q (wrp .u64 r3) 4).bind fun r4 => (if ((r1.xs.length + a0.l.length) + r4.xs.length) ≤ 4294967296 then (some (⟨(((decide (r1.xs.length = 0)) && (decide (a0.l.length = 0))) && (decide (r4.xs.length = 0))), true, ((r1.xs ++ a0.l) ++ r4.xs)⟩, 0)) else none)) else none) else none)))))
def zob : Nat → Int → Int → Int → Int → Int → Bool → (List Int) → Bool → Int → Bool → (List zjq) → Bool → (List Int) → Bool → Option ((Ow Int) × Int)
 | 0, _, _, _, _, _, _, _, _, _, _, _, _, _, _ => none
 | q + 1, v8, h0_0, h0_1, h0_2, h0_3, h0_4z, h0_4l, h0_5, h0_6, h0_7z, h0_7l, h1z, h1l, h1x => (if v8 < (h0_7l.length : Int) then (if 0 ≤ v8 then ((h0_7l[v8.toNat]?).bind fun e13 => ((zn0 q ⟨h1z, h1l⟩ e13.Proc).bind fun r14 => ((zn0 q ⟨r14.n, r14.xs⟩ e13.Seq).bind fun r15 => ((zn2 q ⟨r15.n, r15.xs⟩ e13.Resp).bind fun r16 => (zob q (wrp .i64 (v8 + 1)) h0_0 h0_1 h0_2 h0_3 h0_4z h0_4l h0_5 h0_6 h0_7z h0_7l r16.n r16.xs r16.x))))) else none) else ((zoa q ⟨h1z, h1l⟩).bind fun r17 => (some (r17.1, r17.2))))
def zoc : Nat → Int → Int → Int → Int → Int → Bool → (List Int) → Bool → Int → Bool → (List zjq) → Bool → (List Int) → Bool → Option ((Ow Int) × Int)
 | 0, _, _, _, _, _, _, _, _, _, _, _, _, _, _ => none
 | q + 1, v6, h0_0, h0_1, h0_2, h0_3, h0_4z, h0_4l, h0_5, h0_6, h0_7z, h0_7l, h1z, h1l, h1x => (if v6 < (h0_4l.length : Int) then (if 0 ≤ v6 then ((h0_4l[v6.toNat]?).bind fun e7 => ((zn2 q ⟨h1z, h1l⟩ e7).bind fun r8 => (zoc q (wrp .i64 (v6 + 1)) h0_0 h0_1 h0_2 h0_3 h0_4z h0_4l h0_5 h0_6 h0_7z h0_7l r8.n r8.xs r8.x))) else none) else (if h0_5 = true then ((zn0 q ⟨h1z, h1l⟩ (wrp .i64 (h0_6 + 1))).bind fun r9 => ((zn0 q ⟨r9.n, r9.xs⟩ (h0_7l.length : Int)).bind fun r10 => (zob q 0 h0_0 h0_1 h0_2 h0_3 h0_4z h0_4l h0_5 h0_6 h0_7z h0_7l r10.n r10.xs r10.x))) else ((zn0 q ⟨h1z, h1l⟩ 0).bind fun r11 => ((zn0 q ⟨r11.n, r11.xs⟩ (h0_7l.length : Int)).bind fun r12 => (zob q 0 h0_0 h0_1 h0_2 h0_3 h0_4z h0_4l h0_5 h0_6 h0_7z h0_7l r12.n r12.xs r12.x)))))
def zod : Nat → zjs → Option ((Ow Int) × Int)
 | 0, _ => none
 | q + 1, a0 => ((znx q a0).bind fun r1 => (if r1 = true then ((zn0 q ⟨true, []⟩ a0.From).bind fun r2 => ((zn0 q ⟨r2.n, r2.xs⟩ a0.To).bind fun r3 => ((zn0 q ⟨r3.n, r3.xs⟩ a0.Ahead).bind fun r4 => ((zn0 q ⟨r4.n, r4.xs⟩ a0.Behind).bind fun r5 => ((zn0 q ⟨r5.n, r5.xs⟩ (a0.Mid.l.length : Int)).bind fun r6 => (zoc q 0 a0.From a0.To a0.Ahead a0.Behind a0.Mid.z a0.Mid.l a0.Sealed a0.Engine a0.Table.z a0.Table.l r6.n r6.xs r6.x)))))) else (some (⟨true, true, []⟩, 1))))
def zoe : Nat → Bool → (List Int) → Int → Option (Bool)
 | 0, _, _, _ => none
 | q + 1, v0z, v0l, v3 => (if v3 < (v0l.length : Int) then (if 0 ≤ v3 then ((v0l[v3.toNat]?).bind fun e1 => (if e1 < 128 then (some false) else (zoe q v0z v0l (wrp .i64 (v3 + 1))))) else none) else (some (decide ((v0l.length : Int) < 10))))
def zof : Nat → (Sl Int) → Option (Bool)
 | 0, _ => none
 | q + 1, a0 => (zoe q a0.z a0.l 0)
def zog : Nat → Bool → (List Int) → Int → Int → Int → Option (Int × Int)
 | 0, _, _, _, _, _ => none
 | q + 1, v0z, v0l, v4, v5, v6 => (if v6 < (v0l.length : Int) then (if v6 < 10 then (if 0 ≤ v6 then ((v0l[v6.toNat]?).bind fun e1 => (if v6 = 9 then (if 1 < (wrp .u64 (Int.tmod e1 128)) then (some (0, 0)) else (if e1 < 128 then (if 0 < v6 then (if (wrp .u64 (Int.tmod e1 128)) = 0 then (some (0, 0)) else (some ((wrp .u64 (v4 + (wrp .u64 ((wrp .u64 (Int.tmod e1 128)) * v5)))), (wrp .i64 (v6 + 1))))) else (some ((wrp .u64 (v4 + (wrp .u64 ((wrp .u64 (Int.tmod e1 128)) * v5)))), (wrp .i64 (v6 + 1))))) else (zog q v0z v0l (wrp .u64 (v4 + (wrp .u64 ((wrp .u64 (Int.tmod e1 128)) * v5)))) (wrp .u64 (v5 * 128)) (wrp .i64 (v6 + 1))))) else (if e1 < 128 then (if 0 < v6 then (if (wrp .u64 (Int.tmod e1 128)) = 0 then (some (0, 0)) else (some ((wrp .u64 (v4 + (wrp .u64 ((wrp .u64 (Int.tmod e1 128)) * v5)))), (wrp .i64 (v6 + 1))))) else (some ((wrp .u64 (v4 + (wrp .u64 ((wrp .u64 (Int.tmod e1 128)) * v5)))), (wrp .i64 (v6 + 1))))) else (zog q v0z v0l (wrp .u64 (v4 + (wrp .u64 ((wrp .u64 (Int.tmod e1 128)) * v5)))) (wrp .u64 (v5 * 128)) (wrp .i64 (v6 + 1)))))) else none) else (some (0, 0))) else (some (0, 0)))
def zoh : Nat → (Sl Int) → Option (Int × Int)
 | 0, _ => none
 | q + 1, a0 => (zog q a0.z a0.l 0 1 0)
def zoi : Nat → (Sl Int) → Option (Int × Int)
 | 0, _ => none
 | q + 1, a0 => ((zoh q a0).bind fun r1 => (if r1.2 = 0 then (some (0, 0)) else (if 4611686018427387904 ≤ r1.1 then (some (0, 0)) else (some ((wrp .i64 r1.1), r1.2)))))
def zoj : Nat → Bool → (List Int) → Int → Int → Option (Int)
 | 0, _, _, _, _ => none
 | q + 1, v0z, v0l, v3, v4 => (if 0 ≤ v4 then (if v4 < (v0l.length : Int) then ((v0l[v4.toNat]?).bind fun e1 => (zoj q v0z v0l (wrp .u64 ((wrp .u64 (v3 * 256)) + (wrp .u64 e1))) (wrp .i64 (v4 - 1)))) else (zoj q v0z v0l v3 (wrp .i64 (v4 - 1)))) else (some v3))
def zok : Nat → (Sl Int) → Option (Int)
 | 0, _ => none
 | q + 1, a0 => (zoj q a0.z a0.l 0 7)
def zol : Nat → (Sl Int) → Option ((Ow Int) × Int × Int)
 | 0, _ => none
 | q + 1, a0 => ((zof q a0).bind fun r1 => (if r1 = true then (some (⟨true, true, []⟩, 0, 2)) else ((zoi q a0).bind fun r2 => (if r2.2 = 0 then (some (⟨true, true, []⟩, 0, 3)) else (if 1048576 < r2.1 then (some (⟨true, true, []⟩, 0, 5)) else (if (a0.l.length : Int) < (wrp .i64 ((wrp .i64 (r2.2 + 4)) + r2.1)) then (some (⟨true, true, []⟩, 0, 2)) else (if 0 ≤ r2.2 then (if r2.2 ≤ (wrp .i64 (r2.2 + r2.1)) then (if (wrp .i64 (r2.2 + r2.1)).toNat ≤ a0.l.length then (if 0 ≤ (wrp .i64 (r2.2 + r2.1)) then ((zn7 q ⟨a0.z, (List.take ((wrp .i64 (r2.2 + r2.1)).toNat) a0.l)⟩).bind fun r3 => (if (wrp .i64 (r2.2 + r2.1)) ≤ (wrp .i64 ((wrp .i64 (r2.2 + r2.1)) + 4)) then (if (wrp .i64 ((wrp .i64 (r2.2 + r2.1)) + 4)).toNat ≤ a0.l.length then ((zok q ⟨a0.z, (List.drop ((wrp .i64 (r2.2 + r2.1)).toNat) (List.take ((wrp .i64 ((wrp .i64 (r2.2 + r2.1)) + 4)).toNat) a0.l))⟩).bind fun r4 => (if r4 = (wrp .u64 r3) then (if ((min ((wrp .i64 (r2.2 + r2.1)).toNat) a0.l.length) - r2.2.toNat) ≤ 4294967296 then (some (⟨(decide (((min ((wrp .i64 (r2.2 + r2.1)).toNat) a0.l.length) - r2.2.toNat) = 0)), true, (List.drop r2.2.toNat (List.take ((wrp .i64 (r2.2 + r2.1)).toNat) a0.l))⟩, (wrp .i64 ((wrp .i64 (r2.2 + 4)) + r2.1)), 0)) else none) else (some (⟨true, true, []⟩, 0, 4)))) else none) else none)) else none) else none) else none) else none)))))))
def zom : Nat → Int → Option (Int)
 | 0, _ => none
 | q + 1, a0 => (if (Int.tmod a0 2) = 0 then (some (wrp .i64 (wrp .u64 (Int.tdiv a0 2)))) else (some (wrp .i64 ((wrp .i64 (0 - (wrp .i64 (wrp .u64 (Int.tdiv a0 2))))) - 1))))
def zon : Nat → (Sl Int) → Option (Int × Int)
 | 0, _ => none
 | q + 1, a0 => ((zoh q a0).bind fun r1 => (if r1.2 = 0 then (some (0, 0)) else ((zom q r1.1).bind fun r2 => (some (r2, r1.2)))))
def zoo : Nat → Int → Int → Bool → (List Int) → Bool → Int → Int → Int → Int → Bool → Int → (List Int) → (List zjq) → Option (zjs × Bool)
 | 0, _, _, _, _, _, _, _, _, _, _, _, _, _ => none
 | q + 1, v10, v11, h1_0z, h1_0l, h1_1, h2_0, h2_1, h2_2, h2_3, h2_5, h2_6, h3l, h4l => (if v11 < v10 then (if h1_1 = true then ((zoi q ⟨h1_0z, h1_0l⟩).bind fun r36 => (if 0 ≤ r36.2 then (if r36.2 ≤ (h1_0l.length : Int) then ((zoi q ⟨h1_0z, (List.drop r36.2.toNat h1_0l)⟩).bind fun r37 => (if 0 < r36.2 then (if 0 ≤ r37.2 then (if r37.2 ≤ (((h1_0l.length - r36.2.toNat) : Nat) : Int) then ((zon q ⟨h1_0z, (List.drop r37.2.toNat (List.drop r36.2.toNat h1_0l))⟩).bind fun r38 => (if 0 < r37.2 then (if 0 ≤ r38.2 then (if r38.2 ≤ ((((h1_0l.length - r36.2.toNat) - r37.2.toNat) : Nat) : Int) then (if (h4l.length + 1) ≤ 4294967296 then (zoo q v10 (wrp .i64 (v11 + 1)) h1_0z (List.drop r38.2.toNat (List.drop r37.2.toNat (List.drop r36.2.toNat h1_0l))) (decide (0 < r38.2)) h2_0 h2_1 h2_2 h2_3 h2_5 h2_6 h3l (h4l ++ [(⟨r36.1, r37.1, r38.1⟩ : zjq)])) else none) else none) else none) else (if 0 ≤ r38.2 then (if r38.2 ≤ ((((h1_0l.length - r36.2.toNat) - r37.2.toNat) : Nat) : Int) then (if (h4l.length + 1) ≤ 4294967296 then (zoo q v10 (wrp .i64 (v11 + 1)) h1_0z (List.drop r38.2.toNat (List.drop r37.2.toNat (List.drop r36.2.toNat h1_0l))) false h2_0 h2_1 h2_2 h2_3 h2_5 h2_6 h3l (h4l ++ [(⟨r36.1, r37.1, r38.1⟩ : zjq)])) else none) else none) else none))) else none) else none) else (if 0 ≤ r37.2 then (if r37.2 ≤ (((h1_0l.length - r36.2.toNat) : Nat) : Int) then ((zon q ⟨h1_0z, (List.drop r37.2.toNat (List.drop r36.2.toNat h1_0l))⟩).bind fun r39 => (if 0 ≤ r39.2 then (if r39.2 ≤ ((((h1_0l.length - r36.2.toNat) - r37.2.toNat) : Nat) : Int) then (if (h4l.length + 1) ≤ 4294967296 then (zoo q v10 (wrp .i64 (v11 + 1)) h1_0z (List.drop r39.2.toNat (List.drop r37.2.toNat (List.drop r36.2.toNat h1_0l))) false h2_0 h2_1 h2_2 h2_3 h2_5 h2_6 h3l (h4l ++ [(⟨r36.1, r37.1, r39.1⟩ : zjq)])) else none) else none) else none)) else none) else none))) else none) else none)) else (some ((⟨h2_0, h2_1, h2_2, h2_3, ⟨false, h3l⟩, h2_5, h2_6, ⟨false, h4l⟩⟩ : zjs), false))) else (if h1_1 = true then (some ((⟨h2_0, h2_1, h2_2, h2_3, ⟨false, h3l⟩, h2_5, h2_6, ⟨false, h4l⟩⟩ : zjs), (decide ((h1_0l.length : Int) = 0)))) else (some ((⟨h2_0, h2_1, h2_2, h2_3, ⟨false, h3l⟩, h2_5, h2_6, ⟨false, h4l⟩⟩ : zjs), false))))
def zop : Nat → Int → Bool → (List Int) → Bool → Int → Int → Int → Int → Bool → Int → (List Int) → Option (zjs × Bool)
 | 0, _, _, _, _, _, _, _, _, _, _, _ => none
 | q + 1, v10, h1_0z, h1_0l, h1_1, h2_0, h2_1, h2_2, h2_3, h2_5, h2_6, h3l => (if 0 < v10 then (if h1_1 = true then ((zoi q ⟨h1_0z, h1_0l⟩).bind fun r28 => (if 0 ≤ r28.2 then (if r28.2 ≤ (h1_0l.length : Int) then ((zoi q ⟨h1_0z, (List.drop r28.2.toNat h1_0l)⟩).bind fun r29 => (if 0 < r28.2 then (if 0 ≤ r29.2 then (if r29.2 ≤ (((h1_0l.length - r28.2.toNat) : Nat) : Int) then ((zon q ⟨h1_0z, (List.drop r29.2.toNat (List.drop r28.2.toNat h1_0l))⟩).bind fun r30 => (if 0 < r29.2 then (if 0 ≤ r30.2 then (if r30.2 ≤ ((((h1_0l.length - r28.2.toNat) - r29.2.toNat) : Nat) : Int) then (zoo q v10 (wrp .i64 1) h1_0z (List.drop r30.2.toNat (List.drop r29.2.toNat (List.drop r28.2.toNat h1_0l))) (decide (0 < r30.2)) h2_0 h2_1 h2_2 h2_3 h2_5 h2_6 h3l [(⟨r28.1, r29.1, r30.1⟩ : zjq)]) else none) else none) else (if 0 ≤ r30.2 then (if r30.2 ≤ ((((h1_0l.length - r28.2.toNat) - r29.2.toNat) : Nat) : Int) then (zoo q v10 (wrp .i64 1) h1_0z (List.drop r30.2.toNat (List.drop r29.2.toNat (List.drop r28.2.toNat h1_0l))) false h2_0 h2_1 h2_2 h2_3 h2_5 h2_6 h3l [(⟨r28.1, r29.1, r30.1⟩ : zjq)]) else none) else none))) else none) else none) else (if 0 ≤ r29.2 then (if r29.2 ≤ (((h1_0l.length - r28.2.toNat) : Nat) : Int) then ((zon q ⟨h1_0z, (List.drop r29.2.toNat (List.drop r28.2.toNat h1_0l))⟩).bind fun r31 => (if 0 ≤ r31.2 then (if r31.2 ≤ ((((h1_0l.length - r28.2.toNat) - r29.2.toNat) : Nat) : Int) then (zoo q v10 (wrp .i64 1) h1_0z (List.drop r31.2.toNat (List.drop r29.2.toNat (List.drop r28.2.toNat h1_0l))) false h2_0 h2_1 h2_2 h2_3 h2_5 h2_6 h3l [(⟨r28.1, r29.1, r31.1⟩ : zjq)]) else none) else none)) else none) else none))) else none) else none)) else (some ((⟨h2_0, h2_1, h2_2, h2_3, ⟨false, h3l⟩, h2_5, h2_6, ⟨true, []⟩⟩ : zjs), false))) else (if h1_1 = true then (some ((⟨h2_0, h2_1, h2_2, h2_3, ⟨false, h3l⟩, h2_5, h2_6, ⟨true, []⟩⟩ : zjs), (decide ((h1_0l.length : Int) = 0)))) else (some ((⟨h2_0, h2_1, h2_2, h2_3, ⟨false, h3l⟩, h2_5, h2_6, ⟨true, []⟩⟩ : zjs), false))))
def zoq : Nat → Int → Int → Bool → (List Int) → Bool → Int → Int → Int → Int → (List Int) → Option (zjs × Bool)
 | 0, _, _, _, _, _, _, _, _, _, _ => none
 | q + 1, v6, v7, h1_0z, h1_0l, h1_1, h2_0, h2_1, h2_2, h2_3, h3l => (if v7 < v6 then ((zon q ⟨h1_0z, h1_0l⟩).bind fun r18 => (if h1_1 = true then (if 0 ≤ r18.2 then (if r18.2 ≤ (h1_0l.length : Int) then (if (h3l.length + 1) ≤ 4294967296 then (zoq q v6 (wrp .i64 (v7 + 1)) h1_0z (List.drop r18.2.toNat h1_0l) (decide (0 < r18.2)) h2_0 h2_1 h2_2 h2_3 (h3l ++ [r18.1])) else none) else none) else none) else (if 0 ≤ r18.2 then (if r18.2 ≤ (h1_0l.length : Int) then (if (h3l.length + 1) ≤ 4294967296 then (zoq q v6 (wrp .i64 (v7 + 1)) h1_0z (List.drop r18.2.toNat h1_0l) false h2_0 h2_1 h2_2 h2_3 (h3l ++ [r18.1])) else none) else none) else none))) else ((zoi q ⟨h1_0z, h1_0l⟩).bind fun r19 => (if h1_1 = true then (if 0 ≤ r19.2 then (if r19.2 ≤ (h1_0l.length : Int) then (if 3 < r19.1 then (some ((⟨h2_0, h2_1, h2_2, h2_3, ⟨false, h3l⟩, false, 0, ⟨true, []⟩⟩ : zjs), false)) else (if 0 < r19.1 then ((zoi q ⟨h1_0z, (List.drop r19.2.toNat h1_0l)⟩).bind fun r20 => (if 0 < r19.2 then (if 0 ≤ r20.2 then (if r20.2 ≤ (((h1_0l.length - r19.2.toNat) : Nat) : Int) then (zop q r20.1 h1_0z (List.drop r20.2.toNat (List.drop r19.2.toNat h1_0l)) (decide (0 < r20.2)) h2_0 h2_1 h2_2 h2_3 true (wrp .i64 (r19.1 - 1)) h3l) else none) else none) else (if 0 ≤ r20.2 then (if r20.2 ≤ (((h1_0l.length - r19.2.toNat) : Nat) : Int) then (zop q r20.1 h1_0z (List.drop r20.2.toNat (List.drop r19.2.toNat h1_0l)) false h2_0 h2_1 h2_2 h2_3 true (wrp .i64 (r19.1 - 1)) h3l) else none) else none))) else ((zoi q ⟨h1_0z, (List.drop r19.2.toNat h1_0l)⟩).bind fun r21 => (if 0 < r19.2 then (if 0 ≤ r21.2 then (if r21.2 ≤ (((h1_0l.length - r19.2.toNat) : Nat) : Int) then (zop q r21.1 h1_0z (List.drop r21.2.toNat (List.drop r19.2.toNat h1_0l)) (decide (0 < r21.2)) h2_0 h2_1 h2_2 h2_3 false 0 h3l) else none) else none) else (if 0 ≤ r21.2 then (if r21.2 ≤ (((h1_0l.length - r19.2.toNat) : Nat) : Int) then (zop q r21.1 h1_0z (List.drop r21.2.toNat (List.drop r19.2.toNat h1_0l)) false h2_0 h2_1 h2_2 h2_3 false 0 h3l) else none) else none))))) else none) else none) else (if 0 ≤ r19.2 then (if r19.2 ≤ (h1_0l.length : Int) then (if 3 < r19.1 then (some ((⟨h2_0, h2_1, h2_2, h2_3, ⟨false, h3l⟩, false, 0, ⟨true, []⟩⟩ : zjs), false)) else (if 0 < r19.1 then ((zoi q ⟨h1_0z, (List.drop r19.2.toNat h1_0l)⟩).bind fun r22 => (if 0 ≤ r22.2 then (if r22.2 ≤ (((h1_0l.length - r19.2.toNat) : Nat) : Int) then (zop q r22.1 h1_0z (List.drop r22.2.toNat (List.drop r19.2.toNat h1_0l)) false h2_0 h2_1 h2_2 h2_3 true (wrp .i64 (r19.1 - 1)) h3l) else none) else none)) else ((zoi q ⟨h1_0z, (List.drop r19.2.toNat h1_0l)⟩).bind fun r23 => (if 0 ≤ r23.2 then (if r23.2 ≤ (((h1_0l.length - r19.2.toNat) : Nat) : Int) then (zop q r23.1 h1_0z (List.drop r23.2.toNat (List.drop r19.2.toNat h1_0l)) false h2_0 h2_1 h2_2 h2_3 false 0 h3l) else none) else none)))) else none) else none))))
def zor : Nat → Int → Int → Bool → (List Int) → Bool → Int → Int → Int → Int → Bool → Int → (List zjq) → Option (zjs × Bool)
 | 0, _, _, _, _, _, _, _, _, _, _, _, _ => none
 | q + 1, v10, v11, h1_0z, h1_0l, h1_1, h2_0, h2_1, h2_2, h2_3, h2_5, h2_6, h3l => (if v11 < v10 then (if h1_1 = true then ((zoi q ⟨h1_0z, h1_0l⟩).bind fun r32 => (if 0 ≤ r32.2 then (if r32.2 ≤ (h1_0l.length : Int) then ((zoi q ⟨h1_0z, (List.drop r32.2.toNat h1_0l)⟩).bind fun r33 => (if 0 < r32.2 then (if 0 ≤ r33.2 then (if r33.2 ≤ (((h1_0l.length - r32.2.toNat) : Nat) : Int) then ((zon q ⟨h1_0z, (List.drop r33.2.toNat (List.drop r32.2.toNat h1_0l))⟩).bind fun r34 => (if 0 < r33.2 then (if 0 ≤ r34.2 then (if r34.2 ≤ ((((h1_0l.length - r32.2.toNat) - r33.2.toNat) : Nat) : Int) then (if (h3l.length + 1) ≤ 4294967296 then (zor q v10 (wrp .i64 (v11 + 1)) h1_0z (List.drop r34.2.toNat (List.drop r33.2.toNat (List.drop r32.2.toNat h1_0l))) (decide (0 < r34.2)) h2_0 h2_1 h2_2 h2_3 h2_5 h2_6 (h3l ++ [(⟨r32.1, r33.1, r34.1⟩ : zjq)])) else none) else none) else none) else (if 0 ≤ r34.2 then (if r34.2 ≤ ((((h1_0l.length - r32.2.toNat) - r33.2.toNat) : Nat) : Int) then (if (h3l.length + 1) ≤ 4294967296 then (zor q v10 (wrp .i64 (v11 + 1)) h1_0z (List.drop r34.2.toNat (List.drop r33.2.toNat (List.drop r32.2.toNat h1_0l))) false h2_0 h2_1 h2_2 h2_3 h2_5 h2_6 (h3l ++ [(⟨r32.1, r33.1, r34.1⟩ : zjq)])) else none) else none) else none))) else none) else none) else (if 0 ≤ r33.2 then (if r33.2 ≤ (((h1_0l.length - r32.2.toNat) : Nat) : Int) then ((zon q ⟨h1_0z, (List.drop r33.2.toNat (List.drop r32.2.toNat h1_0l))⟩).bind fun r35 => (if 0 ≤ r35.2 then (if r35.2 ≤ ((((h1_0l.length - r32.2.toNat) - r33.2.toNat) : Nat) : Int) then (if (h3l.length + 1) ≤ 4294967296 then (zor q v10 (wrp .i64 (v11 + 1)) h1_0z (List.drop r35.2.toNat (List.drop r33.2.toNat (List.drop r32.2.toNat h1_0l))) false h2_0 h2_1 h2_2 h2_3 h2_5 h2_6 (h3l ++ [(⟨r32.1, r33.1, r35.1⟩ : zjq)])) else none) else none) else none)) else none) else none))) else none) else none)) else (some ((⟨h2_0, h2_1, h2_2, h2_3, ⟨true, []⟩, h2_5, h2_6, ⟨false, h3l⟩⟩ : zjs), false))) else (if h1_1 = true then (some ((⟨h2_0, h2_1, h2_2, h2_3, ⟨true, []⟩, h2_5, h2_6, ⟨false, h3l⟩⟩ : zjs), (decide ((h1_0l.length : Int) = 0)))) else (some ((⟨h2_0, h2_1, h2_2, h2_3, ⟨true, []⟩, h2_5, h2_6, ⟨false, h3l⟩⟩ : zjs), false))))
def zos : Nat → Int → Bool → (List Int) → Bool → Int → Int → Int → Int → Bool → Int → Option (zjs × Bool)
 | 0, _, _, _, _, _, _, _, _, _, _ => none
 | q + 1, v10, h1_0z, h1_0l, h1_1, h2_0, h2_1, h2_2, h2_3, h2_5, h2_6 => (if 0 < v10 then (if h1_1 = true then ((zoi q ⟨h1_0z, h1_0l⟩).bind fun r24 => (if 0 ≤ r24.2 then (if r24.2 ≤ (h1_0l.length : Int) then ((zoi q ⟨h1_0z, (List.drop r24.2.toNat h1_0l)⟩).bind fun r25 => (if 0 < r24.2 then (if 0 ≤ r25.2 then (if r25.2 ≤ (((h1_0l.length - r24.2.toNat) : Nat) : Int) then ((zon q ⟨h1_0z, (List.drop r25.2.toNat (List.drop r24.2.toNat h1_0l))⟩).bind fun r26 => (if 0 < r25.2 then (if 0 ≤ r26.2 then (if r26.2 ≤ ((((h1_0l.length - r24.2.toNat) - r25.2.toNat) : Nat) : Int) then (zor q v10 (wrp .i64 1) h1_0z (List.drop r26.2.toNat (List.drop r25.2.toNat (List.drop r24.2.toNat h1_0l))) (decide (0 < r26.2)) h2_0 h2_1 h2_2 h2_3 h2_5 h2_6 [(⟨r24.1, r25.1, r26.1⟩ : zjq)]) else none) else none) else (if 0 ≤ r26.2 then (if r26.2 ≤ ((((h1_0l.length - r24.2.toNat) - r25.2.toNat) : Nat) : Int) then (zor q v10 (wrp .i64 1) h1_0z (List.drop r26.2.toNat (List.drop r25.2.toNat (List.drop r24.2.toNat h1_0l))) false h2_0 h2_1 h2_2 h2_3 h2_5 h2_6 [(⟨r24.1, r25.1, r26.1⟩ : zjq)]) else none) else none))) else none) else none) else (if 0 ≤ r25.2 then (if r25.2 ≤ (((h1_0l.length - r24.2.toNat) : Nat) : Int) then ((zon q ⟨h1_0z, (List.drop r25.2.toNat (List.drop r24.2.toNat h1_0l))⟩).bind fun r27 => (if 0 ≤ r27.2 then (if r27.2 ≤ ((((h1_0l.length - r24.2.toNat) - r25.2.toNat) : Nat) : Int) then (zor q v10 (wrp .i64 1) h1_0z (List.drop r27.2.toNat (List.drop r25.2.toNat (List.drop r24.2.toNat h1_0l))) false h2_0 h2_1 h2_2 h2_3 h2_5 h2_6 [(⟨r24.1, r25.1, r27.1⟩ : zjq)]) else none) else none)) else none) else none))) else none) else none)) else (some ((⟨h2_0, h2_1, h2_2, h2_3, ⟨true, []⟩, h2_5, h2_6, ⟨true, []⟩⟩ : zjs), false))) else (if h1_1 = true then (some ((⟨h2_0, h2_1, h2_2, h2_3, ⟨true, []⟩, h2_5, h2_6, ⟨true, []⟩⟩ : zjs), (decide ((h1_0l.length : Int) = 0)))) else (some ((⟨h2_0, h2_1, h2_2, h2_3, ⟨true, []⟩, h2_5, h2_6, ⟨true, []⟩⟩ : zjs), false))))
def zot : Nat → Int → Bool → (List Int) → Bool → Int → Int → Int → Int → Option (zjs × Bool)
 | 0, _, _, _, _, _, _, _, _ => none
 | q + 1, v6, h1_0z, h1_0l, h1_1, h2_0, h2_1, h2_2, h2_3 => (if 0 < v6 then ((zon q ⟨h1_0z, h1_0l⟩).bind fun r12 => (if h1_1 = true then (if 0 ≤ r12.2 then (if r12.2 ≤ (h1_0l.length : Int) then (zoq q v6 (wrp .i64 1) h1_0z (List.drop r12.2.toNat h1_0l) (decide (0 < r12.2)) h2_0 h2_1 h2_2 h2_3 [r12.1]) else none) else none) else (if 0 ≤ r12.2 then (if r12.2 ≤ (h1_0l.length : Int) then (zoq q v6 (wrp .i64 1) h1_0z (List.drop r12.2.toNat h1_0l) false h2_0 h2_1 h2_2 h2_3 [r12.1]) else none) else none))) else ((zoi q ⟨h1_0z, h1_0l⟩).bind fun r13 => (if h1_1 = true then (if 0 ≤ r13.2 then (if r13.2 ≤ (h1_0l.length : Int) then (if 3 < r13.1 then (some ((⟨h2_0, h2_1, h2_2, h2_3, ⟨true, []⟩, false, 0, ⟨true, []⟩⟩ : zjs), false)) else (if 0 < r13.1 then ((zoi q ⟨h1_0z, (List.drop r13.2.toNat h1_0l)⟩).bind fun r14 => (if 0 < r13.2 then (if 0 ≤ r14.2 then (if r14.2 ≤ (((h1_0l.length - r13.2.toNat) : Nat) : Int) then (zos q r14.1 h1_0z (List.drop r14.2.toNat (List.drop r13.2.toNat h1_0l)) (decide (0 < r14.2)) h2_0 h2_1 h2_2 h2_3 true (wrp .i64 (r13.1 - 1))) else none) else none) else (if 0 ≤ r14.2 then (if r14.2 ≤ (((h1_0l.length - r13.2.toNat) : Nat) : Int) then (zos q r14.1 h1_0z (List.drop r14.2.toNat (List.drop r13.2.toNat h1_0l)) false h2_0 h2_1 h2_2 h2_3 true (wrp .i64 (r13.1 - 1))) else none) else none))) else ((zoi q ⟨h1_0z, (List.drop r13.2.toNat h1_0l)⟩).bind fun r15 => (if 0 < r13.2 then (if 0 ≤ r15.2 then (if r15.2 ≤ (((h1_0l.length - r13.2.toNat) : Nat) : Int) then (zos q r15.1 h1_0z (List.drop r15.2.toNat (List.drop r13.2.toNat h1_0l)) (decide (0 < r15.2)) h2_0 h2_1 h2_2 h2_3 false 0) else none) else none) else (if 0 ≤ r15.2 then (if r15.2 ≤ (((h1_0l.length - r13.2.toNat) : Nat) : Int) then (zos q r15.1 h1_0z (List.drop r15.2.toNat (List.drop r13.2.toNat h1_0l)) false h2_0 h2_1 h2_2 h2_3 false 0) else none) else none))))) else none) else none) else (if 0 ≤ r13.2 then (if r13.2 ≤ (h1_0l.length : Int) then (if 3 < r13.1 then (some ((⟨h2_0, h2_1, h2_2, h2_3, ⟨true, []⟩, false, 0, ⟨true, []⟩⟩ : zjs), false)) else (if 0 < r13.1 then ((zoi q ⟨h1_0z, (List.drop r13.2.toNat h1_0l)⟩).bind fun r16 => (if 0 ≤ r16.2 then (if r16.2 ≤ (((h1_0l.length - r13.2.toNat) : Nat) : Int) then (zos q r16.1 h1_0z (List.drop r16.2.toNat (List.drop r13.2.toNat h1_0l)) false h2_0 h2_1 h2_2 h2_3 true (wrp .i64 (r13.1 - 1))) else none) else none)) else ((zoi q ⟨h1_0z, (List.drop r13.2.toNat h1_0l)⟩).bind fun r17 => (if 0 ≤ r17.2 then (if r17.2 ≤ (((h1_0l.length - r13.2.toNat) : Nat) : Int) then (zos q r17.1 h1_0z (List.drop r17.2.toNat (List.drop r13.2.toNat h1_0l)) false h2_0 h2_1 h2_2 h2_3 false 0) else none) else none)))) else none) else none))))
def zou : Nat → (Sl Int) → Option (zjs × Bool)
 | 0, _ => none
 | q + 1, a0 => ((zoi q a0).bind fun r1 => (if 0 ≤ r1.2 then (if r1.2 ≤ (a0.l.length : Int) then ((zoi q ⟨a0.z, (List.drop r1.2.toNat a0.l)⟩).bind fun r2 => (if 0 < r1.2 then (if 0 ≤ r2.2 then (if r2.2 ≤ (((a0.l.length - r1.2.toNat) : Nat) : Int) then ((zoi q ⟨a0.z, (List.drop r2.2.toNat (List.drop r1.2.toNat a0.l))⟩).bind fun r3 => (if 0 < r2.2 then (if 0 ≤ r3.2 then (if r3.2 ≤ ((((a0.l.length - r1.2.toNat) - r2.2.toNat) : Nat) : Int) then ((zoi q ⟨a0.z, (List.drop r3.2.toNat (List.drop r2.2.toNat (List.drop r1.2.toNat a0.l)))⟩).bind fun r4 => (if 0 < r3.2 then (if 0 ≤ r4.2 then (if r4.2 ≤ (((((a0.l.length - r1.2.toNat) - r2.2.toNat) - r3.2.toNat) : Nat) : Int) then ((zoi q ⟨a0.z, (List.drop r4.2.toNat (List.drop r3.2.toNat (List.drop r2.2.toNat (List.drop r1.2.toNat a0.l))))⟩).bind fun r5 => (if 0 < r4.2 then (if 0 ≤ r5.2 then (if r5.2 ≤ ((((((a0.l.length - r1.2.toNat) - r2.2.toNat) - r3.2.toNat) - r4.2.toNat) : Nat) : Int) then (if 0 < r5.2 then (if 128 < r5.1 then (some ((⟨r1.1, r2.1, r3.1, r4.1, ⟨true, []⟩, false, 0, ⟨true, []⟩⟩ : zjs), false)) else (zot q r5.1 a0.z (List.drop r5.2.toNat (List.drop r4.2.toNat (List.drop r3.2.toNat (List.drop r2.2.toNat (List.drop r1.2.toNat a0.l))))) (decide (0 < r5.2)) r1.1 r2.1 r3.1 r4.1)) else (some ((⟨r1.1, r2.1, r3.1, r4.1, ⟨true, []⟩, false, 0, ⟨true, []⟩⟩ : zjs), false))) else none) else none) else (if 0 ≤ r5.2 then (if r5.2 ≤ ((((((a0.l.length - r1.2.toNat) - r2.2.toNat) - r3.2.toNat) - r4.2.toNat) : Nat) : Int) then (some ((⟨r1.1, r2.1, r3.1, r4.1, ⟨true, []⟩, false, 0, ⟨true, []⟩⟩ : zjs), false)) else none) else none))) else none) else none) else (if 0 ≤ r4.2 then (if r4.2 ≤ (((((a0.l.length - r1.2.toNat) - r2.2.toNat) - r3.2.toNat) : Nat) : Int) then ((zoi q ⟨a0.z, (List.drop r4.2.toNat (List.drop r3.2.toNat (List.drop r2.2.toNat (List.drop r1.2.toNat a0.l))))⟩).bind fun r6 => (if 0 ≤ r6.2 then (if r6.2 ≤ ((((((a0.l.length - r1.2.toNat) - r2.2.toNat) - r3.2.toNat) - r4.2.toNat) : Nat) : Int) then (some ((⟨r1.1, r2.1, r3.1, r4.1, ⟨true, []⟩, false, 0, ⟨true, []⟩⟩ : zjs), false)) else none) else none)) else none) else none))) else none) else none) else (if 0 ≤ r3.2 then (if r3.2 ≤ ((((a0.l.length - r1.2.toNat) - r2.2.toNat) : Nat) : Int) then ((zoi q ⟨a0.z, (List.drop r3.2.toNat (List.drop r2.2.toNat (List.drop r1.2.toNat a0.l)))⟩).bind fun r7 => (if 0 ≤ r7.2 then (if r7.2 ≤ (((((a0.l.length - r1.2.toNat) - r2.2.toNat) - r3.2.toNat) : Nat) : Int) then ((zoi q ⟨a0.z, (List.drop r7.2.toNat (List.drop r3.2.toNat (List.drop r2.2.toNat (List.drop r1.2.toNat a0.l))))⟩).bind fun r8 => (if 0 ≤ r8.2 then (if r8.2 ≤ ((((((a0.l.length - r1.2.toNat) - r2.2.toNat) - r3.2.toNat) - r7.2.toNat) : Nat) : Int) then (some ((⟨r1.1, r2.1, r3.1, r7.1, ⟨true, []⟩, false, 0, ⟨true, []⟩⟩ : zjs), false)) else none) else none)) else none) else none)) else none) else none))) else none) else none) else (if 0 ≤ r2.2 then (if r2.2 ≤ (((a0.l.length - r1.2.toNat) : Nat) : Int) then ((zoi q ⟨a0.z, (List.drop r2.2.toNat (List.drop r1.2.toNat a0.l))⟩).bind fun r9 => (if 0 ≤ r9.2 then (if r9.2 ≤ ((((a0.l.length - r1.2.toNat) - r2.2.toNat) : Nat) : Int) then ((zoi q ⟨a0.z, (List.drop r9.2.toNat (List.drop r2.2.toNat (List.drop r1.2.toNat a0.l)))⟩).bind fun r10 => (if 0 ≤ r10.2 then (if r10.2 ≤ (((((a0.l.length - r1.2.toNat) - r2.2.toNat) - r9.2.toNat) : Nat) : Int) then ((zoi q ⟨a0.z, (List.drop r10.2.toNat (List.drop r9.2.toNat (List.drop r2.2.toNat (List.drop r1.2.toNat a0.l))))⟩).bind fun r11 => (if 0 ≤ r11.2 then (if r11.2 ≤ ((((((a0.l.length - r1.2.toNat) - r2.2.toNat) - r9.2.toNat) - r10.2.toNat) : Nat) : Int) then (some ((⟨r1.1, r2.1, r9.1, r10.1, ⟨true, []⟩, false, 0, ⟨true, []⟩⟩ : zjs), false)) else none) else none)) else none) else none)) else none) else none)) else none) else none))) else none) else none))
def zov : Nat → (Sl Int) → Option (zjs × Int)
 | 0, _ => none
 | q + 1, a0 => ((zol q a0).bind fun r1 => (if r1.2.2 = 0 then (if r1.2.1 = (a0.l.length : Int) then ((zou q ⟨r1.1.n, r1.1.xs⟩).bind fun r2 => (if r2.2 = true then ((znx q r2.1).bind fun r3 => (if r3 = true then (some (r2.1, 0)) else (some ((⟨0, 0, 0, 0, ⟨true, []⟩, false, 0, ⟨true, []⟩⟩ : zjs), 1)))) else (some ((⟨0, 0, 0, 0, ⟨true, []⟩, false, 0, ⟨true, []⟩⟩ : zjs), 3)))) else (some ((⟨0, 0, 0, 0, ⟨true, []⟩, false, 0, ⟨true, []⟩⟩ : zjs), 16))) else (some ((⟨0, 0, 0, 0, ⟨true, []⟩, false, 0, ⟨true, []⟩⟩ : zjs), r1.2.2))))
def zow : Nat → zjs → zjs → Option (Bool)
 | 0, _, _ => none
 | q + 1, a0, a1 => (if a0.From = a1.From then (if a0.To = a1.To then (if a0.Ahead = a1.Ahead then (if a0.Behind = a1.Behind then ((zk2 q a0.Mid a1.Mid).bind fun r1 => (if r1 = true then (if (a0.Sealed == a1.Sealed) = true then (if a0.Engine = a1.Engine then ((zk5 q a0.Table a1.Table).bind fun r2 => (some r2)) else (some false)) else (some false)) else (some false))) else (some false)) else (some false)) else (some false)) else (some false))
def zox : Nat → zjs → (Sl Int) → Option (Bool)
 | 0, _, _ => none
 | q + 1, a0, a1 => ((zk7 q).bind fun r1 => ((znu q a0).bind fun r2 => (if r1 = true then (if r2 = true then (if 3000 < (a1.l.length : Int) then (some r1) else ((znt q a0).bind fun r3 => ((zod q a0).bind fun r4 => ((znc q a1).bind fun r5 => ((zov q a1).bind fun r6 => ((zlc q r5.1 r6.1).bind fun r7 => (if r3.1.xs = r4.1.xs then (if r3.2 = r4.2 then (if r7 = true then (if r5.2 = r6.2 then ((zow q r5.1 r6.1).bind fun r8 => (if r8 = true then ((zow q a0 r5.1).bind fun r9 => ((zlc q a0 r5.1).bind fun r10 => (some (r9 == r10)))) else (some false))) else (some false)) else (some false)) else (some false)) else (some false)))))))) else (some r1)) else (some r1))))
end Go.Dvm.I
