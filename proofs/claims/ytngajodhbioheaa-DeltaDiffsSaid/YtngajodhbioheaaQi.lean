/- The functions of the law, as they answer, over typed data. -/
import Derived.Test.YtngajodhbioheaaQv2
set_option linter.all false
set_option maxRecDepth 100000
set_option maxHeartbeats 4000000
namespace Go.Dvm.I
open Go Go.Dvm
structure zjl where
 Kind : Int
 L : (Sl Int)
 Sealed : Bool
 To : Int
def zjl.enc (r : zjl) : V := .agg [V.int .i64 r.Kind, (Sl.enc (V.int .i64)) r.L, V.bool r.Sealed, V.int .i64 r.To]
structure zjm where
 Proc : Int
 Seq : Int
 Resp : Int
def zjm.enc (r : zjm) : V := .agg [V.int .i64 r.Proc, V.int .i64 r.Seq, V.int .i64 r.Resp]
structure zjn where
 Index : Int
 State : zjl
 Table : (Sl zjm)
def zjn.enc (r : zjn) : V := .agg [V.int .i64 r.Index, V.int .i64 r.State.Kind, (Sl.enc (V.int .i64)) r.State.L, V.bool r.State.Sealed, V.int .i64 r.State.To, (Sl.enc zjm.enc) r.Table]
structure zjo where
 From : Int
 To : Int
 Ahead : Int
 Behind : Int
 Mid : (Sl Int)
 Sealed : Bool
 Engine : Int
 Table : (Sl zjm)
def zjo.enc (r : zjo) : V := .agg [V.int .i64 r.From, V.int .i64 r.To, V.int .i64 r.Ahead, V.int .i64 r.Behind, (Sl.enc (V.int .i64)) r.Mid, V.bool r.Sealed, V.int .i64 r.Engine, (Sl.enc zjm.enc) r.Table]
structure zjp where
 Code : Int
 A : Int
 B : Int
def zjp.enc (r : zjp) : V := .agg [V.int .i64 r.Code, V.int .i64 r.A, V.int .i64 r.B]
structure zjq where
 Index : Int
 Proc : Int
 Seq : Int
 Op : zjp
 Resp : Int
def zjq.enc (r : zjq) : V := .agg [V.int .i64 r.Index, V.int .i64 r.Proc, V.int .i64 r.Seq, V.int .i64 r.Op.Code, V.int .i64 r.Op.A, V.int .i64 r.Op.B, V.int .i64 r.Resp]
structure zjr where
 index : Int
 size : Int
 sum : Int
def zjr.enc (r : zjr) : V := .agg [V.int .i64 r.index, V.int .i64 r.size, V.int .u64 r.sum]
def okSl {α : Type} (ok : α → Prop) (s : Sl α) : Prop := (s.z = true → s.l = []) ∧ s.l.length ≤ maxLen ∧ ∀ a ∈ s.l, ok a
def zjl.ok (r : zjl) : Prop := inR .i64 r.Kind ∧ okSl (fun x => inR .i64 x) r.L ∧ True ∧ inR .i64 r.To
def zjm.ok (r : zjm) : Prop := inR .i64 r.Proc ∧ inR .i64 r.Seq ∧ inR .i64 r.Resp
def zjn.ok (r : zjn) : Prop := inR .i64 r.Index ∧ zjl.ok r.State ∧ okSl (fun x => zjm.ok x) r.Table
def zjo.ok (r : zjo) : Prop := inR .i64 r.From ∧ inR .i64 r.To ∧ inR .i64 r.Ahead ∧ inR .i64 r.Behind ∧ okSl (fun x => inR .i64 x) r.Mid ∧ True ∧ inR .i64 r.Engine ∧ okSl (fun x => zjm.ok x) r.Table
def zjp.ok (r : zjp) : Prop := inR .i64 r.Code ∧ inR .i64 r.A ∧ inR .i64 r.B
def zjq.ok (r : zjq) : Prop := inR .i64 r.Index ∧ inR .i64 r.Proc ∧ inR .i64 r.Seq ∧ zjp.ok r.Op ∧ inR .i64 r.Resp
def zjr.ok (r : zjr) : Prop := inR .i64 r.index ∧ inR .i64 r.size ∧ inR .u64 r.sum
def zjs : Nat → Int → Option (Int)
 | 0, _ => none
 | q + 1, a0 => (some (if (-1099511627776) < (if 1099511627776 < a0 then 1099511627776 else a0) then (if 1099511627776 < a0 then 1099511627776 else a0) else (-1099511627776)))
def zjt : Nat → Int → Option (Bool)
 | 0, _ => none
 | q + 1, a0 => ((zjs q a0).bind fun r1 => (some (!(decide (a0 = r1)))))
def zju : Nat → Bool → (List Int) → Int → Int → Int → Option (Bool)
 | 0, _, _, _, _, _ => none
 | q + 1, v0z, v0l, v1, v5, v6 => (if (wrp .i64 (v6 + 1)) < (v0l.length : Int) then (if 0 ≤ v6 then ((v0l[v6.toNat]?).bind fun e1 => (if e1 ≤ v5 then (some false) else (if 255 < e1 then (some false) else (if 0 ≤ (wrp .i64 (v6 + 1)) then ((v0l[(wrp .i64 (v6 + 1)).toNat]?).bind fun e2 => (if e2 < v1 then (some false) else (if 1099511627776 < e2 then (some false) else (zju q v0z v0l v1 e1 (wrp .i64 (v6 + 2)))))) else none)))) else none) else (if (Int.tmod (v0l.length : Int) 2) = 0 then (some (decide ((v0l.length : Int) ≤ 128))) else (some false)))
def zjv : Nat → (Sl Int) → Int → Option (Bool)
 | 0, _, _ => none
 | q + 1, a0, a1 => (zju q a0.z a0.l a1 (-1) 0)
def zjw : Nat → Bool → (List Int) → Int → Int → Int → Bool → (List Int) → Bool → Int → Option (Int)
 | 0, _, _, _, _, _, _, _, _, _ => none
 | q + 1, v0z, v0l, v7, v8, h0_0, h0_1z, h0_1l, h0_2, h0_3 => (if v8 < v7 then (if 0 ≤ v8 then ((v0l[v8.toNat]?).bind fun e1 => ((zjt q e1).bind fun r2 => (if r2 = true then (some v8) else (zjw q v0z v0l v7 (wrp .i64 (v8 + 1)) h0_0 h0_1z h0_1l h0_2 h0_3)))) else none) else (some (-1)))
def zjx : Nat → Bool → (List Int) → Int → Bool → (List Int) → Bool → Int → Option (Int)
 | 0, _, _, _, _, _, _, _ => none
 | q + 1, v0z, v0l, h0_0, h0_1z, h0_1l, h0_2, h0_3 => (zjw q v0z v0l (v0l.length : Int) 0 h0_0 h0_1z h0_1l h0_2 h0_3)
def zjy : Nat → zjl → Option (Bool)
 | 0, _ => none
 | q + 1, a0 => (if a0.To < 0 then (some false) else (if 3 ≤ a0.To then (some false) else (if a0.Sealed = true then ((zjx q a0.L.z a0.L.l a0.Kind a0.L.z a0.L.l a0.Sealed a0.To).bind fun r1 => (if a0.Kind = 0 then (if (a0.L.l.length : Int) = 1 then (some (!(decide (0 ≤ r1)))) else (some false)) else (if a0.Kind = 1 then (if (a0.L.l.length : Int) = 1 then (some (!(decide (0 ≤ r1)))) else (some false)) else (if a0.Kind = 2 then (if (a0.L.l.length : Int) ≤ 64 then (some (!(decide (0 ≤ r1)))) else (some false)) else (if a0.Kind = 3 then (if (a0.L.l.length : Int) ≤ 64 then (some (!(decide (0 ≤ r1)))) else (some false)) else (if a0.Kind = 4 then ((zjv q a0.L (-1099511627776)).bind fun r2 => (some r2)) else (if a0.Kind = 5 then ((zjv q a0.L 0).bind fun r3 => (some r3)) else (some false)))))))) else (if a0.To = 0 then ((zjx q a0.L.z a0.L.l a0.Kind a0.L.z a0.L.l a0.Sealed a0.To).bind fun r4 => (if a0.Kind = 0 then (if (a0.L.l.length : Int) = 1 then (some (!(decide (0 ≤ r4)))) else (some false)) else (if a0.Kind = 1 then (if (a0.L.l.length : Int) = 1 then (some (!(decide (0 ≤ r4)))) else (some false)) else (if a0.Kind = 2 then (if (a0.L.l.length : Int) ≤ 64 then (some (!(decide (0 ≤ r4)))) else (some false)) else (if a0.Kind = 3 then (if (a0.L.l.length : Int) ≤ 64 then (some (!(decide (0 ≤ r4)))) else (some false)) else (if a0.Kind = 4 then ((zjv q a0.L (-1099511627776)).bind fun r5 => (some r5)) else (if a0.Kind = 5 then ((zjv q a0.L 0).bind fun r6 => (some r6)) else (some false)))))))) else (some false)))))
def zjz : Nat → zjm → Option (Bool)
 | 0, _ => none
 | q + 1, a0 => (if 0 ≤ a0.Proc then (if a0.Proc ≤ 64 then (if 0 ≤ a0.Seq then (if a0.Seq < 4611686018427387904 then (if (-1125899906842624) ≤ a0.Resp then (some (decide (a0.Resp ≤ 1125899906842624))) else (some false)) else (some false)) else (some false)) else (some false)) else (some false))
def zj0 : Nat → Bool → (List zjm) → Bool → (List zjm) → Int → Int → Option (Bool)
 | 0, _, _, _, _, _, _ => none
 | q + 1, v0z, v0l, v5z, v5l, v6, v7 => (if v7 < v6 then (if 0 ≤ v7 then ((v5l[v7.toNat]?).bind fun e1 => ((zjz q e1).bind fun r2 => (if r2 = true then (if 0 < v7 then (if 0 ≤ (wrp .i64 (v7 - 1)) then ((v0l[(wrp .i64 (v7 - 1)).toNat]?).bind fun e3 => (if e1.Proc ≤ e3.Proc then (some false) else (zj0 q v0z v0l v5z v5l v6 (wrp .i64 (v7 + 1))))) else none) else (zj0 q v0z v0l v5z v5l v6 (wrp .i64 (v7 + 1)))) else (some false)))) else none) else (some true))
def zj1 : Nat → (Sl zjm) → Option (Bool)
 | 0, _ => none
 | q + 1, a0 => (zj0 q a0.z a0.l a0.z a0.l (a0.l.length : Int) 0)
def zj2 : Nat → zjn → Option (Bool)
 | 0, _ => none
 | q + 1, a0 => (if 0 ≤ a0.Index then (if a0.Index < 4611686018427387904 then ((zjy q a0.State).bind fun r1 => (if r1 = true then ((zj1 q a0.Table).bind fun r2 => (some r2)) else (some false))) else (some false)) else (some false))
def zj3 : Nat → Bool → (List zjm) → Int → Int → Int → Option (Int)
 | 0, _, _, _, _, _ => none
 | q + 1, v0z, v0l, v7, v8, h0_0 => (if v8 < v7 then (if 0 ≤ v8 then ((v0l[v8.toNat]?).bind fun e1 => (if e1.Proc = h0_0 then (some v8) else (zj3 q v0z v0l v7 (wrp .i64 (v8 + 1)) h0_0))) else none) else (some (-1)))
def zj4 : Nat → Bool → (List zjm) → Int → Option (Int)
 | 0, _, _, _ => none
 | q + 1, v0z, v0l, h0_0 => (zj3 q v0z v0l (v0l.length : Int) 0 h0_0)
def zj5 : Nat → (Sl zjm) → Int → Option (Int)
 | 0, _, _ => none
 | q + 1, a0, a1 => ((zj4 q a0.z a0.l a1).bind fun r1 => (some r1))
def zj6 : Nat → Bool → (List Int) → Bool → (List Int) → Int → Option (Int)
 | 0, _, _, _, _, _ => none
 | q + 1, v0z, v0l, v1z, v1l, v5 => (if v5 < (v0l.length : Int) then (if v5 < (v1l.length : Int) then (if 0 ≤ v5 then ((v0l[v5.toNat]?).bind fun e1 => ((v1l[v5.toNat]?).bind fun e2 => (if e1 = e2 then (zj6 q v0z v0l v1z v1l (wrp .i64 (v5 + 1))) else (some v5)))) else none) else (some v5)) else (some v5))
def zj7 : Nat → (Sl Int) → (Sl Int) → Option (Int)
 | 0, _, _ => none
 | q + 1, a0, a1 => (zj6 q a0.z a0.l a1.z a1.l 0)
def zj8 : Nat → Bool → (List Int) → Bool → (List Int) → Int → Option (Int)
 | 0, _, _, _, _, _ => none
 | q + 1, v0z, v0l, v1z, v1l, v5 => (if v5 < (v0l.length : Int) then (if v5 < (v1l.length : Int) then (if 0 ≤ (wrp .i64 ((wrp .i64 ((v0l.length : Int) - 1)) - v5)) then ((v0l[(wrp .i64 ((wrp .i64 ((v0l.length : Int) - 1)) - v5)).toNat]?).bind fun e1 => (if 0 ≤ (wrp .i64 ((wrp .i64 ((v1l.length : Int) - 1)) - v5)) then ((v1l[(wrp .i64 ((wrp .i64 ((v1l.length : Int) - 1)) - v5)).toNat]?).bind fun e2 => (if e1 = e2 then (zj8 q v0z v0l v1z v1l (wrp .i64 (v5 + 1))) else (some v5))) else none)) else none) else (some v5)) else (some v5))
def zj9 : Nat → (Sl Int) → (Sl Int) → Option (Int)
 | 0, _, _ => none
 | q + 1, a0, a1 => (zj8 q a0.z a0.l a1.z a1.l 0)
def zka : Nat → (Sl Int) → Option ((Ow Int))
 | 0, _ => none
 | q + 1, a0 => (if a0.z = true then (some ⟨true, true, []⟩) else (if a0.l.length ≤ 4294967296 then (some ⟨false, true, a0.l⟩) else none))
def zkb : Nat → Bool → (List zjm) → Int → Int → Int → Int → Bool → (List Int) → Bool → Int → Bool → (List zjm) → Int → Int → Bool → (List Int) → Bool → Int → Bool → (List zjm) → Option (Int)
 | 0, _, _, _, _, _, _, _, _, _, _, _, _, _, _, _, _, _, _, _, _ => none
 | q + 1, v0z, v0l, v7, v8, h0_0, h0_1, h0_2z, h0_2l, h0_3, h0_4, h0_5z, h0_5l, h1_0, h1_1, h1_2z, h1_2l, h1_3, h1_4, h1_5z, h1_5l => (if v8 < v7 then (if 0 ≤ v8 then ((v0l[v8.toNat]?).bind fun e1 => ((zj5 q ⟨h1_5z, h1_5l⟩ e1.Proc).bind fun r2 => (if r2 < 0 then (some v8) else (zkb q v0z v0l v7 (wrp .i64 (v8 + 1)) h0_0 h0_1 h0_2z h0_2l h0_3 h0_4 h0_5z h0_5l h1_0 h1_1 h1_2z h1_2l h1_3 h1_4 h1_5z h1_5l)))) else none) else (some (-1)))
def zkc : Nat → Bool → (List zjm) → Int → Int → Bool → (List Int) → Bool → Int → Bool → (List zjm) → Int → Int → Bool → (List Int) → Bool → Int → Bool → (List zjm) → Option (Int)
 | 0, _, _, _, _, _, _, _, _, _, _, _, _, _, _, _, _, _, _ => none
 | q + 1, v0z, v0l, h0_0, h0_1, h0_2z, h0_2l, h0_3, h0_4, h0_5z, h0_5l, h1_0, h1_1, h1_2z, h1_2l, h1_3, h1_4, h1_5z, h1_5l => (zkb q v0z v0l (v0l.length : Int) 0 h0_0 h0_1 h0_2z h0_2l h0_3 h0_4 h0_5z h0_5l h1_0 h1_1 h1_2z h1_2l h1_3 h1_4 h1_5z h1_5l)
def zkd : Nat → Bool → (List zjm) → Int → Int → Int → Int → Bool → (List Int) → Bool → Int → Bool → (List zjm) → Int → Int → Int → Int → Bool → Int → Bool → (List Int) → Bool → (List zjm) → Option (zjo × Int)
 | 0, _, _, _, _, _, _, _, _, _, _, _, _, _, _, _, _, _, _, _, _, _, _ => none
 | q + 1, v89z, v89l, v90, v91, h0_0, h0_1, h0_2z, h0_2l, h0_3, h0_4, h0_5z, h0_5l, h2_0, h2_1, h2_2, h2_3, h2_5, h2_6, h3z, h3l, h3x, h4l => (if v91 < v90 then (if 0 ≤ v91 then ((v89l[v91.toNat]?).bind fun e10 => ((zj5 q ⟨h0_5z, h0_5l⟩ e10.Proc).bind fun r11 => (if r11 < 0 then (if (h4l.length + 1) ≤ 4294967296 then (zkd q v89z v89l v90 (wrp .i64 (v91 + 1)) h0_0 h0_1 h0_2z h0_2l h0_3 h0_4 h0_5z h0_5l h2_0 h2_1 h2_2 h2_3 h2_5 h2_6 h3z h3l h3x (h4l ++ [e10])) else none) else (if 0 ≤ r11 then ((h0_5l[r11.toNat]?).bind fun e12 => (if e12.Proc = e10.Proc then (if e12.Seq = e10.Seq then (if e12.Resp = e10.Resp then (zkd q v89z v89l v90 (wrp .i64 (v91 + 1)) h0_0 h0_1 h0_2z h0_2l h0_3 h0_4 h0_5z h0_5l h2_0 h2_1 h2_2 h2_3 h2_5 h2_6 h3z h3l h3x h4l) else (if (h4l.length + 1) ≤ 4294967296 then (zkd q v89z v89l v90 (wrp .i64 (v91 + 1)) h0_0 h0_1 h0_2z h0_2l h0_3 h0_4 h0_5z h0_5l h2_0 h2_1 h2_2 h2_3 h2_5 h2_6 h3z h3l h3x (h4l ++ [e10])) else none)) else (if (h4l.length + 1) ≤ 4294967296 then (zkd q v89z v89l v90 (wrp .i64 (v91 + 1)) h0_0 h0_1 h0_2z h0_2l h0_3 h0_4 h0_5z h0_5l h2_0 h2_1 h2_2 h2_3 h2_5 h2_6 h3z h3l h3x (h4l ++ [e10])) else none)) else (if (h4l.length + 1) ≤ 4294967296 then (zkd q v89z v89l v90 (wrp .i64 (v91 + 1)) h0_0 h0_1 h0_2z h0_2l h0_3 h0_4 h0_5z h0_5l h2_0 h2_1 h2_2 h2_3 h2_5 h2_6 h3z h3l h3x (h4l ++ [e10])) else none))) else none)))) else none) else (some ((⟨h2_0, h2_1, h2_2, h2_3, ⟨h3z, h3l⟩, h2_5, h2_6, ⟨false, h4l⟩⟩ : zjo), 0)))
def zke : Nat → Bool → (List zjm) → Int → Int → Int → Int → Bool → (List Int) → Bool → Int → Bool → (List zjm) → Int → Int → Int → Int → Bool → Int → Bool → (List Int) → Bool → Option (zjo × Int)
 | 0, _, _, _, _, _, _, _, _, _, _, _, _, _, _, _, _, _, _, _, _, _ => none
 | q + 1, v89z, v89l, v90, v91, h0_0, h0_1, h0_2z, h0_2l, h0_3, h0_4, h0_5z, h0_5l, h2_0, h2_1, h2_2, h2_3, h2_5, h2_6, h3z, h3l, h3x => (if v91 < v90 then (if 0 ≤ v91 then ((v89l[v91.toNat]?).bind fun e7 => ((zj5 q ⟨h0_5z, h0_5l⟩ e7.Proc).bind fun r8 => (if r8 < 0 then (zkd q v89z v89l v90 (wrp .i64 (v91 + 1)) h0_0 h0_1 h0_2z h0_2l h0_3 h0_4 h0_5z h0_5l h2_0 h2_1 h2_2 h2_3 h2_5 h2_6 h3z h3l h3x [e7]) else (if 0 ≤ r8 then ((h0_5l[r8.toNat]?).bind fun e9 => (if e9.Proc = e7.Proc then (if e9.Seq = e7.Seq then (if e9.Resp = e7.Resp then (zke q v89z v89l v90 (wrp .i64 (v91 + 1)) h0_0 h0_1 h0_2z h0_2l h0_3 h0_4 h0_5z h0_5l h2_0 h2_1 h2_2 h2_3 h2_5 h2_6 h3z h3l h3x) else (zkd q v89z v89l v90 (wrp .i64 (v91 + 1)) h0_0 h0_1 h0_2z h0_2l h0_3 h0_4 h0_5z h0_5l h2_0 h2_1 h2_2 h2_3 h2_5 h2_6 h3z h3l h3x [e7])) else (zkd q v89z v89l v90 (wrp .i64 (v91 + 1)) h0_0 h0_1 h0_2z h0_2l h0_3 h0_4 h0_5z h0_5l h2_0 h2_1 h2_2 h2_3 h2_5 h2_6 h3z h3l h3x [e7])) else (zkd q v89z v89l v90 (wrp .i64 (v91 + 1)) h0_0 h0_1 h0_2z h0_2l h0_3 h0_4 h0_5z h0_5l h2_0 h2_1 h2_2 h2_3 h2_5 h2_6 h3z h3l h3x [e7]))) else none)))) else none) else (some ((⟨h2_0, h2_1, h2_2, h2_3, ⟨h3z, h3l⟩, h2_5, h2_6, ⟨true, []⟩⟩ : zjo), 0)))
def zkf : Nat → zjn → zjn → Option (zjo × Int)
 | 0, _, _ => none
 | q + 1, a0, a1 => ((zj2 q a0).bind fun r1 => (if r1 = true then ((zj2 q a1).bind fun r2 => (if r2 = true then (if a0.State.Kind = a1.State.Kind then (if a1.Index < a0.Index then (some ((⟨0, 0, 0, 0, ⟨true, []⟩, false, 0, ⟨true, []⟩⟩ : zjo), 15)) else ((zkc q a0.Table.z a0.Table.l a0.Index a0.State.Kind a0.State.L.z a0.State.L.l a0.State.Sealed a0.State.To a0.Table.z a0.Table.l a1.Index a1.State.Kind a1.State.L.z a1.State.L.l a1.State.Sealed a1.State.To a1.Table.z a1.Table.l).bind fun r3 => (if 0 ≤ r3 then (some ((⟨0, 0, 0, 0, ⟨true, []⟩, false, 0, ⟨true, []⟩⟩ : zjo), 15)) else ((zj7 q a0.State.L a1.State.L).bind fun r4 => (if 0 ≤ r4 then (if r4 ≤ (a0.State.L.l.length : Int) then (if r4 ≤ (a1.State.L.l.length : Int) then ((zj9 q ⟨a0.State.L.z, (List.drop r4.toNat a0.State.L.l)⟩ ⟨a1.State.L.z, (List.drop r4.toNat a1.State.L.l)⟩).bind fun r5 => (if 0 ≤ (wrp .i64 ((((a1.State.L.l.length - r4.toNat) : Nat) : Int) - r5)) then (if (wrp .i64 ((((a1.State.L.l.length - r4.toNat) : Nat) : Int) - r5)).toNat ≤ (a1.State.L.l.length - r4.toNat) then ((zka q ⟨a1.State.L.z, (List.take ((wrp .i64 ((((a1.State.L.l.length - r4.toNat) : Nat) : Int) - r5)).toNat) (List.drop r4.toNat a1.State.L.l))⟩).bind fun r6 => (zke q a1.Table.z a1.Table.l (a1.Table.l.length : Int) 0 a0.Index a0.State.Kind a0.State.L.z a0.State.L.l a0.State.Sealed a0.State.To a0.Table.z a0.Table.l a0.Index a1.Index r4 r5 a1.State.Sealed a1.State.To r6.n r6.xs r6.x)) else none) else none)) else none) else none) else none))))) else (some ((⟨0, 0, 0, 0, ⟨true, []⟩, false, 0, ⟨true, []⟩⟩ : zjo), 1))) else (some ((⟨0, 0, 0, 0, ⟨true, []⟩, false, 0, ⟨true, []⟩⟩ : zjo), 1)))) else (some ((⟨0, 0, 0, 0, ⟨true, []⟩, false, 0, ⟨true, []⟩⟩ : zjo), 1))))
def zkg : Nat → Nat → Bool → (List (Sl Int)) → Int → Int → Bool → (List Int) → Option ((Ow Int))
 | 0, _, _, _, _, _, _, _ => none
 | q + 1, v6len, v25z, v25l, v26, v27, h0z, h0l => (if v27 < v26 then (if 0 ≤ v27 then ((v25l[v27.toNat]?).bind fun e2 => (if (v6len + e2.l.length) ≤ h0l.length then (zkg q (v6len + e2.l.length) v25z v25l v26 (wrp .i64 (v27 + 1)) h0z (((List.take v6len h0l) ++ e2.l) ++ (List.drop (v6len + e2.l.length) h0l))) else none)) else none) else (some ⟨h0z, true, (List.take v6len h0l)⟩))
def zkh : Nat → Bool → (List (Sl Int)) → Int → Int → Bool → (List Int) → Option ((Ow Int))
 | 0, _, _, _, _, _, _ => none
 | q + 1, v25z, v25l, v26, v27, h0z, h0l => (if v27 < v26 then (if 0 ≤ v27 then ((v25l[v27.toNat]?).bind fun e4 => (if (h0l.length + e4.l.length) ≤ 4294967296 then (zkh q v25z v25l v26 (wrp .i64 (v27 + 1)) (h0z && (decide (e4.l.length = 0))) (h0l ++ e4.l)) else none)) else none) else (some ⟨h0z, true, h0l⟩))
def zki : Nat → Bool → (List (Sl Int)) → Int → Option ((Ow Int))
 | 0, _, _, _ => none
 | q + 1, v25z, v25l, v26 => (if 0 < v26 then ((v25l[0]?).bind fun e3 => (if e3.l.length ≤ 4294967296 then (zkh q v25z v25l v26 (wrp .i64 1) (decide (e3.l.length = 0)) e3.l) else none)) else (some ⟨true, true, []⟩))
def zkj : Nat → Bool → (List (Sl Int)) → Int → Bool → (List (Sl Int)) → Int → Int → Option ((Ow Int))
 | 0, _, _, _, _, _, _, _ => none
 | q + 1, v0z, v0l, v3, v9z, v9l, v10, v11 => (if v11 < v10 then (if 0 ≤ v11 then ((v9l[v11.toNat]?).bind fun e1 => (if (wrp .i64 (v3 + (e1.l.length : Int))) < 0 then none else (zkj q v0z v0l (wrp .i64 (v3 + (e1.l.length : Int))) v9z v9l v10 (wrp .i64 (v11 + 1))))) else none) else (if v3 < 0 then none else (if 0 < (wrp .i64 (v3 - (wrp .i64 0))) then (if 0 ≤ (wrp .i64 (v3 - (wrp .i64 0))) then (if (wrp .i64 (v3 - (wrp .i64 0))).toNat ≤ 4294967296 then (if (wrp .i64 (v3 - (wrp .i64 0))) = 0 then none else (zkg q 0 v0z v0l (v0l.length : Int) 0 (decide ((wrp .i64 (v3 - (wrp .i64 0))) = 0)) (List.replicate ((wrp .i64 (v3 - (wrp .i64 0))).toNat) 0))) else none) else none) else (zki q v0z v0l (v0l.length : Int)))))
def zkk : Nat → (Sl (Sl Int)) → Option ((Ow Int))
 | 0, _ => none
 | q + 1, a0 => (zkj q a0.z a0.l 0 a0.z a0.l (a0.l.length : Int) 0)
def zkl : Nat → (Sl zjm) → Option ((Ow zjm))
 | 0, _ => none
 | q + 1, a0 => (if a0.z = true then (some ⟨true, true, []⟩) else (if a0.l.length ≤ 4294967296 then (some ⟨false, true, a0.l⟩) else none))
def zkm : Nat → (Ow zjm) → Int → (Sl zjm) → Option ((Ow zjm))
 | 0, _, _, _ => none
 | q + 1, a0, a1, a2 => (if 0 ≤ a1 then (if a1.toNat ≤ a0.xs.length then (if (a2.l.length : Int) = 0 then (some a0) else (if a1 = (a0.xs.length : Int) then (if (a0.xs.length + a2.l.length) ≤ 4294967296 then (some ⟨(a0.n && (decide (a2.l.length = 0))), a0.x, (a0.xs ++ a2.l)⟩) else none) else none)) else none) else none)
def zkn : Nat → Int → Int → Int → Int → Int → Int → Int → Int → Int → Bool → (List zjm) → Bool → Option (Int)
 | 0, _, _, _, _, _, _, _, _, _, _, _, _ => none
 | q + 1, v7, v8, h0_0, h0_1, h0_2, h0_3, h0_4, h0_5, h0_6, h1z, h1l, h1x => (if v8 < v7 then (if 0 ≤ v8 then (if v8.toNat < h1l.length then ((h1l[v8.toNat]?).bind fun e1 => (if e1.Proc = h0_1 then (some v8) else (zkn q v7 (wrp .i64 (v8 + 1)) h0_0 h0_1 h0_2 h0_3 h0_4 h0_5 h0_6 h1z h1l h1x))) else none) else none) else (some (-1)))
def zko : Nat → Int → Int → Int → Int → Int → Int → Int → Bool → (List zjm) → Bool → Option (Int)
 | 0, _, _, _, _, _, _, _, _, _, _ => none
 | q + 1, h0_0, h0_1, h0_2, h0_3, h0_4, h0_5, h0_6, h1z, h1l, h1x => (zkn q (h1l.length : Int) 0 h0_0 h0_1 h0_2 h0_3 h0_4 h0_5 h0_6 h1z h1l h1x)
def zkp : Nat → Int → Int → Int → Int → Int → Int → Int → Int → Int → Bool → (List zjm) → Bool → Option (Nat × (List zjm) × Bool)
 | 0, _, _, _, _, _, _, _, _, _, _, _, _ => none
 | q + 1, v5, v6, h0_0, h0_1, h0_2, h0_3, h0_4, h0_5, h0_6, h1z, h1l, h1x => (if v6 < (h1l.length : Int) then (if 0 ≤ v6 then (if v6.toNat < h1l.length then ((h1l[v6.toNat]?).bind fun e2 => (if e2.Proc = h0_1 then (zkp q v5 (wrp .i64 (v6 + 1)) h0_0 h0_1 h0_2 h0_3 h0_4 h0_5 h0_6 h1z h1l h1x) else (if 0 ≤ v5 then (if v5.toNat < h1l.length then ((h1l[v5.toNat]?).bind fun e3 => (if h1x = true then (zkp q (wrp .i64 (v5 + 1)) (wrp .i64 (v6 + 1)) h0_0 h0_1 h0_2 h0_3 h0_4 h0_5 h0_6 h1z (List.set h1l v5.toNat e2) true) else none)) else none) else none))) else none) else none) else (if 0 ≤ v5 then (if v5.toNat ≤ h1l.length then (if h1x = true then (if v5.toNat ≤ (((min v5.toNat h1l.length) + (h1l.length - v5.toNat)) + (h1l.length - (v5.toNat + (h1l.length - v5.toNat)))) then (if h1z = true then (some (v5.toNat, (((List.take v5.toNat h1l) ++ (List.replicate (h1l.length - v5.toNat) (⟨0, 0, 0⟩ : zjm))) ++ (List.drop (v5.toNat + (h1l.length - v5.toNat)) h1l)), true)) else (some (v5.toNat, (((List.take v5.toNat h1l) ++ (List.replicate (h1l.length - v5.toNat) (⟨0, 0, 0⟩ : zjm))) ++ (List.drop (v5.toNat + (h1l.length - v5.toNat)) h1l)), true))) else none) else none) else none) else none))
def zkq : Nat → Int → Int → Int → Int → Int → Int → Int → Bool → (List zjm) → Bool → Option (Nat × (List zjm) × Bool)
 | 0, _, _, _, _, _, _, _, _, _, _ => none
 | q + 1, h0_0, h0_1, h0_2, h0_3, h0_4, h0_5, h0_6, h1z, h1l, h1x => ((zko q h0_0 h0_1 h0_2 h0_3 h0_4 h0_5 h0_6 h1z h1l h1x).bind fun r1 => (if r1 = (-1) then (some (h1l.length, h1l, h1x)) else (zkp q r1 (wrp .i64 (r1 + 1)) h0_0 h0_1 h0_2 h0_3 h0_4 h0_5 h0_6 h1z h1l h1x)))
def zkr : Nat → Nat → Int → Int → Int → Int → Int → Int → Int → Int → Int → Bool → (List zjm) → Bool → Option (Int)
 | 0, _, _, _, _, _, _, _, _, _, _, _, _, _ => none
 | q + 1, v0len, v7, v8, h0_0, h0_1, h0_2, h0_3, h0_4, h0_5, h0_6, h1z, h1l, h1x => (if v8 < v7 then (if 0 ≤ v8 then (if v8.toNat < v0len then ((h1l[v8.toNat]?).bind fun e1 => (if h0_1 < e1.Proc then (some v8) else (zkr q v0len v7 (wrp .i64 (v8 + 1)) h0_0 h0_1 h0_2 h0_3 h0_4 h0_5 h0_6 h1z h1l h1x))) else none) else none) else (some (-1)))
def zks : Nat → Nat → Int → Int → Int → Int → Int → Int → Int → Bool → (List zjm) → Bool → Option (Int)
 | 0, _, _, _, _, _, _, _, _, _, _, _ => none
 | q + 1, v0len, h0_0, h0_1, h0_2, h0_3, h0_4, h0_5, h0_6, h1z, h1l, h1x => (zkr q v0len (v0len : Int) 0 h0_0 h0_1 h0_2 h0_3 h0_4 h0_5 h0_6 h1z h1l h1x)
def zkt : Nat → (Sl zjm) → zjq → Option ((Ow zjm))
 | 0, _, _ => none
 | q + 1, a0, a1 => ((zkl q a0).bind fun r1 => ((zkq q a1.Index a1.Proc a1.Seq a1.Op.Code a1.Op.A a1.Op.B a1.Resp r1.n r1.xs r1.x).bind fun r2 => ((zks q r2.1 a1.Index a1.Proc a1.Seq a1.Op.Code a1.Op.A a1.Op.B a1.Resp r1.n r2.2.1 r2.2.2).bind fun r3 => (if r3 < 0 then (if r2.2.2 = true then ((zkm q ⟨r1.n, r2.2.2, (List.take r2.1 r2.2.1)⟩ (r2.1 : Int) ⟨false, [(⟨a1.Proc, a1.Seq, a1.Resp⟩ : zjm)]⟩).bind fun r4 => (some r4)) else none) else (if r2.2.2 = true then ((zkm q ⟨r1.n, r2.2.2, (List.take r2.1 r2.2.1)⟩ r3 ⟨false, [(⟨a1.Proc, a1.Seq, a1.Resp⟩ : zjm)]⟩).bind fun r5 => (some r5)) else none)))))
def zku : Nat → Bool → (List zjm) → Int → Int → Int → Int → Bool → Int → Bool → (List Int) → Bool → Bool → (List zjm) → Bool → Option (zjn × Int)
 | 0, _, _, _, _, _, _, _, _, _, _, _, _, _, _ => none
 | q + 1, v89z, v89l, v90, v91, h1_0, h1_1, h1_3, h1_4, h2z, h2l, h2x, h3z, h3l, h3x => (if v91 < v90 then (if 0 ≤ v91 then ((v89l[v91.toNat]?).bind fun e6 => ((zkt q ⟨h3z, h3l⟩ (⟨0, e6.Proc, e6.Seq, (⟨0, 0, 0⟩ : zjp), e6.Resp⟩ : zjq)).bind fun r7 => (zku q v89z v89l v90 (wrp .i64 (v91 + 1)) h1_0 h1_1 h1_3 h1_4 h2z h2l h2x r7.n r7.xs r7.x))) else none) else ((zj2 q (⟨h1_0, (⟨h1_1, ⟨h2z, h2l⟩, h1_3, h1_4⟩ : zjl), ⟨h3z, h3l⟩⟩ : zjn)).bind fun r8 => (if r8 = true then (some ((⟨h1_0, (⟨h1_1, ⟨h2z, h2l⟩, h1_3, h1_4⟩ : zjl), ⟨h3z, h3l⟩⟩ : zjn), 0)) else (some ((⟨0, (⟨0, ⟨true, []⟩, false, 0⟩ : zjl), ⟨true, []⟩⟩ : zjn), 1)))))
def zkv : Nat → Bool → (List zjm) → Int → Int → Int → Bool → Int → Bool → (List zjm) → Bool → (List Int) → Bool → Option (zjn × Int)
 | 0, _, _, _, _, _, _, _, _, _, _, _, _ => none
 | q + 1, v89z, v89l, v90, h1_0, h1_1, h1_3, h1_4, h1_5z, h1_5l, h2z, h2l, h2x => (if 0 < v90 then ((v89l[0]?).bind fun e3 => ((zkt q ⟨h1_5z, h1_5l⟩ (⟨0, e3.Proc, e3.Seq, (⟨0, 0, 0⟩ : zjp), e3.Resp⟩ : zjq)).bind fun r4 => (zku q v89z v89l v90 (wrp .i64 1) h1_0 h1_1 h1_3 h1_4 h2z h2l h2x r4.n r4.xs r4.x))) else ((zj2 q (⟨h1_0, (⟨h1_1, ⟨h2z, h2l⟩, h1_3, h1_4⟩ : zjl), ⟨h1_5z, h1_5l⟩⟩ : zjn)).bind fun r5 => (if r5 = true then (some ((⟨h1_0, (⟨h1_1, ⟨h2z, h2l⟩, h1_3, h1_4⟩ : zjl), ⟨h1_5z, h1_5l⟩⟩ : zjn), 0)) else (some ((⟨0, (⟨0, ⟨true, []⟩, false, 0⟩ : zjl), ⟨true, []⟩⟩ : zjn), 1)))))
def zkw : Nat → zjn → zjo → Option (zjn × Int)
 | 0, _, _ => none
 | q + 1, a0, a1 => ((zj2 q a0).bind fun r1 => (if r1 = true then (if a1.Ahead < 0 then (some ((⟨0, (⟨0, ⟨true, []⟩, false, 0⟩ : zjl), ⟨true, []⟩⟩ : zjn), 1)) else (if a1.Behind < 0 then (some ((⟨0, (⟨0, ⟨true, []⟩, false, 0⟩ : zjl), ⟨true, []⟩⟩ : zjn), 1)) else (if (a0.State.L.l.length : Int) < a1.Ahead then (some ((⟨0, (⟨0, ⟨true, []⟩, false, 0⟩ : zjl), ⟨true, []⟩⟩ : zjn), 1)) else (if (wrp .i64 ((a0.State.L.l.length : Int) - a1.Ahead)) < a1.Behind then (some ((⟨0, (⟨0, ⟨true, []⟩, false, 0⟩ : zjl), ⟨true, []⟩⟩ : zjn), 1)) else (if a0.Index = a1.From then (if a1.To < a1.From then (some ((⟨0, (⟨0, ⟨true, []⟩, false, 0⟩ : zjl), ⟨true, []⟩⟩ : zjn), 15)) else (if 0 ≤ a1.Ahead then (if a1.Ahead.toNat ≤ a0.State.L.l.length then (if 0 ≤ (wrp .i64 ((a0.State.L.l.length : Int) - a1.Behind)) then (if (wrp .i64 ((a0.State.L.l.length : Int) - a1.Behind)) ≤ (a0.State.L.l.length : Int) then ((zkk q ⟨false, [⟨a0.State.L.z, (List.take a1.Ahead.toNat a0.State.L.l)⟩, a1.Mid, ⟨a0.State.L.z, (List.drop ((wrp .i64 ((a0.State.L.l.length : Int) - a1.Behind)).toNat) a0.State.L.l)⟩]⟩).bind fun r2 => (zkv q a1.Table.z a1.Table.l (a1.Table.l.length : Int) a1.To a0.State.Kind a1.Sealed a1.Engine a0.Table.z a0.Table.l r2.n r2.xs r2.x)) else none) else none) else none) else none)) else (some ((⟨0, (⟨0, ⟨true, []⟩, false, 0⟩ : zjl), ⟨true, []⟩⟩ : zjn), 15))))))) else (some ((⟨0, (⟨0, ⟨true, []⟩, false, 0⟩ : zjl), ⟨true, []⟩⟩ : zjn), 1))))
def zkx : Nat → Bool → (List Int) → Bool → (List Int) → Int → Int → Option (Bool)
 | 0, _, _, _, _, _, _ => none
 | q + 1, v0z, v0l, v1z, v1l, v12, v13 => (if v13 < v12 then (if 0 ≤ v13 then ((v0l[v13.toNat]?).bind fun e1 => ((v1l[v13.toNat]?).bind fun e2 => (if e1 = e2 then (zkx q v0z v0l v1z v1l v12 (wrp .i64 (v13 + 1))) else (some false)))) else none) else (some true))
def zky : Nat → (Sl Int) → (Sl Int) → Option (Bool)
 | 0, _, _ => none
 | q + 1, a0, a1 => (if (a0.l.length : Int) = (a1.l.length : Int) then (zkx q a0.z a0.l a1.z a1.l (a0.l.length : Int) 0) else (some false))
def zkz : Nat → zjl → zjl → Option (Bool)
 | 0, _, _ => none
 | q + 1, a0, a1 => (if a0.Kind = a1.Kind then (if (a0.Sealed == a1.Sealed) = true then (if a0.To = a1.To then ((zky q a0.L a1.L).bind fun r1 => (some r1)) else (some false)) else (some false)) else (some false))
def zk0 : Nat → Bool → (List zjm) → Bool → (List zjm) → Int → Int → Option (Bool)
 | 0, _, _, _, _, _, _ => none
 | q + 1, v0z, v0l, v1z, v1l, v12, v13 => (if v13 < v12 then (if 0 ≤ v13 then ((v0l[v13.toNat]?).bind fun e1 => ((v1l[v13.toNat]?).bind fun e2 => (if e1.Proc = e2.Proc then (if e1.Seq = e2.Seq then (if e1.Resp = e2.Resp then (zk0 q v0z v0l v1z v1l v12 (wrp .i64 (v13 + 1))) else (some false)) else (some false)) else (some false)))) else none) else (some true))
def zk1 : Nat → (Sl zjm) → (Sl zjm) → Option (Bool)
 | 0, _, _ => none
 | q + 1, a0, a1 => (if (a0.l.length : Int) = (a1.l.length : Int) then (zk0 q a0.z a0.l a1.z a1.l (a0.l.length : Int) 0) else (some false))
def zk2 : Nat → zjn → zjn → Option (Bool)
 | 0, _, _ => none
 | q + 1, a0, a1 => (if a0.Index = a1.Index then ((zkz q a0.State a1.State).bind fun r1 => (if r1 = true then ((zk1 q a0.Table a1.Table).bind fun r2 => (some r2)) else (some false))) else (some false))
def zk3 : Nat → Option (Bool)
 | 0 => none
 | q + 1 => ((zkf q (⟨0, (⟨3, ⟨false, [1, 2]⟩, false, 0⟩ : zjl), ⟨true, []⟩⟩ : zjn) (⟨1, (⟨3, ⟨false, [1, 2, 9]⟩, false, 0⟩ : zjl), ⟨true, []⟩⟩ : zjn)).bind fun r1 => ((zkw q (⟨0, (⟨3, ⟨false, [1, 2]⟩, false, 0⟩ : zjl), ⟨true, []⟩⟩ : zjn) r1.1).bind fun r2 => (if r1.2 = 0 then (if r2.2 = 0 then (if r1.1.Ahead = 2 then (if r1.1.Behind = 0 then (if (r1.1.Mid.l.length : Int) = 1 then ((r1.1.Mid.l[0]?).bind fun e3 => (if e3 = 9 then ((zk2 q (⟨1, (⟨3, ⟨false, [1, 2, 9]⟩, false, 0⟩ : zjl), ⟨true, []⟩⟩ : zjn) r2.1).bind fun r4 => (some r4)) else (some false))) else (some false)) else (some false)) else (some false)) else (some false)) else (some false))))
def zk4 : Nat → zjl → Option (Bool)
 | 0, _ => none
 | q + 1, a0 => (some (decide ((a0.L.l.length : Int) ≤ 300)))
def zk5 : Nat → zjn → Option (Bool)
 | 0, _ => none
 | q + 1, a0 => ((zk4 q a0.State).bind fun r1 => (if r1 = true then (some (decide ((a0.Table.l.length : Int) ≤ 100))) else (some false)))
def zk6 : Nat → Bool → (List Int) → Int → Int → Option (Bool)
 | 0, _, _, _, _ => none
 | q + 1, v0z, v0l, v1, v5 => (if v5 < (v0l.length : Int) then (if 0 ≤ v5 then ((v0l[v5.toNat]?).bind fun e1 => (if e1 < 0 then (some false) else (if 255 < e1 then (some false) else (if 0 < v5 then (if 0 ≤ (wrp .i64 (v5 - 2)) then ((v0l[(wrp .i64 (v5 - 2)).toNat]?).bind fun e2 => (if e1 ≤ e2 then (some false) else (if 0 ≤ (wrp .i64 (v5 + 1)) then ((v0l[(wrp .i64 (v5 + 1)).toNat]?).bind fun e3 => (if e3 < v1 then (some false) else (if 1099511627776 < e3 then (some false) else (zk6 q v0z v0l v1 (wrp .i64 (v5 + 2)))))) else none))) else none) else (if 0 ≤ (wrp .i64 (v5 + 1)) then ((v0l[(wrp .i64 (v5 + 1)).toNat]?).bind fun e4 => (if e4 < v1 then (some false) else (if 1099511627776 < e4 then (some false) else (zk6 q v0z v0l v1 (wrp .i64 (v5 + 2)))))) else none))))) else none) else (some true))
def zk7 : Nat → (Sl Int) → Int → Option (Bool)
 | 0, _, _ => none
 | q + 1, a0, a1 => (if (Int.tmod (a0.l.length : Int) 2) = 0 then (if 128 < (a0.l.length : Int) then (some false) else (zk6 q a0.z a0.l a1 0)) else (some false))
def zk8 : Nat → Int → Option (Int)
 | 0, _ => none
 | q + 1, a0 => (if a0 < (-1099511627776) then (some (-1099511627776)) else (if 1099511627776 < a0 then (some 1099511627776) else (some a0)))
def zk9 : Nat → Int → Int → Bool → (List Int) → Bool → Int → Option (Bool)
 | 0, _, _, _, _, _, _ => none
 | q + 1, v3, h0_0, h0_1z, h0_1l, h0_2, h0_3 => (if v3 < (h0_1l.length : Int) then (if 0 ≤ v3 then ((h0_1l[v3.toNat]?).bind fun e5 => ((zk8 q e5).bind fun r6 => (if e5 = r6 then (zk9 q (wrp .i64 (v3 + 1)) h0_0 h0_1z h0_1l h0_2 h0_3) else (some false)))) else none) else (some true))
def zla : Nat → zjl → Option (Bool)
 | 0, _ => none
 | q + 1, a0 => (if a0.To < 0 then (some false) else (if 2 < a0.To then (some false) else (if a0.Sealed = true then (if a0.Kind < 0 then (some false) else (if 6 ≤ a0.Kind then (some false) else (if a0.Kind = 4 then ((zk7 q a0.L (-1099511627776)).bind fun r1 => (some r1)) else (if a0.Kind = 5 then ((zk7 q a0.L 0).bind fun r2 => (some r2)) else (if 64 < (a0.L.l.length : Int) then (some false) else (if (a0.L.l.length : Int) = 1 then (zk9 q 0 a0.Kind a0.L.z a0.L.l a0.Sealed a0.To) else (if a0.Kind ≤ 1 then (some false) else (zk9 q 0 a0.Kind a0.L.z a0.L.l a0.Sealed a0.To)))))))) else (if a0.To = 0 then (if a0.Kind < 0 then (some false) else (if 6 ≤ a0.Kind then (some false) else (if a0.Kind = 4 then ((zk7 q a0.L (-1099511627776)).bind fun r3 => (some r3)) else (if a0.Kind = 5 then ((zk7 q a0.L 0).bind fun r4 => (some r4)) else (if 64 < (a0.L.l.length : Int) then (some false) else (if (a0.L.l.length : Int) = 1 then (zk9 q 0 a0.Kind a0.L.z a0.L.l a0.Sealed a0.To) else (if a0.Kind ≤ 1 then (some false) else (zk9 q 0 a0.Kind a0.L.z a0.L.l a0.Sealed a0.To)))))))) else (some false)))))
def zlb : Nat → Bool → (List zjm) → Int → Option (Bool)
 | 0, _, _, _ => none
 | q + 1, v0z, v0l, v3 => (if v3 < (v0l.length : Int) then (if 0 ≤ v3 then ((v0l[v3.toNat]?).bind fun e1 => (if e1.Proc < 0 then (some false) else (if 64 < e1.Proc then (some false) else (if e1.Seq < 0 then (some false) else (if 4611686018427387904 ≤ e1.Seq then (some false) else (if e1.Resp < (-1125899906842624) then (some false) else (if 1125899906842624 < e1.Resp then (some false) else (if 0 < v3 then (if 0 ≤ (wrp .i64 (v3 - 1)) then ((v0l[(wrp .i64 (v3 - 1)).toNat]?).bind fun e2 => (if e1.Proc ≤ e2.Proc then (some false) else (zlb q v0z v0l (wrp .i64 (v3 + 1))))) else none) else (zlb q v0z v0l (wrp .i64 (v3 + 1))))))))))) else none) else (some true))
def zlc : Nat → (Sl zjm) → Option (Bool)
 | 0, _ => none
 | q + 1, a0 => (zlb q a0.z a0.l 0)
def zld : Nat → zjn → Option (Bool)
 | 0, _ => none
 | q + 1, a0 => ((zla q a0.State).bind fun r1 => ((zlc q a0.Table).bind fun r2 => (if r1 = true then (if r2 = true then (if 0 ≤ a0.Index then (some (decide (a0.Index < 4611686018427387904))) else (some false)) else (some false)) else (some false))))
def zle : Nat → Bool → (List zjm) → Int → Int → Option (zjm × Bool)
 | 0, _, _, _, _ => none
 | q + 1, v0z, v0l, v1, v6 => (if v6 < (v0l.length : Int) then (if 0 ≤ v6 then ((v0l[v6.toNat]?).bind fun e1 => (if e1.Proc = v1 then (some (e1, true)) else (zle q v0z v0l v1 (wrp .i64 (v6 + 1))))) else none) else (some ((⟨0, 0, 0⟩ : zjm), false)))
def zlf : Nat → (Sl zjm) → Int → Option (zjm × Bool)
 | 0, _, _ => none
 | q + 1, a0, a1 => (zle q a0.z a0.l a1 0)
def zlg : Nat → Int → Int → Int → Bool → (List Int) → Bool → Int → Bool → (List zjm) → Int → Int → Bool → (List Int) → Bool → Int → Bool → (List zjm) → Int → Int → Int → Int → Bool → Int → Bool → (List Int) → (List zjm) → Option (zjo × Int)
 | 0, _, _, _, _, _, _, _, _, _, _, _, _, _, _, _, _, _, _, _, _, _, _, _, _, _, _ => none
 | q + 1, v14, h0_0, h0_1, h0_2z, h0_2l, h0_3, h0_4, h0_5z, h0_5l, h1_0, h1_1, h1_2z, h1_2l, h1_3, h1_4, h1_5z, h1_5l, h3_0, h3_1, h3_2, h3_3, h3_5, h3_6, h4z, h4l, h5l => (if v14 < (h1_5l.length : Int) then (if 0 ≤ v14 then ((h1_5l[v14.toNat]?).bind fun e11 => ((zlf q ⟨h0_5z, h0_5l⟩ e11.Proc).bind fun r12 => (if r12.2 = true then (if r12.1.Proc = e11.Proc then (if r12.1.Seq = e11.Seq then (if r12.1.Resp = e11.Resp then (zlg q (wrp .i64 (v14 + 1)) h0_0 h0_1 h0_2z h0_2l h0_3 h0_4 h0_5z h0_5l h1_0 h1_1 h1_2z h1_2l h1_3 h1_4 h1_5z h1_5l h3_0 h3_1 h3_2 h3_3 h3_5 h3_6 h4z h4l h5l) else (if (h5l.length + 1) ≤ 4294967296 then (zlg q (wrp .i64 (v14 + 1)) h0_0 h0_1 h0_2z h0_2l h0_3 h0_4 h0_5z h0_5l h1_0 h1_1 h1_2z h1_2l h1_3 h1_4 h1_5z h1_5l h3_0 h3_1 h3_2 h3_3 h3_5 h3_6 h4z h4l (h5l ++ [e11])) else none)) else (if (h5l.length + 1) ≤ 4294967296 then (zlg q (wrp .i64 (v14 + 1)) h0_0 h0_1 h0_2z h0_2l h0_3 h0_4 h0_5z h0_5l h1_0 h1_1 h1_2z h1_2l h1_3 h1_4 h1_5z h1_5l h3_0 h3_1 h3_2 h3_3 h3_5 h3_6 h4z h4l (h5l ++ [e11])) else none)) else (if (h5l.length + 1) ≤ 4294967296 then (zlg q (wrp .i64 (v14 + 1)) h0_0 h0_1 h0_2z h0_2l h0_3 h0_4 h0_5z h0_5l h1_0 h1_1 h1_2z h1_2l h1_3 h1_4 h1_5z h1_5l h3_0 h3_1 h3_2 h3_3 h3_5 h3_6 h4z h4l (h5l ++ [e11])) else none)) else (if (h5l.length + 1) ≤ 4294967296 then (zlg q (wrp .i64 (v14 + 1)) h0_0 h0_1 h0_2z h0_2l h0_3 h0_4 h0_5z h0_5l h1_0 h1_1 h1_2z h1_2l h1_3 h1_4 h1_5z h1_5l h3_0 h3_1 h3_2 h3_3 h3_5 h3_6 h4z h4l (h5l ++ [e11])) else none)))) else none) else (some ((⟨h3_0, h3_1, h3_2, h3_3, ⟨h4z, h4l⟩, h3_5, h3_6, ⟨false, h5l⟩⟩ : zjo), 0)))
def zlh : Nat → Int → Int → Int → Bool → (List Int) → Bool → Int → Bool → (List zjm) → Int → Int → Bool → (List Int) → Bool → Int → Bool → (List zjm) → Int → Int → Int → Int → Bool → Int → Bool → (List Int) → Option (zjo × Int)
 | 0, _, _, _, _, _, _, _, _, _, _, _, _, _, _, _, _, _, _, _, _, _, _, _, _, _ => none
 | q + 1, v14, h0_0, h0_1, h0_2z, h0_2l, h0_3, h0_4, h0_5z, h0_5l, h1_0, h1_1, h1_2z, h1_2l, h1_3, h1_4, h1_5z, h1_5l, h3_0, h3_1, h3_2, h3_3, h3_5, h3_6, h4z, h4l => (if v14 < (h1_5l.length : Int) then (if 0 ≤ v14 then ((h1_5l[v14.toNat]?).bind fun e9 => ((zlf q ⟨h0_5z, h0_5l⟩ e9.Proc).bind fun r10 => (if r10.2 = true then (if r10.1.Proc = e9.Proc then (if r10.1.Seq = e9.Seq then (if r10.1.Resp = e9.Resp then (zlh q (wrp .i64 (v14 + 1)) h0_0 h0_1 h0_2z h0_2l h0_3 h0_4 h0_5z h0_5l h1_0 h1_1 h1_2z h1_2l h1_3 h1_4 h1_5z h1_5l h3_0 h3_1 h3_2 h3_3 h3_5 h3_6 h4z h4l) else (zlg q (wrp .i64 (v14 + 1)) h0_0 h0_1 h0_2z h0_2l h0_3 h0_4 h0_5z h0_5l h1_0 h1_1 h1_2z h1_2l h1_3 h1_4 h1_5z h1_5l h3_0 h3_1 h3_2 h3_3 h3_5 h3_6 h4z h4l [e9])) else (zlg q (wrp .i64 (v14 + 1)) h0_0 h0_1 h0_2z h0_2l h0_3 h0_4 h0_5z h0_5l h1_0 h1_1 h1_2z h1_2l h1_3 h1_4 h1_5z h1_5l h3_0 h3_1 h3_2 h3_3 h3_5 h3_6 h4z h4l [e9])) else (zlg q (wrp .i64 (v14 + 1)) h0_0 h0_1 h0_2z h0_2l h0_3 h0_4 h0_5z h0_5l h1_0 h1_1 h1_2z h1_2l h1_3 h1_4 h1_5z h1_5l h3_0 h3_1 h3_2 h3_3 h3_5 h3_6 h4z h4l [e9])) else (zlg q (wrp .i64 (v14 + 1)) h0_0 h0_1 h0_2z h0_2l h0_3 h0_4 h0_5z h0_5l h1_0 h1_1 h1_2z h1_2l h1_3 h1_4 h1_5z h1_5l h3_0 h3_1 h3_2 h3_3 h3_5 h3_6 h4z h4l [e9])))) else none) else (some ((⟨h3_0, h3_1, h3_2, h3_3, ⟨h4z, h4l⟩, h3_5, h3_6, ⟨true, []⟩⟩ : zjo), 0)))
def zli : Nat → Bool → (List Int) → Bool → (List Int) → Int → Int → Bool → (List Int) → Bool → Int → Bool → (List zjm) → Int → Int → Bool → (List Int) → Bool → Int → Bool → (List zjm) → Int → Int → Int → Int → Bool → Int → Option (zjo × Int)
 | 0, _, _, _, _, _, _, _, _, _, _, _, _, _, _, _, _, _, _, _, _, _, _, _, _, _, _ => none
 | q + 1, v12z, v12l, v13z, v13l, h0_0, h0_1, h0_2z, h0_2l, h0_3, h0_4, h0_5z, h0_5l, h1_0, h1_1, h1_2z, h1_2l, h1_3, h1_4, h1_5z, h1_5l, h3_0, h3_1, h3_2, h3_3, h3_5, h3_6 => (if h3_3 < (v12l.length : Int) then (if h3_3 < (v13l.length : Int) then (if 0 ≤ (wrp .i64 ((wrp .i64 ((v12l.length : Int) - 1)) - h3_3)) then ((v12l[(wrp .i64 ((wrp .i64 ((v12l.length : Int) - 1)) - h3_3)).toNat]?).bind fun e7 => (if 0 ≤ (wrp .i64 ((wrp .i64 ((v13l.length : Int) - 1)) - h3_3)) then ((v13l[(wrp .i64 ((wrp .i64 ((v13l.length : Int) - 1)) - h3_3)).toNat]?).bind fun e8 => (if e7 = e8 then (zli q v12z v12l v13z v13l h0_0 h0_1 h0_2z h0_2l h0_3 h0_4 h0_5z h0_5l h1_0 h1_1 h1_2z h1_2l h1_3 h1_4 h1_5z h1_5l h3_0 h3_1 h3_2 (wrp .i64 (h3_3 + 1)) h3_5 h3_6) else (if 0 ≤ (wrp .i64 ((v13l.length : Int) - h3_3)) then (if (wrp .i64 ((v13l.length : Int) - h3_3)).toNat ≤ v13l.length then (if (min ((wrp .i64 ((v13l.length : Int) - h3_3)).toNat) v13l.length) ≤ 4294967296 then (zlh q 0 h0_0 h0_1 h0_2z h0_2l h0_3 h0_4 h0_5z h0_5l h1_0 h1_1 h1_2z h1_2l h1_3 h1_4 h1_5z h1_5l h3_0 h3_1 h3_2 h3_3 h3_5 h3_6 (decide ((min ((wrp .i64 ((v13l.length : Int) - h3_3)).toNat) v13l.length) = 0)) (List.take ((wrp .i64 ((v13l.length : Int) - h3_3)).toNat) v13l)) else none) else none) else none))) else none)) else none) else (if 0 ≤ (wrp .i64 ((v13l.length : Int) - h3_3)) then (if (wrp .i64 ((v13l.length : Int) - h3_3)).toNat ≤ v13l.length then (if (min ((wrp .i64 ((v13l.length : Int) - h3_3)).toNat) v13l.length) ≤ 4294967296 then (zlh q 0 h0_0 h0_1 h0_2z h0_2l h0_3 h0_4 h0_5z h0_5l h1_0 h1_1 h1_2z h1_2l h1_3 h1_4 h1_5z h1_5l h3_0 h3_1 h3_2 h3_3 h3_5 h3_6 (decide ((min ((wrp .i64 ((v13l.length : Int) - h3_3)).toNat) v13l.length) = 0)) (List.take ((wrp .i64 ((v13l.length : Int) - h3_3)).toNat) v13l)) else none) else none) else none)) else (if 0 ≤ (wrp .i64 ((v13l.length : Int) - h3_3)) then (if (wrp .i64 ((v13l.length : Int) - h3_3)).toNat ≤ v13l.length then (if (min ((wrp .i64 ((v13l.length : Int) - h3_3)).toNat) v13l.length) ≤ 4294967296 then (zlh q 0 h0_0 h0_1 h0_2z h0_2l h0_3 h0_4 h0_5z h0_5l h1_0 h1_1 h1_2z h1_2l h1_3 h1_4 h1_5z h1_5l h3_0 h3_1 h3_2 h3_3 h3_5 h3_6 (decide ((min ((wrp .i64 ((v13l.length : Int) - h3_3)).toNat) v13l.length) = 0)) (List.take ((wrp .i64 ((v13l.length : Int) - h3_3)).toNat) v13l)) else none) else none) else none))
def zlj : Nat → Bool → (List Int) → Bool → (List Int) → Int → Int → Bool → (List Int) → Bool → Int → Bool → (List zjm) → Int → Int → Bool → (List Int) → Bool → Int → Bool → (List zjm) → Int → Int → Int → Bool → Int → Option (zjo × Int)
 | 0, _, _, _, _, _, _, _, _, _, _, _, _, _, _, _, _, _, _, _, _, _, _, _, _, _ => none
 | q + 1, v12z, v12l, v13z, v13l, h0_0, h0_1, h0_2z, h0_2l, h0_3, h0_4, h0_5z, h0_5l, h1_0, h1_1, h1_2z, h1_2l, h1_3, h1_4, h1_5z, h1_5l, h3_0, h3_1, h3_2, h3_5, h3_6 => (if h3_2 < (v12l.length : Int) then (if h3_2 < (v13l.length : Int) then (if 0 ≤ h3_2 then ((v12l[h3_2.toNat]?).bind fun e5 => ((v13l[h3_2.toNat]?).bind fun e6 => (if e5 = e6 then (zlj q v12z v12l v13z v13l h0_0 h0_1 h0_2z h0_2l h0_3 h0_4 h0_5z h0_5l h1_0 h1_1 h1_2z h1_2l h1_3 h1_4 h1_5z h1_5l h3_0 h3_1 (wrp .i64 (h3_2 + 1)) h3_5 h3_6) else (if h3_2 ≤ (v12l.length : Int) then (if h3_2 ≤ (v13l.length : Int) then (zli q v12z (List.drop h3_2.toNat v12l) v13z (List.drop h3_2.toNat v13l) h0_0 h0_1 h0_2z h0_2l h0_3 h0_4 h0_5z h0_5l h1_0 h1_1 h1_2z h1_2l h1_3 h1_4 h1_5z h1_5l h3_0 h3_1 h3_2 0 h3_5 h3_6) else none) else none)))) else none) else (if 0 ≤ h3_2 then (if h3_2 ≤ (v12l.length : Int) then (if h3_2 ≤ (v13l.length : Int) then (zli q v12z (List.drop h3_2.toNat v12l) v13z (List.drop h3_2.toNat v13l) h0_0 h0_1 h0_2z h0_2l h0_3 h0_4 h0_5z h0_5l h1_0 h1_1 h1_2z h1_2l h1_3 h1_4 h1_5z h1_5l h3_0 h3_1 h3_2 0 h3_5 h3_6) else none) else none) else none)) else (if 0 ≤ h3_2 then (if h3_2 ≤ (v12l.length : Int) then (if h3_2 ≤ (v13l.length : Int) then (zli q v12z (List.drop h3_2.toNat v12l) v13z (List.drop h3_2.toNat v13l) h0_0 h0_1 h0_2z h0_2l h0_3 h0_4 h0_5z h0_5l h1_0 h1_1 h1_2z h1_2l h1_3 h1_4 h1_5z h1_5l h3_0 h3_1 h3_2 0 h3_5 h3_6) else none) else none) else none))
def zlk : Nat → Int → Int → Int → Bool → (List Int) → Bool → Int → Bool → (List zjm) → Int → Int → Bool → (List Int) → Bool → Int → Bool → (List zjm) → Option (zjo × Int)
 | 0, _, _, _, _, _, _, _, _, _, _, _, _, _, _, _, _, _ => none
 | q + 1, v8, h0_0, h0_1, h0_2z, h0_2l, h0_3, h0_4, h0_5z, h0_5l, h1_0, h1_1, h1_2z, h1_2l, h1_3, h1_4, h1_5z, h1_5l => (if v8 < (h0_5l.length : Int) then (if 0 ≤ v8 then ((h0_5l[v8.toNat]?).bind fun e3 => ((zlf q ⟨h1_5z, h1_5l⟩ e3.Proc).bind fun r4 => (if r4.2 = true then (zlk q (wrp .i64 (v8 + 1)) h0_0 h0_1 h0_2z h0_2l h0_3 h0_4 h0_5z h0_5l h1_0 h1_1 h1_2z h1_2l h1_3 h1_4 h1_5z h1_5l) else (some ((⟨0, 0, 0, 0, ⟨true, []⟩, false, 0, ⟨true, []⟩⟩ : zjo), 15))))) else none) else (if h1_0 < h0_0 then (some ((⟨0, 0, 0, 0, ⟨true, []⟩, false, 0, ⟨true, []⟩⟩ : zjo), 15)) else (zlj q h0_2z h0_2l h1_2z h1_2l h0_0 h0_1 h0_2z h0_2l h0_3 h0_4 h0_5z h0_5l h1_0 h1_1 h1_2z h1_2l h1_3 h1_4 h1_5z h1_5l h0_0 h1_0 0 h1_3 h1_4)))
def zll : Nat → zjn → zjn → Option (zjo × Int)
 | 0, _, _ => none
 | q + 1, a0, a1 => ((zld q a0).bind fun r1 => ((zld q a1).bind fun r2 => (if r1 = true then (if r2 = true then (if a0.State.Kind = a1.State.Kind then (zlk q 0 a0.Index a0.State.Kind a0.State.L.z a0.State.L.l a0.State.Sealed a0.State.To a0.Table.z a0.Table.l a1.Index a1.State.Kind a1.State.L.z a1.State.L.l a1.State.Sealed a1.State.To a1.Table.z a1.Table.l) else (some ((⟨0, 0, 0, 0, ⟨true, []⟩, false, 0, ⟨true, []⟩⟩ : zjo), 1))) else (some ((⟨0, 0, 0, 0, ⟨true, []⟩, false, 0, ⟨true, []⟩⟩ : zjo), 1))) else (some ((⟨0, 0, 0, 0, ⟨true, []⟩, false, 0, ⟨true, []⟩⟩ : zjo), 1)))))
def zlm : Nat → Int → Int → Int → Int → Int → Bool → (List Int) → Bool → Int → Bool → (List zjm) → Int → Int → Int → Int → Bool → (List Int) → Bool → Int → Bool → (List zjm) → Option (Bool)
 | 0, _, _, _, _, _, _, _, _, _, _, _, _, _, _, _, _, _, _, _, _, _ => none
 | q + 1, v6, h0_0, h0_1, h0_2, h0_3, h0_4z, h0_4l, h0_5, h0_6, h0_7z, h0_7l, h1_0, h1_1, h1_2, h1_3, h1_4z, h1_4l, h1_5, h1_6, h1_7z, h1_7l => (if v6 < (h0_7l.length : Int) then (if 0 ≤ v6 then ((h0_7l[v6.toNat]?).bind fun e3 => ((h1_7l[v6.toNat]?).bind fun e4 => (if e3.Proc = e4.Proc then (if e3.Seq = e4.Seq then (if e3.Resp = e4.Resp then (zlm q (wrp .i64 (v6 + 1)) h0_0 h0_1 h0_2 h0_3 h0_4z h0_4l h0_5 h0_6 h0_7z h0_7l h1_0 h1_1 h1_2 h1_3 h1_4z h1_4l h1_5 h1_6 h1_7z h1_7l) else (some false)) else (some false)) else (some false)))) else none) else (some true))
def zln : Nat → Int → Int → Int → Int → Int → Bool → (List Int) → Bool → Int → Bool → (List zjm) → Int → Int → Int → Int → Bool → (List Int) → Bool → Int → Bool → (List zjm) → Option (Bool)
 | 0, _, _, _, _, _, _, _, _, _, _, _, _, _, _, _, _, _, _, _, _, _ => none
 | q + 1, v5, h0_0, h0_1, h0_2, h0_3, h0_4z, h0_4l, h0_5, h0_6, h0_7z, h0_7l, h1_0, h1_1, h1_2, h1_3, h1_4z, h1_4l, h1_5, h1_6, h1_7z, h1_7l => (if v5 < (h0_4l.length : Int) then (if 0 ≤ v5 then ((h0_4l[v5.toNat]?).bind fun e1 => ((h1_4l[v5.toNat]?).bind fun e2 => (if e1 = e2 then (zln q (wrp .i64 (v5 + 1)) h0_0 h0_1 h0_2 h0_3 h0_4z h0_4l h0_5 h0_6 h0_7z h0_7l h1_0 h1_1 h1_2 h1_3 h1_4z h1_4l h1_5 h1_6 h1_7z h1_7l) else (some false)))) else none) else (zlm q 0 h0_0 h0_1 h0_2 h0_3 h0_4z h0_4l h0_5 h0_6 h0_7z h0_7l h1_0 h1_1 h1_2 h1_3 h1_4z h1_4l h1_5 h1_6 h1_7z h1_7l))
def zlo : Nat → zjo → zjo → Option (Bool)
 | 0, _, _ => none
 | q + 1, a0, a1 => (if a0.From = a1.From then (if a0.To = a1.To then (if a0.Ahead = a1.Ahead then (if a0.Behind = a1.Behind then (if (a0.Sealed == a1.Sealed) = true then (if a0.Engine = a1.Engine then (if (a0.Mid.l.length : Int) = (a1.Mid.l.length : Int) then (if (a0.Table.l.length : Int) = (a1.Table.l.length : Int) then (zln q 0 a0.From a0.To a0.Ahead a0.Behind a0.Mid.z a0.Mid.l a0.Sealed a0.Engine a0.Table.z a0.Table.l a1.From a1.To a1.Ahead a1.Behind a1.Mid.z a1.Mid.l a1.Sealed a1.Engine a1.Table.z a1.Table.l) else (some false)) else (some false)) else (some false)) else (some false)) else (some false)) else (some false)) else (some false)) else (some false))
def zlp : Nat → zjn → zjn → Option (Bool)
 | 0, _, _ => none
 | q + 1, a0, a1 => ((zk3 q).bind fun r1 => ((zk5 q a0).bind fun r2 => ((zk5 q a1).bind fun r3 => (if r1 = true then (if r2 = true then (if r3 = true then ((zkf q a0 a1).bind fun r4 => ((zll q a0 a1).bind fun r5 => ((zlo q r4.1 r5.1).bind fun r6 => (if r6 = true then (some (decide (r4.2 = r5.2))) else (some false))))) else (some r1)) else (some r1)) else (some r1)))))
end Go.Dvm.I
