/- The functions of the law, as they answer, over typed data. -/
import Derived.Test.YtngajodhbioheaaQv2
set_option linter.all false
set_option maxRecDepth 100000
set_option maxHeartbeats 4000000
namespace Go.Dvm.I
open Go Go.Dvm
structure zjj where
 Kind : Int
 L : (Sl Int)
 Sealed : Bool
 To : Int
def zjj.enc (r : zjj) : V := .agg [V.int .i64 r.Kind, (Sl.enc (V.int .i64)) r.L, V.bool r.Sealed, V.int .i64 r.To]
structure zjk where
 Proc : Int
 Seq : Int
 Resp : Int
def zjk.enc (r : zjk) : V := .agg [V.int .i64 r.Proc, V.int .i64 r.Seq, V.int .i64 r.Resp]
structure zjl where
 Index : Int
 State : zjj
 Table : (Sl zjk)
def zjl.enc (r : zjl) : V := .agg [V.int .i64 r.Index, V.int .i64 r.State.Kind, (Sl.enc (V.int .i64)) r.State.L, V.bool r.State.Sealed, V.int .i64 r.State.To, (Sl.enc zjk.enc) r.Table]
structure zjm where
 From : Int
 To : Int
 Ahead : Int
 Behind : Int
 Mid : (Sl Int)
 Sealed : Bool
 Engine : Int
 Table : (Sl zjk)
def zjm.enc (r : zjm) : V := .agg [V.int .i64 r.From, V.int .i64 r.To, V.int .i64 r.Ahead, V.int .i64 r.Behind, (Sl.enc (V.int .i64)) r.Mid, V.bool r.Sealed, V.int .i64 r.Engine, (Sl.enc zjk.enc) r.Table]
structure zjn where
 Code : Int
 A : Int
 B : Int
def zjn.enc (r : zjn) : V := .agg [V.int .i64 r.Code, V.int .i64 r.A, V.int .i64 r.B]
structure zjo where
 Index : Int
 Proc : Int
 Seq : Int
 Op : zjn
 Resp : Int
def zjo.enc (r : zjo) : V := .agg [V.int .i64 r.Index, V.int .i64 r.Proc, V.int .i64 r.Seq, V.int .i64 r.Op.Code, V.int .i64 r.Op.A, V.int .i64 r.Op.B, V.int .i64 r.Resp]
structure zjp where
 index : Int
 size : Int
 sum : Int
def zjp.enc (r : zjp) : V := .agg [V.int .i64 r.index, V.int .i64 r.size, V.int .u64 r.sum]
def okSl {α : Type} (ok : α → Prop) (s : Sl α) : Prop := (s.z = true → s.l = []) ∧ s.l.length ≤ maxLen ∧ ∀ a ∈ s.l, ok a
def zjj.ok (r : zjj) : Prop := inR .i64 r.Kind ∧ okSl (fun x => inR .i64 x) r.L ∧ True ∧ inR .i64 r.To
def zjk.ok (r : zjk) : Prop := inR .i64 r.Proc ∧ inR .i64 r.Seq ∧ inR .i64 r.Resp
def zjl.ok (r : zjl) : Prop := inR .i64 r.Index ∧ zjj.ok r.State ∧ okSl (fun x => zjk.ok x) r.Table
def zjm.ok (r : zjm) : Prop := inR .i64 r.From ∧ inR .i64 r.To ∧ inR .i64 r.Ahead ∧ inR .i64 r.Behind ∧ okSl (fun x => inR .i64 x) r.Mid ∧ True ∧ inR .i64 r.Engine ∧ okSl (fun x => zjk.ok x) r.Table
def zjn.ok (r : zjn) : Prop := inR .i64 r.Code ∧ inR .i64 r.A ∧ inR .i64 r.B
def zjo.ok (r : zjo) : Prop := inR .i64 r.Index ∧ inR .i64 r.Proc ∧ inR .i64 r.Seq ∧ zjn.ok r.Op ∧ inR .i64 r.Resp
def zjp.ok (r : zjp) : Prop := inR .i64 r.index ∧ inR .i64 r.size ∧ inR .u64 r.sum
def zjq : Nat → Int → Option (Int)
 | 0, _ => none
 | q + 1, a0 => (some (if (-1099511627776) < (if 1099511627776 < a0 then 1099511627776 else a0) then (if 1099511627776 < a0 then 1099511627776 else a0) else (-1099511627776)))
def zjr : Nat → Int → Option (Bool)
 | 0, _ => none
 | q + 1, a0 => ((zjq q a0).bind fun r1 => (some (!(decide (a0 = r1)))))
def zjs : Nat → Bool → (List Int) → Int → Int → Int → Option (Bool)
 | 0, _, _, _, _, _ => none
 | q + 1, v0z, v0l, v1, v5, v6 => (if (wrp .i64 (v6 + 1)) < (v0l.length : Int) then (if 0 ≤ v6 then ((v0l[v6.toNat]?).bind fun e1 => (if e1 ≤ v5 then (some false) else (if 255 < e1 then (some false) else (if 0 ≤ (wrp .i64 (v6 + 1)) then ((v0l[(wrp .i64 (v6 + 1)).toNat]?).bind fun e2 => (if e2 < v1 then (some false) else (if 1099511627776 < e2 then (some false) else (zjs q v0z v0l v1 e1 (wrp .i64 (v6 + 2)))))) else none)))) else none) else (if (Int.tmod (v0l.length : Int) 2) = 0 then (some (decide ((v0l.length : Int) ≤ 128))) else (some false)))
def zjt : Nat → (Sl Int) → Int → Option (Bool)
 | 0, _, _ => none
 | q + 1, a0, a1 => (zjs q a0.z a0.l a1 (-1) 0)
def zju : Nat → Bool → (List Int) → Int → Int → Int → Bool → (List Int) → Bool → Int → Option (Int)
 | 0, _, _, _, _, _, _, _, _, _ => none
 | q + 1, v0z, v0l, v7, v8, h0_0, h0_1z, h0_1l, h0_2, h0_3 => (if v8 < v7 then (if 0 ≤ v8 then ((v0l[v8.toNat]?).bind fun e1 => ((zjr q e1).bind fun r2 => (if r2 = true then (some v8) else (zju q v0z v0l v7 (wrp .i64 (v8 + 1)) h0_0 h0_1z h0_1l h0_2 h0_3)))) else none) else (some (-1)))
def zjv : Nat → Bool → (List Int) → Int → Bool → (List Int) → Bool → Int → Option (Int)
 | 0, _, _, _, _, _, _, _ => none
 | q + 1, v0z, v0l, h0_0, h0_1z, h0_1l, h0_2, h0_3 => (zju q v0z v0l (v0l.length : Int) 0 h0_0 h0_1z h0_1l h0_2 h0_3)
def zjw : Nat → zjj → Option (Bool)
 | 0, _ => none
 | q + 1, a0 => (if a0.To < 0 then (some false) else (if 3 ≤ a0.To then (some false) else (if a0.Sealed = true then ((zjv q a0.L.z a0.L.l a0.Kind a0.L.z a0.L.l a0.Sealed a0.To).bind fun r1 => (if a0.Kind = 0 then (if (a0.L.l.length : Int) = 1 then (some (!(decide (0 ≤ r1)))) else (some false)) else (if a0.Kind = 1 then (if (a0.L.l.length : Int) = 1 then (some (!(decide (0 ≤ r1)))) else (some false)) else (if a0.Kind = 2 then (if (a0.L.l.length : Int) ≤ 64 then (some (!(decide (0 ≤ r1)))) else (some false)) else (if a0.Kind = 3 then (if (a0.L.l.length : Int) ≤ 64 then (some (!(decide (0 ≤ r1)))) else (some false)) else (if a0.Kind = 4 then ((zjt q a0.L (-1099511627776)).bind fun r2 => (some r2)) else (if a0.Kind = 5 then ((zjt q a0.L 0).bind fun r3 => (some r3)) else (some false)))))))) else (if a0.To = 0 then ((zjv q a0.L.z a0.L.l a0.Kind a0.L.z a0.L.l a0.Sealed a0.To).bind fun r4 => (if a0.Kind = 0 then (if (a0.L.l.length : Int) = 1 then (some (!(decide (0 ≤ r4)))) else (some false)) else (if a0.Kind = 1 then (if (a0.L.l.length : Int) = 1 then (some (!(decide (0 ≤ r4)))) else (some false)) else (if a0.Kind = 2 then (if (a0.L.l.length : Int) ≤ 64 then (some (!(decide (0 ≤ r4)))) else (some false)) else (if a0.Kind = 3 then (if (a0.L.l.length : Int) ≤ 64 then (some (!(decide (0 ≤ r4)))) else (some false)) else (if a0.Kind = 4 then ((zjt q a0.L (-1099511627776)).bind fun r5 => (some r5)) else (if a0.Kind = 5 then ((zjt q a0.L 0).bind fun r6 => (some r6)) else (some false)))))))) else (some false)))))
def zjx : Nat → zjk → Option (Bool)
 | 0, _ => none
 | q + 1, a0 => (if 0 ≤ a0.Proc then (if a0.Proc ≤ 64 then (if 0 ≤ a0.Seq then (if a0.Seq < 4611686018427387904 then (if (-1125899906842624) ≤ a0.Resp then (some (decide (a0.Resp ≤ 1125899906842624))) else (some false)) else (some false)) else (some false)) else (some false)) else (some false))
def zjy : Nat → Bool → (List zjk) → Bool → (List zjk) → Int → Int → Option (Bool)
 | 0, _, _, _, _, _, _ => none
 | q + 1, v0z, v0l, v5z, v5l, v6, v7 => (if v7 < v6 then (if 0 ≤ v7 then ((v5l[v7.toNat]?).bind fun e1 => ((zjx q e1).bind fun r2 => (if r2 = true then (if 0 < v7 then (if 0 ≤ (wrp .i64 (v7 - 1)) then ((v0l[(wrp .i64 (v7 - 1)).toNat]?).bind fun e3 => (if e1.Proc ≤ e3.Proc then (some false) else (zjy q v0z v0l v5z v5l v6 (wrp .i64 (v7 + 1))))) else none) else (zjy q v0z v0l v5z v5l v6 (wrp .i64 (v7 + 1)))) else (some false)))) else none) else (some true))
def zjz : Nat → (Sl zjk) → Option (Bool)
 | 0, _ => none
 | q + 1, a0 => (zjy q a0.z a0.l a0.z a0.l (a0.l.length : Int) 0)
def zj0 : Nat → zjl → Option (Bool)
 | 0, _ => none
 | q + 1, a0 => (if 0 ≤ a0.Index then (if a0.Index < 4611686018427387904 then ((zjw q a0.State).bind fun r1 => (if r1 = true then ((zjz q a0.Table).bind fun r2 => (some r2)) else (some false))) else (some false)) else (some false))
def zj1 : Nat → Bool → (List zjk) → Int → Int → Int → Option (Int)
 | 0, _, _, _, _, _ => none
 | q + 1, v0z, v0l, v7, v8, h0_0 => (if v8 < v7 then (if 0 ≤ v8 then ((v0l[v8.toNat]?).bind fun e1 => (if e1.Proc = h0_0 then (some v8) else (zj1 q v0z v0l v7 (wrp .i64 (v8 + 1)) h0_0))) else none) else (some (-1)))
def zj2 : Nat → Bool → (List zjk) → Int → Option (Int)
 | 0, _, _, _ => none
 | q + 1, v0z, v0l, h0_0 => (zj1 q v0z v0l (v0l.length : Int) 0 h0_0)
def zj3 : Nat → (Sl zjk) → Int → Option (Int)
 | 0, _, _ => none
 | q + 1, a0, a1 => ((zj2 q a0.z a0.l a1).bind fun r1 => (some r1))
def zj4 : Nat → Bool → (List Int) → Bool → (List Int) → Int → Option (Int)
 | 0, _, _, _, _, _ => none
 | q + 1, v0z, v0l, v1z, v1l, v5 => (if v5 < (v0l.length : Int) then (if v5 < (v1l.length : Int) then (if 0 ≤ v5 then ((v0l[v5.toNat]?).bind fun e1 => ((v1l[v5.toNat]?).bind fun e2 => (if e1 = e2 then (zj4 q v0z v0l v1z v1l (wrp .i64 (v5 + 1))) else (some v5)))) else none) else (some v5)) else (some v5))
def zj5 : Nat → (Sl Int) → (Sl Int) → Option (Int)
 | 0, _, _ => none
 | q + 1, a0, a1 => (zj4 q a0.z a0.l a1.z a1.l 0)
def zj6 : Nat → Bool → (List Int) → Bool → (List Int) → Int → Option (Int)
 | 0, _, _, _, _, _ => none
 | q + 1, v0z, v0l, v1z, v1l, v5 => (if v5 < (v0l.length : Int) then (if v5 < (v1l.length : Int) then (if 0 ≤ (wrp .i64 ((wrp .i64 ((v0l.length : Int) - 1)) - v5)) then ((v0l[(wrp .i64 ((wrp .i64 ((v0l.length : Int) - 1)) - v5)).toNat]?).bind fun e1 => (if 0 ≤ (wrp .i64 ((wrp .i64 ((v1l.length : Int) - 1)) - v5)) then ((v1l[(wrp .i64 ((wrp .i64 ((v1l.length : Int) - 1)) - v5)).toNat]?).bind fun e2 => (if e1 = e2 then (zj6 q v0z v0l v1z v1l (wrp .i64 (v5 + 1))) else (some v5))) else none)) else none) else (some v5)) else (some v5))
def zj7 : Nat → (Sl Int) → (Sl Int) → Option (Int)
 | 0, _, _ => none
 | q + 1, a0, a1 => (zj6 q a0.z a0.l a1.z a1.l 0)
def zj8 : Nat → (Sl Int) → Option ((Ow Int))
 | 0, _ => none
 | q + 1, a0 => (if a0.z = true then (some ⟨true, true, []⟩) else (if a0.l.length ≤ 4294967296 then (some ⟨false, true, a0.l⟩) else none))
def zj9 : Nat → Bool → (List zjk) → Int → Int → Int → Int → Bool → (List Int) → Bool → Int → Bool → (List zjk) → Int → Int → Bool → (List Int) → Bool → Int → Bool → (List zjk) → Option (Int)
 | 0, _, _, _, _, _, _, _, _, _, _, _, _, _, _, _, _, _, _, _, _ => none
 | q + 1, v0z, v0l, v7, v8, h0_0, h0_1, h0_2z, h0_2l, h0_3, h0_4, h0_5z, h0_5l, h1_0, h1_1, h1_2z, h1_2l, h1_3, h1_4, h1_5z, h1_5l => (if v8 < v7 then (if 0 ≤ v8 then ((v0l[v8.toNat]?).bind fun e1 => ((zj3 q ⟨h1_5z, h1_5l⟩ e1.Proc).bind fun r2 => (if r2 < 0 then (some v8) else (zj9 q v0z v0l v7 (wrp .i64 (v8 + 1)) h0_0 h0_1 h0_2z h0_2l h0_3 h0_4 h0_5z h0_5l h1_0 h1_1 h1_2z h1_2l h1_3 h1_4 h1_5z h1_5l)))) else none) else (some (-1)))
def zka : Nat → Bool → (List zjk) → Int → Int → Bool → (List Int) → Bool → Int → Bool → (List zjk) → Int → Int → Bool → (List Int) → Bool → Int → Bool → (List zjk) → Option (Int)
 | 0, _, _, _, _, _, _, _, _, _, _, _, _, _, _, _, _, _, _ => none
 | q + 1, v0z, v0l, h0_0, h0_1, h0_2z, h0_2l, h0_3, h0_4, h0_5z, h0_5l, h1_0, h1_1, h1_2z, h1_2l, h1_3, h1_4, h1_5z, h1_5l => (zj9 q v0z v0l (v0l.length : Int) 0 h0_0 h0_1 h0_2z h0_2l h0_3 h0_4 h0_5z h0_5l h1_0 h1_1 h1_2z h1_2l h1_3 h1_4 h1_5z h1_5l)
def zkb : Nat → Bool → (List zjk) → Int → Int → Int → Int → Bool → (List Int) → Bool → Int → Bool → (List zjk) → Int → Int → Int → Int → Bool → Int → Bool → (List Int) → Bool → (List zjk) → Option (zjm × Int)
 | 0, _, _, _, _, _, _, _, _, _, _, _, _, _, _, _, _, _, _, _, _, _, _ => none
 | q + 1, v89z, v89l, v90, v91, h0_0, h0_1, h0_2z, h0_2l, h0_3, h0_4, h0_5z, h0_5l, h2_0, h2_1, h2_2, h2_3, h2_5, h2_6, h3z, h3l, h3x, h4l => (if v91 < v90 then (if 0 ≤ v91 then ((v89l[v91.toNat]?).bind fun e10 => ((zj3 q ⟨h0_5z, h0_5l⟩ e10.Proc).bind fun r11 => (if r11 < 0 then (if (h4l.length + 1) ≤ 4294967296 then (zkb q v89z v89l v90 (wrp .i64 (v91 + 1)) h0_0 h0_1 h0_2z h0_2l h0_3 h0_4 h0_5z h0_5l h2_0 h2_1 h2_2 h2_3 h2_5 h2_6 h3z h3l h3x (h4l ++ [e10])) else none) else (if 0 ≤ r11 then ((h0_5l[r11.toNat]?).bind fun e12 => (if e12.Proc = e10.Proc then (if e12.Seq = e10.Seq then (if e12.Resp = e10.Resp then (zkb q v89z v89l v90 (wrp .i64 (v91 + 1)) h0_0 h0_1 h0_2z h0_2l h0_3 h0_4 h0_5z h0_5l h2_0 h2_1 h2_2 h2_3 h2_5 h2_6 h3z h3l h3x h4l) else (if (h4l.length + 1) ≤ 4294967296 then (zkb q v89z v89l v90 (wrp .i64 (v91 + 1)) h0_0 h0_1 h0_2z h0_2l h0_3 h0_4 h0_5z h0_5l h2_0 h2_1 h2_2 h2_3 h2_5 h2_6 h3z h3l h3x (h4l ++ [e10])) else none)) else (if (h4l.length + 1) ≤ 4294967296 then (zkb q v89z v89l v90 (wrp .i64 (v91 + 1)) h0_0 h0_1 h0_2z h0_2l h0_3 h0_4 h0_5z h0_5l h2_0 h2_1 h2_2 h2_3 h2_5 h2_6 h3z h3l h3x (h4l ++ [e10])) else none)) else (if (h4l.length + 1) ≤ 4294967296 then (zkb q v89z v89l v90 (wrp .i64 (v91 + 1)) h0_0 h0_1 h0_2z h0_2l h0_3 h0_4 h0_5z h0_5l h2_0 h2_1 h2_2 h2_3 h2_5 h2_6 h3z h3l h3x (h4l ++ [e10])) else none))) else none)))) else none) else (some ((⟨h2_0, h2_1, h2_2, h2_3, ⟨h3z, h3l⟩, h2_5, h2_6, ⟨false, h4l⟩⟩ : zjm), 0)))
def zkc : Nat → Bool → (List zjk) → Int → Int → Int → Int → Bool → (List Int) → Bool → Int → Bool → (List zjk) → Int → Int → Int → Int → Bool → Int → Bool → (List Int) → Bool → Option (zjm × Int)
 | 0, _, _, _, _, _, _, _, _, _, _, _, _, _, _, _, _, _, _, _, _, _ => none
 | q + 1, v89z, v89l, v90, v91, h0_0, h0_1, h0_2z, h0_2l, h0_3, h0_4, h0_5z, h0_5l, h2_0, h2_1, h2_2, h2_3, h2_5, h2_6, h3z, h3l, h3x => (if v91 < v90 then (if 0 ≤ v91 then ((v89l[v91.toNat]?).bind fun e7 => ((zj3 q ⟨h0_5z, h0_5l⟩ e7.Proc).bind fun r8 => (if r8 < 0 then (zkb q v89z v89l v90 (wrp .i64 (v91 + 1)) h0_0 h0_1 h0_2z h0_2l h0_3 h0_4 h0_5z h0_5l h2_0 h2_1 h2_2 h2_3 h2_5 h2_6 h3z h3l h3x [e7]) else (if 0 ≤ r8 then ((h0_5l[r8.toNat]?).bind fun e9 => (if e9.Proc = e7.Proc then (if e9.Seq = e7.Seq then (if e9.Resp = e7.Resp then (zkc q v89z v89l v90 (wrp .i64 (v91 + 1)) h0_0 h0_1 h0_2z h0_2l h0_3 h0_4 h0_5z h0_5l h2_0 h2_1 h2_2 h2_3 h2_5 h2_6 h3z h3l h3x) else (zkb q v89z v89l v90 (wrp .i64 (v91 + 1)) h0_0 h0_1 h0_2z h0_2l h0_3 h0_4 h0_5z h0_5l h2_0 h2_1 h2_2 h2_3 h2_5 h2_6 h3z h3l h3x [e7])) else (zkb q v89z v89l v90 (wrp .i64 (v91 + 1)) h0_0 h0_1 h0_2z h0_2l h0_3 h0_4 h0_5z h0_5l h2_0 h2_1 h2_2 h2_3 h2_5 h2_6 h3z h3l h3x [e7])) else (zkb q v89z v89l v90 (wrp .i64 (v91 + 1)) h0_0 h0_1 h0_2z h0_2l h0_3 h0_4 h0_5z h0_5l h2_0 h2_1 h2_2 h2_3 h2_5 h2_6 h3z h3l h3x [e7]))) else none)))) else none) else (some ((⟨h2_0, h2_1, h2_2, h2_3, ⟨h3z, h3l⟩, h2_5, h2_6, ⟨true, []⟩⟩ : zjm), 0)))
def zkd : Nat → zjl → zjl → Option (zjm × Int)
 | 0, _, _ => none
 | q + 1, a0, a1 => ((zj0 q a0).bind fun r1 => (if r1 = true then ((zj0 q a1).bind fun r2 => (if r2 = true then (if a0.State.Kind = a1.State.Kind then (if a1.Index < a0.Index then (some ((⟨0, 0, 0, 0, ⟨true, []⟩, false, 0, ⟨true, []⟩⟩ : zjm), 15)) else ((zka q a0.Table.z a0.Table.l a0.Index a0.State.Kind a0.State.L.z a0.State.L.l a0.State.Sealed a0.State.To a0.Table.z a0.Table.l a1.Index a1.State.Kind a1.State.L.z a1.State.L.l a1.State.Sealed a1.State.To a1.Table.z a1.Table.l).bind fun r3 => (if 0 ≤ r3 then (some ((⟨0, 0, 0, 0, ⟨true, []⟩, false, 0, ⟨true, []⟩⟩ : zjm), 15)) else ((zj5 q a0.State.L a1.State.L).bind fun r4 => (if 0 ≤ r4 then (if r4 ≤ (a0.State.L.l.length : Int) then (if r4 ≤ (a1.State.L.l.length : Int) then ((zj7 q ⟨a0.State.L.z, (List.drop r4.toNat a0.State.L.l)⟩ ⟨a1.State.L.z, (List.drop r4.toNat a1.State.L.l)⟩).bind fun r5 => (if 0 ≤ (wrp .i64 ((((a1.State.L.l.length - r4.toNat) : Nat) : Int) - r5)) then (if (wrp .i64 ((((a1.State.L.l.length - r4.toNat) : Nat) : Int) - r5)).toNat ≤ (a1.State.L.l.length - r4.toNat) then ((zj8 q ⟨a1.State.L.z, (List.take ((wrp .i64 ((((a1.State.L.l.length - r4.toNat) : Nat) : Int) - r5)).toNat) (List.drop r4.toNat a1.State.L.l))⟩).bind fun r6 => (zkc q a1.Table.z a1.Table.l (a1.Table.l.length : Int) 0 a0.Index a0.State.Kind a0.State.L.z a0.State.L.l a0.State.Sealed a0.State.To a0.Table.z a0.Table.l a0.Index a1.Index r4 r5 a1.State.Sealed a1.State.To r6.n r6.xs r6.x)) else none) else none)) else none) else none) else none))))) else (some ((⟨0, 0, 0, 0, ⟨true, []⟩, false, 0, ⟨true, []⟩⟩ : zjm), 1))) else (some ((⟨0, 0, 0, 0, ⟨true, []⟩, false, 0, ⟨true, []⟩⟩ : zjm), 1)))) else (some ((⟨0, 0, 0, 0, ⟨true, []⟩, false, 0, ⟨true, []⟩⟩ : zjm), 1))))
def zke : Nat → Nat → Bool → (List (Sl Int)) → Int → Int → Bool → (List Int) → Option ((Ow Int))
 | 0, _, _, _, _, _, _, _ => none
 | q + 1, v6len, v25z, v25l, v26, v27, h0z, h0l => (if v27 < v26 then (if 0 ≤ v27 then ((v25l[v27.toNat]?).bind fun e2 => (if (v6len + e2.l.length) ≤ h0l.length then (zke q (v6len + e2.l.length) v25z v25l v26 (wrp .i64 (v27 + 1)) h0z (((List.take v6len h0l) ++ e2.l) ++ (List.drop (v6len + e2.l.length) h0l))) else none)) else none) else (some ⟨h0z, true, (List.take v6len h0l)⟩))
def zkf : Nat → Bool → (List (Sl Int)) → Int → Int → Bool → (List Int) → Option ((Ow Int))
 | 0, _, _, _, _, _, _ => none
 | q + 1, v25z, v25l, v26, v27, h0z, h0l => (if v27 < v26 then (if 0 ≤ v27 then ((v25l[v27.toNat]?).bind fun e4 => (if (h0l.length + e4.l.length) ≤ 4294967296 then (zkf q v25z v25l v26 (wrp .i64 (v27 + 1)) (h0z && (decide (e4.l.length = 0))) (h0l ++ e4.l)) else none)) else none) else (some ⟨h0z, true, h0l⟩))
def zkg : Nat → Bool → (List (Sl Int)) → Int → Option ((Ow Int))
 | 0, _, _, _ => none
 | q + 1, v25z, v25l, v26 => (if 0 < v26 then ((v25l[0]?).bind fun e3 => (if e3.l.length ≤ 4294967296 then (zkf q v25z v25l v26 (wrp .i64 1) (decide (e3.l.length = 0)) e3.l) else none)) else (some ⟨true, true, []⟩))
def zkh : Nat → Bool → (List (Sl Int)) → Int → Bool → (List (Sl Int)) → Int → Int → Option ((Ow Int))
 | 0, _, _, _, _, _, _, _ => none
 | q + 1, v0z, v0l, v3, v9z, v9l, v10, v11 => (if v11 < v10 then (if 0 ≤ v11 then ((v9l[v11.toNat]?).bind fun e1 => (if (wrp .i64 (v3 + (e1.l.length : Int))) < 0 then none else (zkh q v0z v0l (wrp .i64 (v3 + (e1.l.length : Int))) v9z v9l v10 (wrp .i64 (v11 + 1))))) else none) else (if v3 < 0 then none else (if 0 < (wrp .i64 (v3 - (wrp .i64 0))) then (if 0 ≤ (wrp .i64 (v3 - (wrp .i64 0))) then (if (wrp .i64 (v3 - (wrp .i64 0))).toNat ≤ 4294967296 then (if (wrp .i64 (v3 - (wrp .i64 0))) = 0 then none else (zke q 0 v0z v0l (v0l.length : Int) 0 (decide ((wrp .i64 (v3 - (wrp .i64 0))) = 0)) (List.replicate ((wrp .i64 (v3 - (wrp .i64 0))).toNat) 0))) else none) else none) else (zkg q v0z v0l (v0l.length : Int)))))
def zki : Nat → (Sl (Sl Int)) → Option ((Ow Int))
 | 0, _ => none
 | q + 1, a0 => (zkh q a0.z a0.l 0 a0.z a0.l (a0.l.length : Int) 0)
def zkj : Nat → (Sl zjk) → Option ((Ow zjk))
 | 0, _ => none
 | q + 1, a0 => (if a0.z = true then (some ⟨true, true, []⟩) else (if a0.l.length ≤ 4294967296 then (some ⟨false, true, a0.l⟩) else none))
def zkk : Nat → (Ow zjk) → Int → (Ow zjk) → Option ((Ow zjk))
 | 0, _, _, _ => none
 | q + 1, a0, a1, a2 => (if 0 ≤ a1 then (if a1.toNat ≤ a0.xs.length then (if (a2.xs.length : Int) = 0 then (some a0) else (if a1 = (a0.xs.length : Int) then (if (a0.xs.length + a2.xs.length) ≤ 4294967296 then (some ⟨(a0.n && (decide (a2.xs.length = 0))), a0.x, (a0.xs ++ a2.xs)⟩) else none) else none)) else none) else none)
def zkl : Nat → Int → Int → Int → Int → Int → Int → Int → Int → Int → Bool → (List zjk) → Bool → Option (Int)
 | 0, _, _, _, _, _, _, _, _, _, _, _, _ => none
 | q + 1, v7, v8, h0_0, h0_1, h0_2, h0_3, h0_4, h0_5, h0_6, h1z, h1l, h1x => (if v8 < v7 then (if 0 ≤ v8 then (if v8.toNat < h1l.length then ((h1l[v8.toNat]?).bind fun e1 => (if e1.Proc = h0_1 then (some v8) else (zkl q v7 (wrp .i64 (v8 + 1)) h0_0 h0_1 h0_2 h0_3 h0_4 h0_5 h0_6 h1z h1l h1x))) else none) else none) else (some (-1)))
def zkm : Nat → Int → Int → Int → Int → Int → Int → Int → Bool → (List zjk) → Bool → Option (Int)
 | 0, _, _, _, _, _, _, _, _, _, _ => none
 | q + 1, h0_0, h0_1, h0_2, h0_3, h0_4, h0_5, h0_6, h1z, h1l, h1x => (zkl q (h1l.length : Int) 0 h0_0 h0_1 h0_2 h0_3 h0_4 h0_5 h0_6 h1z h1l h1x)
def zkn : Nat → Int → Int → Int → Int → Int → Int → Int → Int → Int → Bool → (List zjk) → Bool → Option (Nat × (List zjk) × Bool)
 | 0, _, _, _, _, _, _, _, _, _, _, _, _ => none
 | q + 1, v5, v6, h0_0, h0_1, h0_2, h0_3, h0_4, h0_5, h0_6, h1z, h1l, h1x => (if v6 < (h1l.length : Int) then (if 0 ≤ v6 then (if v6.toNat < h1l.length then ((h1l[v6.toNat]?).bind fun e2 => (if e2.Proc = h0_1 then (zkn q v5 (wrp .i64 (v6 + 1)) h0_0 h0_1 h0_2 h0_3 h0_4 h0_5 h0_6 h1z h1l h1x) else (if 0 ≤ v5 then (if v5.toNat < h1l.length then ((h1l[v5.toNat]?).bind fun e3 => (if h1x = true then (zkn q (wrp .i64 (v5 + 1)) (wrp .i64 (v6 + 1)) h0_0 h0_1 h0_2 h0_3 h0_4 h0_5 h0_6 h1z (List.set h1l v5.toNat e2) true) else none)) else none) else none))) else none) else none) else (if 0 ≤ v5 then (if v5.toNat ≤ h1l.length then (if h1x = true then (if v5.toNat ≤ (((min v5.toNat h1l.length) + (h1l.length - v5.toNat)) + (h1l.length - (v5.toNat + (h1l.length - v5.toNat)))) then (if h1z = true then (some (v5.toNat, (((List.take v5.toNat h1l) ++ (List.replicate (h1l.length - v5.toNat) (⟨0, 0, 0⟩ : zjk))) ++ (List.drop (v5.toNat + (h1l.length - v5.toNat)) h1l)), true)) else (some (v5.toNat, (((List.take v5.toNat h1l) ++ (List.replicate (h1l.length - v5.toNat) (⟨0, 0, 0⟩ : zjk))) ++ (List.drop (v5.toNat + (h1l.length - v5.toNat)) h1l)), true))) else none) else none) else none) else none))
def zko : Nat → Int → Int → Int → Int → Int → Int → Int → Bool → (List zjk) → Bool → Option (Nat × (List zjk) × Bool)
 | 0, _, _, _, _, _, _, _, _, _, _ => none
 | q + 1, h0_0, h0_1, h0_2, h0_3, h0_4, h0_5, h0_6, h1z, h1l, h1x => ((zkm q h0_0 h0_1 h0_2 h0_3 h0_4 h0_5 h0_6 h1z h1l h1x).bind fun r1 => (if r1 = (-1) then (some (h1l.length, h1l, h1x)) else (zkn q r1 (wrp .i64 (r1 + 1)) h0_0 h0_1 h0_2 h0_3 h0_4 h0_5 h0_6 h1z h1l h1x)))
def zkp : Nat → Nat → Int → Int → Int → Int → Int → Int → Int → Int → Int → Bool → (List zjk) → Bool → Option (Int)
 | 0, _, _, _, _, _, _, _, _, _, _, _, _, _ => none
 | q + 1, v0len, v7, v8, h0_0, h0_1, h0_2, h0_3, h0_4, h0_5, h0_6, h1z, h1l, h1x => (if v8 < v7 then (if 0 ≤ v8 then (if v8.toNat < v0len then ((h1l[v8.toNat]?).bind fun e1 => (if h0_1 < e1.Proc then (some v8) else (zkp q v0len v7 (wrp .i64 (v8 + 1)) h0_0 h0_1 h0_2 h0_3 h0_4 h0_5 h0_6 h1z h1l h1x))) else none) else none) else (some (-1)))
def zkq : Nat → Nat → Int → Int → Int → Int → Int → Int → Int → Bool → (List zjk) → Bool → Option (Int)
 | 0, _, _, _, _, _, _, _, _, _, _, _ => none
 | q + 1, v0len, h0_0, h0_1, h0_2, h0_3, h0_4, h0_5, h0_6, h1z, h1l, h1x => (zkp q v0len (v0len : Int) 0 h0_0 h0_1 h0_2 h0_3 h0_4 h0_5 h0_6 h1z h1l h1x)
def zkr : Nat → (Sl zjk) → zjo → Option ((Ow zjk))
 | 0, _, _ => none
 | q + 1, a0, a1 => ((zkj q a0).bind fun r1 => ((zko q a1.Index a1.Proc a1.Seq a1.Op.Code a1.Op.A a1.Op.B a1.Resp r1.n r1.xs r1.x).bind fun r2 => ((zkq q r2.1 a1.Index a1.Proc a1.Seq a1.Op.Code a1.Op.A a1.Op.B a1.Resp r1.n r2.2.1 r2.2.2).bind fun r3 => (if r3 < 0 then (if r2.2.2 = true then ((zkk q ⟨r1.n, r2.2.2, (List.take r2.1 r2.2.1)⟩ (r2.1 : Int) ⟨false, true, [(⟨a1.Proc, a1.Seq, a1.Resp⟩ : zjk)]⟩).bind fun r4 => (some r4)) else none) else (if r2.2.2 = true then ((zkk q ⟨r1.n, r2.2.2, (List.take r2.1 r2.2.1)⟩ r3 ⟨false, true, [(⟨a1.Proc, a1.Seq, a1.Resp⟩ : zjk)]⟩).bind fun r5 => (some r5)) else none)))))
def zks : Nat → Bool → (List zjk) → Int → Int → Int → Int → Bool → Int → Bool → (List Int) → Bool → Bool → (List zjk) → Bool → Option (zjl × Int)
 | 0, _, _, _, _, _, _, _, _, _, _, _, _, _, _ => none
 | q + 1, v89z, v89l, v90, v91, h1_0, h1_1, h1_3, h1_4, h2z, h2l, h2x, h3z, h3l, h3x => (if v91 < v90 then (if 0 ≤ v91 then ((v89l[v91.toNat]?).bind fun e6 => ((zkr q ⟨h3z, h3l⟩ (⟨0, e6.Proc, e6.Seq, (⟨0, 0, 0⟩ : zjn), e6.Resp⟩ : zjo)).bind fun r7 => (zks q v89z v89l v90 (wrp .i64 (v91 + 1)) h1_0 h1_1 h1_3 h1_4 h2z h2l h2x r7.n r7.xs r7.x))) else none) else ((zj0 q (⟨h1_0, (⟨h1_1, ⟨h2z, h2l⟩, h1_3, h1_4⟩ : zjj), ⟨h3z, h3l⟩⟩ : zjl)).bind fun r8 => (if r8 = true then (some ((⟨h1_0, (⟨h1_1, ⟨h2z, h2l⟩, h1_3, h1_4⟩ : zjj), ⟨h3z, h3l⟩⟩ : zjl), 0)) else (some ((⟨0, (⟨0, ⟨true, []⟩, false, 0⟩ : zjj), ⟨true, []⟩⟩ : zjl), 1)))))
def zkt : Nat → Bool → (List zjk) → Int → Int → Int → Bool → Int → Bool → (List zjk) → Bool → (List Int) → Bool → Option (zjl × Int)
 | 0, _, _, _, _, _, _, _, _, _, _, _, _ => none
 | q + 1, v89z, v89l, v90, h1_0, h1_1, h1_3, h1_4, h1_5z, h1_5l, h2z, h2l, h2x => (if 0 < v90 then ((v89l[0]?).bind fun e3 => ((zkr q ⟨h1_5z, h1_5l⟩ (⟨0, e3.Proc, e3.Seq, (⟨0, 0, 0⟩ : zjn), e3.Resp⟩ : zjo)).bind fun r4 => (zks q v89z v89l v90 (wrp .i64 1) h1_0 h1_1 h1_3 h1_4 h2z h2l h2x r4.n r4.xs r4.x))) else ((zj0 q (⟨h1_0, (⟨h1_1, ⟨h2z, h2l⟩, h1_3, h1_4⟩ : zjj), ⟨h1_5z, h1_5l⟩⟩ : zjl)).bind fun r5 => (if r5 = true then (some ((⟨h1_0, (⟨h1_1, ⟨h2z, h2l⟩, h1_3, h1_4⟩ : zjj), ⟨h1_5z, h1_5l⟩⟩ : zjl), 0)) else (some ((⟨0, (⟨0, ⟨true, []⟩, false, 0⟩ : zjj), ⟨true, []⟩⟩ : zjl), 1)))))
def zku : Nat → zjl → zjm → Option (zjl × Int)
 | 0, _, _ => none
 | q + 1, a0, a1 => ((zj0 q a0).bind fun r1 => (if r1 = true then (if a1.Ahead < 0 then (some ((⟨0, (⟨0, ⟨true, []⟩, false, 0⟩ : zjj), ⟨true, []⟩⟩ : zjl), 1)) else (if a1.Behind < 0 then (some ((⟨0, (⟨0, ⟨true, []⟩, false, 0⟩ : zjj), ⟨true, []⟩⟩ : zjl), 1)) else (if (a0.State.L.l.length : Int) < a1.Ahead then (some ((⟨0, (⟨0, ⟨true, []⟩, false, 0⟩ : zjj), ⟨true, []⟩⟩ : zjl), 1)) else (if (wrp .i64 ((a0.State.L.l.length : Int) - a1.Ahead)) < a1.Behind then (some ((⟨0, (⟨0, ⟨true, []⟩, false, 0⟩ : zjj), ⟨true, []⟩⟩ : zjl), 1)) else (if a0.Index = a1.From then (if a1.To < a1.From then (some ((⟨0, (⟨0, ⟨true, []⟩, false, 0⟩ : zjj), ⟨true, []⟩⟩ : zjl), 15)) else (if 0 ≤ a1.Ahead then (if a1.Ahead.toNat ≤ a0.State.L.l.length then (if 0 ≤ (wrp .i64 ((a0.State.L.l.length : Int) - a1.Behind)) then (if (wrp .i64 ((a0.State.L.l.length : Int) - a1.Behind)) ≤ (a0.State.L.l.length : Int) then ((zki q ⟨false, [⟨a0.State.L.z, (List.take a1.Ahead.toNat a0.State.L.l)⟩, a1.Mid, ⟨a0.State.L.z, (List.drop ((wrp .i64 ((a0.State.L.l.length : Int) - a1.Behind)).toNat) a0.State.L.l)⟩]⟩).bind fun r2 => (zkt q a1.Table.z a1.Table.l (a1.Table.l.length : Int) a1.To a0.State.Kind a1.Sealed a1.Engine a0.Table.z a0.Table.l r2.n r2.xs r2.x)) else none) else none) else none) else none)) else (some ((⟨0, (⟨0, ⟨true, []⟩, false, 0⟩ : zjj), ⟨true, []⟩⟩ : zjl), 15))))))) else (some ((⟨0, (⟨0, ⟨true, []⟩, false, 0⟩ : zjj), ⟨true, []⟩⟩ : zjl), 1))))
def zkv : Nat → Bool → (List Int) → Bool → (List Int) → Int → Int → Option (Bool)
 | 0, _, _, _, _, _, _ => none
 | q + 1, v0z, v0l, v1z, v1l, v12, v13 => (if v13 < v12 then (if 0 ≤ v13 then ((v0l[v13.toNat]?).bind fun e1 => ((v1l[v13.toNat]?).bind fun e2 => (if e1 = e2 then (zkv q v0z v0l v1z v1l v12 (wrp .i64 (v13 + 1))) else (some false)))) else none) else (some true))
def zkw : Nat → (Sl Int) → (Sl Int) → Option (Bool)
 | 0, _, _ => none
 | q + 1, a0, a1 => (if (a0.l.length : Int) = (a1.l.length : Int) then (zkv q a0.z a0.l a1.z a1.l (a0.l.length : Int) 0) else (some false))
def zkx : Nat → zjj → zjj → Option (Bool)
 | 0, _, _ => none
 | q + 1, a0, a1 => (if a0.Kind = a1.Kind then (if (a0.Sealed == a1.Sealed) = true then (if a0.To = a1.To then ((zkw q a0.L a1.L).bind fun r1 => (some r1)) else (some false)) else (some false)) else (some false))
def zky : Nat → Bool → (List zjk) → Bool → (List zjk) → Int → Int → Option (Bool)
 | 0, _, _, _, _, _, _ => none
 | q + 1, v0z, v0l, v1z, v1l, v12, v13 => (if v13 < v12 then (if 0 ≤ v13 then ((v0l[v13.toNat]?).bind fun e1 => ((v1l[v13.toNat]?).bind fun e2 => (if e1.Proc = e2.Proc then (if e1.Seq = e2.Seq then (if e1.Resp = e2.Resp then (zky q v0z v0l v1z v1l v12 (wrp .i64 (v13 + 1))) else (some false)) else (some false)) else (some false)))) else none) else (some true))
def zkz : Nat → (Sl zjk) → (Sl zjk) → Option (Bool)
 | 0, _, _ => none
 | q + 1, a0, a1 => (if (a0.l.length : Int) = (a1.l.length : Int) then (zky q a0.z a0.l a1.z a1.l (a0.l.length : Int) 0) else (some false))
def zk0 : Nat → zjl → zjl → Option (Bool)
 | 0, _, _ => none
 | q + 1, a0, a1 => (if a0.Index = a1.Index then ((zkx q a0.State a1.State).bind fun r1 => (if r1 = true then ((zkz q a0.Table a1.Table).bind fun r2 => (some r2)) else (some false))) else (some false))
def zk1 : Nat → Option (Bool)
 | 0 => none
 | q + 1 => ((zkd q (⟨0, (⟨3, ⟨false, [1, 2]⟩, false, 0⟩ : zjj), ⟨true, []⟩⟩ : zjl) (⟨1, (⟨3, ⟨false, [1, 2, 9]⟩, false, 0⟩ : zjj), ⟨true, []⟩⟩ : zjl)).bind fun r1 => ((zku q (⟨0, (⟨3, ⟨false, [1, 2]⟩, false, 0⟩ : zjj), ⟨true, []⟩⟩ : zjl) r1.1).bind fun r2 => (if r1.2 = 0 then (if r2.2 = 0 then (if r1.1.Ahead = 2 then (if r1.1.Behind = 0 then (if (r1.1.Mid.l.length : Int) = 1 then ((r1.1.Mid.l[0]?).bind fun e3 => (if e3 = 9 then ((zk0 q (⟨1, (⟨3, ⟨false, [1, 2, 9]⟩, false, 0⟩ : zjj), ⟨true, []⟩⟩ : zjl) r2.1).bind fun r4 => (some r4)) else (some false))) else (some false)) else (some false)) else (some false)) else (some false)) else (some false))))
def zk2 : Nat → Int → Option (Bool)
 | 0, _ => none
 | q + 1, a0 => (some (decide (a0 < 128)))
def zk3 : Nat → Bool → (List Int) → Int → Int → Option (Int)
 | 0, _, _, _, _ => none
 | q + 1, v0z, v0l, v7, v8 => (if v8 < v7 then (if 0 ≤ v8 then ((v0l[v8.toNat]?).bind fun e1 => ((zk2 q e1).bind fun r2 => (if r2 = true then (some v8) else (zk3 q v0z v0l v7 (wrp .i64 (v8 + 1)))))) else none) else (some (-1)))
def zk4 : Nat → Bool → (List Int) → Option (Int)
 | 0, _, _ => none
 | q + 1, v0z, v0l => (zk3 q v0z v0l (v0l.length : Int) 0)
def zk5 : Nat → (Sl Int) → Option (Bool)
 | 0, _ => none
 | q + 1, a0 => (if (a0.l.length : Int) < 10 then ((zk4 q a0.z a0.l).bind fun r1 => (some (!(decide (0 ≤ r1))))) else (some false))
def zk6 : Nat → Bool → (List Int) → Int → Int → Int → Option (Int × Int)
 | 0, _, _, _, _, _ => none
 | q + 1, v0z, v0l, v4, v9, v10 => (if v10 < v9 then (if 0 ≤ v10 then ((v0l[v10.toNat]?).bind fun e1 => (if (wrp .i64 (7 * v10)) < 0 then none else (if v10 = 9 then (if 1 < e1 then (some (0, 0)) else (if e1 = 0 then (if 0 < v10 then (some (0, 0)) else (if e1 < 128 then (some ((ibits .or .u64 v4 (ishl .u64 (wrp .u64 (ibits .and .u8 e1 127)) (wrp .i64 (7 * v10)))), (wrp .i64 (v10 + 1)))) else (zk6 q v0z v0l (ibits .or .u64 v4 (ishl .u64 (wrp .u64 (ibits .and .u8 e1 127)) (wrp .i64 (7 * v10)))) v9 (wrp .i64 (v10 + 1))))) else (if e1 < 128 then (some ((ibits .or .u64 v4 (ishl .u64 (wrp .u64 (ibits .and .u8 e1 127)) (wrp .i64 (7 * v10)))), (wrp .i64 (v10 + 1)))) else (zk6 q v0z v0l (ibits .or .u64 v4 (ishl .u64 (wrp .u64 (ibits .and .u8 e1 127)) (wrp .i64 (7 * v10)))) v9 (wrp .i64 (v10 + 1)))))) else (if e1 = 0 then (if 0 < v10 then (some (0, 0)) else (if e1 < 128 then (some ((ibits .or .u64 v4 (ishl .u64 (wrp .u64 (ibits .and .u8 e1 127)) (wrp .i64 (7 * v10)))), (wrp .i64 (v10 + 1)))) else (zk6 q v0z v0l (ibits .or .u64 v4 (ishl .u64 (wrp .u64 (ibits .and .u8 e1 127)) (wrp .i64 (7 * v10)))) v9 (wrp .i64 (v10 + 1))))) else (if e1 < 128 then (some ((ibits .or .u64 v4 (ishl .u64 (wrp .u64 (ibits .and .u8 e1 127)) (wrp .i64 (7 * v10)))), (wrp .i64 (v10 + 1)))) else (zk6 q v0z v0l (ibits .or .u64 v4 (ishl .u64 (wrp .u64 (ibits .and .u8 e1 127)) (wrp .i64 (7 * v10)))) v9 (wrp .i64 (v10 + 1)))))))) else none) else (some (0, 0)))
def zk7 : Nat → (Sl Int) → Option (Int × Int)
 | 0, _ => none
 | q + 1, a0 => (zk6 q a0.z a0.l 0 (if 10 < (a0.l.length : Int) then 10 else (a0.l.length : Int)) 0)
def zk8 : Nat → (Sl Int) → Option (Int × Int)
 | 0, _ => none
 | q + 1, a0 => ((zk7 q a0).bind fun r1 => (if 4611686018427387904 ≤ r1.1 then (some (0, 0)) else (some ((wrp .i64 r1.1), r1.2))))
mutual
def zk9 : Nat → Int → (List Int) → (List Int) → Option ((List Int))
 | 0, _, _, _ => none
 | q + 1, v5, h0_0, h1_0 => (if v5 < 256 then (zla q v5 (wrp .u32 v5) v5 0 h0_0 h1_0) else (if 256 ≤ h1_0.length then (if (min 256 h1_0.length) = 256 then (if 256 ≤ h0_0.length then (if 256 ≤ (256 + (h0_0.length - 256)) then (some (List.take 256 ((List.take 256 h1_0) ++ (List.drop 256 h0_0)))) else none) else none) else none) else none))
def zla : Nat → Int → Int → Int → Int → (List Int) → (List Int) → Option ((List Int))
 | 0, _, _, _, _, _, _ => none
 | q + 1, v2, v3, v5, v10, h0_0, h1_0 => (if v10 < 8 then (zla q v2 (ibits .xor .u32 (ishr .u32 v3 1) (ibits .and .u32 2197175160 (wrp .u32 (0 - (ibits .and .u32 v3 1))))) v5 (wrp .i64 (v10 + 1)) h0_0 h1_0) else (if 0 ≤ v2 then (if v2.toNat < 256 then (if (v2.toNat + 1) ≤ h1_0.length then (zk9 q (wrp .i64 (v5 + 1)) h0_0 (List.set h1_0 v2.toNat v3)) else none) else none) else none))
end
def zlb : Nat → Option ((List Int))
 | 0 => none
 | q + 1 => (zk9 q 0 (List.replicate 256 0) (List.replicate 256 0))
def zlc : Nat → Int → Bool → (List Int) → Int → Int → (List Int) → Option (Int)
 | 0, _, _, _, _, _, _ => none
 | q + 1, v6, v12z, v12l, v13, v14, h0_0 => (if v14 < v13 then (if 0 ≤ v14 then ((v12l[v14.toNat]?).bind fun e2 => (if 0 ≤ (ibits .xor .u8 (wrp .u8 v6) e2) then (if (ibits .xor .u8 (wrp .u8 v6) e2).toNat < 256 then ((h0_0[(ibits .xor .u8 (wrp .u8 v6) e2).toNat]?).bind fun e3 => (zlc q (ibits .xor .u32 e3 (ishr .u32 v6 8)) v12z v12l v13 (wrp .i64 (v14 + 1)) h0_0)) else none) else none)) else none) else (some (ibits .xor .u32 4294967295 v6)))
def zld : Nat → Int → (Sl Int) → Option (Int)
 | 0, _, _ => none
 | q + 1, a0, a1 => ((zlb q).bind fun r1 => (if r1.length = 256 then (zlc q (ibits .xor .u32 4294967295 a0) a1.z a1.l (a1.l.length : Int) 0 r1) else none))
def zle : Nat → (Sl Int) → Option (Int)
 | 0, _ => none
 | q + 1, a0 => ((zld q 0 a0).bind fun r1 => (some r1))
def zlf : Nat → Int → Int → Int → Bool → (List Int) → Option ((Ow Int))
 | 0, _, _, _, _, _ => none
 | q + 1, v0, v7, v8, h0z, h0l => (if v8 < v7 then (if (wrp .i64 (8 * v8)) < 0 then none else (if (h0l.length + 1) ≤ 4294967296 then (zlf q v0 v7 (wrp .i64 (v8 + 1)) false (h0l ++ [(wrp .u8 (ishr .u64 v0 (wrp .i64 (8 * v8))))])) else none)) else (some ⟨h0z, true, h0l⟩))
def zlg : Nat → Int → Int → Option ((Ow Int))
 | 0, _, _ => none
 | q + 1, a0, a1 => (zlf q a0 a1 0 true [])
def zlh : Nat → Int → Option ((Ow Int))
 | 0, _ => none
 | q + 1, a0 => ((zlg q (wrp .u64 a0) 4).bind fun r1 => (some r1))
def zli : Nat → (Sl Int) → (Sl Int) → Option ((Ow Int))
 | 0, _, _ => none
 | q + 1, a0, a1 => ((zle q a0).bind fun r1 => ((zld q r1 a1).bind fun r2 => ((zlh q r2).bind fun r3 => (some r3))))
def zlj : Nat → Bool → (List Int) → Bool → (List Int) → Int → Int → Option (Bool)
 | 0, _, _, _, _, _, _ => none
 | q + 1, v0z, v0l, v1z, v1l, v12, v13 => (if v13 < v12 then (if 0 ≤ v13 then ((v0l[v13.toNat]?).bind fun e1 => ((v1l[v13.toNat]?).bind fun e2 => (if e1 = e2 then (zlj q v0z v0l v1z v1l v12 (wrp .i64 (v13 + 1))) else (some false)))) else none) else (some true))
def zlk : Nat → (Sl Int) → (Sl Int) → Option (Bool)
 | 0, _, _ => none
 | q + 1, a0, a1 => (if (a0.l.length : Int) = (a1.l.length : Int) then (zlj q a0.z a0.l a1.z a1.l (a0.l.length : Int) 0) else (some false))
def zll : Nat → (Sl Int) → Option ((Ow Int))
 | 0, _ => none
 | q + 1, a0 => (if a0.z = true then (some ⟨true, true, []⟩) else (if a0.l.length ≤ 4294967296 then (some ⟨false, true, a0.l⟩) else none))
def zlm : Nat → (Sl Int) → Option ((Ow Int) × Int × Int)
 | 0, _ => none
 | q + 1, a0 => ((zk5 q a0).bind fun r1 => (if r1 = true then (some (⟨true, true, []⟩, 0, 2)) else ((zk8 q a0).bind fun r2 => (if r2.2 = 0 then (some (⟨true, true, []⟩, 0, 3)) else (if 1048576 < r2.1 then (some (⟨true, true, []⟩, 0, 5)) else (if (a0.l.length : Int) < (wrp .i64 ((wrp .i64 (r2.2 + 4)) + r2.1)) then (some (⟨true, true, []⟩, 0, 2)) else (if 0 ≤ r2.2 then (if r2.2 ≤ r2.2 then (if r2.2.toNat ≤ a0.l.length then (if 0 ≤ (wrp .i64 (r2.2 + r2.1)) then (if (wrp .i64 (r2.2 + r2.1)) ≤ (wrp .i64 (r2.2 + r2.1)) then (if (wrp .i64 (r2.2 + r2.1)).toNat ≤ a0.l.length then (if r2.2 ≤ (wrp .i64 (r2.2 + r2.1)) then (if (wrp .i64 (r2.2 + r2.1)) ≤ (wrp .i64 ((wrp .i64 (r2.2 + r2.1)) + 4)) then (if (wrp .i64 ((wrp .i64 (r2.2 + r2.1)) + 4)).toNat ≤ a0.l.length then ((zli q ⟨a0.z, (List.take r2.2.toNat a0.l)⟩ ⟨a0.z, (List.drop r2.2.toNat (List.take ((wrp .i64 (r2.2 + r2.1)).toNat) a0.l))⟩).bind fun r3 => ((zlk q ⟨a0.z, (List.drop ((wrp .i64 (r2.2 + r2.1)).toNat) (List.take ((wrp .i64 ((wrp .i64 (r2.2 + r2.1)) + 4)).toNat) a0.l))⟩ ⟨r3.n, r3.xs⟩).bind fun r4 => (if r4 = true then ((zll q ⟨a0.z, (List.drop r2.2.toNat (List.take ((wrp .i64 (r2.2 + r2.1)).toNat) a0.l))⟩).bind fun r5 => (some (r5, (wrp .i64 ((wrp .i64 (r2.2 + r2.1)) + 4)), 0))) else (some (⟨true, true, []⟩, 0, 4))))) else none) else none) else none) else none) else none) else none) else none) else none) else none)))))))
def zln : Nat → Int → Option (Int)
 | 0, _ => none
 | q + 1, a0 => (some (ibits .xor .i64 (wrp .i64 (ishr .u64 a0 1)) (wrp .i64 (0 - (wrp .i64 (ibits .and .u64 a0 1))))))
def zlo : Nat → (Sl Int) → Option (Int × Int)
 | 0, _ => none
 | q + 1, a0 => ((zk7 q a0).bind fun r1 => (if r1.2 = 0 then (some (0, 0)) else ((zln q r1.1).bind fun r2 => (some (r2, r1.2)))))
def zlp : Nat → Int → Int → Int → Int → Bool → (List Int) → Bool → Int → Option (Int × Int × Int × Int × (List Int) × Bool × Int)
 | 0, _, _, _, _, _, _, _, _ => none
 | q + 1, h0_0, h0_1, h0_2, h0_3, h1_0z, h1_0l, h1_1, h2_0 => (some (h0_0, h0_1, h0_2, h0_3, h1_0l, h1_1, h2_0))
def zlq : Nat → Int → Int → Int → Int → Bool → (List Int) → Bool → Option (Int × Int × Int × Int × (List Int) × Bool × Int)
 | 0, _, _, _, _, _, _, _ => none
 | q + 1, h0_0, h0_1, h0_2, h0_3, h1_0z, h1_0l, h1_1 => ((zk8 q ⟨h1_0z, h1_0l⟩).bind fun r5 => (if h1_1 = true then (if 0 ≤ r5.2 then (if r5.2 ≤ (h1_0l.length : Int) then (zlp q h0_0 h0_1 h0_2 h0_3 h1_0z (List.drop r5.2.toNat h1_0l) (decide (0 < r5.2)) r5.1) else none) else none) else (if 0 ≤ r5.2 then (if r5.2 ≤ (h1_0l.length : Int) then (zlp q h0_0 h0_1 h0_2 h0_3 h1_0z (List.drop r5.2.toNat h1_0l) false r5.1) else none) else none)))
def zlr : Nat → Int → Int → Int → Bool → (List Int) → Bool → Option (Int × Int × Int × Int × (List Int) × Bool × Int)
 | 0, _, _, _, _, _, _ => none
 | q + 1, h0_0, h0_1, h0_2, h1_0z, h1_0l, h1_1 => ((zk8 q ⟨h1_0z, h1_0l⟩).bind fun r4 => (if h1_1 = true then (if 0 ≤ r4.2 then (if r4.2 ≤ (h1_0l.length : Int) then (zlq q h0_0 h0_1 h0_2 r4.1 h1_0z (List.drop r4.2.toNat h1_0l) (decide (0 < r4.2))) else none) else none) else (if 0 ≤ r4.2 then (if r4.2 ≤ (h1_0l.length : Int) then (zlq q h0_0 h0_1 h0_2 r4.1 h1_0z (List.drop r4.2.toNat h1_0l) false) else none) else none)))
def zls : Nat → Int → Int → Bool → (List Int) → Bool → Option (Int × Int × Int × Int × (List Int) × Bool × Int)
 | 0, _, _, _, _, _ => none
 | q + 1, h0_0, h0_1, h1_0z, h1_0l, h1_1 => ((zk8 q ⟨h1_0z, h1_0l⟩).bind fun r3 => (if h1_1 = true then (if 0 ≤ r3.2 then (if r3.2 ≤ (h1_0l.length : Int) then (zlr q h0_0 h0_1 r3.1 h1_0z (List.drop r3.2.toNat h1_0l) (decide (0 < r3.2))) else none) else none) else (if 0 ≤ r3.2 then (if r3.2 ≤ (h1_0l.length : Int) then (zlr q h0_0 h0_1 r3.1 h1_0z (List.drop r3.2.toNat h1_0l) false) else none) else none)))
def zlt : Nat → Int → Bool → (List Int) → Bool → Option (Int × Int × Int × Int × (List Int) × Bool × Int)
 | 0, _, _, _, _ => none
 | q + 1, h0_0, h1_0z, h1_0l, h1_1 => ((zk8 q ⟨h1_0z, h1_0l⟩).bind fun r2 => (if h1_1 = true then (if 0 ≤ r2.2 then (if r2.2 ≤ (h1_0l.length : Int) then (zls q h0_0 r2.1 h1_0z (List.drop r2.2.toNat h1_0l) (decide (0 < r2.2))) else none) else none) else (if 0 ≤ r2.2 then (if r2.2 ≤ (h1_0l.length : Int) then (zls q h0_0 r2.1 h1_0z (List.drop r2.2.toNat h1_0l) false) else none) else none)))
def zlu : Nat → Bool → (List Int) → Option (Int × Int × Int × Int × (List Int) × Bool × Int)
 | 0, _, _ => none
 | q + 1, h1_0z, h1_0l => ((zk8 q ⟨h1_0z, h1_0l⟩).bind fun r1 => (if 0 ≤ r1.2 then (if r1.2 ≤ (h1_0l.length : Int) then (zlt q r1.1 h1_0z (List.drop r1.2.toNat h1_0l) (decide (0 < r1.2))) else none) else none))
def zlv : Nat → Bool → (List Int) → Option (Int × Int × Int × Int × (List Int) × Bool × Int)
 | 0, _, _ => none
 | q + 1, h1_0z, h1_0l => (zlu q h1_0z h1_0l)
def zlw : Nat → Int → Int → Int → Int → Bool → (List Int) → Bool → Int → Int → Option ((List Int) × Bool × Int × Int)
 | 0, _, _, _, _, _, _, _, _, _ => none
 | q + 1, h0_0, h0_1, h0_2, h0_3, h1_0z, h1_0l, h1_1, h2_0, h3_0 => (some (h1_0l, h1_1, h2_0, h3_0))
def zlx : Nat → Int → Int → Int → Int → Bool → (List Int) → Bool → Int → Option ((List Int) × Bool × Int × Int)
 | 0, _, _, _, _, _, _, _, _ => none
 | q + 1, h0_0, h0_1, h0_2, h0_3, h1_0z, h1_0l, h1_1, h2_0 => ((zk8 q ⟨h1_0z, h1_0l⟩).bind fun r2 => (if h1_1 = true then (if 0 ≤ r2.2 then (if r2.2 ≤ (h1_0l.length : Int) then (zlw q h0_0 h0_1 h0_2 h0_3 h1_0z (List.drop r2.2.toNat h1_0l) (decide (0 < r2.2)) h2_0 r2.1) else none) else none) else (if 0 ≤ r2.2 then (if r2.2 ≤ (h1_0l.length : Int) then (zlw q h0_0 h0_1 h0_2 h0_3 h1_0z (List.drop r2.2.toNat h1_0l) false h2_0 r2.1) else none) else none)))
def zly : Nat → Int → Int → Int → Int → Bool → (List Int) → Bool → Option ((List Int) × Bool × Int × Int)
 | 0, _, _, _, _, _, _, _ => none
 | q + 1, h0_0, h0_1, h0_2, h0_3, h1_0z, h1_0l, h1_1 => ((zk8 q ⟨h1_0z, h1_0l⟩).bind fun r1 => (if h1_1 = true then (if 0 ≤ r1.2 then (if r1.2 ≤ (h1_0l.length : Int) then (zlx q h0_0 h0_1 h0_2 h0_3 h1_0z (List.drop r1.2.toNat h1_0l) (decide (0 < r1.2)) r1.1) else none) else none) else (if 0 ≤ r1.2 then (if r1.2 ≤ (h1_0l.length : Int) then (zlx q h0_0 h0_1 h0_2 h0_3 h1_0z (List.drop r1.2.toNat h1_0l) false r1.1) else none) else none)))
def zlz : Nat → Int → Int → Int → Int → Bool → (List Int) → Bool → Option ((List Int) × Bool × Int × Int)
 | 0, _, _, _, _, _, _, _ => none
 | q + 1, h0_0, h0_1, h0_2, h0_3, h1_0z, h1_0l, h1_1 => (zly q h0_0 h0_1 h0_2 h0_3 h1_0z h1_0l h1_1)
def zl0 : Nat → Int → Int → Int → Int → Bool → (List Int) → Bool → Int → Int → (List Int) → Option (Nat × (List Int) × Bool × Int × Int)
 | 0, _, _, _, _, _, _, _, _, _, _ => none
 | q + 1, h0_0, h0_1, h0_2, h0_3, h1_0z, h1_0l, h1_1, h2_0, h3_0, h4l => (some (h4l.length, h1_0l, h1_1, h2_0, h3_0))
def zl1 : Nat → Int → Int → Int → Int → Bool → (List Int) → Bool → Int → (List Int) → Option (Nat × (List Int) × Bool × Int × Int)
 | 0, _, _, _, _, _, _, _, _, _ => none
 | q + 1, h0_0, h0_1, h0_2, h0_3, h1_0z, h1_0l, h1_1, h2_0, h4l => ((zk8 q ⟨h1_0z, h1_0l⟩).bind fun r2 => (if h1_1 = true then (if 0 ≤ r2.2 then (if r2.2 ≤ (h1_0l.length : Int) then (zl0 q h0_0 h0_1 h0_2 h0_3 h1_0z (List.drop r2.2.toNat h1_0l) (decide (0 < r2.2)) h2_0 r2.1 h4l) else none) else none) else (if 0 ≤ r2.2 then (if r2.2 ≤ (h1_0l.length : Int) then (zl0 q h0_0 h0_1 h0_2 h0_3 h1_0z (List.drop r2.2.toNat h1_0l) false h2_0 r2.1 h4l) else none) else none)))
def zl2 : Nat → Int → Int → Int → Int → Bool → (List Int) → Bool → (List Int) → Option (Nat × (List Int) × Bool × Int × Int)
 | 0, _, _, _, _, _, _, _, _ => none
 | q + 1, h0_0, h0_1, h0_2, h0_3, h1_0z, h1_0l, h1_1, h4l => ((zk8 q ⟨h1_0z, h1_0l⟩).bind fun r1 => (if h1_1 = true then (if 0 ≤ r1.2 then (if r1.2 ≤ (h1_0l.length : Int) then (zl1 q h0_0 h0_1 h0_2 h0_3 h1_0z (List.drop r1.2.toNat h1_0l) (decide (0 < r1.2)) r1.1 h4l) else none) else none) else (if 0 ≤ r1.2 then (if r1.2 ≤ (h1_0l.length : Int) then (zl1 q h0_0 h0_1 h0_2 h0_3 h1_0z (List.drop r1.2.toNat h1_0l) false r1.1 h4l) else none) else none)))
def zl3 : Nat → Int → Int → Int → Int → Bool → (List Int) → Bool → (List Int) → Option (Nat × (List Int) × Bool × Int × Int)
 | 0, _, _, _, _, _, _, _, _ => none
 | q + 1, h0_0, h0_1, h0_2, h0_3, h1_0z, h1_0l, h1_1, h4l => (zl2 q h0_0 h0_1 h0_2 h0_3 h1_0z h1_0l h1_1 h4l)
def zl4 : Nat → Int → Int → Int → Int → Bool → Int → Bool → (List Int) → Bool → Int → Int → Int → Option ((List Int) × Bool × Int × Int)
 | 0, _, _, _, _, _, _, _, _, _, _, _, _ => none
 | q + 1, h0_0, h0_1, h0_2, h0_3, h0_5, h0_6, h1_0z, h1_0l, h1_1, h2_0, h3_0, h3_1 => (some (h1_0l, h1_1, h3_0, h3_1))
def zl5 : Nat → Int → Int → Int → Int → Bool → Int → Bool → (List Int) → Bool → Int → Int → Option ((List Int) × Bool × Int × Int)
 | 0, _, _, _, _, _, _, _, _, _, _, _ => none
 | q + 1, h0_0, h0_1, h0_2, h0_3, h0_5, h0_6, h1_0z, h1_0l, h1_1, h2_0, h3_0 => ((zk8 q ⟨h1_0z, h1_0l⟩).bind fun r2 => (if h1_1 = true then (if 0 ≤ r2.2 then (if r2.2 ≤ (h1_0l.length : Int) then (zl4 q h0_0 h0_1 h0_2 h0_3 h0_5 h0_6 h1_0z (List.drop r2.2.toNat h1_0l) (decide (0 < r2.2)) h2_0 h3_0 r2.1) else none) else none) else (if 0 ≤ r2.2 then (if r2.2 ≤ (h1_0l.length : Int) then (zl4 q h0_0 h0_1 h0_2 h0_3 h0_5 h0_6 h1_0z (List.drop r2.2.toNat h1_0l) false h2_0 h3_0 r2.1) else none) else none)))
def zl6 : Nat → Int → Int → Int → Int → Bool → Int → Bool → (List Int) → Bool → Int → Option ((List Int) × Bool × Int × Int)
 | 0, _, _, _, _, _, _, _, _, _, _ => none
 | q + 1, h0_0, h0_1, h0_2, h0_3, h0_5, h0_6, h1_0z, h1_0l, h1_1, h2_0 => ((zk8 q ⟨h1_0z, h1_0l⟩).bind fun r1 => (if h1_1 = true then (if 0 ≤ r1.2 then (if r1.2 ≤ (h1_0l.length : Int) then (zl5 q h0_0 h0_1 h0_2 h0_3 h0_5 h0_6 h1_0z (List.drop r1.2.toNat h1_0l) (decide (0 < r1.2)) h2_0 r1.1) else none) else none) else (if 0 ≤ r1.2 then (if r1.2 ≤ (h1_0l.length : Int) then (zl5 q h0_0 h0_1 h0_2 h0_3 h0_5 h0_6 h1_0z (List.drop r1.2.toNat h1_0l) false h2_0 r1.1) else none) else none)))
def zl7 : Nat → Int → Int → Int → Int → Bool → Int → Bool → (List Int) → Bool → Int → Option ((List Int) × Bool × Int × Int)
 | 0, _, _, _, _, _, _, _, _, _, _ => none
 | q + 1, h0_0, h0_1, h0_2, h0_3, h0_5, h0_6, h1_0z, h1_0l, h1_1, h2_0 => (zl6 q h0_0 h0_1 h0_2 h0_3 h0_5 h0_6 h1_0z h1_0l h1_1 h2_0)
def zl8 : Nat → Int → Int → Int → Int → Nat → Bool → Int → Bool → (List Int) → Bool → Int → (List Int) → Int → Int → Option ((List Int) × Bool × Int × Int)
 | 0, _, _, _, _, _, _, _, _, _, _, _, _, _, _ => none
 | q + 1, h0_0, h0_1, h0_2, h0_3, h0_4len, h0_5, h0_6, h1_0z, h1_0l, h1_1, h2_0, h3l, h4_0, h4_1 => (some (h1_0l, h1_1, h4_0, h4_1))
def zl9 : Nat → Int → Int → Int → Int → Nat → Bool → Int → Bool → (List Int) → Bool → Int → (List Int) → Int → Option ((List Int) × Bool × Int × Int)
 | 0, _, _, _, _, _, _, _, _, _, _, _, _, _ => none
 | q + 1, h0_0, h0_1, h0_2, h0_3, h0_4len, h0_5, h0_6, h1_0z, h1_0l, h1_1, h2_0, h3l, h4_0 => ((zk8 q ⟨h1_0z, h1_0l⟩).bind fun r2 => (if h1_1 = true then (if 0 ≤ r2.2 then (if r2.2 ≤ (h1_0l.length : Int) then (zl8 q h0_0 h0_1 h0_2 h0_3 h0_4len h0_5 h0_6 h1_0z (List.drop r2.2.toNat h1_0l) (decide (0 < r2.2)) h2_0 h3l h4_0 r2.1) else none) else none) else (if 0 ≤ r2.2 then (if r2.2 ≤ (h1_0l.length : Int) then (zl8 q h0_0 h0_1 h0_2 h0_3 h0_4len h0_5 h0_6 h1_0z (List.drop r2.2.toNat h1_0l) false h2_0 h3l h4_0 r2.1) else none) else none)))
def zma : Nat → Int → Int → Int → Int → Nat → Bool → Int → Bool → (List Int) → Bool → Int → (List Int) → Option ((List Int) × Bool × Int × Int)
 | 0, _, _, _, _, _, _, _, _, _, _, _, _ => none
 | q + 1, h0_0, h0_1, h0_2, h0_3, h0_4len, h0_5, h0_6, h1_0z, h1_0l, h1_1, h2_0, h3l => ((zk8 q ⟨h1_0z, h1_0l⟩).bind fun r1 => (if h1_1 = true then (if 0 ≤ r1.2 then (if r1.2 ≤ (h1_0l.length : Int) then (zl9 q h0_0 h0_1 h0_2 h0_3 h0_4len h0_5 h0_6 h1_0z (List.drop r1.2.toNat h1_0l) (decide (0 < r1.2)) h2_0 h3l r1.1) else none) else none) else (if 0 ≤ r1.2 then (if r1.2 ≤ (h1_0l.length : Int) then (zl9 q h0_0 h0_1 h0_2 h0_3 h0_4len h0_5 h0_6 h1_0z (List.drop r1.2.toNat h1_0l) false h2_0 h3l r1.1) else none) else none)))
def zmb : Nat → Int → Int → Int → Int → Nat → Bool → Int → Bool → (List Int) → Bool → Int → (List Int) → Option ((List Int) × Bool × Int × Int)
 | 0, _, _, _, _, _, _, _, _, _, _, _, _ => none
 | q + 1, h0_0, h0_1, h0_2, h0_3, h0_4len, h0_5, h0_6, h1_0z, h1_0l, h1_1, h2_0, h3l => (zma q h0_0 h0_1 h0_2 h0_3 h0_4len h0_5 h0_6 h1_0z h1_0l h1_1 h2_0 h3l)
def zmc : Nat → Int → Int → Int → Int → Bool → Int → Bool → (List Int) → Bool → Int → (List zjk) → Int → Int → Option (Nat × (List Int) × Bool × Int × Int)
 | 0, _, _, _, _, _, _, _, _, _, _, _, _, _ => none
 | q + 1, h0_0, h0_1, h0_2, h0_3, h0_5, h0_6, h1_0z, h1_0l, h1_1, h2_0, h3l, h4_0, h4_1 => (some (h3l.length, h1_0l, h1_1, h4_0, h4_1))
def zmd : Nat → Int → Int → Int → Int → Bool → Int → Bool → (List Int) → Bool → Int → (List zjk) → Int → Option (Nat × (List Int) × Bool × Int × Int)
 | 0, _, _, _, _, _, _, _, _, _, _, _, _ => none
 | q + 1, h0_0, h0_1, h0_2, h0_3, h0_5, h0_6, h1_0z, h1_0l, h1_1, h2_0, h3l, h4_0 => ((zk8 q ⟨h1_0z, h1_0l⟩).bind fun r2 => (if h1_1 = true then (if 0 ≤ r2.2 then (if r2.2 ≤ (h1_0l.length : Int) then (zmc q h0_0 h0_1 h0_2 h0_3 h0_5 h0_6 h1_0z (List.drop r2.2.toNat h1_0l) (decide (0 < r2.2)) h2_0 h3l h4_0 r2.1) else none) else none) else (if 0 ≤ r2.2 then (if r2.2 ≤ (h1_0l.length : Int) then (zmc q h0_0 h0_1 h0_2 h0_3 h0_5 h0_6 h1_0z (List.drop r2.2.toNat h1_0l) false h2_0 h3l h4_0 r2.1) else none) else none)))
def zme : Nat → Int → Int → Int → Int → Bool → Int → Bool → (List Int) → Bool → Int → (List zjk) → Option (Nat × (List Int) × Bool × Int × Int)
 | 0, _, _, _, _, _, _, _, _, _, _, _ => none
 | q + 1, h0_0, h0_1, h0_2, h0_3, h0_5, h0_6, h1_0z, h1_0l, h1_1, h2_0, h3l => ((zk8 q ⟨h1_0z, h1_0l⟩).bind fun r1 => (if h1_1 = true then (if 0 ≤ r1.2 then (if r1.2 ≤ (h1_0l.length : Int) then (zmd q h0_0 h0_1 h0_2 h0_3 h0_5 h0_6 h1_0z (List.drop r1.2.toNat h1_0l) (decide (0 < r1.2)) h2_0 h3l r1.1) else none) else none) else (if 0 ≤ r1.2 then (if r1.2 ≤ (h1_0l.length : Int) then (zmd q h0_0 h0_1 h0_2 h0_3 h0_5 h0_6 h1_0z (List.drop r1.2.toNat h1_0l) false h2_0 h3l r1.1) else none) else none)))
def zmf : Nat → Int → Int → Int → Int → Bool → Int → Bool → (List Int) → Bool → Int → (List zjk) → Option (Nat × (List Int) × Bool × Int × Int)
 | 0, _, _, _, _, _, _, _, _, _, _, _ => none
 | q + 1, h0_0, h0_1, h0_2, h0_3, h0_5, h0_6, h1_0z, h1_0l, h1_1, h2_0, h3l => (zme q h0_0 h0_1 h0_2 h0_3 h0_5 h0_6 h1_0z h1_0l h1_1 h2_0 h3l)
def zmg : Nat → Int → Int → Int → Int → Nat → Bool → Int → Bool → (List Int) → Bool → Int → (List Int) → (List zjk) → Int → Int → Option (Nat × (List Int) × Bool × Int × Int)
 | 0, _, _, _, _, _, _, _, _, _, _, _, _, _, _, _ => none
 | q + 1, h0_0, h0_1, h0_2, h0_3, h0_4len, h0_5, h0_6, h1_0z, h1_0l, h1_1, h2_0, h3l, h4l, h5_0, h5_1 => (some (h4l.length, h1_0l, h1_1, h5_0, h5_1))
def zmh : Nat → Int → Int → Int → Int → Nat → Bool → Int → Bool → (List Int) → Bool → Int → (List Int) → (List zjk) → Int → Option (Nat × (List Int) × Bool × Int × Int)
 | 0, _, _, _, _, _, _, _, _, _, _, _, _, _, _ => none
 | q + 1, h0_0, h0_1, h0_2, h0_3, h0_4len, h0_5, h0_6, h1_0z, h1_0l, h1_1, h2_0, h3l, h4l, h5_0 => ((zk8 q ⟨h1_0z, h1_0l⟩).bind fun r2 => (if h1_1 = true then (if 0 ≤ r2.2 then (if r2.2 ≤ (h1_0l.length : Int) then (zmg q h0_0 h0_1 h0_2 h0_3 h0_4len h0_5 h0_6 h1_0z (List.drop r2.2.toNat h1_0l) (decide (0 < r2.2)) h2_0 h3l h4l h5_0 r2.1) else none) else none) else (if 0 ≤ r2.2 then (if r2.2 ≤ (h1_0l.length : Int) then (zmg q h0_0 h0_1 h0_2 h0_3 h0_4len h0_5 h0_6 h1_0z (List.drop r2.2.toNat h1_0l) false h2_0 h3l h4l h5_0 r2.1) else none) else none)))
def zmi : Nat → Int → Int → Int → Int → Nat → Bool → Int → Bool → (List Int) → Bool → Int → (List Int) → (List zjk) → Option (Nat × (List Int) × Bool × Int × Int)
 | 0, _, _, _, _, _, _, _, _, _, _, _, _, _ => none
 | q + 1, h0_0, h0_1, h0_2, h0_3, h0_4len, h0_5, h0_6, h1_0z, h1_0l, h1_1, h2_0, h3l, h4l => ((zk8 q ⟨h1_0z, h1_0l⟩).bind fun r1 => (if h1_1 = true then (if 0 ≤ r1.2 then (if r1.2 ≤ (h1_0l.length : Int) then (zmh q h0_0 h0_1 h0_2 h0_3 h0_4len h0_5 h0_6 h1_0z (List.drop r1.2.toNat h1_0l) (decide (0 < r1.2)) h2_0 h3l h4l r1.1) else none) else none) else (if 0 ≤ r1.2 then (if r1.2 ≤ (h1_0l.length : Int) then (zmh q h0_0 h0_1 h0_2 h0_3 h0_4len h0_5 h0_6 h1_0z (List.drop r1.2.toNat h1_0l) false h2_0 h3l h4l r1.1) else none) else none)))
def zmj : Nat → Int → Int → Int → Int → Nat → Bool → Int → Bool → (List Int) → Bool → Int → (List Int) → (List zjk) → Option (Nat × (List Int) × Bool × Int × Int)
 | 0, _, _, _, _, _, _, _, _, _, _, _, _, _ => none
 | q + 1, h0_0, h0_1, h0_2, h0_3, h0_4len, h0_5, h0_6, h1_0z, h1_0l, h1_1, h2_0, h3l, h4l => (zmi q h0_0 h0_1 h0_2 h0_3 h0_4len h0_5 h0_6 h1_0z h1_0l h1_1 h2_0 h3l h4l)
def zmk : Nat → Int → Int → Int → Int → Int → Nat → Bool → Int → Bool → (List Int) → Bool → Int → (List Int) → (List zjk) → Option (zjm × Bool)
 | 0, _, _, _, _, _, _, _, _, _, _, _, _, _, _ => none
 | q + 1, v8, h0_0, h0_1, h0_2, h0_3, h0_4len, h0_5, h0_6, h1_0z, h1_0l, h1_1, h2_0, h3l, h4l => (if v8 < h2_0 then (if h1_1 = true then ((zmj q h0_0 h0_1 h0_2 h0_3 h0_4len h0_5 h0_6 h1_0z h1_0l h1_1 h2_0 h3l h4l).bind fun r12 => ((zlo q ⟨h1_0z, r12.2.1⟩).bind fun r13 => (if r12.2.2.1 = true then (if 0 ≤ r13.2 then (if r13.2 ≤ (r12.2.1.length : Int) then (if (h4l.length + 1) ≤ 4294967296 then (zmk q (wrp .i64 (v8 + 1)) h0_0 h0_1 h0_2 h0_3 h0_4len h0_5 h0_6 h1_0z (List.drop r13.2.toNat r12.2.1) (decide (0 < r13.2)) h2_0 h3l (h4l ++ [(⟨r12.2.2.2.1, r12.2.2.2.2, r13.1⟩ : zjk)])) else none) else none) else none) else (if 0 ≤ r13.2 then (if r13.2 ≤ (r12.2.1.length : Int) then (if (h4l.length + 1) ≤ 4294967296 then (zmk q (wrp .i64 (v8 + 1)) h0_0 h0_1 h0_2 h0_3 h0_4len h0_5 h0_6 h1_0z (List.drop r13.2.toNat r12.2.1) false h2_0 h3l (h4l ++ [(⟨r12.2.2.2.1, r12.2.2.2.2, r13.1⟩ : zjk)])) else none) else none) else none)))) else (some ((⟨h0_0, h0_1, h0_2, h0_3, ⟨false, h3l⟩, h0_5, h0_6, ⟨false, h4l⟩⟩ : zjm), false))) else (if h1_1 = true then (some ((⟨h0_0, h0_1, h0_2, h0_3, ⟨false, h3l⟩, h0_5, h0_6, ⟨false, h4l⟩⟩ : zjm), (decide ((h1_0l.length : Int) = 0)))) else (some ((⟨h0_0, h0_1, h0_2, h0_3, ⟨false, h3l⟩, h0_5, h0_6, ⟨false, h4l⟩⟩ : zjm), false))))
def zml : Nat → Int → Int → Int → Int → Nat → Bool → Int → Bool → (List Int) → Bool → Int → (List Int) → Option (zjm × Bool)
 | 0, _, _, _, _, _, _, _, _, _, _, _, _ => none
 | q + 1, h0_0, h0_1, h0_2, h0_3, h0_4len, h0_5, h0_6, h1_0z, h1_0l, h1_1, h2_0, h3l => (if 0 < h2_0 then (if h1_1 = true then ((zmb q h0_0 h0_1 h0_2 h0_3 h0_4len h0_5 h0_6 h1_0z h1_0l h1_1 h2_0 h3l).bind fun r8 => ((zlo q ⟨h1_0z, r8.1⟩).bind fun r9 => (if r8.2.1 = true then (if 0 ≤ r9.2 then (if r9.2 ≤ (r8.1.length : Int) then (zmk q (wrp .i64 1) h0_0 h0_1 h0_2 h0_3 h0_4len h0_5 h0_6 h1_0z (List.drop r9.2.toNat r8.1) (decide (0 < r9.2)) h2_0 h3l [(⟨r8.2.2.1, r8.2.2.2, r9.1⟩ : zjk)]) else none) else none) else (if 0 ≤ r9.2 then (if r9.2 ≤ (r8.1.length : Int) then (zmk q (wrp .i64 1) h0_0 h0_1 h0_2 h0_3 h0_4len h0_5 h0_6 h1_0z (List.drop r9.2.toNat r8.1) false h2_0 h3l [(⟨r8.2.2.1, r8.2.2.2, r9.1⟩ : zjk)]) else none) else none)))) else (some ((⟨h0_0, h0_1, h0_2, h0_3, ⟨false, h3l⟩, h0_5, h0_6, ⟨true, []⟩⟩ : zjm), false))) else (if h1_1 = true then (some ((⟨h0_0, h0_1, h0_2, h0_3, ⟨false, h3l⟩, h0_5, h0_6, ⟨true, []⟩⟩ : zjm), (decide ((h1_0l.length : Int) = 0)))) else (some ((⟨h0_0, h0_1, h0_2, h0_3, ⟨false, h3l⟩, h0_5, h0_6, ⟨true, []⟩⟩ : zjm), false))))
def zmm : Nat → Int → Int → Int → Int → Int → Int → Bool → (List Int) → Bool → (List Int) → Option (zjm × Bool)
 | 0, _, _, _, _, _, _, _, _, _, _ => none
 | q + 1, v23, v24, h0_0, h0_1, h0_2, h0_3, h1_0z, h1_0l, h1_1, h4l => (if v24 < v23 then ((zlo q ⟨h1_0z, h1_0l⟩).bind fun r4 => (if h1_1 = true then (if 0 ≤ r4.2 then (if r4.2 ≤ (h1_0l.length : Int) then (if (h4l.length + 1) ≤ 4294967296 then (zmm q v23 (wrp .i64 (v24 + 1)) h0_0 h0_1 h0_2 h0_3 h1_0z (List.drop r4.2.toNat h1_0l) (decide (0 < r4.2)) (h4l ++ [r4.1])) else none) else none) else none) else (if 0 ≤ r4.2 then (if r4.2 ≤ (h1_0l.length : Int) then (if (h4l.length + 1) ≤ 4294967296 then (zmm q v23 (wrp .i64 (v24 + 1)) h0_0 h0_1 h0_2 h0_3 h1_0z (List.drop r4.2.toNat h1_0l) false (h4l ++ [r4.1])) else none) else none) else none))) else ((zl3 q h0_0 h0_1 h0_2 h0_3 h1_0z h1_0l h1_1 h4l).bind fun r5 => (if 3 < r5.2.2.2.1 then (some ((⟨h0_0, h0_1, h0_2, h0_3, ⟨false, h4l⟩, false, 0, ⟨true, []⟩⟩ : zjm), false)) else (zml q h0_0 h0_1 h0_2 h0_3 r5.1 (decide (0 < r5.2.2.2.1)) (if (wrp .i64 (r5.2.2.2.1 - 1)) < 0 then 0 else (wrp .i64 (r5.2.2.2.1 - 1))) h1_0z r5.2.1 r5.2.2.1 r5.2.2.2.2 h4l))))
def zmn : Nat → Int → Int → Int → Int → Int → Bool → Int → Bool → (List Int) → Bool → Int → (List zjk) → Option (zjm × Bool)
 | 0, _, _, _, _, _, _, _, _, _, _, _, _ => none
 | q + 1, v8, h0_0, h0_1, h0_2, h0_3, h0_5, h0_6, h1_0z, h1_0l, h1_1, h2_0, h3l => (if v8 < h2_0 then (if h1_1 = true then ((zmf q h0_0 h0_1 h0_2 h0_3 h0_5 h0_6 h1_0z h1_0l h1_1 h2_0 h3l).bind fun r10 => ((zlo q ⟨h1_0z, r10.2.1⟩).bind fun r11 => (if r10.2.2.1 = true then (if 0 ≤ r11.2 then (if r11.2 ≤ (r10.2.1.length : Int) then (if (h3l.length + 1) ≤ 4294967296 then (zmn q (wrp .i64 (v8 + 1)) h0_0 h0_1 h0_2 h0_3 h0_5 h0_6 h1_0z (List.drop r11.2.toNat r10.2.1) (decide (0 < r11.2)) h2_0 (h3l ++ [(⟨r10.2.2.2.1, r10.2.2.2.2, r11.1⟩ : zjk)])) else none) else none) else none) else (if 0 ≤ r11.2 then (if r11.2 ≤ (r10.2.1.length : Int) then (if (h3l.length + 1) ≤ 4294967296 then (zmn q (wrp .i64 (v8 + 1)) h0_0 h0_1 h0_2 h0_3 h0_5 h0_6 h1_0z (List.drop r11.2.toNat r10.2.1) false h2_0 (h3l ++ [(⟨r10.2.2.2.1, r10.2.2.2.2, r11.1⟩ : zjk)])) else none) else none) else none)))) else (some ((⟨h0_0, h0_1, h0_2, h0_3, ⟨true, []⟩, h0_5, h0_6, ⟨false, h3l⟩⟩ : zjm), false))) else (if h1_1 = true then (some ((⟨h0_0, h0_1, h0_2, h0_3, ⟨true, []⟩, h0_5, h0_6, ⟨false, h3l⟩⟩ : zjm), (decide ((h1_0l.length : Int) = 0)))) else (some ((⟨h0_0, h0_1, h0_2, h0_3, ⟨true, []⟩, h0_5, h0_6, ⟨false, h3l⟩⟩ : zjm), false))))
def zmo : Nat → Int → Int → Int → Int → Bool → Int → Bool → (List Int) → Bool → Int → Option (zjm × Bool)
 | 0, _, _, _, _, _, _, _, _, _, _ => none
 | q + 1, h0_0, h0_1, h0_2, h0_3, h0_5, h0_6, h1_0z, h1_0l, h1_1, h2_0 => (if 0 < h2_0 then (if h1_1 = true then ((zl7 q h0_0 h0_1 h0_2 h0_3 h0_5 h0_6 h1_0z h1_0l h1_1 h2_0).bind fun r6 => ((zlo q ⟨h1_0z, r6.1⟩).bind fun r7 => (if r6.2.1 = true then (if 0 ≤ r7.2 then (if r7.2 ≤ (r6.1.length : Int) then (zmn q (wrp .i64 1) h0_0 h0_1 h0_2 h0_3 h0_5 h0_6 h1_0z (List.drop r7.2.toNat r6.1) (decide (0 < r7.2)) h2_0 [(⟨r6.2.2.1, r6.2.2.2, r7.1⟩ : zjk)]) else none) else none) else (if 0 ≤ r7.2 then (if r7.2 ≤ (r6.1.length : Int) then (zmn q (wrp .i64 1) h0_0 h0_1 h0_2 h0_3 h0_5 h0_6 h1_0z (List.drop r7.2.toNat r6.1) false h2_0 [(⟨r6.2.2.1, r6.2.2.2, r7.1⟩ : zjk)]) else none) else none)))) else (some ((⟨h0_0, h0_1, h0_2, h0_3, ⟨true, []⟩, h0_5, h0_6, ⟨true, []⟩⟩ : zjm), false))) else (if h1_1 = true then (some ((⟨h0_0, h0_1, h0_2, h0_3, ⟨true, []⟩, h0_5, h0_6, ⟨true, []⟩⟩ : zjm), (decide ((h1_0l.length : Int) = 0)))) else (some ((⟨h0_0, h0_1, h0_2, h0_3, ⟨true, []⟩, h0_5, h0_6, ⟨true, []⟩⟩ : zjm), false))))
def zmp : Nat → Int → Int → Int → Int → Int → Bool → (List Int) → Bool → Option (zjm × Bool)
 | 0, _, _, _, _, _, _, _, _ => none
 | q + 1, v23, h0_0, h0_1, h0_2, h0_3, h1_0z, h1_0l, h1_1 => (if 0 < v23 then ((zlo q ⟨h1_0z, h1_0l⟩).bind fun r2 => (if h1_1 = true then (if 0 ≤ r2.2 then (if r2.2 ≤ (h1_0l.length : Int) then (zmm q v23 (wrp .i64 1) h0_0 h0_1 h0_2 h0_3 h1_0z (List.drop r2.2.toNat h1_0l) (decide (0 < r2.2)) [r2.1]) else none) else none) else (if 0 ≤ r2.2 then (if r2.2 ≤ (h1_0l.length : Int) then (zmm q v23 (wrp .i64 1) h0_0 h0_1 h0_2 h0_3 h1_0z (List.drop r2.2.toNat h1_0l) false [r2.1]) else none) else none))) else ((zlz q h0_0 h0_1 h0_2 h0_3 h1_0z h1_0l h1_1).bind fun r3 => (if 3 < r3.2.2.1 then (some ((⟨h0_0, h0_1, h0_2, h0_3, ⟨true, []⟩, false, 0, ⟨true, []⟩⟩ : zjm), false)) else (zmo q h0_0 h0_1 h0_2 h0_3 (decide (0 < r3.2.2.1)) (if (wrp .i64 (r3.2.2.1 - 1)) < 0 then 0 else (wrp .i64 (r3.2.2.1 - 1))) h1_0z r3.1 r3.2.1 r3.2.2.2))))
def zmq : Nat → (Sl Int) → Option (zjm × Bool)
 | 0, _ => none
 | q + 1, a0 => ((zlv q a0.z a0.l).bind fun r1 => (if 128 < r1.2.2.2.2.2.2 then (some ((⟨r1.1, r1.2.1, r1.2.2.1, r1.2.2.2.1, ⟨true, []⟩, false, 0, ⟨true, []⟩⟩ : zjm), false)) else (zmp q r1.2.2.2.2.2.2 r1.1 r1.2.1 r1.2.2.1 r1.2.2.2.1 a0.z r1.2.2.2.2.1 r1.2.2.2.2.2.1)))
def zmr : Nat → Int → Option (Bool)
 | 0, _ => none
 | q + 1, a0 => (if a0 < 0 then (some true) else (some (decide (4611686018427387904 ≤ a0))))
def zms : Nat → Bool → (List Int) → Int → Int → Option (Int)
 | 0, _, _, _, _ => none
 | q + 1, v0z, v0l, v7, v8 => (if v8 < v7 then (if 0 ≤ v8 then ((v0l[v8.toNat]?).bind fun e1 => ((zmr q e1).bind fun r2 => (if r2 = true then (some v8) else (zms q v0z v0l v7 (wrp .i64 (v8 + 1)))))) else none) else (some (-1)))
def zmt : Nat → Bool → (List Int) → Option (Int)
 | 0, _, _ => none
 | q + 1, v0z, v0l => (zms q v0z v0l (v0l.length : Int) 0)
def zmu : Nat → (Sl Int) → Option (Bool)
 | 0, _ => none
 | q + 1, a0 => ((zmt q a0.z a0.l).bind fun r1 => (some (!(decide (0 ≤ r1)))))
def zmv : Nat → Int → Option (Bool)
 | 0, _ => none
 | q + 1, a0 => (if a0 < (-1099511627776) then (some true) else (some (decide (1099511627776 < a0))))
def zmw : Nat → Bool → (List zjk) → Bool → (List zjk) → Int → Int → Option (Bool)
 | 0, _, _, _, _, _, _ => none
 | q + 1, v0z, v0l, v5z, v5l, v6, v7 => (if v7 < v6 then (if 0 ≤ v7 then ((v5l[v7.toNat]?).bind fun e1 => ((zmu q ⟨false, [e1.Proc, e1.Seq]⟩).bind fun r2 => (if r2 = true then (if 64 < e1.Proc then (some false) else (if e1.Resp < (-1125899906842624) then (some false) else (if 1125899906842624 < e1.Resp then (some false) else (if 0 < v7 then (if 0 ≤ (wrp .i64 (v7 - 1)) then ((v0l[(wrp .i64 (v7 - 1)).toNat]?).bind fun e3 => (if e1.Proc ≤ e3.Proc then (some false) else (zmw q v0z v0l v5z v5l v6 (wrp .i64 (v7 + 1))))) else none) else (zmw q v0z v0l v5z v5l v6 (wrp .i64 (v7 + 1))))))) else (some false)))) else none) else (some true))
def zmx : Nat → (Sl zjk) → Option (Bool)
 | 0, _ => none
 | q + 1, a0 => (zmw q a0.z a0.l a0.z a0.l (a0.l.length : Int) 0)
def zmy : Nat → Bool → (List Int) → Int → Int → Int → Int → Int → Int → Bool → (List Int) → Bool → Int → Bool → (List zjk) → (List Int) → Option (Int)
 | 0, _, _, _, _, _, _, _, _, _, _, _, _, _, _, _ => none
 | q + 1, v0z, v0l, v7, v8, h0_0, h0_1, h0_2, h0_3, h0_4z, h0_4l, h0_5, h0_6, h0_7z, h0_7l, h1l => (if v8 < v7 then (if 0 ≤ v8 then ((v0l[v8.toNat]?).bind fun e1 => ((zmv q e1).bind fun r2 => (if r2 = true then (some v8) else (zmy q v0z v0l v7 (wrp .i64 (v8 + 1)) h0_0 h0_1 h0_2 h0_3 h0_4z h0_4l h0_5 h0_6 h0_7z h0_7l h1l)))) else none) else (some (-1)))
def zmz : Nat → Bool → (List Int) → Int → Int → Int → Int → Bool → (List Int) → Bool → Int → Bool → (List zjk) → (List Int) → Option (Int)
 | 0, _, _, _, _, _, _, _, _, _, _, _, _, _ => none
 | q + 1, v0z, v0l, h0_0, h0_1, h0_2, h0_3, h0_4z, h0_4l, h0_5, h0_6, h0_7z, h0_7l, h1l => (zmy q v0z v0l (v0l.length : Int) 0 h0_0 h0_1 h0_2 h0_3 h0_4z h0_4l h0_5 h0_6 h0_7z h0_7l h1l)
def zm0 : Nat → zjm → Option (Bool)
 | 0, _ => none
 | q + 1, a0 => ((zmu q ⟨false, [a0.From, a0.To, a0.Ahead, a0.Behind]⟩).bind fun r1 => (if r1 = true then (if (a0.Mid.l.length : Int) ≤ 128 then ((zmz q a0.Mid.z a0.Mid.l a0.From a0.To a0.Ahead a0.Behind a0.Mid.z a0.Mid.l a0.Sealed a0.Engine a0.Table.z a0.Table.l [a0.From, a0.To, a0.Ahead, a0.Behind]).bind fun r2 => (if 0 ≤ r2 then (some false) else (if 0 ≤ a0.Engine then (if a0.Engine < 3 then (if a0.Sealed = true then ((zmx q a0.Table).bind fun r3 => (some r3)) else (if a0.Engine = 0 then ((zmx q a0.Table).bind fun r4 => (some r4)) else (some false))) else (some false)) else (some false)))) else (some false)) else (some false)))
def zm1 : Nat → (Sl Int) → Option (zjm × Int)
 | 0, _ => none
 | q + 1, a0 => ((zlm q a0).bind fun r1 => (if r1.2.2 = 0 then (if r1.2.1 = (a0.l.length : Int) then ((zmq q ⟨r1.1.n, r1.1.xs⟩).bind fun r2 => (if r2.2 = true then ((zm0 q r2.1).bind fun r3 => (if r3 = true then (some (r2.1, 0)) else (some ((⟨0, 0, 0, 0, ⟨true, []⟩, false, 0, ⟨true, []⟩⟩ : zjm), 1)))) else (some ((⟨0, 0, 0, 0, ⟨true, []⟩, false, 0, ⟨true, []⟩⟩ : zjm), 3)))) else (some ((⟨0, 0, 0, 0, ⟨true, []⟩, false, 0, ⟨true, []⟩⟩ : zjm), 16))) else (some ((⟨0, 0, 0, 0, ⟨true, []⟩, false, 0, ⟨true, []⟩⟩ : zjm), r1.2.2))))
def zm2 : Nat → Int → Bool → (List Int) → Bool → Option ((Ow Int))
 | 0, _, _, _, _ => none
 | q + 1, v1, h0z, h0l, h0x => (if 128 ≤ v1 then (if (h0l.length + 1) ≤ 4294967296 then (zm2 q (ishr .u64 v1 7) false (h0l ++ [(ibits .or .u8 (wrp .u8 v1) 128)]) h0x) else none) else (if (h0l.length + 1) ≤ 4294967296 then (some ⟨false, h0x, (h0l ++ [(wrp .u8 v1)])⟩) else none))
def zm3 : Nat → (Ow Int) → Int → Option ((Ow Int))
 | 0, _, _ => none
 | q + 1, a0, a1 => (zm2 q a1 a0.n a0.xs a0.x)
def zm4 : Nat → (Ow Int) → Int → Option ((Ow Int))
 | 0, _, _ => none
 | q + 1, a0, a1 => (if a1 < 0 then (some a0) else (if 4611686018427387904 ≤ a1 then (some a0) else ((zm3 q a0 (wrp .u64 a1)).bind fun r1 => (some r1))))
def zm5 : Nat → Bool → (List Int) → Int → Int → Bool → (List Int) → Bool → Option ((Ow Int))
 | 0, _, _, _, _, _, _, _ => none
 | q + 1, v7z, v7l, v8, v9, h1z, h1l, h1x => (if v9 < v8 then (if 0 ≤ v9 then ((v7l[v9.toNat]?).bind fun e3 => ((zm4 q ⟨h1z, h1x, h1l⟩ e3).bind fun r4 => (zm5 q v7z v7l v8 (wrp .i64 (v9 + 1)) r4.n r4.xs r4.x))) else none) else (some ⟨h1z, h1x, h1l⟩))
def zm6 : Nat → Bool → (List Int) → Int → Bool → (List Int) → Bool → Option ((Ow Int))
 | 0, _, _, _, _, _, _ => none
 | q + 1, v7z, v7l, v8, h0z, h0l, h0x => (if 0 < v8 then ((v7l[0]?).bind fun e1 => ((zm4 q ⟨h0z, h0x, h0l⟩ e1).bind fun r2 => (zm5 q v7z v7l v8 (wrp .i64 1) r2.n r2.xs r2.x))) else (some ⟨h0z, h0x, h0l⟩))
def zm7 : Nat → (Ow Int) → (Sl Int) → Option ((Ow Int))
 | 0, _, _ => none
 | q + 1, a0, a1 => (zm6 q a1.z a1.l (a1.l.length : Int) a0.n a0.xs a0.x)
def zm8 : Nat → Int → Option (Int)
 | 0, _ => none
 | q + 1, a0 => (some (ibits .xor .u64 (ishl .u64 (wrp .u64 a0) 1) (wrp .u64 (ishr .i64 a0 63))))
def zm9 : Nat → (Ow Int) → Int → Option ((Ow Int))
 | 0, _, _ => none
 | q + 1, a0, a1 => ((zm8 q a1).bind fun r1 => ((zm3 q a0 r1).bind fun r2 => (some r2)))
def zna : Nat → Nat → Bool → (List (Sl Int)) → Int → Int → Bool → (List Int) → Option ((Ow Int))
 | 0, _, _, _, _, _, _, _ => none
 | q + 1, v6len, v25z, v25l, v26, v27, h0z, h0l => (if v27 < v26 then (if 0 ≤ v27 then ((v25l[v27.toNat]?).bind fun e2 => (if (v6len + e2.l.length) ≤ h0l.length then (zna q (v6len + e2.l.length) v25z v25l v26 (wrp .i64 (v27 + 1)) h0z (((List.take v6len h0l) ++ e2.l) ++ (List.drop (v6len + e2.l.length) h0l))) else none)) else none) else (some ⟨h0z, true, (List.take v6len h0l)⟩))
def znb : Nat → Bool → (List (Sl Int)) → Int → Int → Bool → (List Int) → Option ((Ow Int))
 | 0, _, _, _, _, _, _ => none
 | q + 1, v25z, v25l, v26, v27, h0z, h0l => (if v27 < v26 then (if 0 ≤ v27 then ((v25l[v27.toNat]?).bind fun e4 => (if (h0l.length + e4.l.length) ≤ 4294967296 then (znb q v25z v25l v26 (wrp .i64 (v27 + 1)) (h0z && (decide (e4.l.length = 0))) (h0l ++ e4.l)) else none)) else none) else (some ⟨h0z, true, h0l⟩))
def znc : Nat → Bool → (List (Sl Int)) → Int → Option ((Ow Int))
 | 0, _, _, _ => none
 | q + 1, v25z, v25l, v26 => (if 0 < v26 then ((v25l[0]?).bind fun e3 => (if e3.l.length ≤ 4294967296 then (znb q v25z v25l v26 (wrp .i64 1) (decide (e3.l.length = 0)) e3.l) else none)) else (some ⟨true, true, []⟩))
def znd : Nat → Bool → (List (Sl Int)) → Int → Bool → (List (Sl Int)) → Int → Int → Option ((Ow Int))
 | 0, _, _, _, _, _, _, _ => none
 | q + 1, v0z, v0l, v3, v9z, v9l, v10, v11 => (if v11 < v10 then (if 0 ≤ v11 then ((v9l[v11.toNat]?).bind fun e1 => (if (wrp .i64 (v3 + (e1.l.length : Int))) < 0 then none else (znd q v0z v0l (wrp .i64 (v3 + (e1.l.length : Int))) v9z v9l v10 (wrp .i64 (v11 + 1))))) else none) else (if v3 < 0 then none else (if 0 < (wrp .i64 (v3 - (wrp .i64 0))) then (if 0 ≤ (wrp .i64 (v3 - (wrp .i64 0))) then (if (wrp .i64 (v3 - (wrp .i64 0))).toNat ≤ 4294967296 then (if (wrp .i64 (v3 - (wrp .i64 0))) = 0 then none else (zna q 0 v0z v0l (v0l.length : Int) 0 (decide ((wrp .i64 (v3 - (wrp .i64 0))) = 0)) (List.replicate ((wrp .i64 (v3 - (wrp .i64 0))).toNat) 0))) else none) else none) else (znc q v0z v0l (v0l.length : Int)))))
def zne : Nat → (Sl (Sl Int)) → Option ((Ow Int))
 | 0, _ => none
 | q + 1, a0 => (znd q a0.z a0.l 0 a0.z a0.l (a0.l.length : Int) 0)
def znf : Nat → (Sl Int) → Option ((Ow Int) × Int)
 | 0, _ => none
 | q + 1, a0 => (if 1048576 < (a0.l.length : Int) then (some (⟨true, true, []⟩, 5)) else ((zm4 q ⟨true, true, []⟩ (a0.l.length : Int)).bind fun r1 => ((zli q ⟨r1.n, r1.xs⟩ a0).bind fun r2 => ((zne q ⟨false, [⟨r1.n, r1.xs⟩, a0, ⟨r2.n, r2.xs⟩]⟩).bind fun r3 => (some (r3, 0))))))
def zng : Nat → Bool → (List zjk) → Int → Int → Bool → (List Int) → Bool → Option ((Ow Int) × Int)
 | 0, _, _, _, _, _, _, _ => none
 | q + 1, v50z, v50l, v51, v52, h0z, h0l, h0x => (if v52 < v51 then (if 0 ≤ v52 then ((v50l[v52.toNat]?).bind fun e7 => ((zm7 q ⟨h0z, h0x, h0l⟩ ⟨false, [e7.Proc, e7.Seq]⟩).bind fun r8 => ((zm9 q r8 e7.Resp).bind fun r9 => (zng q v50z v50l v51 (wrp .i64 (v52 + 1)) r9.n r9.xs r9.x)))) else none) else ((znf q ⟨h0z, h0l⟩).bind fun r10 => (some (r10.1, r10.2))))
def znh : Nat → Bool → (List Int) → Int → Int → Int → Int → Int → Int → Bool → (List Int) → Bool → Int → Bool → (List zjk) → Bool → (List Int) → Bool → Option ((Ow Int) × Int)
 | 0, _, _, _, _, _, _, _, _, _, _, _, _, _, _, _, _, _ => none
 | q + 1, v27z, v27l, v28, v29, h0_0, h0_1, h0_2, h0_3, h0_4z, h0_4l, h0_5, h0_6, h0_7z, h0_7l, h1z, h1l, h1x => (if v29 < v28 then (if 0 ≤ v29 then ((v27l[v29.toNat]?).bind fun e3 => ((zm9 q ⟨h1z, h1x, h1l⟩ e3).bind fun r4 => (znh q v27z v27l v28 (wrp .i64 (v29 + 1)) h0_0 h0_1 h0_2 h0_3 h0_4z h0_4l h0_5 h0_6 h0_7z h0_7l r4.n r4.xs r4.x))) else none) else (if h0_5 = true then ((zm7 q ⟨h1z, h1x, h1l⟩ ⟨false, [(wrp .i64 (1 + h0_6)), (h0_7l.length : Int)]⟩).bind fun r5 => (zng q h0_7z h0_7l (h0_7l.length : Int) 0 r5.n r5.xs r5.x)) else ((zm7 q ⟨h1z, h1x, h1l⟩ ⟨false, [0, (h0_7l.length : Int)]⟩).bind fun r6 => (zng q h0_7z h0_7l (h0_7l.length : Int) 0 r6.n r6.xs r6.x))))
def zni : Nat → zjm → Option ((Ow Int) × Int)
 | 0, _ => none
 | q + 1, a0 => ((zm0 q a0).bind fun r1 => (if r1 = true then ((zm7 q ⟨true, true, []⟩ ⟨false, [a0.From, a0.To, a0.Ahead, a0.Behind, (a0.Mid.l.length : Int)]⟩).bind fun r2 => (znh q a0.Mid.z a0.Mid.l (a0.Mid.l.length : Int) 0 a0.From a0.To a0.Ahead a0.Behind a0.Mid.z a0.Mid.l a0.Sealed a0.Engine a0.Table.z a0.Table.l r2.n r2.xs r2.x)) else (some (⟨true, true, []⟩, 1))))
def znj : Nat → (Sl Int) → Option (Bool)
 | 0, _ => none
 | q + 1, a0 => ((zk1 q).bind fun r1 => (if 3000 < (a0.l.length : Int) then (some r1) else ((zm1 q a0).bind fun r2 => (if r2.2 = 0 then ((zni q r2.1).bind fun r3 => (if r1 = true then (if r3.2 = 0 then (some (decide (r3.1.xs = a0.l))) else (some false)) else (some false))) else (some r1)))))
end Go.Dvm.I
