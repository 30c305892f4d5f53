/- The functions of the law, as they answer, over typed data. -/
import Derived.Test.YtngajodhbioheaaQv2
set_option linter.all false
set_option maxRecDepth 100000
set_option maxHeartbeats 4000000
namespace Go.Dvm.I
open Go Go.Dvm
structure zjd where
 Kind : Int
 L : (Sl Int)
 Sealed : Bool
 To : Int
def zjd.enc (r : zjd) : V := .agg [V.int .i64 r.Kind, (Sl.enc (V.int .i64)) r.L, V.bool r.Sealed, V.int .i64 r.To]
structure zje where
 Proc : Int
 Seq : Int
 Resp : Int
def zje.enc (r : zje) : V := .agg [V.int .i64 r.Proc, V.int .i64 r.Seq, V.int .i64 r.Resp]
structure zjf where
 Index : Int
 State : zjd
 Table : (Sl zje)
def zjf.enc (r : zjf) : V := .agg [V.int .i64 r.Index, V.int .i64 r.State.Kind, (Sl.enc (V.int .i64)) r.State.L, V.bool r.State.Sealed, V.int .i64 r.State.To, (Sl.enc zje.enc) r.Table]
structure zjg where
 From : Int
 To : Int
 Ahead : Int
 Behind : Int
 Mid : (Sl Int)
 Sealed : Bool
 Engine : Int
 Table : (Sl zje)
def zjg.enc (r : zjg) : V := .agg [V.int .i64 r.From, V.int .i64 r.To, V.int .i64 r.Ahead, V.int .i64 r.Behind, (Sl.enc (V.int .i64)) r.Mid, V.bool r.Sealed, V.int .i64 r.Engine, (Sl.enc zje.enc) r.Table]
structure zjh where
 Code : Int
 A : Int
 B : Int
def zjh.enc (r : zjh) : V := .agg [V.int .i64 r.Code, V.int .i64 r.A, V.int .i64 r.B]
structure zji where
 Index : Int
 Proc : Int
 Seq : Int
 Op : zjh
 Resp : Int
def zji.enc (r : zji) : V := .agg [V.int .i64 r.Index, V.int .i64 r.Proc, V.int .i64 r.Seq, V.int .i64 r.Op.Code, V.int .i64 r.Op.A, V.int .i64 r.Op.B, V.int .i64 r.Resp]
structure zjj where
 index : Int
 size : Int
 sum : Int
def zjj.enc (r : zjj) : V := .agg [V.int .i64 r.index, V.int .i64 r.size, V.int .u64 r.sum]
def okSl {α : Type} (ok : α → Prop) (s : Sl α) : Prop := (s.z = true → s.l = []) ∧ s.l.length ≤ maxLen ∧ ∀ a ∈ s.l, ok a
def zjd.ok (r : zjd) : Prop := inR .i64 r.Kind ∧ okSl (fun x => inR .i64 x) r.L ∧ True ∧ inR .i64 r.To
def zje.ok (r : zje) : Prop := inR .i64 r.Proc ∧ inR .i64 r.Seq ∧ inR .i64 r.Resp
def zjf.ok (r : zjf) : Prop := inR .i64 r.Index ∧ zjd.ok r.State ∧ okSl (fun x => zje.ok x) r.Table
def zjg.ok (r : zjg) : Prop := inR .i64 r.From ∧ inR .i64 r.To ∧ inR .i64 r.Ahead ∧ inR .i64 r.Behind ∧ okSl (fun x => inR .i64 x) r.Mid ∧ True ∧ inR .i64 r.Engine ∧ okSl (fun x => zje.ok x) r.Table
def zjh.ok (r : zjh) : Prop := inR .i64 r.Code ∧ inR .i64 r.A ∧ inR .i64 r.B
def zji.ok (r : zji) : Prop := inR .i64 r.Index ∧ inR .i64 r.Proc ∧ inR .i64 r.Seq ∧ zjh.ok r.Op ∧ inR .i64 r.Resp
def zjj.ok (r : zjj) : Prop := inR .i64 r.index ∧ inR .i64 r.size ∧ inR .u64 r.sum
def zjk : Nat → Int → Option (Int)
 | 0, _ => none
 | q + 1, a0 => (some (if (-1099511627776) < (if 1099511627776 < a0 then 1099511627776 else a0) then (if 1099511627776 < a0 then 1099511627776 else a0) else (-1099511627776)))
def zjl : Nat → Int → Option (Bool)
 | 0, _ => none
 | q + 1, a0 => ((zjk q a0).bind fun r1 => (some (!(decide (a0 = r1)))))
def zjm : Nat → Bool → (List Int) → Int → Int → Int → Option (Bool)
 | 0, _, _, _, _, _ => none
 | q + 1, v0z, v0l, v1, v5, v6 => (if (wrp .i64 (v6 + 1)) < (v0l.length : Int) then (if 0 ≤ v6 then ((v0l[v6.toNat]?).bind fun e1 => (if e1 ≤ v5 then (some false) else (if 255 < e1 then (some false) else (if 0 ≤ (wrp .i64 (v6 + 1)) then ((v0l[(wrp .i64 (v6 + 1)).toNat]?).bind fun e2 => (if e2 < v1 then (some false) else (if 1099511627776 < e2 then (some false) else (zjm q v0z v0l v1 e1 (wrp .i64 (v6 + 2)))))) else none)))) else none) else (if (Int.tmod (v0l.length : Int) 2) = 0 then (some (decide ((v0l.length : Int) ≤ 128))) else (some false)))
def zjn : Nat → (Sl Int) → Int → Option (Bool)
 | 0, _, _ => none
 | q + 1, a0, a1 => (zjm q a0.z a0.l a1 (-1) 0)
def zjo : Nat → Bool → (List Int) → Int → Int → Int → Bool → (List Int) → Bool → Int → Option (Int)
 | 0, _, _, _, _, _, _, _, _, _ => none
 | q + 1, v0z, v0l, v7, v8, h0_0, h0_1z, h0_1l, h0_2, h0_3 => (if v8 < v7 then (if 0 ≤ v8 then ((v0l[v8.toNat]?).bind fun e1 => ((zjl q e1).bind fun r2 => (if r2 = true then (some v8) else (zjo q v0z v0l v7 (wrp .i64 (v8 + 1)) h0_0 h0_1z h0_1l h0_2 h0_3)))) else none) else (some (-1)))
def zjp : Nat → Bool → (List Int) → Int → Bool → (List Int) → Bool → Int → Option (Int)
 | 0, _, _, _, _, _, _, _ => none
 | q + 1, v0z, v0l, h0_0, h0_1z, h0_1l, h0_2, h0_3 => (zjo q v0z v0l (v0l.length : Int) 0 h0_0 h0_1z h0_1l h0_2 h0_3)
def zjq : Nat → zjd → Option (Bool)
 | 0, _ => none
 | q + 1, a0 => (if a0.To < 0 then (some false) else (if 3 ≤ a0.To then (some false) else (if a0.Sealed = true then ((zjp q a0.L.z a0.L.l a0.Kind a0.L.z a0.L.l a0.Sealed a0.To).bind fun r1 => (if a0.Kind = 0 then (if (a0.L.l.length : Int) = 1 then (some (!(decide (0 ≤ r1)))) else (some false)) else (if a0.Kind = 1 then (if (a0.L.l.length : Int) = 1 then (some (!(decide (0 ≤ r1)))) else (some false)) else (if a0.Kind = 2 then (if (a0.L.l.length : Int) ≤ 64 then (some (!(decide (0 ≤ r1)))) else (some false)) else (if a0.Kind = 3 then (if (a0.L.l.length : Int) ≤ 64 then (some (!(decide (0 ≤ r1)))) else (some false)) else (if a0.Kind = 4 then ((zjn q a0.L (-1099511627776)).bind fun r2 => (some r2)) else (if a0.Kind = 5 then ((zjn q a0.L 0).bind fun r3 => (some r3)) else (some false)))))))) else (if a0.To = 0 then ((zjp q a0.L.z a0.L.l a0.Kind a0.L.z a0.L.l a0.Sealed a0.To).bind fun r4 => (if a0.Kind = 0 then (if (a0.L.l.length : Int) = 1 then (some (!(decide (0 ≤ r4)))) else (some false)) else (if a0.Kind = 1 then (if (a0.L.l.length : Int) = 1 then (some (!(decide (0 ≤ r4)))) else (some false)) else (if a0.Kind = 2 then (if (a0.L.l.length : Int) ≤ 64 then (some (!(decide (0 ≤ r4)))) else (some false)) else (if a0.Kind = 3 then (if (a0.L.l.length : Int) ≤ 64 then (some (!(decide (0 ≤ r4)))) else (some false)) else (if a0.Kind = 4 then ((zjn q a0.L (-1099511627776)).bind fun r5 => (some r5)) else (if a0.Kind = 5 then ((zjn q a0.L 0).bind fun r6 => (some r6)) else (some false)))))))) else (some false)))))
def zjr : Nat → zje → Option (Bool)
 | 0, _ => none
 | q + 1, a0 => (if 0 ≤ a0.Proc then (if a0.Proc ≤ 64 then (if 0 ≤ a0.Seq then (if a0.Seq < 4611686018427387904 then (if (-1125899906842624) ≤ a0.Resp then (some (decide (a0.Resp ≤ 1125899906842624))) else (some false)) else (some false)) else (some false)) else (some false)) else (some false))
def zjs : Nat → Bool → (List zje) → Bool → (List zje) → Int → Int → Option (Bool)
 | 0, _, _, _, _, _, _ => none
 | q + 1, v0z, v0l, v5z, v5l, v6, v7 => (if v7 < v6 then (if 0 ≤ v7 then ((v5l[v7.toNat]?).bind fun e1 => ((zjr q e1).bind fun r2 => (if r2 = true then (if 0 < v7 then (if 0 ≤ (wrp .i64 (v7 - 1)) then ((v0l[(wrp .i64 (v7 - 1)).toNat]?).bind fun e3 => (if e1.Proc ≤ e3.Proc then (some false) else (zjs q v0z v0l v5z v5l v6 (wrp .i64 (v7 + 1))))) else none) else (zjs q v0z v0l v5z v5l v6 (wrp .i64 (v7 + 1)))) else (some false)))) else none) else (some true))
def zjt : Nat → (Sl zje) → Option (Bool)
 | 0, _ => none
 | q + 1, a0 => (zjs q a0.z a0.l a0.z a0.l (a0.l.length : Int) 0)
def zju : Nat → zjf → Option (Bool)
 | 0, _ => none
 | q + 1, a0 => (if 0 ≤ a0.Index then (if a0.Index < 4611686018427387904 then ((zjq q a0.State).bind fun r1 => (if r1 = true then ((zjt q a0.Table).bind fun r2 => (some r2)) else (some false))) else (some false)) else (some false))
def zjv : Nat → Bool → (List zje) → Int → Int → Int → Option (Int)
 | 0, _, _, _, _, _ => none
 | q + 1, v0z, v0l, v7, v8, h0_0 => (if v8 < v7 then (if 0 ≤ v8 then ((v0l[v8.toNat]?).bind fun e1 => (if e1.Proc = h0_0 then (some v8) else (zjv q v0z v0l v7 (wrp .i64 (v8 + 1)) h0_0))) else none) else (some (-1)))
def zjw : Nat → Bool → (List zje) → Int → Option (Int)
 | 0, _, _, _ => none
 | q + 1, v0z, v0l, h0_0 => (zjv q v0z v0l (v0l.length : Int) 0 h0_0)
def zjx : Nat → (Sl zje) → Int → Option (Int)
 | 0, _, _ => none
 | q + 1, a0, a1 => ((zjw q a0.z a0.l a1).bind fun r1 => (some r1))
def zjy : Nat → Bool → (List Int) → Bool → (List Int) → Int → Option (Int)
 | 0, _, _, _, _, _ => none
 | q + 1, v0z, v0l, v1z, v1l, v5 => (if v5 < (v0l.length : Int) then (if v5 < (v1l.length : Int) then (if 0 ≤ v5 then ((v0l[v5.toNat]?).bind fun e1 => ((v1l[v5.toNat]?).bind fun e2 => (if e1 = e2 then (zjy q v0z v0l v1z v1l (wrp .i64 (v5 + 1))) else (some v5)))) else none) else (some v5)) else (some v5))
def zjz : Nat → (Sl Int) → (Sl Int) → Option (Int)
 | 0, _, _ => none
 | q + 1, a0, a1 => (zjy q a0.z a0.l a1.z a1.l 0)
def zj0 : Nat → Bool → (List Int) → Bool → (List Int) → Int → Option (Int)
 | 0, _, _, _, _, _ => none
 | q + 1, v0z, v0l, v1z, v1l, v5 => (if v5 < (v0l.length : Int) then (if v5 < (v1l.length : Int) then (if 0 ≤ (wrp .i64 ((wrp .i64 ((v0l.length : Int) - 1)) - v5)) then ((v0l[(wrp .i64 ((wrp .i64 ((v0l.length : Int) - 1)) - v5)).toNat]?).bind fun e1 => (if 0 ≤ (wrp .i64 ((wrp .i64 ((v1l.length : Int) - 1)) - v5)) then ((v1l[(wrp .i64 ((wrp .i64 ((v1l.length : Int) - 1)) - v5)).toNat]?).bind fun e2 => (if e1 = e2 then (zj0 q v0z v0l v1z v1l (wrp .i64 (v5 + 1))) else (some v5))) else none)) else none) else (some v5)) else (some v5))
def zj1 : Nat → (Sl Int) → (Sl Int) → Option (Int)
 | 0, _, _ => none
 | q + 1, a0, a1 => (zj0 q a0.z a0.l a1.z a1.l 0)
def zj2 : Nat → (Sl Int) → Option ((Ow Int))
 | 0, _ => none
 | q + 1, a0 => (if a0.z = true then (some ⟨true, true, []⟩) else (if a0.l.length ≤ 4294967296 then (some ⟨false, true, a0.l⟩) else none))
def zj3 : Nat → Bool → (List zje) → Int → Int → Int → Int → Bool → (List Int) → Bool → Int → Bool → (List zje) → Int → Int → Bool → (List Int) → Bool → Int → Bool → (List zje) → Option (Int)
 | 0, _, _, _, _, _, _, _, _, _, _, _, _, _, _, _, _, _, _, _, _ => none
 | q + 1, v0z, v0l, v7, v8, h0_0, h0_1, h0_2z, h0_2l, h0_3, h0_4, h0_5z, h0_5l, h1_0, h1_1, h1_2z, h1_2l, h1_3, h1_4, h1_5z, h1_5l => (if v8 < v7 then (if 0 ≤ v8 then ((v0l[v8.toNat]?).bind fun e1 => ((zjx q ⟨h1_5z, h1_5l⟩ e1.Proc).bind fun r2 => (if r2 < 0 then (some v8) else (zj3 q v0z v0l v7 (wrp .i64 (v8 + 1)) h0_0 h0_1 h0_2z h0_2l h0_3 h0_4 h0_5z h0_5l h1_0 h1_1 h1_2z h1_2l h1_3 h1_4 h1_5z h1_5l)))) else none) else (some (-1)))
def zj4 : Nat → Bool → (List zje) → Int → Int → Bool → (List Int) → Bool → Int → Bool → (List zje) → Int → Int → Bool → (List Int) → Bool → Int → Bool → (List zje) → Option (Int)
 | 0, _, _, _, _, _, _, _, _, _, _, _, _, _, _, _, _, _, _ => none
 | q + 1, v0z, v0l, h0_0, h0_1, h0_2z, h0_2l, h0_3, h0_4, h0_5z, h0_5l, h1_0, h1_1, h1_2z, h1_2l, h1_3, h1_4, h1_5z, h1_5l => (zj3 q v0z v0l (v0l.length : Int) 0 h0_0 h0_1 h0_2z h0_2l h0_3 h0_4 h0_5z h0_5l h1_0 h1_1 h1_2z h1_2l h1_3 h1_4 h1_5z h1_5l)
def zj5 : Nat → Bool → (List zje) → Int → Int → Int → Int → Bool → (List Int) → Bool → Int → Bool → (List zje) → Int → Int → Int → Int → Bool → Int → Bool → (List Int) → Bool → (List zje) → Option (zjg × Int)
 | 0, _, _, _, _, _, _, _, _, _, _, _, _, _, _, _, _, _, _, _, _, _, _ => none
 | q + 1, v89z, v89l, v90, v91, h0_0, h0_1, h0_2z, h0_2l, h0_3, h0_4, h0_5z, h0_5l, h2_0, h2_1, h2_2, h2_3, h2_5, h2_6, h3z, h3l, h3x, h4l => (if v91 < v90 then (if 0 ≤ v91 then ((v89l[v91.toNat]?).bind fun e10 => ((zjx q ⟨h0_5z, h0_5l⟩ e10.Proc).bind fun r11 => (if r11 < 0 then (if (h4l.length + 1) ≤ 4294967296 then (zj5 q v89z v89l v90 (wrp .i64 (v91 + 1)) h0_0 h0_1 h0_2z h0_2l h0_3 h0_4 h0_5z h0_5l h2_0 h2_1 h2_2 h2_3 h2_5 h2_6 h3z h3l h3x (h4l ++ [e10])) else none) else (if 0 ≤ r11 then ((h0_5l[r11.toNat]?).bind fun e12 => (if e12.Proc = e10.Proc then (if e12.Seq = e10.Seq then (if e12.Resp = e10.Resp then (zj5 q v89z v89l v90 (wrp .i64 (v91 + 1)) h0_0 h0_1 h0_2z h0_2l h0_3 h0_4 h0_5z h0_5l h2_0 h2_1 h2_2 h2_3 h2_5 h2_6 h3z h3l h3x h4l) else (if (h4l.length + 1) ≤ 4294967296 then (zj5 q v89z v89l v90 (wrp .i64 (v91 + 1)) h0_0 h0_1 h0_2z h0_2l h0_3 h0_4 h0_5z h0_5l h2_0 h2_1 h2_2 h2_3 h2_5 h2_6 h3z h3l h3x (h4l ++ [e10])) else none)) else (if (h4l.length + 1) ≤ 4294967296 then (zj5 q v89z v89l v90 (wrp .i64 (v91 + 1)) h0_0 h0_1 h0_2z h0_2l h0_3 h0_4 h0_5z h0_5l h2_0 h2_1 h2_2 h2_3 h2_5 h2_6 h3z h3l h3x (h4l ++ [e10])) else none)) else (if (h4l.length + 1) ≤ 4294967296 then (zj5 q v89z v89l v90 (wrp .i64 (v91 + 1)) h0_0 h0_1 h0_2z h0_2l h0_3 h0_4 h0_5z h0_5l h2_0 h2_1 h2_2 h2_3 h2_5 h2_6 h3z h3l h3x (h4l ++ [e10])) else none))) else none)))) else none) else (some ((⟨h2_0, h2_1, h2_2, h2_3, ⟨h3z, h3l⟩, h2_5, h2_6, ⟨false, h4l⟩⟩ : zjg), 0)))
def zj6 : Nat → Bool → (List zje) → Int → Int → Int → Int → Bool → (List Int) → Bool → Int → Bool → (List zje) → Int → Int → Int → Int → Bool → Int → Bool → (List Int) → Bool → Option (zjg × Int)
 | 0, _, _, _, _, _, _, _, _, _, _, _, _, _, _, _, _, _, _, _, _, _ => none
 | q + 1, v89z, v89l, v90, v91, h0_0, h0_1, h0_2z, h0_2l, h0_3, h0_4, h0_5z, h0_5l, h2_0, h2_1, h2_2, h2_3, h2_5, h2_6, h3z, h3l, h3x => (if v91 < v90 then (if 0 ≤ v91 then ((v89l[v91.toNat]?).bind fun e7 => ((zjx q ⟨h0_5z, h0_5l⟩ e7.Proc).bind fun r8 => (if r8 < 0 then (zj5 q v89z v89l v90 (wrp .i64 (v91 + 1)) h0_0 h0_1 h0_2z h0_2l h0_3 h0_4 h0_5z h0_5l h2_0 h2_1 h2_2 h2_3 h2_5 h2_6 h3z h3l h3x [e7]) else (if 0 ≤ r8 then ((h0_5l[r8.toNat]?).bind fun e9 => (if e9.Proc = e7.Proc then (if e9.Seq = e7.Seq then (if e9.Resp = e7.Resp then (zj6 q v89z v89l v90 (wrp .i64 (v91 + 1)) h0_0 h0_1 h0_2z h0_2l h0_3 h0_4 h0_5z h0_5l h2_0 h2_1 h2_2 h2_3 h2_5 h2_6 h3z h3l h3x) else (zj5 q v89z v89l v90 (wrp .i64 (v91 + 1)) h0_0 h0_1 h0_2z h0_2l h0_3 h0_4 h0_5z h0_5l h2_0 h2_1 h2_2 h2_3 h2_5 h2_6 h3z h3l h3x [e7])) else (zj5 q v89z v89l v90 (wrp .i64 (v91 + 1)) h0_0 h0_1 h0_2z h0_2l h0_3 h0_4 h0_5z h0_5l h2_0 h2_1 h2_2 h2_3 h2_5 h2_6 h3z h3l h3x [e7])) else (zj5 q v89z v89l v90 (wrp .i64 (v91 + 1)) h0_0 h0_1 h0_2z h0_2l h0_3 h0_4 h0_5z h0_5l h2_0 h2_1 h2_2 h2_3 h2_5 h2_6 h3z h3l h3x [e7]))) else none)))) else none) else (some ((⟨h2_0, h2_1, h2_2, h2_3, ⟨h3z, h3l⟩, h2_5, h2_6, ⟨true, []⟩⟩ : zjg), 0)))
def zj7 : Nat → zjf → zjf → Option (zjg × Int)
 | 0, _, _ => none
 | q + 1, a0, a1 => ((zju q a0).bind fun r1 => (if r1 = true then ((zju q a1).bind fun r2 => (if r2 = true then (if a0.State.Kind = a1.State.Kind then (if a1.Index < a0.Index then (some ((⟨0, 0, 0, 0, ⟨true, []⟩, false, 0, ⟨true, []⟩⟩ : zjg), 15)) else ((zj4 q a0.Table.z a0.Table.l a0.Index a0.State.Kind a0.State.L.z a0.State.L.l a0.State.Sealed a0.State.To a0.Table.z a0.Table.l a1.Index a1.State.Kind a1.State.L.z a1.State.L.l a1.State.Sealed a1.State.To a1.Table.z a1.Table.l).bind fun r3 => (if 0 ≤ r3 then (some ((⟨0, 0, 0, 0, ⟨true, []⟩, false, 0, ⟨true, []⟩⟩ : zjg), 15)) else ((zjz q a0.State.L a1.State.L).bind fun r4 => (if 0 ≤ r4 then (if r4 ≤ (a0.State.L.l.length : Int) then (if r4 ≤ (a1.State.L.l.length : Int) then ((zj1 q ⟨a0.State.L.z, (List.drop r4.toNat a0.State.L.l)⟩ ⟨a1.State.L.z, (List.drop r4.toNat a1.State.L.l)⟩).bind fun r5 => (if 0 ≤ (wrp .i64 ((((a1.State.L.l.length - r4.toNat) : Nat) : Int) - r5)) then (if (wrp .i64 ((((a1.State.L.l.length - r4.toNat) : Nat) : Int) - r5)).toNat ≤ (a1.State.L.l.length - r4.toNat) then ((zj2 q ⟨a1.State.L.z, (List.take ((wrp .i64 ((((a1.State.L.l.length - r4.toNat) : Nat) : Int) - r5)).toNat) (List.drop r4.toNat a1.State.L.l))⟩).bind fun r6 => (zj6 q a1.Table.z a1.Table.l (a1.Table.l.length : Int) 0 a0.Index a0.State.Kind a0.State.L.z a0.State.L.l a0.State.Sealed a0.State.To a0.Table.z a0.Table.l a0.Index a1.Index r4 r5 a1.State.Sealed a1.State.To r6.n r6.xs r6.x)) else none) else none)) else none) else none) else none))))) else (some ((⟨0, 0, 0, 0, ⟨true, []⟩, false, 0, ⟨true, []⟩⟩ : zjg), 1))) else (some ((⟨0, 0, 0, 0, ⟨true, []⟩, false, 0, ⟨true, []⟩⟩ : zjg), 1)))) else (some ((⟨0, 0, 0, 0, ⟨true, []⟩, false, 0, ⟨true, []⟩⟩ : zjg), 1))))
def zj8 : Nat → Nat → Bool → (List (Sl Int)) → Int → Int → Bool → (List Int) → Option ((Ow Int))
 | 0, _, _, _, _, _, _, _ => none
 | q + 1, v6len, v25z, v25l, v26, v27, h0z, h0l => (if v27 < v26 then (if 0 ≤ v27 then ((v25l[v27.toNat]?).bind fun e2 => (if (v6len + e2.l.length) ≤ h0l.length then (zj8 q (v6len + e2.l.length) v25z v25l v26 (wrp .i64 (v27 + 1)) h0z (((List.take v6len h0l) ++ e2.l) ++ (List.drop (v6len + e2.l.length) h0l))) else none)) else none) else (some ⟨h0z, true, (List.take v6len h0l)⟩))
def zj9 : Nat → Bool → (List (Sl Int)) → Int → Int → Bool → (List Int) → Option ((Ow Int))
 | 0, _, _, _, _, _, _ => none
 | q + 1, v25z, v25l, v26, v27, h0z, h0l => (if v27 < v26 then (if 0 ≤ v27 then ((v25l[v27.toNat]?).bind fun e4 => (if (h0l.length + e4.l.length) ≤ 4294967296 then (zj9 q v25z v25l v26 (wrp .i64 (v27 + 1)) (h0z && (decide (e4.l.length = 0))) (h0l ++ e4.l)) else none)) else none) else (some ⟨h0z, true, h0l⟩))
def zka : Nat → Bool → (List (Sl Int)) → Int → Option ((Ow Int))
 | 0, _, _, _ => none
 | q + 1, v25z, v25l, v26 => (if 0 < v26 then ((v25l[0]?).bind fun e3 => (if e3.l.length ≤ 4294967296 then (zj9 q v25z v25l v26 (wrp .i64 1) (decide (e3.l.length = 0)) e3.l) else none)) else (some ⟨true, true, []⟩))
def zkb : Nat → Bool → (List (Sl Int)) → Int → Bool → (List (Sl Int)) → Int → Int → Option ((Ow Int))
 | 0, _, _, _, _, _, _, _ => none
 | q + 1, v0z, v0l, v3, v9z, v9l, v10, v11 => (if v11 < v10 then (if 0 ≤ v11 then ((v9l[v11.toNat]?).bind fun e1 => (if (wrp .i64 (v3 + (e1.l.length : Int))) < 0 then none else (zkb q v0z v0l (wrp .i64 (v3 + (e1.l.length : Int))) v9z v9l v10 (wrp .i64 (v11 + 1))))) else none) else (if v3 < 0 then none else (if 0 < (wrp .i64 (v3 - (wrp .i64 0))) then (if 0 ≤ (wrp .i64 (v3 - (wrp .i64 0))) then (if (wrp .i64 (v3 - (wrp .i64 0))).toNat ≤ 4294967296 then (if (wrp .i64 (v3 - (wrp .i64 0))) = 0 then none else (zj8 q 0 v0z v0l (v0l.length : Int) 0 (decide ((wrp .i64 (v3 - (wrp .i64 0))) = 0)) (List.replicate ((wrp .i64 (v3 - (wrp .i64 0))).toNat) 0))) else none) else none) else (zka q v0z v0l (v0l.length : Int)))))
def zkc : Nat → (Sl (Sl Int)) → Option ((Ow Int))
 | 0, _ => none
 | q + 1, a0 => (zkb q a0.z a0.l 0 a0.z a0.l (a0.l.length : Int) 0)
def zkd : Nat → (Sl zje) → Option ((Ow zje))
 | 0, _ => none
 | q + 1, a0 => (if a0.z = true then (some ⟨true, true, []⟩) else (if a0.l.length ≤ 4294967296 then (some ⟨false, true, a0.l⟩) else none))
def zke : Nat → (Ow zje) → Int → (Sl zje) → Option ((Ow zje))
 | 0, _, _, _ => none
 | q + 1, a0, a1, a2 => (if 0 ≤ a1 then (if a1.toNat ≤ a0.xs.length then (if (a2.l.length : Int) = 0 then (some a0) else (if a1 = (a0.xs.length : Int) then (if (a0.xs.length + a2.l.length) ≤ 4294967296 then (some ⟨(a0.n && (decide (a2.l.length = 0))), a0.x, (a0.xs ++ a2.l)⟩) else none) else none)) else none) else none)
def zkf : Nat → Int → Int → Int → Int → Int → Int → Int → Int → Int → Bool → (List zje) → Bool → Option (Int)
 | 0, _, _, _, _, _, _, _, _, _, _, _, _ => none
 | q + 1, v7, v8, h0_0, h0_1, h0_2, h0_3, h0_4, h0_5, h0_6, h1z, h1l, h1x => (if v8 < v7 then (if 0 ≤ v8 then (if v8.toNat < h1l.length then ((h1l[v8.toNat]?).bind fun e1 => (if e1.Proc = h0_1 then (some v8) else (zkf q v7 (wrp .i64 (v8 + 1)) h0_0 h0_1 h0_2 h0_3 h0_4 h0_5 h0_6 h1z h1l h1x))) else none) else none) else (some (-1)))
def zkg : Nat → Int → Int → Int → Int → Int → Int → Int → Bool → (List zje) → Bool → Option (Int)
 | 0, _, _, _, _, _, _, _, _, _, _ => none
 | q + 1, h0_0, h0_1, h0_2, h0_3, h0_4, h0_5, h0_6, h1z, h1l, h1x => (zkf q (h1l.length : Int) 0 h0_0 h0_1 h0_2 h0_3 h0_4 h0_5 h0_6 h1z h1l h1x)
def zkh : Nat → Int → Int → Int → Int → Int → Int → Int → Int → Int → Bool → (List zje) → Bool → Option (Nat × (List zje) × Bool)
 | 0, _, _, _, _, _, _, _, _, _, _, _, _ => none
 | q + 1, v5, v6, h0_0, h0_1, h0_2, h0_3, h0_4, h0_5, h0_6, h1z, h1l, h1x => (if v6 < (h1l.length : Int) then (if 0 ≤ v6 then (if v6.toNat < h1l.length then ((h1l[v6.toNat]?).bind fun e2 => (if e2.Proc = h0_1 then (zkh q v5 (wrp .i64 (v6 + 1)) h0_0 h0_1 h0_2 h0_3 h0_4 h0_5 h0_6 h1z h1l h1x) else (if 0 ≤ v5 then (if v5.toNat < h1l.length then ((h1l[v5.toNat]?).bind fun e3 => (if h1x = true then (zkh q (wrp .i64 (v5 + 1)) (wrp .i64 (v6 + 1)) h0_0 h0_1 h0_2 h0_3 h0_4 h0_5 h0_6 h1z (List.set h1l v5.toNat e2) true) else none)) else none) else none))) else none) else none) else (if 0 ≤ v5 then (if v5.toNat ≤ h1l.length then (if h1x = true then (if v5.toNat ≤ (((min v5.toNat h1l.length) + (h1l.length - v5.toNat)) + (h1l.length - (v5.toNat + (h1l.length - v5.toNat)))) then (if h1z = true then (some (v5.toNat, (((List.take v5.toNat h1l) ++ (List.replicate (h1l.length - v5.toNat) (⟨0, 0, 0⟩ : zje))) ++ (List.drop (v5.toNat + (h1l.length - v5.toNat)) h1l)), true)) else (some (v5.toNat, (((List.take v5.toNat h1l) ++ (List.replicate (h1l.length - v5.toNat) (⟨0, 0, 0⟩ : zje))) ++ (List.drop (v5.toNat + (h1l.length - v5.toNat)) h1l)), true))) else none) else none) else none) else none))
def zki : Nat → Int → Int → Int → Int → Int → Int → Int → Bool → (List zje) → Bool → Option (Nat × (List zje) × Bool)
 | 0, _, _, _, _, _, _, _, _, _, _ => none
 | q + 1, h0_0, h0_1, h0_2, h0_3, h0_4, h0_5, h0_6, h1z, h1l, h1x => ((zkg q h0_0 h0_1 h0_2 h0_3 h0_4 h0_5 h0_6 h1z h1l h1x).bind fun r1 => (if r1 = (-1) then (some (h1l.length, h1l, h1x)) else (zkh q r1 (wrp .i64 (r1 + 1)) h0_0 h0_1 h0_2 h0_3 h0_4 h0_5 h0_6 h1z h1l h1x)))
def zkj : Nat → Nat → Int → Int → Int → Int → Int → Int → Int → Int → Int → Bool → (List zje) → Bool → Option (Int)
 | 0, _, _, _, _, _, _, _, _, _, _, _, _, _ => none
 | q + 1, v0len, v7, v8, h0_0, h0_1, h0_2, h0_3, h0_4, h0_5, h0_6, h1z, h1l, h1x => (if v8 < v7 then (if 0 ≤ v8 then (if v8.toNat < v0len then ((h1l[v8.toNat]?).bind fun e1 => (if h0_1 < e1.Proc then (some v8) else (zkj q v0len v7 (wrp .i64 (v8 + 1)) h0_0 h0_1 h0_2 h0_3 h0_4 h0_5 h0_6 h1z h1l h1x))) else none) else none) else (some (-1)))
def zkk : Nat → Nat → Int → Int → Int → Int → Int → Int → Int → Bool → (List zje) → Bool → Option (Int)
 | 0, _, _, _, _, _, _, _, _, _, _, _ => none
 | q + 1, v0len, h0_0, h0_1, h0_2, h0_3, h0_4, h0_5, h0_6, h1z, h1l, h1x => (zkj q v0len (v0len : Int) 0 h0_0 h0_1 h0_2 h0_3 h0_4 h0_5 h0_6 h1z h1l h1x)
def zkl : Nat → (Sl zje) → zji → Option ((Ow zje))
 | 0, _, _ => none
 | q + 1, a0, a1 => ((zkd q a0).bind fun r1 => ((zki q a1.Index a1.Proc a1.Seq a1.Op.Code a1.Op.A a1.Op.B a1.Resp r1.n r1.xs r1.x).bind fun r2 => ((zkk q r2.1 a1.Index a1.Proc a1.Seq a1.Op.Code a1.Op.A a1.Op.B a1.Resp r1.n r2.2.1 r2.2.2).bind fun r3 => (if r3 < 0 then (if r2.2.2 = true then ((zke q ⟨r1.n, r2.2.2, (List.take r2.1 r2.2.1)⟩ (r2.1 : Int) ⟨false, [(⟨a1.Proc, a1.Seq, a1.Resp⟩ : zje)]⟩).bind fun r4 => (some r4)) else none) else (if r2.2.2 = true then ((zke q ⟨r1.n, r2.2.2, (List.take r2.1 r2.2.1)⟩ r3 ⟨false, [(⟨a1.Proc, a1.Seq, a1.Resp⟩ : zje)]⟩).bind fun r5 => (some r5)) else none)))))
def zkm : Nat → Bool → (List zje) → Int → Int → Int → Int → Bool → Int → Bool → (List Int) → Bool → Bool → (List zje) → Bool → Option (zjf × Int)
 | 0, _, _, _, _, _, _, _, _, _, _, _, _, _, _ => none
 | q + 1, v89z, v89l, v90, v91, h1_0, h1_1, h1_3, h1_4, h2z, h2l, h2x, h3z, h3l, h3x => (if v91 < v90 then (if 0 ≤ v91 then ((v89l[v91.toNat]?).bind fun e6 => ((zkl q ⟨h3z, h3l⟩ (⟨0, e6.Proc, e6.Seq, (⟨0, 0, 0⟩ : zjh), e6.Resp⟩ : zji)).bind fun r7 => (zkm q v89z v89l v90 (wrp .i64 (v91 + 1)) h1_0 h1_1 h1_3 h1_4 h2z h2l h2x r7.n r7.xs r7.x))) else none) else ((zju q (⟨h1_0, (⟨h1_1, ⟨h2z, h2l⟩, h1_3, h1_4⟩ : zjd), ⟨h3z, h3l⟩⟩ : zjf)).bind fun r8 => (if r8 = true then (some ((⟨h1_0, (⟨h1_1, ⟨h2z, h2l⟩, h1_3, h1_4⟩ : zjd), ⟨h3z, h3l⟩⟩ : zjf), 0)) else (some ((⟨0, (⟨0, ⟨true, []⟩, false, 0⟩ : zjd), ⟨true, []⟩⟩ : zjf), 1)))))
def zkn : Nat → Bool → (List zje) → Int → Int → Int → Bool → Int → Bool → (List zje) → Bool → (List Int) → Bool → Option (zjf × Int)
 | 0, _, _, _, _, _, _, _, _, _, _, _, _ => none
 | q + 1, v89z, v89l, v90, h1_0, h1_1, h1_3, h1_4, h1_5z, h1_5l, h2z, h2l, h2x => (if 0 < v90 then ((v89l[0]?).bind fun e3 => ((zkl q ⟨h1_5z, h1_5l⟩ (⟨0, e3.Proc, e3.Seq, (⟨0, 0, 0⟩ : zjh), e3.Resp⟩ : zji)).bind fun r4 => (zkm q v89z v89l v90 (wrp .i64 1) h1_0 h1_1 h1_3 h1_4 h2z h2l h2x r4.n r4.xs r4.x))) else ((zju q (⟨h1_0, (⟨h1_1, ⟨h2z, h2l⟩, h1_3, h1_4⟩ : zjd), ⟨h1_5z, h1_5l⟩⟩ : zjf)).bind fun r5 => (if r5 = true then (some ((⟨h1_0, (⟨h1_1, ⟨h2z, h2l⟩, h1_3, h1_4⟩ : zjd), ⟨h1_5z, h1_5l⟩⟩ : zjf), 0)) else (some ((⟨0, (⟨0, ⟨true, []⟩, false, 0⟩ : zjd), ⟨true, []⟩⟩ : zjf), 1)))))
def zko : Nat → zjf → zjg → Option (zjf × Int)
 | 0, _, _ => none
 | q + 1, a0, a1 => ((zju q a0).bind fun r1 => (if r1 = true then (if a1.Ahead < 0 then (some ((⟨0, (⟨0, ⟨true, []⟩, false, 0⟩ : zjd), ⟨true, []⟩⟩ : zjf), 1)) else (if a1.Behind < 0 then (some ((⟨0, (⟨0, ⟨true, []⟩, false, 0⟩ : zjd), ⟨true, []⟩⟩ : zjf), 1)) else (if (a0.State.L.l.length : Int) < a1.Ahead then (some ((⟨0, (⟨0, ⟨true, []⟩, false, 0⟩ : zjd), ⟨true, []⟩⟩ : zjf), 1)) else (if (wrp .i64 ((a0.State.L.l.length : Int) - a1.Ahead)) < a1.Behind then (some ((⟨0, (⟨0, ⟨true, []⟩, false, 0⟩ : zjd), ⟨true, []⟩⟩ : zjf), 1)) else (if a0.Index = a1.From then (if a1.To < a1.From then (some ((⟨0, (⟨0, ⟨true, []⟩, false, 0⟩ : zjd), ⟨true, []⟩⟩ : zjf), 15)) else (if 0 ≤ a1.Ahead then (if a1.Ahead.toNat ≤ a0.State.L.l.length then (if 0 ≤ (wrp .i64 ((a0.State.L.l.length : Int) - a1.Behind)) then (if (wrp .i64 ((a0.State.L.l.length : Int) - a1.Behind)) ≤ (a0.State.L.l.length : Int) then ((zkc q ⟨false, [⟨a0.State.L.z, (List.take a1.Ahead.toNat a0.State.L.l)⟩, a1.Mid, ⟨a0.State.L.z, (List.drop ((wrp .i64 ((a0.State.L.l.length : Int) - a1.Behind)).toNat) a0.State.L.l)⟩]⟩).bind fun r2 => (zkn q a1.Table.z a1.Table.l (a1.Table.l.length : Int) a1.To a0.State.Kind a1.Sealed a1.Engine a0.Table.z a0.Table.l r2.n r2.xs r2.x)) else none) else none) else none) else none)) else (some ((⟨0, (⟨0, ⟨true, []⟩, false, 0⟩ : zjd), ⟨true, []⟩⟩ : zjf), 15))))))) else (some ((⟨0, (⟨0, ⟨true, []⟩, false, 0⟩ : zjd), ⟨true, []⟩⟩ : zjf), 1))))
def zkp : Nat → Bool → (List Int) → Bool → (List Int) → Int → Int → Option (Bool)
 | 0, _, _, _, _, _, _ => none
 | q + 1, v0z, v0l, v1z, v1l, v12, v13 => (if v13 < v12 then (if 0 ≤ v13 then ((v0l[v13.toNat]?).bind fun e1 => ((v1l[v13.toNat]?).bind fun e2 => (if e1 = e2 then (zkp q v0z v0l v1z v1l v12 (wrp .i64 (v13 + 1))) else (some false)))) else none) else (some true))
def zkq : Nat → (Sl Int) → (Sl Int) → Option (Bool)
 | 0, _, _ => none
 | q + 1, a0, a1 => (if (a0.l.length : Int) = (a1.l.length : Int) then (zkp q a0.z a0.l a1.z a1.l (a0.l.length : Int) 0) else (some false))
def zkr : Nat → zjd → zjd → Option (Bool)
 | 0, _, _ => none
 | q + 1, a0, a1 => (if a0.Kind = a1.Kind then (if (a0.Sealed == a1.Sealed) = true then (if a0.To = a1.To then ((zkq q a0.L a1.L).bind fun r1 => (some r1)) else (some false)) else (some false)) else (some false))
def zks : Nat → Bool → (List zje) → Bool → (List zje) → Int → Int → Option (Bool)
 | 0, _, _, _, _, _, _ => none
 | q + 1, v0z, v0l, v1z, v1l, v12, v13 => (if v13 < v12 then (if 0 ≤ v13 then ((v0l[v13.toNat]?).bind fun e1 => ((v1l[v13.toNat]?).bind fun e2 => (if e1.Proc = e2.Proc then (if e1.Seq = e2.Seq then (if e1.Resp = e2.Resp then (zks q v0z v0l v1z v1l v12 (wrp .i64 (v13 + 1))) else (some false)) else (some false)) else (some false)))) else none) else (some true))
def zkt : Nat → (Sl zje) → (Sl zje) → Option (Bool)
 | 0, _, _ => none
 | q + 1, a0, a1 => (if (a0.l.length : Int) = (a1.l.length : Int) then (zks q a0.z a0.l a1.z a1.l (a0.l.length : Int) 0) else (some false))
def zku : Nat → zjf → zjf → Option (Bool)
 | 0, _, _ => none
 | q + 1, a0, a1 => (if a0.Index = a1.Index then ((zkr q a0.State a1.State).bind fun r1 => (if r1 = true then ((zkt q a0.Table a1.Table).bind fun r2 => (some r2)) else (some false))) else (some false))
def zkv : Nat → Option (Bool)
 | 0 => none
 | q + 1 => ((zj7 q (⟨0, (⟨3, ⟨false, [1, 2]⟩, false, 0⟩ : zjd), ⟨true, []⟩⟩ : zjf) (⟨1, (⟨3, ⟨false, [1, 2, 9]⟩, false, 0⟩ : zjd), ⟨true, []⟩⟩ : zjf)).bind fun r1 => ((zko q (⟨0, (⟨3, ⟨false, [1, 2]⟩, false, 0⟩ : zjd), ⟨true, []⟩⟩ : zjf) r1.1).bind fun r2 => (if r1.2 = 0 then (if r2.2 = 0 then (if r1.1.Ahead = 2 then (if r1.1.Behind = 0 then (if (r1.1.Mid.l.length : Int) = 1 then ((r1.1.Mid.l[0]?).bind fun e3 => (if e3 = 9 then ((zku q (⟨1, (⟨3, ⟨false, [1, 2, 9]⟩, false, 0⟩ : zjd), ⟨true, []⟩⟩ : zjf) r2.1).bind fun r4 => (some r4)) else (some false))) else (some false)) else (some false)) else (some false)) else (some false)) else (some false))))
def zkw : Nat → zjd → Option (Bool)
 | 0, _ => none
 | q + 1, a0 => (some (decide ((a0.L.l.length : Int) ≤ 300)))
def zkx : Nat → zjf → Option (Bool)
 | 0, _ => none
 | q + 1, a0 => ((zkw q a0.State).bind fun r1 => (if r1 = true then (some (decide ((a0.Table.l.length : Int) ≤ 100))) else (some false)))
def zky : Nat → zjf → zjf → Option (Bool)
 | 0, _, _ => none
 | q + 1, a0, a1 => ((zkv q).bind fun r1 => ((zkx q a0).bind fun r2 => ((zkx q a1).bind fun r3 => (if r1 = true then (if r2 = true then (if r3 = true then ((zj7 q a0 a1).bind fun r4 => (if r4.2 = 0 then (if (wrp .i64 ((wrp .i64 (r4.1.Ahead + (r4.1.Mid.l.length : Int))) + r4.1.Behind)) = (a1.State.L.l.length : Int) then (if (wrp .i64 (r4.1.Ahead + r4.1.Behind)) ≤ (a0.State.L.l.length : Int) then (if (r4.1.Table.l.length : Int) ≤ (a1.Table.l.length : Int) then (some (decide (r4.1.From ≤ r4.1.To))) else (some false)) else (some false)) else (some false)) else (if (r4.1.Mid.l.length : Int) = 0 then (if (r4.1.Table.l.length : Int) = 0 then (some (decide (r4.1.From = 0))) else (some false)) else (some false)))) else (some r1)) else (some r1)) else (some r1)))))
end Go.Dvm.I
