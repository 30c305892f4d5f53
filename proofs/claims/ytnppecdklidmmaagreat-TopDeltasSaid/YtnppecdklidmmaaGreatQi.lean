/- The functions of the law, as they answer, over typed data. -/
import Derived.Test.YtnppecdklidmmaaGreatQv2
set_option linter.all false
set_option maxRecDepth 100000
set_option maxHeartbeats 4000000
namespace Go.Dvm.I
open Go Go.Dvm
structure zj4 where
 Kind : Int
 L : (Sl Int)
 Sealed : Bool
 To : Int
def zj4.enc (r : zj4) : V := .agg [V.int .i64 r.Kind, (Sl.enc (V.int .i64)) r.L, V.bool r.Sealed, V.int .i64 r.To]
structure zj5 where
 Proc : Int
 Seq : Int
 Resp : Int
def zj5.enc (r : zj5) : V := .agg [V.int .i64 r.Proc, V.int .i64 r.Seq, V.int .i64 r.Resp]
structure zj6 where
 Index : Int
 State : zj4
 Table : (Sl zj5)
def zj6.enc (r : zj6) : V := .agg [V.int .i64 r.Index, V.int .i64 r.State.Kind, (Sl.enc (V.int .i64)) r.State.L, V.bool r.State.Sealed, V.int .i64 r.State.To, (Sl.enc zj5.enc) r.Table]
structure zj7 where
 Code : Int
 A : Int
 B : Int
def zj7.enc (r : zj7) : V := .agg [V.int .i64 r.Code, V.int .i64 r.A, V.int .i64 r.B]
structure zj8 where
 Index : Int
 Proc : Int
 Seq : Int
 Op : zj7
 Resp : Int
def zj8.enc (r : zj8) : V := .agg [V.int .i64 r.Index, V.int .i64 r.Proc, V.int .i64 r.Seq, V.int .i64 r.Op.Code, V.int .i64 r.Op.A, V.int .i64 r.Op.B, V.int .i64 r.Resp]
structure zj9 where
 From : Int
 To : Int
 Ahead : Int
 Behind : Int
 Mid : (Sl Int)
 Sealed : Bool
 Engine : Int
 Table : (Sl zj5)
def zj9.enc (r : zj9) : V := .agg [V.int .i64 r.From, V.int .i64 r.To, V.int .i64 r.Ahead, V.int .i64 r.Behind, (Sl.enc (V.int .i64)) r.Mid, V.bool r.Sealed, V.int .i64 r.Engine, (Sl.enc zj5.enc) r.Table]
structure zka where
 Kind : Int
 First : Int
 Records : (Sl zj8)
def zka.enc (r : zka) : V := .agg [V.int .i64 r.Kind, V.int .i64 r.First, (Sl.enc zj8.enc) r.Records]
structure zkb where
 From : Int
 To : Int
 Kind : Int
 Index : Int
 B : (Sl Int)
def zkb.enc (r : zkb) : V := .agg [V.int .i64 r.From, V.int .i64 r.To, V.int .i64 r.Kind, V.int .i64 r.Index, (Sl.enc (V.int .u8)) r.B]
structure zkc where
 index : Int
 size : Int
 sum : Int
def zkc.enc (r : zkc) : V := .agg [V.int .i64 r.index, V.int .i64 r.size, V.int .u64 r.sum]
structure zkd where
 name : Int
 first : Int
 many : Int
def zkd.enc (r : zkd) : V := .agg [V.int .i64 r.name, V.int .i64 r.first, V.int .i64 r.many]
def okSl {α : Type} (ok : α → Prop) (s : Sl α) : Prop := (s.z = true → s.l = []) ∧ s.l.length ≤ maxLen ∧ ∀ a ∈ s.l, ok a
def zj4.ok (r : zj4) : Prop := inR .i64 r.Kind ∧ okSl (fun x => inR .i64 x) r.L ∧ True ∧ inR .i64 r.To
def zj5.ok (r : zj5) : Prop := inR .i64 r.Proc ∧ inR .i64 r.Seq ∧ inR .i64 r.Resp
def zj6.ok (r : zj6) : Prop := inR .i64 r.Index ∧ zj4.ok r.State ∧ okSl (fun x => zj5.ok x) r.Table
def zj7.ok (r : zj7) : Prop := inR .i64 r.Code ∧ inR .i64 r.A ∧ inR .i64 r.B
def zj8.ok (r : zj8) : Prop := inR .i64 r.Index ∧ inR .i64 r.Proc ∧ inR .i64 r.Seq ∧ zj7.ok r.Op ∧ inR .i64 r.Resp
def zj9.ok (r : zj9) : Prop := inR .i64 r.From ∧ inR .i64 r.To ∧ inR .i64 r.Ahead ∧ inR .i64 r.Behind ∧ okSl (fun x => inR .i64 x) r.Mid ∧ True ∧ inR .i64 r.Engine ∧ okSl (fun x => zj5.ok x) r.Table
def zka.ok (r : zka) : Prop := inR .i64 r.Kind ∧ inR .i64 r.First ∧ okSl (fun x => zj8.ok x) r.Records
def zkb.ok (r : zkb) : Prop := inR .i64 r.From ∧ inR .i64 r.To ∧ inR .i64 r.Kind ∧ inR .i64 r.Index ∧ okSl (fun x => inR .u8 x) r.B
def zkc.ok (r : zkc) : Prop := inR .i64 r.index ∧ inR .i64 r.size ∧ inR .u64 r.sum
def zkd.ok (r : zkd) : Prop := inR .i64 r.name ∧ inR .i64 r.first ∧ inR .i64 r.many
def zke : Nat → Int → Option (zj4)
 | 0, _ => none
 | q + 1, a0 => (if a0 = 0 then (some (⟨a0, ⟨false, [0]⟩, false, 0⟩ : zj4)) else (if a0 = 1 then (some (⟨a0, ⟨false, [0]⟩, false, 0⟩ : zj4)) else (if a0 = 2 then (some (⟨a0, ⟨true, []⟩, false, 0⟩ : zj4)) else (if a0 = 3 then (some (⟨a0, ⟨true, []⟩, false, 0⟩ : zj4)) else (if a0 = 4 then (some (⟨a0, ⟨true, []⟩, false, 0⟩ : zj4)) else (if a0 = 5 then (some (⟨a0, ⟨true, []⟩, false, 0⟩ : zj4)) else (some (⟨0, ⟨true, []⟩, false, 0⟩ : zj4))))))))
def zkf : Nat → (Sl zj6) → Option (zj6 × Bool)
 | 0, _ => none
 | q + 1, a0 => (if (a0.l.length : Int) = 0 then (some ((⟨0, (⟨0, ⟨true, []⟩, false, 0⟩ : zj4), ⟨true, []⟩⟩ : zj6), false)) else (if 0 ≤ (wrp .i64 ((a0.l.length : Int) - 1)) then ((a0.l[(wrp .i64 ((a0.l.length : Int) - 1)).toNat]?).bind fun e1 => (some (e1, true))) else none))
def zkg : Nat → (Sl Int) → Option ((Ow Int))
 | 0, _ => none
 | q + 1, a0 => (if a0.z = true then (some ⟨true, true, []⟩) else (if a0.l.length ≤ 4294967296 then (some ⟨false, true, a0.l⟩) else none))
def zkh : Nat → (Sl zj5) → Option ((Ow zj5))
 | 0, _ => none
 | q + 1, a0 => (if a0.z = true then (some ⟨true, true, []⟩) else (if a0.l.length ≤ 4294967296 then (some ⟨false, true, a0.l⟩) else none))
def zki : Nat → zj6 → Option (zj6)
 | 0, _ => none
 | q + 1, a0 => ((zkg q a0.State.L).bind fun r1 => ((zkh q a0.Table).bind fun r2 => (some (⟨a0.Index, (⟨a0.State.Kind, ⟨r1.n, r1.xs⟩, a0.State.Sealed, a0.State.To⟩ : zj4), ⟨r2.n, r2.xs⟩⟩ : zj6))))
def zkj : Nat → Int → Option (Int)
 | 0, _ => none
 | q + 1, a0 => (some (if (-1099511627776) < (if 1099511627776 < a0 then 1099511627776 else a0) then (if 1099511627776 < a0 then 1099511627776 else a0) else (-1099511627776)))
def zkk : Nat → zj7 → Option (Bool)
 | 0, _ => none
 | q + 1, a0 => (if 0 ≤ a0.Code then (if a0.Code ≤ 10 then ((zkj q a0.A).bind fun r1 => (if a0.A = r1 then ((zkj q a0.B).bind fun r2 => (some (decide (a0.B = r2)))) else (some false))) else (some false)) else (some false))
def zkl : Nat → zj8 → Option (Bool)
 | 0, _ => none
 | q + 1, a0 => (if 0 ≤ a0.Index then (if a0.Index < 4611686018427387904 then (if 0 ≤ a0.Proc then (if a0.Proc ≤ 64 then (if 0 ≤ a0.Seq then (if a0.Seq < 4611686018427387904 then ((zkk q a0.Op).bind fun r1 => (if r1 = true then (if (-1125899906842624) ≤ a0.Resp then (some (decide (a0.Resp ≤ 1125899906842624))) else (some false)) else (some false))) else (some false)) else (some false)) else (some false)) else (some false)) else (some false)) else (some false))
def zkm : Nat → Int → Option (Bool)
 | 0, _ => none
 | q + 1, a0 => ((zkj q a0).bind fun r1 => (some (!(decide (a0 = r1)))))
def zkn : Nat → Bool → (List Int) → Int → Int → Int → Option (Bool)
 | 0, _, _, _, _, _ => none
 | q + 1, v0z, v0l, v1, v5, v6 => (if (wrp .i64 (v6 + 1)) < (v0l.length : Int) then (if 0 ≤ v6 then ((v0l[v6.toNat]?).bind fun e1 => (if e1 ≤ v5 then (some false) else (if 255 < e1 then (some false) else (if 0 ≤ (wrp .i64 (v6 + 1)) then ((v0l[(wrp .i64 (v6 + 1)).toNat]?).bind fun e2 => (if e2 < v1 then (some false) else (if 1099511627776 < e2 then (some false) else (zkn q v0z v0l v1 e1 (wrp .i64 (v6 + 2)))))) else none)))) else none) else (if (Int.tmod (v0l.length : Int) 2) = 0 then (some (decide ((v0l.length : Int) ≤ 128))) else (some false)))
def zko : Nat → (Sl Int) → Int → Option (Bool)
 | 0, _, _ => none
 | q + 1, a0, a1 => (zkn q a0.z a0.l a1 (-1) 0)
def zkp : Nat → Bool → (List Int) → Int → Int → Int → Bool → (List Int) → Bool → Int → Option (Int)
 | 0, _, _, _, _, _, _, _, _, _ => none
 | q + 1, v0z, v0l, v7, v8, h0_0, h0_1z, h0_1l, h0_2, h0_3 => (if v8 < v7 then (if 0 ≤ v8 then ((v0l[v8.toNat]?).bind fun e1 => ((zkm q e1).bind fun r2 => (if r2 = true then (some v8) else (zkp q v0z v0l v7 (wrp .i64 (v8 + 1)) h0_0 h0_1z h0_1l h0_2 h0_3)))) else none) else (some (-1)))
def zkq : Nat → Bool → (List Int) → Int → Bool → (List Int) → Bool → Int → Option (Int)
 | 0, _, _, _, _, _, _, _ => none
 | q + 1, v0z, v0l, h0_0, h0_1z, h0_1l, h0_2, h0_3 => (zkp q v0z v0l (v0l.length : Int) 0 h0_0 h0_1z h0_1l h0_2 h0_3)
def zkr : Nat → zj4 → Option (Bool)
 | 0, _ => none
 | q + 1, a0 => (if a0.To < 0 then (some false) else (if 3 ≤ a0.To then (some false) else (if a0.Sealed = true then ((zkq q a0.L.z a0.L.l a0.Kind a0.L.z a0.L.l a0.Sealed a0.To).bind fun r1 => (if a0.Kind = 0 then (if (a0.L.l.length : Int) = 1 then (some (!(decide (0 ≤ r1)))) else (some false)) else (if a0.Kind = 1 then (if (a0.L.l.length : Int) = 1 then (some (!(decide (0 ≤ r1)))) else (some false)) else (if a0.Kind = 2 then (if (a0.L.l.length : Int) ≤ 64 then (some (!(decide (0 ≤ r1)))) else (some false)) else (if a0.Kind = 3 then (if (a0.L.l.length : Int) ≤ 64 then (some (!(decide (0 ≤ r1)))) else (some false)) else (if a0.Kind = 4 then ((zko q a0.L (-1099511627776)).bind fun r2 => (some r2)) else (if a0.Kind = 5 then ((zko q a0.L 0).bind fun r3 => (some r3)) else (some false)))))))) else (if a0.To = 0 then ((zkq q a0.L.z a0.L.l a0.Kind a0.L.z a0.L.l a0.Sealed a0.To).bind fun r4 => (if a0.Kind = 0 then (if (a0.L.l.length : Int) = 1 then (some (!(decide (0 ≤ r4)))) else (some false)) else (if a0.Kind = 1 then (if (a0.L.l.length : Int) = 1 then (some (!(decide (0 ≤ r4)))) else (some false)) else (if a0.Kind = 2 then (if (a0.L.l.length : Int) ≤ 64 then (some (!(decide (0 ≤ r4)))) else (some false)) else (if a0.Kind = 3 then (if (a0.L.l.length : Int) ≤ 64 then (some (!(decide (0 ≤ r4)))) else (some false)) else (if a0.Kind = 4 then ((zko q a0.L (-1099511627776)).bind fun r5 => (some r5)) else (if a0.Kind = 5 then ((zko q a0.L 0).bind fun r6 => (some r6)) else (some false)))))))) else (some false)))))
def zks : Nat → zj4 → zj7 → Option (zj4 × Int)
 | 0, _, _ => none
 | q + 1, a0, a1 => ((a0.L.l[0]?).bind fun e1 => (if a1.Code = 7 then (some (a0, e1)) else (if a0.Kind = 0 then (if a1.Code = 1 then ((zkj q a1.A).bind fun r2 => ((zkj q (wrp .i64 (e1 + r2))).bind fun r3 => (some ((⟨a0.Kind, ⟨false, [r3]⟩, a0.Sealed, a0.To⟩ : zj4), e1)))) else (if a0.Kind = 1 then (if a1.Code = 2 then ((zkj q a1.A).bind fun r4 => (some ((⟨a0.Kind, ⟨false, [r4]⟩, a0.Sealed, a0.To⟩ : zj4), e1))) else (some (a0, 0))) else (some (a0, 0)))) else (if a0.Kind = 1 then (if a1.Code = 2 then ((zkj q a1.A).bind fun r5 => (some ((⟨a0.Kind, ⟨false, [r5]⟩, a0.Sealed, a0.To⟩ : zj4), e1))) else (some (a0, 0))) else (some (a0, 0))))))
def zkt : Nat → (Ow Int) → Int → Int → Option ((Ow Int))
 | 0, _, _, _ => none
 | q + 1, a0, a1, a2 => (if 0 ≤ a1 then (if a1 ≤ a2 then (if a2 ≤ (a0.xs.length : Int) then (if a1 = a2 then (some a0) else (if a1.toNat ≤ a0.xs.length then (if a0.n = true then (if 0 ≤ a2 then (if a2.toNat ≤ a0.xs.length then (if (a0.xs.length + (a0.xs.length - a2.toNat)) ≤ 4294967296 then (if (((a0.xs.length + (a0.xs.length - a2.toNat)) : Nat) : Int) ≤ (a0.xs.length : Int) then (if a0.xs.length ≤ (a0.xs.length + (a0.xs.length - a2.toNat)) then (if (a0.xs.length - a2.toNat) = 0 then none else (if a0.x = true then (some ⟨(a0.n && (decide ((a0.xs.length - a2.toNat) = 0))), true, (((List.take (a0.xs.length + (a0.xs.length - a2.toNat)) (a0.xs ++ (List.drop a2.toNat a0.xs))) ++ (List.replicate (a0.xs.length - (a0.xs.length + (a0.xs.length - a2.toNat))) 0)) ++ (List.drop ((a0.xs.length + (a0.xs.length - a2.toNat)) + (a0.xs.length - (a0.xs.length + (a0.xs.length - a2.toNat)))) (a0.xs ++ (List.drop a2.toNat a0.xs))))⟩) else none)) else none) else none) else none) else none) else none) else (if 0 ≤ a2 then (if a2.toNat ≤ a0.xs.length then (if (a1.toNat + (a0.xs.length - a2.toNat)) ≤ a0.xs.length then (if a0.x = true then (if (((a1.toNat + (a0.xs.length - a2.toNat)) : Nat) : Int) ≤ (a0.xs.length : Int) then (if a0.xs.length ≤ (((min a1.toNat a0.xs.length) + (a0.xs.length - a2.toNat)) + (a0.xs.length - (a1.toNat + (a0.xs.length - a2.toNat)))) then (some ⟨a0.n, true, (List.take (a1.toNat + (a0.xs.length - a2.toNat)) (((List.take (a1.toNat + (a0.xs.length - a2.toNat)) (((List.take a1.toNat a0.xs) ++ (List.drop a2.toNat a0.xs)) ++ (List.drop (a1.toNat + (a0.xs.length - a2.toNat)) a0.xs))) ++ (List.replicate (a0.xs.length - (a1.toNat + (a0.xs.length - a2.toNat))) 0)) ++ (List.drop ((a1.toNat + (a0.xs.length - a2.toNat)) + (a0.xs.length - (a1.toNat + (a0.xs.length - a2.toNat)))) (((List.take a1.toNat a0.xs) ++ (List.drop a2.toNat a0.xs)) ++ (List.drop (a1.toNat + (a0.xs.length - a2.toNat)) a0.xs)))))⟩) else none) else none) else none) else none) else none) else none)) else none)) else none) else none) else none)
def zku : Nat → zj4 → zj7 → Option (zj4 × Int)
 | 0, _, _ => none
 | q + 1, a0, a1 => (if a1.Code = 7 then (some (a0, (a0.L.l.length : Int))) else (if a1.Code = 3 then (if (a0.L.l.length : Int) < 64 then ((zkg q a0.L).bind fun r1 => ((zkj q a1.A).bind fun r2 => (if (r1.xs.length + 1) ≤ 4294967296 then (some ((⟨a0.Kind, ⟨false, (r1.xs ++ [r2])⟩, a0.Sealed, a0.To⟩ : zj4), (wrp .i64 ((a0.L.l.length : Int) + 1)))) else none))) else (some (a0, (-1)))) else (if a1.Code = 4 then (if (a0.L.l.length : Int) = 0 then (some (a0, (-1))) else (if a0.Kind = 2 then ((a0.L.l[0]?).bind fun e3 => ((zkg q a0.L).bind fun r4 => ((zkt q r4 0 (wrp .i64 1)).bind fun r5 => (some ((⟨a0.Kind, ⟨r5.n, r5.xs⟩, a0.Sealed, a0.To⟩ : zj4), e3))))) else (if 0 ≤ (wrp .i64 ((a0.L.l.length : Int) - 1)) then ((a0.L.l[(wrp .i64 ((a0.L.l.length : Int) - 1)).toNat]?).bind fun e6 => ((zkg q a0.L).bind fun r7 => ((zkt q r7 (wrp .i64 ((a0.L.l.length : Int) - 1)) (wrp .i64 ((wrp .i64 ((a0.L.l.length : Int) - 1)) + 1))).bind fun r8 => (some ((⟨a0.Kind, ⟨r8.n, r8.xs⟩, a0.Sealed, a0.To⟩ : zj4), e6))))) else none))) else (some (a0, 0)))))
def zkv : Nat → Bool → (List Int) → Int → Int → Option (Int × Bool)
 | 0, _, _, _, _ => none
 | q + 1, v0z, v0l, v1, v6 => (if v6 < (v0l.length : Int) then (if 0 ≤ v6 then ((v0l[v6.toNat]?).bind fun e1 => (if e1 < v1 then (zkv q v0z v0l v1 (wrp .i64 (v6 + 2))) else (some (v6, (decide (e1 = v1)))))) else none) else (some (v6, false)))
def zkw : Nat → (Sl Int) → Int → Option (Int × Bool)
 | 0, _, _ => none
 | q + 1, a0, a1 => (zkv q a0.z a0.l a1 0)
def zkx : Nat → (Sl Int) → Int → Option (Int)
 | 0, _, _ => none
 | q + 1, a0, a1 => ((zkw q a0 a1).bind fun r1 => (if r1.2 = true then (if 0 ≤ (wrp .i64 (r1.1 + 1)) then ((a0.l[(wrp .i64 (r1.1 + 1)).toNat]?).bind fun e2 => (some e2)) else none) else (some (-1))))
def zky : Nat → (Ow Int) → Int → (Ow Int) → Option (Ow Int)
 | 0, _, _, _ => none
 | q + 1, a0, a1, a2 => (if insOk a0 a1 a2 then (some (insR a0 a1 a2)) else none)
def zkz : Nat → (Sl Int) → Int → Int → Option ((Sl Int) × Bool)
 | 0, _, _, _ => none
 | q + 1, a0, a1, a2 => ((zkw q a0 a1).bind fun r1 => (if r1.2 = true then ((zkg q a0).bind fun r2 => (if 0 ≤ (wrp .i64 (r1.1 + 1)) then (if (wrp .i64 (r1.1 + 1)).toNat < r2.xs.length then ((r2.xs[(wrp .i64 (r1.1 + 1)).toNat]?).bind fun e3 => (if r2.x = true then (some (⟨r2.n, (List.set r2.xs ((wrp .i64 (r1.1 + 1)).toNat) a2)⟩, true)) else none)) else none) else none)) else (if 128 ≤ (a0.l.length : Int) then (some (a0, false)) else ((zkg q a0).bind fun r4 => ((zky q r4 r1.1 ⟨false, true, [a1, a2]⟩).bind fun r5 => (some (⟨r5.n, r5.xs⟩, true)))))))
def zk0 : Nat → zj4 → zj7 → Option (zj4 × Int)
 | 0, _, _ => none
 | q + 1, a0, a1 => (if a1.Code = 7 then (if a1.A < 0 then (some (a0, (-1))) else (if 255 < a1.A then (some (a0, (-1))) else ((zkx q a0.L a1.A).bind fun r1 => ((zkw q a0.L a1.A).bind fun r2 => (if a1.Code = 6 then (if r2.2 = true then ((zkg q a0.L).bind fun r3 => ((zkt q r3 r2.1 (wrp .i64 (r2.1 + 2))).bind fun r4 => (some ((⟨a0.Kind, ⟨r4.n, r4.xs⟩, a0.Sealed, a0.To⟩ : zj4), r1)))) else (if a1.Code = 5 then ((zkj q a1.B).bind fun r5 => ((zkz q a0.L a1.A r5).bind fun r6 => (if r6.2 = true then (some ((⟨a0.Kind, r6.1, a0.Sealed, a0.To⟩ : zj4), r1)) else (some (a0, (-2)))))) else (some (a0, r1)))) else (if a1.Code = 5 then ((zkj q a1.B).bind fun r7 => ((zkz q a0.L a1.A r7).bind fun r8 => (if r8.2 = true then (some ((⟨a0.Kind, r8.1, a0.Sealed, a0.To⟩ : zj4), r1)) else (some (a0, (-2)))))) else (some (a0, r1)))))))) else (if a1.Code = 6 then (if a1.A < 0 then (some (a0, (-1))) else (if 255 < a1.A then (some (a0, (-1))) else ((zkx q a0.L a1.A).bind fun r9 => ((zkw q a0.L a1.A).bind fun r10 => (if r10.2 = true then ((zkg q a0.L).bind fun r11 => ((zkt q r11 r10.1 (wrp .i64 (r10.1 + 2))).bind fun r12 => (some ((⟨a0.Kind, ⟨r12.n, r12.xs⟩, a0.Sealed, a0.To⟩ : zj4), r9)))) else (if a1.Code = 5 then ((zkj q a1.B).bind fun r13 => ((zkz q a0.L a1.A r13).bind fun r14 => (if r14.2 = true then (some ((⟨a0.Kind, r14.1, a0.Sealed, a0.To⟩ : zj4), r9)) else (some (a0, (-2)))))) else (some (a0, r9)))))))) else (if a1.Code = 5 then (if a1.A < 0 then (some (a0, (-1))) else (if 255 < a1.A then (some (a0, (-1))) else ((zkx q a0.L a1.A).bind fun r15 => ((zkw q a0.L a1.A).bind fun r16 => ((zkj q a1.B).bind fun r17 => ((zkz q a0.L a1.A r17).bind fun r18 => (if r18.2 = true then (some ((⟨a0.Kind, r18.1, a0.Sealed, a0.To⟩ : zj4), r15)) else (some (a0, (-2)))))))))) else (some (a0, 0)))))
def zk1 : Nat → zj4 → zj7 → Option (zj4 × Int)
 | 0, _, _ => none
 | q + 1, a0, a1 => (if a1.A < 0 then (some (a0, 0)) else (if 65536 ≤ a1.A then (some (a0, 0)) else (if a1.B < 0 then (some (a0, 0)) else ((zkx q a0.L (wrp .i64 (Int.tdiv a1.A 256))).bind fun r1 => ((zkx q a0.L (Int.tmod a1.A 256)).bind fun r2 => (if r1 < a1.B then (some (a0, 0)) else (if (wrp .i64 (Int.tdiv a1.A 256)) = (Int.tmod a1.A 256) then (some (a0, 1)) else ((zkz q a0.L (Int.tmod a1.A 256) (wrp .i64 ((if r2 < 0 then 0 else r2) + a1.B))).bind fun r3 => (if r3.2 = true then (if 1099511627776 < (wrp .i64 ((if r2 < 0 then 0 else r2) + a1.B)) then (some (a0, 0)) else ((zkz q r3.1 (wrp .i64 (Int.tdiv a1.A 256)) (wrp .i64 (r1 - a1.B))).bind fun r4 => (some ((⟨a0.Kind, r4.1, a0.Sealed, a0.To⟩ : zj4), 1)))) else (some (a0, 0)))))))))))
def zk2 : Nat → zj4 → zj7 → Option (zj4 × Int)
 | 0, _, _ => none
 | q + 1, a0, a1 => (if a1.Code = 9 then ((zk1 q a0 a1).bind fun r1 => (some (r1.1, r1.2))) else (if a1.Code = 7 then (if a1.A < 0 then (some (a0, (-1))) else (if 255 < a1.A then (some (a0, (-1))) else ((zkx q a0.L a1.A).bind fun r2 => (some (a0, r2))))) else (if a1.Code = 8 then (if a1.A < 0 then (some (a0, (-1))) else (if 255 < a1.A then (some (a0, (-1))) else (if a1.B < 0 then (some (a0, (-1))) else ((zkx q a0.L a1.A).bind fun r3 => ((zkj q a1.B).bind fun r4 => ((zkj q (wrp .i64 ((if r3 < 0 then 0 else r3) + r4))).bind fun r5 => ((zkz q a0.L a1.A r5).bind fun r6 => (if r6.2 = true then (some ((⟨a0.Kind, r6.1, a0.Sealed, a0.To⟩ : zj4), r5)) else (some (a0, (-2))))))))))) else (some (a0, 0)))))
def zk3 : Nat → zj4 → zj7 → Option (zj4 × Int)
 | 0, _, _ => none
 | q + 1, a0, a1 => ((zkr q a0).bind fun r1 => (if r1 = true then (if a0.Sealed = true then (some (a0, (-1125899906842624))) else (if a1.Code = 10 then (if 0 ≤ a1.A then (if a1.A < 3 then (some ((⟨a0.Kind, a0.L, true, a1.A⟩ : zj4), 0)) else (some ((⟨a0.Kind, a0.L, true, a0.To⟩ : zj4), 0))) else (some ((⟨a0.Kind, a0.L, true, a0.To⟩ : zj4), 0))) else (if a0.Kind = 0 then ((zks q a0 a1).bind fun r2 => (some (r2.1, r2.2))) else (if a0.Kind = 1 then ((zks q a0 a1).bind fun r3 => (some (r3.1, r3.2))) else (if a0.Kind = 2 then ((zku q a0 a1).bind fun r4 => (some (r4.1, r4.2))) else (if a0.Kind = 3 then ((zku q a0 a1).bind fun r5 => (some (r5.1, r5.2))) else (if a0.Kind = 4 then ((zk0 q a0 a1).bind fun r6 => (some (r6.1, r6.2))) else ((zk2 q a0 a1).bind fun r7 => (some (r7.1, r7.2)))))))))) else (some (a0, 0))))
def zk4 : Nat → (Ow zj5) → Int → (Ow zj5) → Option (Ow zj5)
 | 0, _, _, _ => none
 | q + 1, a0, a1, a2 => (if insOk a0 a1 a2 then (some (insR a0 a1 a2)) else none)
def zk5 : Nat → Int → Int → Int → Int → Int → Int → Int → Int → Int → Bool → (List zj5) → Bool → Option (Int)
 | 0, _, _, _, _, _, _, _, _, _, _, _, _ => none
 | q + 1, v7, v8, h0_0, h0_1, h0_2, h0_3, h0_4, h0_5, h0_6, h1z, h1l, h1x => (if v8 < v7 then (if 0 ≤ v8 then (if v8.toNat < h1l.length then ((h1l[v8.toNat]?).bind fun e1 => (if e1.Proc = h0_1 then (some v8) else (zk5 q v7 (wrp .i64 (v8 + 1)) h0_0 h0_1 h0_2 h0_3 h0_4 h0_5 h0_6 h1z h1l h1x))) else none) else none) else (some (-1)))
def zk6 : Nat → Int → Int → Int → Int → Int → Int → Int → Bool → (List zj5) → Bool → Option (Int)
 | 0, _, _, _, _, _, _, _, _, _, _ => none
 | q + 1, h0_0, h0_1, h0_2, h0_3, h0_4, h0_5, h0_6, h1z, h1l, h1x => (zk5 q (h1l.length : Int) 0 h0_0 h0_1 h0_2 h0_3 h0_4 h0_5 h0_6 h1z h1l h1x)
def zk7 : Nat → Int → Int → Int → Int → Int → Int → Int → Int → Int → Bool → (List zj5) → Bool → Option (Nat × (List zj5) × Bool)
 | 0, _, _, _, _, _, _, _, _, _, _, _, _ => none
 | q + 1, v5, v6, h0_0, h0_1, h0_2, h0_3, h0_4, h0_5, h0_6, h1z, h1l, h1x => (if v6 < (h1l.length : Int) then (if 0 ≤ v6 then (if v6.toNat < h1l.length then ((h1l[v6.toNat]?).bind fun e2 => (if e2.Proc = h0_1 then (zk7 q v5 (wrp .i64 (v6 + 1)) h0_0 h0_1 h0_2 h0_3 h0_4 h0_5 h0_6 h1z h1l h1x) else (if 0 ≤ v5 then (if v5.toNat < h1l.length then ((h1l[v5.toNat]?).bind fun e3 => (if h1x = true then (zk7 q (wrp .i64 (v5 + 1)) (wrp .i64 (v6 + 1)) h0_0 h0_1 h0_2 h0_3 h0_4 h0_5 h0_6 h1z (List.set h1l v5.toNat e2) true) else none)) else none) else none))) else none) else none) else (if 0 ≤ v5 then (if v5.toNat ≤ h1l.length then (if h1x = true then (if v5.toNat ≤ (((min v5.toNat h1l.length) + (h1l.length - v5.toNat)) + (h1l.length - (v5.toNat + (h1l.length - v5.toNat)))) then (if h1z = true then (some (v5.toNat, (((List.take v5.toNat h1l) ++ (List.replicate (h1l.length - v5.toNat) (⟨0, 0, 0⟩ : zj5))) ++ (List.drop (v5.toNat + (h1l.length - v5.toNat)) h1l)), true)) else (some (v5.toNat, (((List.take v5.toNat h1l) ++ (List.replicate (h1l.length - v5.toNat) (⟨0, 0, 0⟩ : zj5))) ++ (List.drop (v5.toNat + (h1l.length - v5.toNat)) h1l)), true))) else none) else none) else none) else none))
def zk8 : Nat → Int → Int → Int → Int → Int → Int → Int → Bool → (List zj5) → Bool → Option (Nat × (List zj5) × Bool)
 | 0, _, _, _, _, _, _, _, _, _, _ => none
 | q + 1, h0_0, h0_1, h0_2, h0_3, h0_4, h0_5, h0_6, h1z, h1l, h1x => ((zk6 q h0_0 h0_1 h0_2 h0_3 h0_4 h0_5 h0_6 h1z h1l h1x).bind fun r1 => (if r1 = (-1) then (some (h1l.length, h1l, h1x)) else (zk7 q r1 (wrp .i64 (r1 + 1)) h0_0 h0_1 h0_2 h0_3 h0_4 h0_5 h0_6 h1z h1l h1x)))
def zk9 : Nat → Nat → Int → Int → Int → Int → Int → Int → Int → Int → Int → Bool → (List zj5) → Bool → Option (Int)
 | 0, _, _, _, _, _, _, _, _, _, _, _, _, _ => none
 | q + 1, v0len, v7, v8, h0_0, h0_1, h0_2, h0_3, h0_4, h0_5, h0_6, h1z, h1l, h1x => (if v8 < v7 then (if 0 ≤ v8 then (if v8.toNat < v0len then ((h1l[v8.toNat]?).bind fun e1 => (if h0_1 < e1.Proc then (some v8) else (zk9 q v0len v7 (wrp .i64 (v8 + 1)) h0_0 h0_1 h0_2 h0_3 h0_4 h0_5 h0_6 h1z h1l h1x))) else none) else none) else (some (-1)))
def zla : Nat → Nat → Int → Int → Int → Int → Int → Int → Int → Bool → (List zj5) → Bool → Option (Int)
 | 0, _, _, _, _, _, _, _, _, _, _, _ => none
 | q + 1, v0len, h0_0, h0_1, h0_2, h0_3, h0_4, h0_5, h0_6, h1z, h1l, h1x => (zk9 q v0len (v0len : Int) 0 h0_0 h0_1 h0_2 h0_3 h0_4 h0_5 h0_6 h1z h1l h1x)
def zlb : Nat → (Sl zj5) → zj8 → Option ((Ow zj5))
 | 0, _, _ => none
 | q + 1, a0, a1 => ((zkh q a0).bind fun r1 => ((zk8 q a1.Index a1.Proc a1.Seq a1.Op.Code a1.Op.A a1.Op.B a1.Resp r1.n r1.xs r1.x).bind fun r2 => ((zla q r2.1 a1.Index a1.Proc a1.Seq a1.Op.Code a1.Op.A a1.Op.B a1.Resp r1.n r2.2.1 r2.2.2).bind fun r3 => (if r3 < 0 then (if r2.2.2 = true then ((zk4 q ⟨r1.n, r2.2.2, (List.take r2.1 r2.2.1)⟩ (r2.1 : Int) ⟨false, true, [(⟨a1.Proc, a1.Seq, a1.Resp⟩ : zj5)]⟩).bind fun r4 => (some r4)) else none) else (if r2.2.2 = true then ((zk4 q ⟨r1.n, r2.2.2, (List.take r2.1 r2.2.1)⟩ r3 ⟨false, true, [(⟨a1.Proc, a1.Seq, a1.Resp⟩ : zj5)]⟩).bind fun r5 => (some r5)) else none)))))
def zlc : Nat → Bool → (List zj8) → Int → Int → Int → Int → Bool → (List Int) → Bool → Int → Bool → (List zj5) → Bool → Option (zj6 × Int)
 | 0, _, _, _, _, _, _, _, _, _, _, _, _, _ => none
 | q + 1, v8z, v8l, v9, v10, h0_0, h0_1, h0_2z, h0_2l, h0_3, h0_4, h2z, h2l, h2x => (if v10 < v9 then (if 0 ≤ v10 then ((v8l[v10.toNat]?).bind fun e5 => (if e5.Index = h0_0 then ((zkl q e5).bind fun r6 => (if r6 = true then ((zk3 q (⟨h0_1, ⟨h0_2z, h0_2l⟩, h0_3, h0_4⟩ : zj4) e5.Op).bind fun r7 => ((zlb q ⟨h2z, h2l⟩ (⟨e5.Index, e5.Proc, e5.Seq, e5.Op, r7.2⟩ : zj8)).bind fun r8 => (zlc q v8z v8l v9 (wrp .i64 (v10 + 1)) (wrp .i64 (h0_0 + 1)) r7.1.Kind r7.1.L.z r7.1.L.l r7.1.Sealed r7.1.To r8.n r8.xs r8.x))) else (some ((⟨0, (⟨0, ⟨true, []⟩, false, 0⟩ : zj4), ⟨true, []⟩⟩ : zj6), 1)))) else (some ((⟨0, (⟨0, ⟨true, []⟩, false, 0⟩ : zj4), ⟨true, []⟩⟩ : zj6), 15)))) else none) else (some ((⟨h0_0, (⟨h0_1, ⟨h0_2z, h0_2l⟩, h0_3, h0_4⟩ : zj4), ⟨h2z, h2l⟩⟩ : zj6), 0)))
def zld : Nat → Bool → (List zj8) → Int → Int → Int → Bool → (List Int) → Bool → Int → Bool → (List zj5) → Option (zj6 × Int)
 | 0, _, _, _, _, _, _, _, _, _, _, _ => none
 | q + 1, v8z, v8l, v9, h0_0, h0_1, h0_2z, h0_2l, h0_3, h0_4, h0_5z, h0_5l => (if 0 < v9 then ((v8l[0]?).bind fun e1 => (if e1.Index = h0_0 then ((zkl q e1).bind fun r2 => (if r2 = true then ((zk3 q (⟨h0_1, ⟨h0_2z, h0_2l⟩, h0_3, h0_4⟩ : zj4) e1.Op).bind fun r3 => ((zlb q ⟨h0_5z, h0_5l⟩ (⟨e1.Index, e1.Proc, e1.Seq, e1.Op, r3.2⟩ : zj8)).bind fun r4 => (zlc q v8z v8l v9 (wrp .i64 1) (wrp .i64 (h0_0 + 1)) r3.1.Kind r3.1.L.z r3.1.L.l r3.1.Sealed r3.1.To r4.n r4.xs r4.x))) else (some ((⟨0, (⟨0, ⟨true, []⟩, false, 0⟩ : zj4), ⟨true, []⟩⟩ : zj6), 1)))) else (some ((⟨0, (⟨0, ⟨true, []⟩, false, 0⟩ : zj4), ⟨true, []⟩⟩ : zj6), 15)))) else (some ((⟨h0_0, (⟨h0_1, ⟨h0_2z, h0_2l⟩, h0_3, h0_4⟩ : zj4), ⟨h0_5z, h0_5l⟩⟩ : zj6), 0)))
def zle : Nat → zj6 → (Sl zj8) → Option (zj6 × Int)
 | 0, _, _ => none
 | q + 1, a0, a1 => (zld q a1.z a1.l (a1.l.length : Int) a0.Index a0.State.Kind a0.State.L.z a0.State.L.l a0.State.Sealed a0.State.To a0.Table.z a0.Table.l)
def zlf : Nat → Bool → (List zj8) → Bool → (List zj8) → Int → Int → Option (Bool)
 | 0, _, _, _, _, _, _ => none
 | q + 1, v0z, v0l, v5z, v5l, v6, v7 => (if v7 < v6 then (if 0 ≤ v7 then ((v5l[v7.toNat]?).bind fun e1 => ((zkl q e1).bind fun r2 => (if r2 = true then ((v0l[0]?).bind fun e3 => (if e1.Index = (wrp .i64 (e3.Index + v7)) then (zlf q v0z v0l v5z v5l v6 (wrp .i64 (v7 + 1))) else (some false))) else (some false)))) else none) else (if 0 < (v0l.length : Int) then (some (decide ((v0l.length : Int) ≤ 256))) else (some false)))
def zlg : Nat → (Sl zj8) → Option (Bool)
 | 0, _ => none
 | q + 1, a0 => (zlf q a0.z a0.l a0.z a0.l (a0.l.length : Int) 0)
def zlh : Nat → Int → Bool → (List Int) → Bool → Option ((Ow Int))
 | 0, _, _, _, _ => none
 | q + 1, v1, h0z, h0l, h0x => (if 128 ≤ v1 then (if (h0l.length + 1) ≤ 4294967296 then (zlh q (ishr .u64 v1 7) false (h0l ++ [(ibits .or .u8 (wrp .u8 v1) 128)]) h0x) else none) else (if (h0l.length + 1) ≤ 4294967296 then (some ⟨false, h0x, (h0l ++ [(wrp .u8 v1)])⟩) else none))
def zli : Nat → (Ow Int) → Int → Option ((Ow Int))
 | 0, _, _ => none
 | q + 1, a0, a1 => (zlh q a1 a0.n a0.xs a0.x)
def zlj : Nat → (Ow Int) → Int → Option ((Ow Int))
 | 0, _, _ => none
 | q + 1, a0, a1 => (if a1 < 0 then (some a0) else (if 4611686018427387904 ≤ a1 then (some a0) else ((zli q a0 (wrp .u64 a1)).bind fun r1 => (some r1))))
def zlk : Nat → Int → Option (Int)
 | 0, _ => none
 | q + 1, a0 => (some (ibits .xor .u64 (ishl .u64 (wrp .u64 a0) 1) (wrp .u64 (ishr .i64 a0 63))))
def zll : Nat → (Ow Int) → Int → Option ((Ow Int))
 | 0, _, _ => none
 | q + 1, a0, a1 => ((zlk q a1).bind fun r1 => ((zli q a0 r1).bind fun r2 => (some r2)))
def zlm : Nat → (Ow Int) → zj7 → Option ((Ow Int) × Int)
 | 0, _, _ => none
 | q + 1, a0, a1 => ((zkk q a1).bind fun r1 => (if r1 = true then ((zlj q a0 a1.Code).bind fun r2 => ((zll q r2 a1.A).bind fun r3 => ((zll q r3 a1.B).bind fun r4 => (some (r4, 0))))) else (some (a0, 1))))
def zln : Nat → Bool → (List zj8) → Int → Int → (List (Int × Int)) → Bool → (List Int) → Bool → Option ((Ow Int) × Int)
 | 0, _, _, _, _, _, _, _, _ => none
 | q + 1, v20z, v20l, v21, v22, h0m, h1z, h1l, h1x => (if v22 < v21 then (if 0 ≤ v22 then ((v20l[v22.toNat]?).bind fun e5 => ((zlj q ⟨h1z, h1x, h1l⟩ e5.Proc).bind fun r6 => ((zll q r6 (wrp .i64 (e5.Seq - (mget h0m e5.Proc)))).bind fun r7 => ((zlm q r7 e5.Op).bind fun r8 => ((zll q r8.1 e5.Resp).bind fun r9 => (zln q v20z v20l v21 (wrp .i64 (v22 + 1)) (mset h0m e5.Proc e5.Seq) r9.n r9.xs r9.x)))))) else none) else (some (⟨h1z, h1x, h1l⟩, 0)))
def zlo : Nat → (Sl zj8) → Option ((Ow Int) × Int)
 | 0, _ => none
 | q + 1, a0 => ((zlg q a0).bind fun r1 => (if r1 = true then ((a0.l[0]?).bind fun e2 => ((zlj q ⟨true, true, []⟩ e2.Index).bind fun r3 => ((zlj q r3 (a0.l.length : Int)).bind fun r4 => (zln q a0.z a0.l (a0.l.length : Int) 0 [] r4.n r4.xs r4.x)))) else (some (⟨true, true, []⟩, 1))))
mutual
def zlp : Nat → Int → (List Int) → (List Int) → Option ((List Int))
 | 0, _, _, _ => none
 | q + 1, v5, h0_0, h1_0 => (if v5 < 256 then (zlq q v5 (wrp .u32 v5) v5 0 h0_0 h1_0) else (if 256 ≤ h1_0.length then (if (min 256 h1_0.length) = 256 then (if 256 ≤ h0_0.length then (if 256 ≤ (256 + (h0_0.length - 256)) then (some (List.take 256 ((List.take 256 h1_0) ++ (List.drop 256 h0_0)))) else none) else none) else none) else none))
def zlq : Nat → Int → Int → Int → Int → (List Int) → (List Int) → Option ((List Int))
 | 0, _, _, _, _, _, _ => none
 | q + 1, v2, v3, v5, v10, h0_0, h1_0 => (if v10 < 8 then (zlq q v2 (ibits .xor .u32 (ishr .u32 v3 1) (ibits .and .u32 2197175160 (wrp .u32 (0 - (ibits .and .u32 v3 1))))) v5 (wrp .i64 (v10 + 1)) h0_0 h1_0) else (if 0 ≤ v2 then (if v2.toNat < 256 then (if (v2.toNat + 1) ≤ h1_0.length then (zlp q (wrp .i64 (v5 + 1)) h0_0 (List.set h1_0 v2.toNat v3)) else none) else none) else none))
end
def zlr : Nat → Option ((List Int))
 | 0 => none
 | q + 1 => (zlp q 0 (List.replicate 256 0) (List.replicate 256 0))
def zls : Nat → Int → Bool → (List Int) → Int → Int → (List Int) → Option (Int)
 | 0, _, _, _, _, _, _ => none
 | q + 1, v6, v12z, v12l, v13, v14, h0_0 => (if v14 < v13 then (if 0 ≤ v14 then ((v12l[v14.toNat]?).bind fun e2 => (if 0 ≤ (ibits .xor .u8 (wrp .u8 v6) e2) then (if (ibits .xor .u8 (wrp .u8 v6) e2).toNat < 256 then ((h0_0[(ibits .xor .u8 (wrp .u8 v6) e2).toNat]?).bind fun e3 => (zls q (ibits .xor .u32 e3 (ishr .u32 v6 8)) v12z v12l v13 (wrp .i64 (v14 + 1)) h0_0)) else none) else none)) else none) else (some (ibits .xor .u32 4294967295 v6)))
def zlt : Nat → Int → (Sl Int) → Option (Int)
 | 0, _, _ => none
 | q + 1, a0, a1 => ((zlr q).bind fun r1 => (if r1.length = 256 then (zls q (ibits .xor .u32 4294967295 a0) a1.z a1.l (a1.l.length : Int) 0 r1) else none))
def zlu : Nat → (Sl Int) → Option (Int)
 | 0, _ => none
 | q + 1, a0 => ((zlt q 0 a0).bind fun r1 => (some r1))
def zlv : Nat → Int → Int → Int → Bool → (List Int) → Option ((Ow Int))
 | 0, _, _, _, _, _ => none
 | q + 1, v0, v7, v8, h0z, h0l => (if v8 < v7 then (if (wrp .i64 (8 * v8)) < 0 then none else (if (h0l.length + 1) ≤ 4294967296 then (zlv q v0 v7 (wrp .i64 (v8 + 1)) false (h0l ++ [(wrp .u8 (ishr .u64 v0 (wrp .i64 (8 * v8))))])) else none)) else (some ⟨h0z, true, h0l⟩))
def zlw : Nat → Int → Int → Option ((Ow Int))
 | 0, _, _ => none
 | q + 1, a0, a1 => (zlv q a0 a1 0 true [])
def zlx : Nat → Int → Option ((Ow Int))
 | 0, _ => none
 | q + 1, a0 => ((zlw q (wrp .u64 a0) 4).bind fun r1 => (some r1))
def zly : Nat → (Sl Int) → (Sl Int) → Option ((Ow Int))
 | 0, _, _ => none
 | q + 1, a0, a1 => ((zlu q a0).bind fun r1 => ((zlt q r1 a1).bind fun r2 => ((zlx q r2).bind fun r3 => (some r3))))
def zlz : Nat → Nat → Bool → (List (Sl Int)) → Int → Int → Bool → (List Int) → Option ((Ow Int))
 | 0, _, _, _, _, _, _, _ => none
 | q + 1, v6len, v25z, v25l, v26, v27, h0z, h0l => (if v27 < v26 then (if 0 ≤ v27 then ((v25l[v27.toNat]?).bind fun e2 => (if (v6len + e2.l.length) ≤ h0l.length then (zlz q (v6len + e2.l.length) v25z v25l v26 (wrp .i64 (v27 + 1)) h0z (((List.take v6len h0l) ++ e2.l) ++ (List.drop (v6len + e2.l.length) h0l))) else none)) else none) else (some ⟨h0z, true, (List.take v6len h0l)⟩))
def zl0 : Nat → Bool → (List (Sl Int)) → Int → Int → Bool → (List Int) → Option ((Ow Int))
 | 0, _, _, _, _, _, _ => none
 | q + 1, v25z, v25l, v26, v27, h0z, h0l => (if v27 < v26 then (if 0 ≤ v27 then ((v25l[v27.toNat]?).bind fun e4 => (if (h0l.length + e4.l.length) ≤ 4294967296 then (zl0 q v25z v25l v26 (wrp .i64 (v27 + 1)) (h0z && (decide (e4.l.length = 0))) (h0l ++ e4.l)) else none)) else none) else (some ⟨h0z, true, h0l⟩))
def zl1 : Nat → Bool → (List (Sl Int)) → Int → Option ((Ow Int))
 | 0, _, _, _ => none
 | q + 1, v25z, v25l, v26 => (if 0 < v26 then ((v25l[0]?).bind fun e3 => (if e3.l.length ≤ 4294967296 then (zl0 q v25z v25l v26 (wrp .i64 1) (decide (e3.l.length = 0)) e3.l) else none)) else (some ⟨true, true, []⟩))
def zl2 : Nat → Bool → (List (Sl Int)) → Int → Bool → (List (Sl Int)) → Int → Int → Option ((Ow Int))
 | 0, _, _, _, _, _, _, _ => none
 | q + 1, v0z, v0l, v3, v9z, v9l, v10, v11 => (if v11 < v10 then (if 0 ≤ v11 then ((v9l[v11.toNat]?).bind fun e1 => (if (wrp .i64 (v3 + (e1.l.length : Int))) < 0 then none else (zl2 q v0z v0l (wrp .i64 (v3 + (e1.l.length : Int))) v9z v9l v10 (wrp .i64 (v11 + 1))))) else none) else (if v3 < 0 then none else (if 0 < (wrp .i64 (v3 - (wrp .i64 0))) then (if 0 ≤ (wrp .i64 (v3 - (wrp .i64 0))) then (if (wrp .i64 (v3 - (wrp .i64 0))).toNat ≤ 4294967296 then (if (wrp .i64 (v3 - (wrp .i64 0))) = 0 then none else (zlz q 0 v0z v0l (v0l.length : Int) 0 (decide ((wrp .i64 (v3 - (wrp .i64 0))) = 0)) (List.replicate ((wrp .i64 (v3 - (wrp .i64 0))).toNat) 0))) else none) else none) else (zl1 q v0z v0l (v0l.length : Int)))))
def zl3 : Nat → (Sl (Sl Int)) → Option ((Ow Int))
 | 0, _ => none
 | q + 1, a0 => (zl2 q a0.z a0.l 0 a0.z a0.l (a0.l.length : Int) 0)
def zl4 : Nat → (Sl Int) → Option ((Ow Int) × Int)
 | 0, _ => none
 | q + 1, a0 => (if 1048576 < (a0.l.length : Int) then (some (⟨true, true, []⟩, 5)) else ((zlj q ⟨true, true, []⟩ (a0.l.length : Int)).bind fun r1 => ((zly q ⟨r1.n, r1.xs⟩ a0).bind fun r2 => ((zl3 q ⟨false, [⟨r1.n, r1.xs⟩, a0, ⟨r2.n, r2.xs⟩]⟩).bind fun r3 => (some (r3, 0))))))
def zl5 : Nat → Int → Option (Bool)
 | 0, _ => none
 | q + 1, a0 => (if 1 ≤ a0 then (some (decide (a0 ≤ 3))) else (some false))
def zl6 : Nat → (Sl Int) → Option ((Ow Int))
 | 0, _ => none
 | q + 1, a0 => ((zl4 q a0).bind fun r1 => (some r1.1))
def zl7 : Nat → Int → Int → Int → Option ((Ow Int) × Int)
 | 0, _, _, _ => none
 | q + 1, a0, a1, a2 => ((zl5 q a0).bind fun r1 => (if r1 = true then (if a1 < 0 then (some (⟨true, true, []⟩, 1)) else (if 6 ≤ a1 then (some (⟨true, true, []⟩, 1)) else (if a2 < 0 then (some (⟨true, true, []⟩, 1)) else (if 4611686018427387904 ≤ a2 then (some (⟨true, true, []⟩, 1)) else ((zlj q ⟨false, true, [108]⟩ a0).bind fun r2 => ((zlj q r2 a1).bind fun r3 => ((zlj q r3 a2).bind fun r4 => ((zl6 q ⟨r4.n, r4.xs⟩).bind fun r5 => (some (r5, 0)))))))))) else (some (⟨true, true, []⟩, 6))))
def zl8 : Nat → (Sl Int) → Option (Int × Bool)
 | 0, _ => none
 | q + 1, a0 => (if (a0.l.length : Int) = 0 then (some (0, false)) else (if 0 ≤ (wrp .i64 ((a0.l.length : Int) - 1)) then ((a0.l[(wrp .i64 ((a0.l.length : Int) - 1)).toNat]?).bind fun e1 => (some (e1, true))) else none))
def zl9 : Nat → Int → Option (Bool)
 | 0, _ => none
 | q + 1, a0 => (if 0 ≤ a0 then (some (decide (a0 < 1048576))) else (some false))
def zma : Nat → (List zj6) → Option (Nat)
 | 0, _ => none
 | q + 1, h6l => (some h6l.length)
def zmb : Nat → (List zj6) → Option (Nat)
 | 0, _ => none
 | q + 1, h6l => (zma q h6l)
def zmc : Nat → (List zj6) → Option (Nat)
 | 0, _ => none
 | q + 1, h6l => ((zmb q h6l).bind fun r1 => (some r1))
def zmd : Nat → Nat → Int → (List zj6) → Option (Unit)
 | 0, _, _, _ => none
 | q + 1, h5_2len, h5_5, h6l => (some ())
def zme : Nat → Nat → Int → (List zj6) → Option (Unit)
 | 0, _, _, _ => none
 | q + 1, h5_2len, h5_5, h6l => (zmd q h5_2len h5_5 h6l)
def zmf : Nat → Nat → Int → (List zj6) → Option (Unit)
 | 0, _, _, _ => none
 | q + 1, h5_2len, h5_5, h6l => ((zme q h5_2len h5_5 h6l).bind fun r1 => (some ()))
def zmg : Nat → Nat → Int → (List zj6) → Option (Nat × Int × (List zj6))
 | 0, _, _, _ => none
 | q + 1, h5_2len, h5_5, h6l => (some (h5_2len, h5_5, h6l))
def zmh : Nat → Nat → (List zj6) → Option (Nat × Int × (List zj6))
 | 0, _, _ => none
 | q + 1, h5_2len, h6l => ((zkf q ⟨false, h6l⟩).bind fun r3 => ((zki q r3.1).bind fun r4 => ((zmf q h5_2len r4.Index h6l).bind fun r5 => (zmg q h5_2len r4.Index h6l))))
def zmi : Nat → Option (Nat × Int × (List zj6))
 | 0 => none
 | q + 1 => ((zke q 0).bind fun r1 => ((zmc q [(⟨0, r1, ⟨true, []⟩⟩ : zj6)]).bind fun r2 => (zmh q r2 [(⟨0, r1, ⟨true, []⟩⟩ : zj6)])))
def zmj : Nat → Nat → Int → Int → Int → Int → Bool → (List Int) → Bool → Int → Bool → (List zj5) → (List zj6) → Option (Nat × Int × Int × Int × Int × Bool × (List Int) × Bool × Int × Bool × (List zj5) × (List zj6))
 | 0, _, _, _, _, _, _, _, _, _, _, _, _ => none
 | q + 1, h2_2len, h2_5, h2_6, h2_7, h2_8, h2_9z, h2_9l, h2_10, h2_11, h2_12z, h2_12l, h6l => (some (h2_2len, h2_5, h2_6, h2_7, h2_8, h2_9z, h2_9l, h2_10, h2_11, h2_12z, h2_12l, h6l))
def zmk : Nat → Nat → Int → Int → Int → Int → Bool → (List Int) → Bool → Int → Bool → (List zj5) → (List zj6) → Option (Nat × Int × Int × Int × Int × Bool × (List Int) × Bool × Int × Bool × (List zj5) × (List zj6))
 | 0, _, _, _, _, _, _, _, _, _, _, _, _ => none
 | q + 1, h2_2len, h2_5, h2_6, h2_7, h2_8, h2_9z, h2_9l, h2_10, h2_11, h2_12z, h2_12l, h6l => ((zke q 0).bind fun r5 => (zmj q h2_2len h2_5 h2_6 h2_7 h2_8 h2_9z h2_9l h2_10 h2_11 h2_12z h2_12l h6l))
def zml : Nat → Option (Nat × Int × Int × Int × Int × Bool × (List Int) × Bool × Int × Bool × (List zj5) × (List zj6))
 | 0 => none
 | q + 1 => ((zmi q).bind fun r1 => ((zkf q ⟨false, r1.2.2⟩).bind fun r2 => ((zki q r2.1).bind fun r3 => (if r3.Index < r1.2.1 then none else (if (wrp .i64 (r1.2.1 + 0)) < r3.Index then none else (if 0 ≤ (wrp .i64 (r3.Index - r1.2.1)) then (if (wrp .i64 (r3.Index - r1.2.1)) ≤ 0 then ((zle q r3 ⟨true, []⟩).bind fun r4 => (if r4.2 = 0 then (zmk q r1.1 r1.2.1 (wrp .i64 (r1.2.1 + 0)) r4.1.Index r4.1.State.Kind r4.1.State.L.z r4.1.State.L.l r4.1.State.Sealed r4.1.State.To r4.1.Table.z r4.1.Table.l r1.2.2) else none)) else none) else none))))))
def zmm : Nat → Nat → Int → Int → Int → Int → Bool → (List Int) → Bool → Int → Bool → (List zj5) → (List zj6) → (List zj8) → Bool → (List Int) → Bool → (List Int) → Bool → Bool → (List Int) → Bool → Option (Unit)
 | 0, _, _, _, _, _, _, _, _, _, _, _, _, _, _, _, _, _, _, _, _, _ => none
 | q + 1, h2_2len, h2_5, h2_6, h2_7, h2_8, h2_9z, h2_9l, h2_10, h2_11, h2_12z, h2_12l, h6l, h9l, h10z, h10l, h11z, h11l, h11x, h12z, h12l, h12x => (some ())
def zmn : Nat → Nat → Int → Int → Int → Int → Bool → (List Int) → Bool → Int → Bool → (List zj5) → (List zj6) → (List zj8) → Bool → (List Int) → Bool → (List Int) → Bool → Bool → (List Int) → Bool → Option (Unit)
 | 0, _, _, _, _, _, _, _, _, _, _, _, _, _, _, _, _, _, _, _, _, _ => none
 | q + 1, h2_2len, h2_5, h2_6, h2_7, h2_8, h2_9z, h2_9l, h2_10, h2_11, h2_12z, h2_12l, h6l, h9l, h10z, h10l, h11z, h11l, h11x, h12z, h12l, h12x => (zmm q h2_2len h2_5 h2_6 h2_7 h2_8 h2_9z h2_9l h2_10 h2_11 h2_12z h2_12l h6l h9l h10z h10l h11z h11l h11x h12z h12l h12x)
def zmo : Nat → Nat → Int → Int → Int → Int → Bool → (List Int) → Bool → Int → Bool → (List zj5) → (List zj6) → (List zj8) → Bool → (List Int) → Bool → (List Int) → Bool → Bool → (List Int) → Bool → Option (Unit)
 | 0, _, _, _, _, _, _, _, _, _, _, _, _, _, _, _, _, _, _, _, _, _ => none
 | q + 1, h2_2len, h2_5, h2_6, h2_7, h2_8, h2_9z, h2_9l, h2_10, h2_11, h2_12z, h2_12l, h6l, h9l, h10z, h10l, h11z, h11l, h11x, h12z, h12l, h12x => ((zmn q h2_2len h2_5 h2_6 h2_7 h2_8 h2_9z h2_9l h2_10 h2_11 h2_12z h2_12l h6l h9l h10z h10l h11z h11l h11x h12z h12l h12x).bind fun r1 => (some ()))
def zmp : Nat → Option (Bool)
 | 0 => none
 | q + 1 => ((zml q).bind fun r1 => ((zlo q ⟨false, [(⟨(wrp .i64 (r1.2.1 + 0)), 0, (wrp .i64 ((wrp .i64 (r1.2.1 + 0)) + 1)), (⟨1, 5, 0⟩ : zj7), 0⟩ : zj8)]⟩).bind fun r2 => (if r2.2 = 0 then ((zl4 q ⟨r2.1.n, r2.1.xs⟩).bind fun r3 => ((zl7 q 3 0 (wrp .i64 (r1.2.1 + 0))).bind fun r4 => ((zmo q r1.1 r1.2.1 r1.2.2.1 r1.2.2.2.1 r1.2.2.2.2.1 r1.2.2.2.2.2.1 r1.2.2.2.2.2.2.1 r1.2.2.2.2.2.2.2.1 r1.2.2.2.2.2.2.2.2.1 r1.2.2.2.2.2.2.2.2.2.1 r1.2.2.2.2.2.2.2.2.2.2.1 r1.2.2.2.2.2.2.2.2.2.2.2 [(⟨(wrp .i64 (r1.2.1 + 0)), 0, (wrp .i64 ((wrp .i64 (r1.2.1 + 0)) + 1)), (⟨1, 5, 0⟩ : zj7), 0⟩ : zj8)] r2.1.n r2.1.xs r3.1.n r3.1.xs r3.1.x r4.1.n r4.1.xs r4.1.x).bind fun r5 => ((zl8 q ⟨true, []⟩).bind fun r6 => (if r6.2 = true then none else (if (r4.1.xs.length + r3.1.xs.length) ≤ 4294967296 then ((zl9 q 2).bind fun r7 => (if r7 = true then (if 10000 < (wrp .i64 (0 + (((r4.1.xs.length + r3.1.xs.length) : Nat) : Int))) then none else ((zle q (⟨r1.2.2.2.1, (⟨r1.2.2.2.2.1, ⟨r1.2.2.2.2.2.1, r1.2.2.2.2.2.2.1⟩, r1.2.2.2.2.2.2.2.1, r1.2.2.2.2.2.2.2.2.1⟩ : zj4), ⟨r1.2.2.2.2.2.2.2.2.2.1, r1.2.2.2.2.2.2.2.2.2.2.1⟩⟩ : zj6) ⟨false, [(⟨(wrp .i64 (r1.2.1 + 0)), 0, (wrp .i64 ((wrp .i64 (r1.2.1 + 0)) + 1)), (⟨1, 5, 0⟩ : zj7), 0⟩ : zj8)]⟩).bind fun r8 => ((zki q r8.1).bind fun r9 => (if (r9.State.L.l.length : Int) = 1 then ((r9.State.L.l[0]?).bind fun e10 => (some (decide (e10 = 5)))) else none)))) else none)) else none)))))) else none)))
def zmq : Nat → Bool → (List Int) → Int → Int → Option (Bool)
 | 0, _, _, _, _ => none
 | q + 1, v0z, v0l, v1, v5 => (if v5 < (v0l.length : Int) then (if 0 ≤ v5 then ((v0l[v5.toNat]?).bind fun e1 => (if e1 < 0 then (some false) else (if 255 < e1 then (some false) else (if 0 < v5 then (if 0 ≤ (wrp .i64 (v5 - 2)) then ((v0l[(wrp .i64 (v5 - 2)).toNat]?).bind fun e2 => (if e1 ≤ e2 then (some false) else (if 0 ≤ (wrp .i64 (v5 + 1)) then ((v0l[(wrp .i64 (v5 + 1)).toNat]?).bind fun e3 => (if e3 < v1 then (some false) else (if 1099511627776 < e3 then (some false) else (zmq q v0z v0l v1 (wrp .i64 (v5 + 2)))))) else none))) else none) else (if 0 ≤ (wrp .i64 (v5 + 1)) then ((v0l[(wrp .i64 (v5 + 1)).toNat]?).bind fun e4 => (if e4 < v1 then (some false) else (if 1099511627776 < e4 then (some false) else (zmq q v0z v0l v1 (wrp .i64 (v5 + 2)))))) else none))))) else none) else (some true))
def zmr : Nat → (Sl Int) → Int → Option (Bool)
 | 0, _, _ => none
 | q + 1, a0, a1 => (if (Int.tmod (a0.l.length : Int) 2) = 0 then (if 128 < (a0.l.length : Int) then (some false) else (zmq q a0.z a0.l a1 0)) else (some false))
def zms : Nat → Int → Option (Int)
 | 0, _ => none
 | q + 1, a0 => (if a0 < (-1099511627776) then (some (-1099511627776)) else (if 1099511627776 < a0 then (some 1099511627776) else (some a0)))
def zmt : Nat → Int → Int → Bool → (List Int) → Bool → Int → Option (Bool)
 | 0, _, _, _, _, _, _ => none
 | q + 1, v3, h0_0, h0_1z, h0_1l, h0_2, h0_3 => (if v3 < (h0_1l.length : Int) then (if 0 ≤ v3 then ((h0_1l[v3.toNat]?).bind fun e5 => ((zms q e5).bind fun r6 => (if e5 = r6 then (zmt q (wrp .i64 (v3 + 1)) h0_0 h0_1z h0_1l h0_2 h0_3) else (some false)))) else none) else (some true))
def zmu : Nat → zj4 → Option (Bool)
 | 0, _ => none
 | q + 1, a0 => (if a0.To < 0 then (some false) else (if 2 < a0.To then (some false) else (if a0.Sealed = true then (if a0.Kind < 0 then (some false) else (if 6 ≤ a0.Kind then (some false) else (if a0.Kind = 4 then ((zmr q a0.L (-1099511627776)).bind fun r1 => (some r1)) else (if a0.Kind = 5 then ((zmr q a0.L 0).bind fun r2 => (some r2)) else (if 64 < (a0.L.l.length : Int) then (some false) else (if (a0.L.l.length : Int) = 1 then (zmt q 0 a0.Kind a0.L.z a0.L.l a0.Sealed a0.To) else (if a0.Kind ≤ 1 then (some false) else (zmt q 0 a0.Kind a0.L.z a0.L.l a0.Sealed a0.To)))))))) else (if a0.To = 0 then (if a0.Kind < 0 then (some false) else (if 6 ≤ a0.Kind then (some false) else (if a0.Kind = 4 then ((zmr q a0.L (-1099511627776)).bind fun r3 => (some r3)) else (if a0.Kind = 5 then ((zmr q a0.L 0).bind fun r4 => (some r4)) else (if 64 < (a0.L.l.length : Int) then (some false) else (if (a0.L.l.length : Int) = 1 then (zmt q 0 a0.Kind a0.L.z a0.L.l a0.Sealed a0.To) else (if a0.Kind ≤ 1 then (some false) else (zmt q 0 a0.Kind a0.L.z a0.L.l a0.Sealed a0.To)))))))) else (some false)))))
def zmv : Nat → Bool → (List zj5) → Int → Option (Bool)
 | 0, _, _, _ => none
 | q + 1, v0z, v0l, v3 => (if v3 < (v0l.length : Int) then (if 0 ≤ v3 then ((v0l[v3.toNat]?).bind fun e1 => (if e1.Proc < 0 then (some false) else (if 64 < e1.Proc then (some false) else (if e1.Seq < 0 then (some false) else (if 4611686018427387904 ≤ e1.Seq then (some false) else (if e1.Resp < (-1125899906842624) then (some false) else (if 1125899906842624 < e1.Resp then (some false) else (if 0 < v3 then (if 0 ≤ (wrp .i64 (v3 - 1)) then ((v0l[(wrp .i64 (v3 - 1)).toNat]?).bind fun e2 => (if e1.Proc ≤ e2.Proc then (some false) else (zmv q v0z v0l (wrp .i64 (v3 + 1))))) else none) else (zmv q v0z v0l (wrp .i64 (v3 + 1))))))))))) else none) else (some true))
def zmw : Nat → (Sl zj5) → Option (Bool)
 | 0, _ => none
 | q + 1, a0 => (zmv q a0.z a0.l 0)
def zmx : Nat → zj6 → Option (Bool)
 | 0, _ => none
 | q + 1, a0 => ((zmu q a0.State).bind fun r1 => ((zmw q a0.Table).bind fun r2 => (if r1 = true then (if r2 = true then (if 0 ≤ a0.Index then (some (decide (a0.Index < 4611686018427387904))) else (some false)) else (some false)) else (some false))))
def zmy : Nat → zj5 → Option (Bool)
 | 0, _ => none
 | q + 1, a0 => (if 0 ≤ a0.Proc then (if a0.Proc ≤ 64 then (if 0 ≤ a0.Seq then (if a0.Seq < 4611686018427387904 then (if (-1125899906842624) ≤ a0.Resp then (some (decide (a0.Resp ≤ 1125899906842624))) else (some false)) else (some false)) else (some false)) else (some false)) else (some false))
def zmz : Nat → Bool → (List zj5) → Bool → (List zj5) → Int → Int → Option (Bool)
 | 0, _, _, _, _, _, _ => none
 | q + 1, v0z, v0l, v5z, v5l, v6, v7 => (if v7 < v6 then (if 0 ≤ v7 then ((v5l[v7.toNat]?).bind fun e1 => ((zmy q e1).bind fun r2 => (if r2 = true then (if 0 < v7 then (if 0 ≤ (wrp .i64 (v7 - 1)) then ((v0l[(wrp .i64 (v7 - 1)).toNat]?).bind fun e3 => (if e1.Proc ≤ e3.Proc then (some false) else (zmz q v0z v0l v5z v5l v6 (wrp .i64 (v7 + 1))))) else none) else (zmz q v0z v0l v5z v5l v6 (wrp .i64 (v7 + 1)))) else (some false)))) else none) else (some true))
def zm0 : Nat → (Sl zj5) → Option (Bool)
 | 0, _ => none
 | q + 1, a0 => (zmz q a0.z a0.l a0.z a0.l (a0.l.length : Int) 0)
def zm1 : Nat → zj6 → Option (Bool)
 | 0, _ => none
 | q + 1, a0 => (if 0 ≤ a0.Index then (if a0.Index < 4611686018427387904 then ((zkr q a0.State).bind fun r1 => (if r1 = true then ((zm0 q a0.Table).bind fun r2 => (some r2)) else (some false))) else (some false)) else (some false))
def zm2 : Nat → Bool → (List zj5) → Int → Int → Int → Option (Int)
 | 0, _, _, _, _, _ => none
 | q + 1, v0z, v0l, v7, v8, h0_0 => (if v8 < v7 then (if 0 ≤ v8 then ((v0l[v8.toNat]?).bind fun e1 => (if e1.Proc = h0_0 then (some v8) else (zm2 q v0z v0l v7 (wrp .i64 (v8 + 1)) h0_0))) else none) else (some (-1)))
def zm3 : Nat → Bool → (List zj5) → Int → Option (Int)
 | 0, _, _, _ => none
 | q + 1, v0z, v0l, h0_0 => (zm2 q v0z v0l (v0l.length : Int) 0 h0_0)
def zm4 : Nat → (Sl zj5) → Int → Option (Int)
 | 0, _, _ => none
 | q + 1, a0, a1 => ((zm3 q a0.z a0.l a1).bind fun r1 => (some r1))
def zm5 : Nat → Bool → (List Int) → Bool → (List Int) → Int → Option (Int)
 | 0, _, _, _, _, _ => none
 | q + 1, v0z, v0l, v1z, v1l, v5 => (if v5 < (v0l.length : Int) then (if v5 < (v1l.length : Int) then (if 0 ≤ v5 then ((v0l[v5.toNat]?).bind fun e1 => ((v1l[v5.toNat]?).bind fun e2 => (if e1 = e2 then (zm5 q v0z v0l v1z v1l (wrp .i64 (v5 + 1))) else (some v5)))) else none) else (some v5)) else (some v5))
def zm6 : Nat → (Sl Int) → (Sl Int) → Option (Int)
 | 0, _, _ => none
 | q + 1, a0, a1 => (zm5 q a0.z a0.l a1.z a1.l 0)
def zm7 : Nat → Bool → (List Int) → Bool → (List Int) → Int → Option (Int)
 | 0, _, _, _, _, _ => none
 | q + 1, v0z, v0l, v1z, v1l, v5 => (if v5 < (v0l.length : Int) then (if v5 < (v1l.length : Int) then (if 0 ≤ (wrp .i64 ((wrp .i64 ((v0l.length : Int) - 1)) - v5)) then ((v0l[(wrp .i64 ((wrp .i64 ((v0l.length : Int) - 1)) - v5)).toNat]?).bind fun e1 => (if 0 ≤ (wrp .i64 ((wrp .i64 ((v1l.length : Int) - 1)) - v5)) then ((v1l[(wrp .i64 ((wrp .i64 ((v1l.length : Int) - 1)) - v5)).toNat]?).bind fun e2 => (if e1 = e2 then (zm7 q v0z v0l v1z v1l (wrp .i64 (v5 + 1))) else (some v5))) else none)) else none) else (some v5)) else (some v5))
def zm8 : Nat → (Sl Int) → (Sl Int) → Option (Int)
 | 0, _, _ => none
 | q + 1, a0, a1 => (zm7 q a0.z a0.l a1.z a1.l 0)
def zm9 : Nat → Bool → (List zj5) → Int → Int → Int → Int → Bool → (List Int) → Bool → Int → Bool → (List zj5) → Int → Int → Bool → (List Int) → Bool → Int → Bool → (List zj5) → Option (Int)
 | 0, _, _, _, _, _, _, _, _, _, _, _, _, _, _, _, _, _, _, _, _ => none
 | q + 1, v0z, v0l, v7, v8, h0_0, h0_1, h0_2z, h0_2l, h0_3, h0_4, h0_5z, h0_5l, h1_0, h1_1, h1_2z, h1_2l, h1_3, h1_4, h1_5z, h1_5l => (if v8 < v7 then (if 0 ≤ v8 then ((v0l[v8.toNat]?).bind fun e1 => ((zm4 q ⟨h1_5z, h1_5l⟩ e1.Proc).bind fun r2 => (if r2 < 0 then (some v8) else (zm9 q v0z v0l v7 (wrp .i64 (v8 + 1)) h0_0 h0_1 h0_2z h0_2l h0_3 h0_4 h0_5z h0_5l h1_0 h1_1 h1_2z h1_2l h1_3 h1_4 h1_5z h1_5l)))) else none) else (some (-1)))
def zna : Nat → Bool → (List zj5) → Int → Int → Bool → (List Int) → Bool → Int → Bool → (List zj5) → Int → Int → Bool → (List Int) → Bool → Int → Bool → (List zj5) → Option (Int)
 | 0, _, _, _, _, _, _, _, _, _, _, _, _, _, _, _, _, _, _ => none
 | q + 1, v0z, v0l, h0_0, h0_1, h0_2z, h0_2l, h0_3, h0_4, h0_5z, h0_5l, h1_0, h1_1, h1_2z, h1_2l, h1_3, h1_4, h1_5z, h1_5l => (zm9 q v0z v0l (v0l.length : Int) 0 h0_0 h0_1 h0_2z h0_2l h0_3 h0_4 h0_5z h0_5l h1_0 h1_1 h1_2z h1_2l h1_3 h1_4 h1_5z h1_5l)
def znb : Nat → Bool → (List zj5) → Int → Int → Int → Int → Bool → (List Int) → Bool → Int → Bool → (List zj5) → Int → Int → Int → Int → Bool → Int → Bool → (List Int) → Bool → (List zj5) → Option (zj9 × Int)
 | 0, _, _, _, _, _, _, _, _, _, _, _, _, _, _, _, _, _, _, _, _, _, _ => none
 | q + 1, v89z, v89l, v90, v91, h0_0, h0_1, h0_2z, h0_2l, h0_3, h0_4, h0_5z, h0_5l, h2_0, h2_1, h2_2, h2_3, h2_5, h2_6, h3z, h3l, h3x, h4l => (if v91 < v90 then (if 0 ≤ v91 then ((v89l[v91.toNat]?).bind fun e10 => ((zm4 q ⟨h0_5z, h0_5l⟩ e10.Proc).bind fun r11 => (if r11 < 0 then (if (h4l.length + 1) ≤ 4294967296 then (znb q v89z v89l v90 (wrp .i64 (v91 + 1)) h0_0 h0_1 h0_2z h0_2l h0_3 h0_4 h0_5z h0_5l h2_0 h2_1 h2_2 h2_3 h2_5 h2_6 h3z h3l h3x (h4l ++ [e10])) else none) else (if 0 ≤ r11 then ((h0_5l[r11.toNat]?).bind fun e12 => (if e12.Proc = e10.Proc then (if e12.Seq = e10.Seq then (if e12.Resp = e10.Resp then (znb q v89z v89l v90 (wrp .i64 (v91 + 1)) h0_0 h0_1 h0_2z h0_2l h0_3 h0_4 h0_5z h0_5l h2_0 h2_1 h2_2 h2_3 h2_5 h2_6 h3z h3l h3x h4l) else (if (h4l.length + 1) ≤ 4294967296 then (znb q v89z v89l v90 (wrp .i64 (v91 + 1)) h0_0 h0_1 h0_2z h0_2l h0_3 h0_4 h0_5z h0_5l h2_0 h2_1 h2_2 h2_3 h2_5 h2_6 h3z h3l h3x (h4l ++ [e10])) else none)) else (if (h4l.length + 1) ≤ 4294967296 then (znb q v89z v89l v90 (wrp .i64 (v91 + 1)) h0_0 h0_1 h0_2z h0_2l h0_3 h0_4 h0_5z h0_5l h2_0 h2_1 h2_2 h2_3 h2_5 h2_6 h3z h3l h3x (h4l ++ [e10])) else none)) else (if (h4l.length + 1) ≤ 4294967296 then (znb q v89z v89l v90 (wrp .i64 (v91 + 1)) h0_0 h0_1 h0_2z h0_2l h0_3 h0_4 h0_5z h0_5l h2_0 h2_1 h2_2 h2_3 h2_5 h2_6 h3z h3l h3x (h4l ++ [e10])) else none))) else none)))) else none) else (some ((⟨h2_0, h2_1, h2_2, h2_3, ⟨h3z, h3l⟩, h2_5, h2_6, ⟨false, h4l⟩⟩ : zj9), 0)))
def znc : Nat → Bool → (List zj5) → Int → Int → Int → Int → Bool → (List Int) → Bool → Int → Bool → (List zj5) → Int → Int → Int → Int → Bool → Int → Bool → (List Int) → Bool → Option (zj9 × Int)
 | 0, _, _, _, _, _, _, _, _, _, _, _, _, _, _, _, _, _, _, _, _, _ => none
 | q + 1, v89z, v89l, v90, v91, h0_0, h0_1, h0_2z, h0_2l, h0_3, h0_4, h0_5z, h0_5l, h2_0, h2_1, h2_2, h2_3, h2_5, h2_6, h3z, h3l, h3x => (if v91 < v90 then (if 0 ≤ v91 then ((v89l[v91.toNat]?).bind fun e7 => ((zm4 q ⟨h0_5z, h0_5l⟩ e7.Proc).bind fun r8 => (if r8 < 0 then (znb q v89z v89l v90 (wrp .i64 (v91 + 1)) h0_0 h0_1 h0_2z h0_2l h0_3 h0_4 h0_5z h0_5l h2_0 h2_1 h2_2 h2_3 h2_5 h2_6 h3z h3l h3x [e7]) else (if 0 ≤ r8 then ((h0_5l[r8.toNat]?).bind fun e9 => (if e9.Proc = e7.Proc then (if e9.Seq = e7.Seq then (if e9.Resp = e7.Resp then (znc q v89z v89l v90 (wrp .i64 (v91 + 1)) h0_0 h0_1 h0_2z h0_2l h0_3 h0_4 h0_5z h0_5l h2_0 h2_1 h2_2 h2_3 h2_5 h2_6 h3z h3l h3x) else (znb q v89z v89l v90 (wrp .i64 (v91 + 1)) h0_0 h0_1 h0_2z h0_2l h0_3 h0_4 h0_5z h0_5l h2_0 h2_1 h2_2 h2_3 h2_5 h2_6 h3z h3l h3x [e7])) else (znb q v89z v89l v90 (wrp .i64 (v91 + 1)) h0_0 h0_1 h0_2z h0_2l h0_3 h0_4 h0_5z h0_5l h2_0 h2_1 h2_2 h2_3 h2_5 h2_6 h3z h3l h3x [e7])) else (znb q v89z v89l v90 (wrp .i64 (v91 + 1)) h0_0 h0_1 h0_2z h0_2l h0_3 h0_4 h0_5z h0_5l h2_0 h2_1 h2_2 h2_3 h2_5 h2_6 h3z h3l h3x [e7]))) else none)))) else none) else (some ((⟨h2_0, h2_1, h2_2, h2_3, ⟨h3z, h3l⟩, h2_5, h2_6, ⟨true, []⟩⟩ : zj9), 0)))
def znd : Nat → zj6 → zj6 → Option (zj9 × Int)
 | 0, _, _ => none
 | q + 1, a0, a1 => ((zm1 q a0).bind fun r1 => (if r1 = true then ((zm1 q a1).bind fun r2 => (if r2 = true then (if a0.State.Kind = a1.State.Kind then (if a1.Index < a0.Index then (some ((⟨0, 0, 0, 0, ⟨true, []⟩, false, 0, ⟨true, []⟩⟩ : zj9), 15)) else ((zna q a0.Table.z a0.Table.l a0.Index a0.State.Kind a0.State.L.z a0.State.L.l a0.State.Sealed a0.State.To a0.Table.z a0.Table.l a1.Index a1.State.Kind a1.State.L.z a1.State.L.l a1.State.Sealed a1.State.To a1.Table.z a1.Table.l).bind fun r3 => (if 0 ≤ r3 then (some ((⟨0, 0, 0, 0, ⟨true, []⟩, false, 0, ⟨true, []⟩⟩ : zj9), 15)) else ((zm6 q a0.State.L a1.State.L).bind fun r4 => (if 0 ≤ r4 then (if r4 ≤ (a0.State.L.l.length : Int) then (if r4 ≤ (a1.State.L.l.length : Int) then ((zm8 q ⟨a0.State.L.z, (List.drop r4.toNat a0.State.L.l)⟩ ⟨a1.State.L.z, (List.drop r4.toNat a1.State.L.l)⟩).bind fun r5 => (if 0 ≤ (wrp .i64 ((((a1.State.L.l.length - r4.toNat) : Nat) : Int) - r5)) then (if (wrp .i64 ((((a1.State.L.l.length - r4.toNat) : Nat) : Int) - r5)).toNat ≤ (a1.State.L.l.length - r4.toNat) then ((zkg q ⟨a1.State.L.z, (List.take ((wrp .i64 ((((a1.State.L.l.length - r4.toNat) : Nat) : Int) - r5)).toNat) (List.drop r4.toNat a1.State.L.l))⟩).bind fun r6 => (znc q a1.Table.z a1.Table.l (a1.Table.l.length : Int) 0 a0.Index a0.State.Kind a0.State.L.z a0.State.L.l a0.State.Sealed a0.State.To a0.Table.z a0.Table.l a0.Index a1.Index r4 r5 a1.State.Sealed a1.State.To r6.n r6.xs r6.x)) else none) else none)) else none) else none) else none))))) else (some ((⟨0, 0, 0, 0, ⟨true, []⟩, false, 0, ⟨true, []⟩⟩ : zj9), 1))) else (some ((⟨0, 0, 0, 0, ⟨true, []⟩, false, 0, ⟨true, []⟩⟩ : zj9), 1)))) else (some ((⟨0, 0, 0, 0, ⟨true, []⟩, false, 0, ⟨true, []⟩⟩ : zj9), 1))))
def zne : Nat → Int → Option (Bool)
 | 0, _ => none
 | q + 1, a0 => (if a0 < 0 then (some true) else (some (decide (4611686018427387904 ≤ a0))))
def znf : Nat → Bool → (List Int) → Int → Int → Option (Int)
 | 0, _, _, _, _ => none
 | q + 1, v0z, v0l, v7, v8 => (if v8 < v7 then (if 0 ≤ v8 then ((v0l[v8.toNat]?).bind fun e1 => ((zne q e1).bind fun r2 => (if r2 = true then (some v8) else (znf q v0z v0l v7 (wrp .i64 (v8 + 1)))))) else none) else (some (-1)))
def zng : Nat → Bool → (List Int) → Option (Int)
 | 0, _, _ => none
 | q + 1, v0z, v0l => (znf q v0z v0l (v0l.length : Int) 0)
def znh : Nat → (Sl Int) → Option (Bool)
 | 0, _ => none
 | q + 1, a0 => ((zng q a0.z a0.l).bind fun r1 => (some (!(decide (0 ≤ r1)))))
def zni : Nat → Int → Option (Bool)
 | 0, _ => none
 | q + 1, a0 => (if a0 < (-1099511627776) then (some true) else (some (decide (1099511627776 < a0))))
def znj : Nat → Bool → (List zj5) → Bool → (List zj5) → Int → Int → Option (Bool)
 | 0, _, _, _, _, _, _ => none
 | q + 1, v0z, v0l, v5z, v5l, v6, v7 => (if v7 < v6 then (if 0 ≤ v7 then ((v5l[v7.toNat]?).bind fun e1 => ((znh q ⟨false, [e1.Proc, e1.Seq]⟩).bind fun r2 => (if r2 = true then (if 64 < e1.Proc then (some false) else (if e1.Resp < (-1125899906842624) then (some false) else (if 1125899906842624 < e1.Resp then (some false) else (if 0 < v7 then (if 0 ≤ (wrp .i64 (v7 - 1)) then ((v0l[(wrp .i64 (v7 - 1)).toNat]?).bind fun e3 => (if e1.Proc ≤ e3.Proc then (some false) else (znj q v0z v0l v5z v5l v6 (wrp .i64 (v7 + 1))))) else none) else (znj q v0z v0l v5z v5l v6 (wrp .i64 (v7 + 1))))))) else (some false)))) else none) else (some true))
def znk : Nat → (Sl zj5) → Option (Bool)
 | 0, _ => none
 | q + 1, a0 => (znj q a0.z a0.l a0.z a0.l (a0.l.length : Int) 0)
def znl : Nat → Bool → (List Int) → Int → Int → Int → Int → Int → Int → Bool → (List Int) → Bool → Int → Bool → (List zj5) → (List Int) → Option (Int)
 | 0, _, _, _, _, _, _, _, _, _, _, _, _, _, _, _ => none
 | q + 1, v0z, v0l, v7, v8, h0_0, h0_1, h0_2, h0_3, h0_4z, h0_4l, h0_5, h0_6, h0_7z, h0_7l, h1l => (if v8 < v7 then (if 0 ≤ v8 then ((v0l[v8.toNat]?).bind fun e1 => ((zni q e1).bind fun r2 => (if r2 = true then (some v8) else (znl q v0z v0l v7 (wrp .i64 (v8 + 1)) h0_0 h0_1 h0_2 h0_3 h0_4z h0_4l h0_5 h0_6 h0_7z h0_7l h1l)))) else none) else (some (-1)))
def znm : Nat → Bool → (List Int) → Int → Int → Int → Int → Bool → (List Int) → Bool → Int → Bool → (List zj5) → (List Int) → Option (Int)
 | 0, _, _, _, _, _, _, _, _, _, _, _, _, _ => none
 | q + 1, v0z, v0l, h0_0, h0_1, h0_2, h0_3, h0_4z, h0_4l, h0_5, h0_6, h0_7z, h0_7l, h1l => (znl q v0z v0l (v0l.length : Int) 0 h0_0 h0_1 h0_2 h0_3 h0_4z h0_4l h0_5 h0_6 h0_7z h0_7l h1l)
def znn : Nat → zj9 → Option (Bool)
 | 0, _ => none
 | q + 1, a0 => ((znh q ⟨false, [a0.From, a0.To, a0.Ahead, a0.Behind]⟩).bind fun r1 => (if r1 = true then (if (a0.Mid.l.length : Int) ≤ 128 then ((znm q a0.Mid.z a0.Mid.l a0.From a0.To a0.Ahead a0.Behind a0.Mid.z a0.Mid.l a0.Sealed a0.Engine a0.Table.z a0.Table.l [a0.From, a0.To, a0.Ahead, a0.Behind]).bind fun r2 => (if 0 ≤ r2 then (some false) else (if 0 ≤ a0.Engine then (if a0.Engine < 3 then (if a0.Sealed = true then ((znk q a0.Table).bind fun r3 => (some r3)) else (if a0.Engine = 0 then ((znk q a0.Table).bind fun r4 => (some r4)) else (some false))) else (some false)) else (some false)))) else (some false)) else (some false)))
def zno : Nat → Bool → (List Int) → Int → Int → Bool → (List Int) → Bool → Option ((Ow Int))
 | 0, _, _, _, _, _, _, _ => none
 | q + 1, v7z, v7l, v8, v9, h1z, h1l, h1x => (if v9 < v8 then (if 0 ≤ v9 then ((v7l[v9.toNat]?).bind fun e3 => ((zlj q ⟨h1z, h1x, h1l⟩ e3).bind fun r4 => (zno q v7z v7l v8 (wrp .i64 (v9 + 1)) r4.n r4.xs r4.x))) else none) else (some ⟨h1z, h1x, h1l⟩))
def znp : Nat → Bool → (List Int) → Int → Bool → (List Int) → Bool → Option ((Ow Int))
 | 0, _, _, _, _, _, _ => none
 | q + 1, v7z, v7l, v8, h0z, h0l, h0x => (if 0 < v8 then ((v7l[0]?).bind fun e1 => ((zlj q ⟨h0z, h0x, h0l⟩ e1).bind fun r2 => (zno q v7z v7l v8 (wrp .i64 1) r2.n r2.xs r2.x))) else (some ⟨h0z, h0x, h0l⟩))
def znq : Nat → (Ow Int) → (Sl Int) → Option ((Ow Int))
 | 0, _, _ => none
 | q + 1, a0, a1 => (znp q a1.z a1.l (a1.l.length : Int) a0.n a0.xs a0.x)
def znr : Nat → Bool → (List zj5) → Int → Int → Bool → (List Int) → Bool → Option ((Ow Int) × Int)
 | 0, _, _, _, _, _, _, _ => none
 | q + 1, v50z, v50l, v51, v52, h0z, h0l, h0x => (if v52 < v51 then (if 0 ≤ v52 then ((v50l[v52.toNat]?).bind fun e7 => ((znq q ⟨h0z, h0x, h0l⟩ ⟨false, [e7.Proc, e7.Seq]⟩).bind fun r8 => ((zll q r8 e7.Resp).bind fun r9 => (znr q v50z v50l v51 (wrp .i64 (v52 + 1)) r9.n r9.xs r9.x)))) else none) else ((zl4 q ⟨h0z, h0l⟩).bind fun r10 => (some (r10.1, r10.2))))
def zns : Nat → Bool → (List Int) → Int → Int → Int → Int → Int → Int → Bool → (List Int) → Bool → Int → Bool → (List zj5) → Bool → (List Int) → Bool → Option ((Ow Int) × Int)
 | 0, _, _, _, _, _, _, _, _, _, _, _, _, _, _, _, _, _ => none
 | q + 1, v27z, v27l, v28, v29, h0_0, h0_1, h0_2, h0_3, h0_4z, h0_4l, h0_5, h0_6, h0_7z, h0_7l, h1z, h1l, h1x => (if v29 < v28 then (if 0 ≤ v29 then ((v27l[v29.toNat]?).bind fun e3 => ((zll q ⟨h1z, h1x, h1l⟩ e3).bind fun r4 => (zns q v27z v27l v28 (wrp .i64 (v29 + 1)) h0_0 h0_1 h0_2 h0_3 h0_4z h0_4l h0_5 h0_6 h0_7z h0_7l r4.n r4.xs r4.x))) else none) else (if h0_5 = true then ((znq q ⟨h1z, h1x, h1l⟩ ⟨false, [(wrp .i64 (1 + h0_6)), (h0_7l.length : Int)]⟩).bind fun r5 => (znr q h0_7z h0_7l (h0_7l.length : Int) 0 r5.n r5.xs r5.x)) else ((znq q ⟨h1z, h1x, h1l⟩ ⟨false, [0, (h0_7l.length : Int)]⟩).bind fun r6 => (znr q h0_7z h0_7l (h0_7l.length : Int) 0 r6.n r6.xs r6.x))))
def znt : Nat → zj9 → Option ((Ow Int) × Int)
 | 0, _ => none
 | q + 1, a0 => ((znn q a0).bind fun r1 => (if r1 = true then ((znq q ⟨true, true, []⟩ ⟨false, [a0.From, a0.To, a0.Ahead, a0.Behind, (a0.Mid.l.length : Int)]⟩).bind fun r2 => (zns q a0.Mid.z a0.Mid.l (a0.Mid.l.length : Int) 0 a0.From a0.To a0.Ahead a0.Behind a0.Mid.z a0.Mid.l a0.Sealed a0.Engine a0.Table.z a0.Table.l r2.n r2.xs r2.x)) else (some (⟨true, true, []⟩, 1))))
def znu : Nat → Int → Option (Bool)
 | 0, _ => none
 | q + 1, a0 => (some (decide (a0 < 128)))
def znv : Nat → Bool → (List Int) → Int → Int → Option (Int)
 | 0, _, _, _, _ => none
 | q + 1, v0z, v0l, v7, v8 => (if v8 < v7 then (if 0 ≤ v8 then ((v0l[v8.toNat]?).bind fun e1 => ((znu q e1).bind fun r2 => (if r2 = true then (some v8) else (znv q v0z v0l v7 (wrp .i64 (v8 + 1)))))) else none) else (some (-1)))
def znw : Nat → Bool → (List Int) → Option (Int)
 | 0, _, _ => none
 | q + 1, v0z, v0l => (znv q v0z v0l (v0l.length : Int) 0)
def znx : Nat → (Sl Int) → Option (Bool)
 | 0, _ => none
 | q + 1, a0 => (if (a0.l.length : Int) < 10 then ((znw q a0.z a0.l).bind fun r1 => (some (!(decide (0 ≤ r1))))) else (some false))
def zny : Nat → Bool → (List Int) → Int → Int → Int → Option (Int × Int)
 | 0, _, _, _, _, _ => none
 | q + 1, v0z, v0l, v4, v9, v10 => (if v10 < v9 then (if 0 ≤ v10 then ((v0l[v10.toNat]?).bind fun e1 => (if (wrp .i64 (7 * v10)) < 0 then none else (if v10 = 9 then (if 1 < e1 then (some (0, 0)) else (if e1 = 0 then (if 0 < v10 then (some (0, 0)) else (if e1 < 128 then (some ((ibits .or .u64 v4 (ishl .u64 (wrp .u64 (ibits .and .u8 e1 127)) (wrp .i64 (7 * v10)))), (wrp .i64 (v10 + 1)))) else (zny q v0z v0l (ibits .or .u64 v4 (ishl .u64 (wrp .u64 (ibits .and .u8 e1 127)) (wrp .i64 (7 * v10)))) v9 (wrp .i64 (v10 + 1))))) else (if e1 < 128 then (some ((ibits .or .u64 v4 (ishl .u64 (wrp .u64 (ibits .and .u8 e1 127)) (wrp .i64 (7 * v10)))), (wrp .i64 (v10 + 1)))) else (zny q v0z v0l (ibits .or .u64 v4 (ishl .u64 (wrp .u64 (ibits .and .u8 e1 127)) (wrp .i64 (7 * v10)))) v9 (wrp .i64 (v10 + 1)))))) else (if e1 = 0 then (if 0 < v10 then (some (0, 0)) else (if e1 < 128 then (some ((ibits .or .u64 v4 (ishl .u64 (wrp .u64 (ibits .and .u8 e1 127)) (wrp .i64 (7 * v10)))), (wrp .i64 (v10 + 1)))) else (zny q v0z v0l (ibits .or .u64 v4 (ishl .u64 (wrp .u64 (ibits .and .u8 e1 127)) (wrp .i64 (7 * v10)))) v9 (wrp .i64 (v10 + 1))))) else (if e1 < 128 then (some ((ibits .or .u64 v4 (ishl .u64 (wrp .u64 (ibits .and .u8 e1 127)) (wrp .i64 (7 * v10)))), (wrp .i64 (v10 + 1)))) else (zny q v0z v0l (ibits .or .u64 v4 (ishl .u64 (wrp .u64 (ibits .and .u8 e1 127)) (wrp .i64 (7 * v10)))) v9 (wrp .i64 (v10 + 1)))))))) else none) else (some (0, 0)))
def znz : Nat → (Sl Int) → Option (Int × Int)
 | 0, _ => none
 | q + 1, a0 => (zny q a0.z a0.l 0 (if 10 < (a0.l.length : Int) then 10 else (a0.l.length : Int)) 0)
def zn0 : Nat → (Sl Int) → Option (Int × Int)
 | 0, _ => none
 | q + 1, a0 => ((znz q a0).bind fun r1 => (if 4611686018427387904 ≤ r1.1 then (some (0, 0)) else (some ((wrp .i64 r1.1), r1.2))))
def zn1 : Nat → Bool → (List Int) → Bool → (List Int) → Int → Int → Option (Bool)
 | 0, _, _, _, _, _, _ => none
 | q + 1, v0z, v0l, v1z, v1l, v12, v13 => (if v13 < v12 then (if 0 ≤ v13 then ((v0l[v13.toNat]?).bind fun e1 => ((v1l[v13.toNat]?).bind fun e2 => (if e1 = e2 then (zn1 q v0z v0l v1z v1l v12 (wrp .i64 (v13 + 1))) else (some false)))) else none) else (some true))
def zn2 : Nat → (Sl Int) → (Sl Int) → Option (Bool)
 | 0, _, _ => none
 | q + 1, a0, a1 => (if (a0.l.length : Int) = (a1.l.length : Int) then (zn1 q a0.z a0.l a1.z a1.l (a0.l.length : Int) 0) else (some false))
def zn3 : Nat → (Sl Int) → Option ((Ow Int))
 | 0, _ => none
 | q + 1, a0 => (if a0.z = true then (some ⟨true, true, []⟩) else (if a0.l.length ≤ 4294967296 then (some ⟨false, true, a0.l⟩) else none))
def zn4 : Nat → (Sl Int) → Option ((Ow Int) × Int × Int)
 | 0, _ => none
 | q + 1, a0 => ((znx q a0).bind fun r1 => (if r1 = true then (some (⟨true, true, []⟩, 0, 2)) else ((zn0 q a0).bind fun r2 => (if r2.2 = 0 then (some (⟨true, true, []⟩, 0, 3)) else (if 1048576 < r2.1 then (some (⟨true, true, []⟩, 0, 5)) else (if (a0.l.length : Int) < (wrp .i64 ((wrp .i64 (r2.2 + 4)) + r2.1)) then (some (⟨true, true, []⟩, 0, 2)) else (if 0 ≤ r2.2 then (if r2.2 ≤ r2.2 then (if r2.2.toNat ≤ a0.l.length then (if 0 ≤ (wrp .i64 (r2.2 + r2.1)) then (if (wrp .i64 (r2.2 + r2.1)) ≤ (wrp .i64 (r2.2 + r2.1)) then (if (wrp .i64 (r2.2 + r2.1)).toNat ≤ a0.l.length then (if r2.2 ≤ (wrp .i64 (r2.2 + r2.1)) then (if (wrp .i64 (r2.2 + r2.1)) ≤ (wrp .i64 ((wrp .i64 (r2.2 + r2.1)) + 4)) then (if (wrp .i64 ((wrp .i64 (r2.2 + r2.1)) + 4)).toNat ≤ a0.l.length then ((zly q ⟨a0.z, (List.take r2.2.toNat a0.l)⟩ ⟨a0.z, (List.drop r2.2.toNat (List.take ((wrp .i64 (r2.2 + r2.1)).toNat) a0.l))⟩).bind fun r3 => ((zn2 q ⟨a0.z, (List.drop ((wrp .i64 (r2.2 + r2.1)).toNat) (List.take ((wrp .i64 ((wrp .i64 (r2.2 + r2.1)) + 4)).toNat) a0.l))⟩ ⟨r3.n, r3.xs⟩).bind fun r4 => (if r4 = true then ((zn3 q ⟨a0.z, (List.drop r2.2.toNat (List.take ((wrp .i64 (r2.2 + r2.1)).toNat) a0.l))⟩).bind fun r5 => (some (r5, (wrp .i64 ((wrp .i64 (r2.2 + r2.1)) + 4)), 0))) else (some (⟨true, true, []⟩, 0, 4))))) else none) else none) else none) else none) else none) else none) else none) else none) else none)))))))
def zn5 : Nat → Int → Option (Int)
 | 0, _ => none
 | q + 1, a0 => (some (ibits .xor .i64 (wrp .i64 (ishr .u64 a0 1)) (wrp .i64 (0 - (wrp .i64 (ibits .and .u64 a0 1))))))
def zn6 : Nat → (Sl Int) → Option (Int × Int)
 | 0, _ => none
 | q + 1, a0 => ((znz q a0).bind fun r1 => (if r1.2 = 0 then (some (0, 0)) else ((zn5 q r1.1).bind fun r2 => (some (r2, r1.2)))))
def zn7 : Nat → Int → Int → Int → Int → Bool → (List Int) → Bool → Int → Option (Int × Int × Int × Int × (List Int) × Bool × Int)
 | 0, _, _, _, _, _, _, _, _ => none
 | q + 1, h0_0, h0_1, h0_2, h0_3, h1_0z, h1_0l, h1_1, h2_0 => (some (h0_0, h0_1, h0_2, h0_3, h1_0l, h1_1, h2_0))
def zn8 : Nat → Int → Int → Int → Int → Bool → (List Int) → Bool → Option (Int × Int × Int × Int × (List Int) × Bool × Int)
 | 0, _, _, _, _, _, _, _ => none
 | q + 1, h0_0, h0_1, h0_2, h0_3, h1_0z, h1_0l, h1_1 => ((zn0 q ⟨h1_0z, h1_0l⟩).bind fun r5 => (if h1_1 = true then (if 0 ≤ r5.2 then (if r5.2 ≤ (h1_0l.length : Int) then (zn7 q h0_0 h0_1 h0_2 h0_3 h1_0z (List.drop r5.2.toNat h1_0l) (decide (0 < r5.2)) r5.1) else none) else none) else (if 0 ≤ r5.2 then (if r5.2 ≤ (h1_0l.length : Int) then (zn7 q h0_0 h0_1 h0_2 h0_3 h1_0z (List.drop r5.2.toNat h1_0l) false r5.1) else none) else none)))
def zn9 : Nat → Int → Int → Int → Bool → (List Int) → Bool → Option (Int × Int × Int × Int × (List Int) × Bool × Int)
 | 0, _, _, _, _, _, _ => none
 | q + 1, h0_0, h0_1, h0_2, h1_0z, h1_0l, h1_1 => ((zn0 q ⟨h1_0z, h1_0l⟩).bind fun r4 => (if h1_1 = true then (if 0 ≤ r4.2 then (if r4.2 ≤ (h1_0l.length : Int) then (zn8 q h0_0 h0_1 h0_2 r4.1 h1_0z (List.drop r4.2.toNat h1_0l) (decide (0 < r4.2))) else none) else none) else (if 0 ≤ r4.2 then (if r4.2 ≤ (h1_0l.length : Int) then (zn8 q h0_0 h0_1 h0_2 r4.1 h1_0z (List.drop r4.2.toNat h1_0l) false) else none) else none)))
def zoa : Nat → Int → Int → Bool → (List Int) → Bool → Option (Int × Int × Int × Int × (List Int) × Bool × Int)
 | 0, _, _, _, _, _ => none
 | q + 1, h0_0, h0_1, h1_0z, h1_0l, h1_1 => ((zn0 q ⟨h1_0z, h1_0l⟩).bind fun r3 => (if h1_1 = true then (if 0 ≤ r3.2 then (if r3.2 ≤ (h1_0l.length : Int) then (zn9 q h0_0 h0_1 r3.1 h1_0z (List.drop r3.2.toNat h1_0l) (decide (0 < r3.2))) else none) else none) else (if 0 ≤ r3.2 then (if r3.2 ≤ (h1_0l.length : Int) then (zn9 q h0_0 h0_1 r3.1 h1_0z (List.drop r3.2.toNat h1_0l) false) else none) else none)))
def zob : Nat → Int → Bool → (List Int) → Bool → Option (Int × Int × Int × Int × (List Int) × Bool × Int)
 | 0, _, _, _, _ => none
 | q + 1, h0_0, h1_0z, h1_0l, h1_1 => ((zn0 q ⟨h1_0z, h1_0l⟩).bind fun r2 => (if h1_1 = true then (if 0 ≤ r2.2 then (if r2.2 ≤ (h1_0l.length : Int) then (zoa q h0_0 r2.1 h1_0z (List.drop r2.2.toNat h1_0l) (decide (0 < r2.2))) else none) else none) else (if 0 ≤ r2.2 then (if r2.2 ≤ (h1_0l.length : Int) then (zoa q h0_0 r2.1 h1_0z (List.drop r2.2.toNat h1_0l) false) else none) else none)))
def zoc : Nat → Bool → (List Int) → Option (Int × Int × Int × Int × (List Int) × Bool × Int)
 | 0, _, _ => none
 | q + 1, h1_0z, h1_0l => ((zn0 q ⟨h1_0z, h1_0l⟩).bind fun r1 => (if 0 ≤ r1.2 then (if r1.2 ≤ (h1_0l.length : Int) then (zob q r1.1 h1_0z (List.drop r1.2.toNat h1_0l) (decide (0 < r1.2))) else none) else none))
def zod : Nat → Bool → (List Int) → Option (Int × Int × Int × Int × (List Int) × Bool × Int)
 | 0, _, _ => none
 | q + 1, h1_0z, h1_0l => (zoc q h1_0z h1_0l)
def zoe : Nat → Int → Int → Int → Int → Bool → (List Int) → Bool → Int → Int → Option ((List Int) × Bool × Int × Int)
 | 0, _, _, _, _, _, _, _, _, _ => none
 | q + 1, h0_0, h0_1, h0_2, h0_3, h1_0z, h1_0l, h1_1, h2_0, h3_0 => (some (h1_0l, h1_1, h2_0, h3_0))
def zof : Nat → Int → Int → Int → Int → Bool → (List Int) → Bool → Int → Option ((List Int) × Bool × Int × Int)
 | 0, _, _, _, _, _, _, _, _ => none
 | q + 1, h0_0, h0_1, h0_2, h0_3, h1_0z, h1_0l, h1_1, h2_0 => ((zn0 q ⟨h1_0z, h1_0l⟩).bind fun r2 => (if h1_1 = true then (if 0 ≤ r2.2 then (if r2.2 ≤ (h1_0l.length : Int) then (zoe q h0_0 h0_1 h0_2 h0_3 h1_0z (List.drop r2.2.toNat h1_0l) (decide (0 < r2.2)) h2_0 r2.1) else none) else none) else (if 0 ≤ r2.2 then (if r2.2 ≤ (h1_0l.length : Int) then (zoe q h0_0 h0_1 h0_2 h0_3 h1_0z (List.drop r2.2.toNat h1_0l) false h2_0 r2.1) else none) else none)))
def zog : Nat → Int → Int → Int → Int → Bool → (List Int) → Bool → Option ((List Int) × Bool × Int × Int)
 | 0, _, _, _, _, _, _, _ => none
 | q + 1, h0_0, h0_1, h0_2, h0_3, h1_0z, h1_0l, h1_1 => ((zn0 q ⟨h1_0z, h1_0l⟩).bind fun r1 => (if h1_1 = true then (if 0 ≤ r1.2 then (if r1.2 ≤ (h1_0l.length : Int) then (zof q h0_0 h0_1 h0_2 h0_3 h1_0z (List.drop r1.2.toNat h1_0l) (decide (0 < r1.2)) r1.1) else none) else none) else (if 0 ≤ r1.2 then (if r1.2 ≤ (h1_0l.length : Int) then (zof q h0_0 h0_1 h0_2 h0_3 h1_0z (List.drop r1.2.toNat h1_0l) false r1.1) else none) else none)))
def zoh : Nat → Int → Int → Int → Int → Bool → (List Int) → Bool → Option ((List Int) × Bool × Int × Int)
 | 0, _, _, _, _, _, _, _ => none
 | q + 1, h0_0, h0_1, h0_2, h0_3, h1_0z, h1_0l, h1_1 => (zog q h0_0 h0_1 h0_2 h0_3 h1_0z h1_0l h1_1)
def zoi : Nat → Int → Int → Int → Int → Bool → (List Int) → Bool → Int → Int → (List Int) → Option (Nat × (List Int) × Bool × Int × Int)
 | 0, _, _, _, _, _, _, _, _, _, _ => none
 | q + 1, h0_0, h0_1, h0_2, h0_3, h1_0z, h1_0l, h1_1, h2_0, h3_0, h4l => (some (h4l.length, h1_0l, h1_1, h2_0, h3_0))
def zoj : Nat → Int → Int → Int → Int → Bool → (List Int) → Bool → Int → (List Int) → Option (Nat × (List Int) × Bool × Int × Int)
 | 0, _, _, _, _, _, _, _, _, _ => none
 | q + 1, h0_0, h0_1, h0_2, h0_3, h1_0z, h1_0l, h1_1, h2_0, h4l => ((zn0 q ⟨h1_0z, h1_0l⟩).bind fun r2 => (if h1_1 = true then (if 0 ≤ r2.2 then (if r2.2 ≤ (h1_0l.length : Int) then (zoi q h0_0 h0_1 h0_2 h0_3 h1_0z (List.drop r2.2.toNat h1_0l) (decide (0 < r2.2)) h2_0 r2.1 h4l) else none) else none) else (if 0 ≤ r2.2 then (if r2.2 ≤ (h1_0l.length : Int) then (zoi q h0_0 h0_1 h0_2 h0_3 h1_0z (List.drop r2.2.toNat h1_0l) false h2_0 r2.1 h4l) else none) else none)))
def zok : Nat → Int → Int → Int → Int → Bool → (List Int) → Bool → (List Int) → Option (Nat × (List Int) × Bool × Int × Int)
 | 0, _, _, _, _, _, _, _, _ => none
 | q + 1, h0_0, h0_1, h0_2, h0_3, h1_0z, h1_0l, h1_1, h4l => ((zn0 q ⟨h1_0z, h1_0l⟩).bind fun r1 => (if h1_1 = true then (if 0 ≤ r1.2 then (if r1.2 ≤ (h1_0l.length : Int) then (zoj q h0_0 h0_1 h0_2 h0_3 h1_0z (List.drop r1.2.toNat h1_0l) (decide (0 < r1.2)) r1.1 h4l) else none) else none) else (if 0 ≤ r1.2 then (if r1.2 ≤ (h1_0l.length : Int) then (zoj q h0_0 h0_1 h0_2 h0_3 h1_0z (List.drop r1.2.toNat h1_0l) false r1.1 h4l) else none) else none)))
def zol : Nat → Int → Int → Int → Int → Bool → (List Int) → Bool → (List Int) → Option (Nat × (List Int) × Bool × Int × Int)
 | 0, _, _, _, _, _, _, _, _ => none
 | q + 1, h0_0, h0_1, h0_2, h0_3, h1_0z, h1_0l, h1_1, h4l => (zok q h0_0 h0_1 h0_2 h0_3 h1_0z h1_0l h1_1 h4l)
def zom : Nat → Int → Int → Int → Int → Bool → Int → Bool → (List Int) → Bool → Int → Int → Int → Option ((List Int) × Bool × Int × Int)
 | 0, _, _, _, _, _, _, _, _, _, _, _, _ => none
 | q + 1, h0_0, h0_1, h0_2, h0_3, h0_5, h0_6, h1_0z, h1_0l, h1_1, h2_0, h3_0, h3_1 => (some (h1_0l, h1_1, h3_0, h3_1))
def zon : Nat → Int → Int → Int → Int → Bool → Int → Bool → (List Int) → Bool → Int → Int → Option ((List Int) × Bool × Int × Int)
 | 0, _, _, _, _, _, _, _, _, _, _, _ => none
 | q + 1, h0_0, h0_1, h0_2, h0_3, h0_5, h0_6, h1_0z, h1_0l, h1_1, h2_0, h3_0 => ((zn0 q ⟨h1_0z, h1_0l⟩).bind fun r2 => (if h1_1 = true then (if 0 ≤ r2.2 then (if r2.2 ≤ (h1_0l.length : Int) then (zom q h0_0 h0_1 h0_2 h0_3 h0_5 h0_6 h1_0z (List.drop r2.2.toNat h1_0l) (decide (0 < r2.2)) h2_0 h3_0 r2.1) else none) else none) else (if 0 ≤ r2.2 then (if r2.2 ≤ (h1_0l.length : Int) then (zom q h0_0 h0_1 h0_2 h0_3 h0_5 h0_6 h1_0z (List.drop r2.2.toNat h1_0l) false h2_0 h3_0 r2.1) else none) else none)))
def zoo : Nat → Int → Int → Int → Int → Bool → Int → Bool → (List Int) → Bool → Int → Option ((List Int) × Bool × Int × Int)
 | 0, _, _, _, _, _, _, _, _, _, _ => none
 | q + 1, h0_0, h0_1, h0_2, h0_3, h0_5, h0_6, h1_0z, h1_0l, h1_1, h2_0 => ((zn0 q ⟨h1_0z, h1_0l⟩).bind fun r1 => (if h1_1 = true then (if 0 ≤ r1.2 then (if r1.2 ≤ (h1_0l.length : Int) then (zon q h0_0 h0_1 h0_2 h0_3 h0_5 h0_6 h1_0z (List.drop r1.2.toNat h1_0l) (decide (0 < r1.2)) h2_0 r1.1) else none) else none) else (if 0 ≤ r1.2 then (if r1.2 ≤ (h1_0l.length : Int) then (zon q h0_0 h0_1 h0_2 h0_3 h0_5 h0_6 h1_0z (List.drop r1.2.toNat h1_0l) false h2_0 r1.1) else none) else none)))
def zop : Nat → Int → Int → Int → Int → Bool → Int → Bool → (List Int) → Bool → Int → Option ((List Int) × Bool × Int × Int)
 | 0, _, _, _, _, _, _, _, _, _, _ => none
 | q + 1, h0_0, h0_1, h0_2, h0_3, h0_5, h0_6, h1_0z, h1_0l, h1_1, h2_0 => (zoo q h0_0 h0_1 h0_2 h0_3 h0_5 h0_6 h1_0z h1_0l h1_1 h2_0)
def zoq : Nat → Int → Int → Int → Int → Nat → Bool → Int → Bool → (List Int) → Bool → Int → (List Int) → Int → Int → Option ((List Int) × Bool × Int × Int)
 | 0, _, _, _, _, _, _, _, _, _, _, _, _, _, _ => none
 | q + 1, h0_0, h0_1, h0_2, h0_3, h0_4len, h0_5, h0_6, h1_0z, h1_0l, h1_1, h2_0, h3l, h4_0, h4_1 => (some (h1_0l, h1_1, h4_0, h4_1))
def zor : Nat → Int → Int → Int → Int → Nat → Bool → Int → Bool → (List Int) → Bool → Int → (List Int) → Int → Option ((List Int) × Bool × Int × Int)
 | 0, _, _, _, _, _, _, _, _, _, _, _, _, _ => none
 | q + 1, h0_0, h0_1, h0_2, h0_3, h0_4len, h0_5, h0_6, h1_0z, h1_0l, h1_1, h2_0, h3l, h4_0 => ((zn0 q ⟨h1_0z, h1_0l⟩).bind fun r2 => (if h1_1 = true then (if 0 ≤ r2.2 then (if r2.2 ≤ (h1_0l.length : Int) then (zoq q h0_0 h0_1 h0_2 h0_3 h0_4len h0_5 h0_6 h1_0z (List.drop r2.2.toNat h1_0l) (decide (0 < r2.2)) h2_0 h3l h4_0 r2.1) else none) else none) else (if 0 ≤ r2.2 then (if r2.2 ≤ (h1_0l.length : Int) then (zoq q h0_0 h0_1 h0_2 h0_3 h0_4len h0_5 h0_6 h1_0z (List.drop r2.2.toNat h1_0l) false h2_0 h3l h4_0 r2.1) else none) else none)))
def zos : Nat → Int → Int → Int → Int → Nat → Bool → Int → Bool → (List Int) → Bool → Int → (List Int) → Option ((List Int) × Bool × Int × Int)
 | 0, _, _, _, _, _, _, _, _, _, _, _, _ => none
 | q + 1, h0_0, h0_1, h0_2, h0_3, h0_4len, h0_5, h0_6, h1_0z, h1_0l, h1_1, h2_0, h3l => ((zn0 q ⟨h1_0z, h1_0l⟩).bind fun r1 => (if h1_1 = true then (if 0 ≤ r1.2 then (if r1.2 ≤ (h1_0l.length : Int) then (zor q h0_0 h0_1 h0_2 h0_3 h0_4len h0_5 h0_6 h1_0z (List.drop r1.2.toNat h1_0l) (decide (0 < r1.2)) h2_0 h3l r1.1) else none) else none) else (if 0 ≤ r1.2 then (if r1.2 ≤ (h1_0l.length : Int) then (zor q h0_0 h0_1 h0_2 h0_3 h0_4len h0_5 h0_6 h1_0z (List.drop r1.2.toNat h1_0l) false h2_0 h3l r1.1) else none) else none)))
def zot : Nat → Int → Int → Int → Int → Nat → Bool → Int → Bool → (List Int) → Bool → Int → (List Int) → Option ((List Int) × Bool × Int × Int)
 | 0, _, _, _, _, _, _, _, _, _, _, _, _ => none
 | q + 1, h0_0, h0_1, h0_2, h0_3, h0_4len, h0_5, h0_6, h1_0z, h1_0l, h1_1, h2_0, h3l => (zos q h0_0 h0_1 h0_2 h0_3 h0_4len h0_5 h0_6 h1_0z h1_0l h1_1 h2_0 h3l)
def zou : Nat → Int → Int → Int → Int → Bool → Int → Bool → (List Int) → Bool → Int → (List zj5) → Int → Int → Option (Nat × (List Int) × Bool × Int × Int)
 | 0, _, _, _, _, _, _, _, _, _, _, _, _, _ => none
 | q + 1, h0_0, h0_1, h0_2, h0_3, h0_5, h0_6, h1_0z, h1_0l, h1_1, h2_0, h3l, h4_0, h4_1 => (some (h3l.length, h1_0l, h1_1, h4_0, h4_1))
def zov : Nat → Int → Int → Int → Int → Bool → Int → Bool → (List Int) → Bool → Int → (List zj5) → Int → Option (Nat × (List Int) × Bool × Int × Int)
 | 0, _, _, _, _, _, _, _, _, _, _, _, _ => none
 | q + 1, h0_0, h0_1, h0_2, h0_3, h0_5, h0_6, h1_0z, h1_0l, h1_1, h2_0, h3l, h4_0 => ((zn0 q ⟨h1_0z, h1_0l⟩).bind fun r2 => (if h1_1 = true then (if 0 ≤ r2.2 then (if r2.2 ≤ (h1_0l.length : Int) then (zou q h0_0 h0_1 h0_2 h0_3 h0_5 h0_6 h1_0z (List.drop r2.2.toNat h1_0l) (decide (0 < r2.2)) h2_0 h3l h4_0 r2.1) else none) else none) else (if 0 ≤ r2.2 then (if r2.2 ≤ (h1_0l.length : Int) then (zou q h0_0 h0_1 h0_2 h0_3 h0_5 h0_6 h1_0z (List.drop r2.2.toNat h1_0l) false h2_0 h3l h4_0 r2.1) else none) else none)))
def zow : Nat → Int → Int → Int → Int → Bool → Int → Bool → (List Int) → Bool → Int → (List zj5) → Option (Nat × (List Int) × Bool × Int × Int)
 | 0, _, _, _, _, _, _, _, _, _, _, _ => none
 | q + 1, h0_0, h0_1, h0_2, h0_3, h0_5, h0_6, h1_0z, h1_0l, h1_1, h2_0, h3l => ((zn0 q ⟨h1_0z, h1_0l⟩).bind fun r1 => (if h1_1 = true then (if 0 ≤ r1.2 then (if r1.2 ≤ (h1_0l.length : Int) then (zov q h0_0 h0_1 h0_2 h0_3 h0_5 h0_6 h1_0z (List.drop r1.2.toNat h1_0l) (decide (0 < r1.2)) h2_0 h3l r1.1) else none) else none) else (if 0 ≤ r1.2 then (if r1.2 ≤ (h1_0l.length : Int) then (zov q h0_0 h0_1 h0_2 h0_3 h0_5 h0_6 h1_0z (List.drop r1.2.toNat h1_0l) false h2_0 h3l r1.1) else none) else none)))
def zox : Nat → Int → Int → Int → Int → Bool → Int → Bool → (List Int) → Bool → Int → (List zj5) → Option (Nat × (List Int) × Bool × Int × Int)
 | 0, _, _, _, _, _, _, _, _, _, _, _ => none
 | q + 1, h0_0, h0_1, h0_2, h0_3, h0_5, h0_6, h1_0z, h1_0l, h1_1, h2_0, h3l => (zow q h0_0 h0_1 h0_2 h0_3 h0_5 h0_6 h1_0z h1_0l h1_1 h2_0 h3l)
def zoy : Nat → Int → Int → Int → Int → Nat → Bool → Int → Bool → (List Int) → Bool → Int → (List Int) → (List zj5) → Int → Int → Option (Nat × (List Int) × Bool × Int × Int)
 | 0, _, _, _, _, _, _, _, _, _, _, _, _, _, _, _ => none
 | q + 1, h0_0, h0_1, h0_2, h0_3, h0_4len, h0_5, h0_6, h1_0z, h1_0l, h1_1, h2_0, h3l, h4l, h5_0, h5_1 => (some (h4l.length, h1_0l, h1_1, h5_0, h5_1))
def zoz : Nat → Int → Int → Int → Int → Nat → Bool → Int → Bool → (List Int) → Bool → Int → (List Int) → (List zj5) → Int → Option (Nat × (List Int) × Bool × Int × Int)
 | 0, _, _, _, _, _, _, _, _, _, _, _, _, _, _ => none
 | q + 1, h0_0, h0_1, h0_2, h0_3, h0_4len, h0_5, h0_6, h1_0z, h1_0l, h1_1, h2_0, h3l, h4l, h5_0 => ((zn0 q ⟨h1_0z, h1_0l⟩).bind fun r2 => (if h1_1 = true then (if 0 ≤ r2.2 then (if r2.2 ≤ (h1_0l.length : Int) then (zoy q h0_0 h0_1 h0_2 h0_3 h0_4len h0_5 h0_6 h1_0z (List.drop r2.2.toNat h1_0l) (decide (0 < r2.2)) h2_0 h3l h4l h5_0 r2.1) else none) else none) else (if 0 ≤ r2.2 then (if r2.2 ≤ (h1_0l.length : Int) then (zoy q h0_0 h0_1 h0_2 h0_3 h0_4len h0_5 h0_6 h1_0z (List.drop r2.2.toNat h1_0l) false h2_0 h3l h4l h5_0 r2.1) else none) else none)))
def zo0 : Nat → Int → Int → Int → Int → Nat → Bool → Int → Bool → (List Int) → Bool → Int → (List Int) → (List zj5) → Option (Nat × (List Int) × Bool × Int × Int)
 | 0, _, _, _, _, _, _, _, _, _, _, _, _, _ => none
 | q + 1, h0_0, h0_1, h0_2, h0_3, h0_4len, h0_5, h0_6, h1_0z, h1_0l, h1_1, h2_0, h3l, h4l => ((zn0 q ⟨h1_0z, h1_0l⟩).bind fun r1 => (if h1_1 = true then (if 0 ≤ r1.2 then (if r1.2 ≤ (h1_0l.length : Int) then (zoz q h0_0 h0_1 h0_2 h0_3 h0_4len h0_5 h0_6 h1_0z (List.drop r1.2.toNat h1_0l) (decide (0 < r1.2)) h2_0 h3l h4l r1.1) else none) else none) else (if 0 ≤ r1.2 then (if r1.2 ≤ (h1_0l.length : Int) then (zoz q h0_0 h0_1 h0_2 h0_3 h0_4len h0_5 h0_6 h1_0z (List.drop r1.2.toNat h1_0l) false h2_0 h3l h4l r1.1) else none) else none)))
def zo1 : Nat → Int → Int → Int → Int → Nat → Bool → Int → Bool → (List Int) → Bool → Int → (List Int) → (List zj5) → Option (Nat × (List Int) × Bool × Int × Int)
 | 0, _, _, _, _, _, _, _, _, _, _, _, _, _ => none
 | q + 1, h0_0, h0_1, h0_2, h0_3, h0_4len, h0_5, h0_6, h1_0z, h1_0l, h1_1, h2_0, h3l, h4l => (zo0 q h0_0 h0_1 h0_2 h0_3 h0_4len h0_5 h0_6 h1_0z h1_0l h1_1 h2_0 h3l h4l)
def zo2 : Nat → Int → Int → Int → Int → Int → Nat → Bool → Int → Bool → (List Int) → Bool → Int → (List Int) → (List zj5) → Option (zj9 × Bool)
 | 0, _, _, _, _, _, _, _, _, _, _, _, _, _, _ => none
 | q + 1, v8, h0_0, h0_1, h0_2, h0_3, h0_4len, h0_5, h0_6, h1_0z, h1_0l, h1_1, h2_0, h3l, h4l => (if v8 < h2_0 then (if h1_1 = true then ((zo1 q h0_0 h0_1 h0_2 h0_3 h0_4len h0_5 h0_6 h1_0z h1_0l h1_1 h2_0 h3l h4l).bind fun r12 => ((zn6 q ⟨h1_0z, r12.2.1⟩).bind fun r13 => (if r12.2.2.1 = true then (if 0 ≤ r13.2 then (if r13.2 ≤ (r12.2.1.length : Int) then (if (h4l.length + 1) ≤ 4294967296 then (zo2 q (wrp .i64 (v8 + 1)) h0_0 h0_1 h0_2 h0_3 h0_4len h0_5 h0_6 h1_0z (List.drop r13.2.toNat r12.2.1) (decide (0 < r13.2)) h2_0 h3l (h4l ++ [(⟨r12.2.2.2.1, r12.2.2.2.2, r13.1⟩ : zj5)])) else none) else none) else none) else (if 0 ≤ r13.2 then (if r13.2 ≤ (r12.2.1.length : Int) then (if (h4l.length + 1) ≤ 4294967296 then (zo2 q (wrp .i64 (v8 + 1)) h0_0 h0_1 h0_2 h0_3 h0_4len h0_5 h0_6 h1_0z (List.drop r13.2.toNat r12.2.1) false h2_0 h3l (h4l ++ [(⟨r12.2.2.2.1, r12.2.2.2.2, r13.1⟩ : zj5)])) else none) else none) else none)))) else (some ((⟨h0_0, h0_1, h0_2, h0_3, ⟨false, h3l⟩, h0_5, h0_6, ⟨false, h4l⟩⟩ : zj9), false))) else (if h1_1 = true then (some ((⟨h0_0, h0_1, h0_2, h0_3, ⟨false, h3l⟩, h0_5, h0_6, ⟨false, h4l⟩⟩ : zj9), (decide ((h1_0l.length : Int) = 0)))) else (some ((⟨h0_0, h0_1, h0_2, h0_3, ⟨false, h3l⟩, h0_5, h0_6, ⟨false, h4l⟩⟩ : zj9), false))))
def zo3 : Nat → Int → Int → Int → Int → Nat → Bool → Int → Bool → (List Int) → Bool → Int → (List Int) → Option (zj9 × Bool)
 | 0, _, _, _, _, _, _, _, _, _, _, _, _ => none
 | q + 1, h0_0, h0_1, h0_2, h0_3, h0_4len, h0_5, h0_6, h1_0z, h1_0l, h1_1, h2_0, h3l => (if 0 < h2_0 then (if h1_1 = true then ((zot q h0_0 h0_1 h0_2 h0_3 h0_4len h0_5 h0_6 h1_0z h1_0l h1_1 h2_0 h3l).bind fun r8 => ((zn6 q ⟨h1_0z, r8.1⟩).bind fun r9 => (if r8.2.1 = true then (if 0 ≤ r9.2 then (if r9.2 ≤ (r8.1.length : Int) then (zo2 q (wrp .i64 1) h0_0 h0_1 h0_2 h0_3 h0_4len h0_5 h0_6 h1_0z (List.drop r9.2.toNat r8.1) (decide (0 < r9.2)) h2_0 h3l [(⟨r8.2.2.1, r8.2.2.2, r9.1⟩ : zj5)]) else none) else none) else (if 0 ≤ r9.2 then (if r9.2 ≤ (r8.1.length : Int) then (zo2 q (wrp .i64 1) h0_0 h0_1 h0_2 h0_3 h0_4len h0_5 h0_6 h1_0z (List.drop r9.2.toNat r8.1) false h2_0 h3l [(⟨r8.2.2.1, r8.2.2.2, r9.1⟩ : zj5)]) else none) else none)))) else (some ((⟨h0_0, h0_1, h0_2, h0_3, ⟨false, h3l⟩, h0_5, h0_6, ⟨true, []⟩⟩ : zj9), false))) else (if h1_1 = true then (some ((⟨h0_0, h0_1, h0_2, h0_3, ⟨false, h3l⟩, h0_5, h0_6, ⟨true, []⟩⟩ : zj9), (decide ((h1_0l.length : Int) = 0)))) else (some ((⟨h0_0, h0_1, h0_2, h0_3, ⟨false, h3l⟩, h0_5, h0_6, ⟨true, []⟩⟩ : zj9), false))))
def zo4 : Nat → Int → Int → Int → Int → Int → Int → Bool → (List Int) → Bool → (List Int) → Option (zj9 × Bool)
 | 0, _, _, _, _, _, _, _, _, _, _ => none
 | q + 1, v23, v24, h0_0, h0_1, h0_2, h0_3, h1_0z, h1_0l, h1_1, h4l => (if v24 < v23 then ((zn6 q ⟨h1_0z, h1_0l⟩).bind fun r4 => (if h1_1 = true then (if 0 ≤ r4.2 then (if r4.2 ≤ (h1_0l.length : Int) then (if (h4l.length + 1) ≤ 4294967296 then (zo4 q v23 (wrp .i64 (v24 + 1)) h0_0 h0_1 h0_2 h0_3 h1_0z (List.drop r4.2.toNat h1_0l) (decide (0 < r4.2)) (h4l ++ [r4.1])) else none) else none) else none) else (if 0 ≤ r4.2 then (if r4.2 ≤ (h1_0l.length : Int) then (if (h4l.length + 1) ≤ 4294967296 then (zo4 q v23 (wrp .i64 (v24 + 1)) h0_0 h0_1 h0_2 h0_3 h1_0z (List.drop r4.2.toNat h1_0l) false (h4l ++ [r4.1])) else none) else none) else none))) else ((zol q h0_0 h0_1 h0_2 h0_3 h1_0z h1_0l h1_1 h4l).bind fun r5 => (if 3 < r5.2.2.2.1 then (some ((⟨h0_0, h0_1, h0_2, h0_3, ⟨false, h4l⟩, false, 0, ⟨true, []⟩⟩ : zj9), false)) else (zo3 q h0_0 h0_1 h0_2 h0_3 r5.1 (decide (0 < r5.2.2.2.1)) (if (wrp .i64 (r5.2.2.2.1 - 1)) < 0 then 0 else (wrp .i64 (r5.2.2.2.1 - 1))) h1_0z r5.2.1 r5.2.2.1 r5.2.2.2.2 h4l))))
def zo5 : Nat → Int → Int → Int → Int → Int → Bool → Int → Bool → (List Int) → Bool → Int → (List zj5) → Option (zj9 × Bool)
 | 0, _, _, _, _, _, _, _, _, _, _, _, _ => none
 | q + 1, v8, h0_0, h0_1, h0_2, h0_3, h0_5, h0_6, h1_0z, h1_0l, h1_1, h2_0, h3l => (if v8 < h2_0 then (if h1_1 = true then ((zox q h0_0 h0_1 h0_2 h0_3 h0_5 h0_6 h1_0z h1_0l h1_1 h2_0 h3l).bind fun r10 => ((zn6 q ⟨h1_0z, r10.2.1⟩).bind fun r11 => (if r10.2.2.1 = true then (if 0 ≤ r11.2 then (if r11.2 ≤ (r10.2.1.length : Int) then (if (h3l.length + 1) ≤ 4294967296 then (zo5 q (wrp .i64 (v8 + 1)) h0_0 h0_1 h0_2 h0_3 h0_5 h0_6 h1_0z (List.drop r11.2.toNat r10.2.1) (decide (0 < r11.2)) h2_0 (h3l ++ [(⟨r10.2.2.2.1, r10.2.2.2.2, r11.1⟩ : zj5)])) else none) else none) else none) else (if 0 ≤ r11.2 then (if r11.2 ≤ (r10.2.1.length : Int) then (if (h3l.length + 1) ≤ 4294967296 then (zo5 q (wrp .i64 (v8 + 1)) h0_0 h0_1 h0_2 h0_3 h0_5 h0_6 h1_0z (List.drop r11.2.toNat r10.2.1) false h2_0 (h3l ++ [(⟨r10.2.2.2.1, r10.2.2.2.2, r11.1⟩ : zj5)])) else none) else none) else none)))) else (some ((⟨h0_0, h0_1, h0_2, h0_3, ⟨true, []⟩, h0_5, h0_6, ⟨false, h3l⟩⟩ : zj9), false))) else (if h1_1 = true then (some ((⟨h0_0, h0_1, h0_2, h0_3, ⟨true, []⟩, h0_5, h0_6, ⟨false, h3l⟩⟩ : zj9), (decide ((h1_0l.length : Int) = 0)))) else (some ((⟨h0_0, h0_1, h0_2, h0_3, ⟨true, []⟩, h0_5, h0_6, ⟨false, h3l⟩⟩ : zj9), false))))
def zo6 : Nat → Int → Int → Int → Int → Bool → Int → Bool → (List Int) → Bool → Int → Option (zj9 × Bool)
 | 0, _, _, _, _, _, _, _, _, _, _ => none
 | q + 1, h0_0, h0_1, h0_2, h0_3, h0_5, h0_6, h1_0z, h1_0l, h1_1, h2_0 => (if 0 < h2_0 then (if h1_1 = true then ((zop q h0_0 h0_1 h0_2 h0_3 h0_5 h0_6 h1_0z h1_0l h1_1 h2_0).bind fun r6 => ((zn6 q ⟨h1_0z, r6.1⟩).bind fun r7 => (if r6.2.1 = true then (if 0 ≤ r7.2 then (if r7.2 ≤ (r6.1.length : Int) then (zo5 q (wrp .i64 1) h0_0 h0_1 h0_2 h0_3 h0_5 h0_6 h1_0z (List.drop r7.2.toNat r6.1) (decide (0 < r7.2)) h2_0 [(⟨r6.2.2.1, r6.2.2.2, r7.1⟩ : zj5)]) else none) else none) else (if 0 ≤ r7.2 then (if r7.2 ≤ (r6.1.length : Int) then (zo5 q (wrp .i64 1) h0_0 h0_1 h0_2 h0_3 h0_5 h0_6 h1_0z (List.drop r7.2.toNat r6.1) false h2_0 [(⟨r6.2.2.1, r6.2.2.2, r7.1⟩ : zj5)]) else none) else none)))) else (some ((⟨h0_0, h0_1, h0_2, h0_3, ⟨true, []⟩, h0_5, h0_6, ⟨true, []⟩⟩ : zj9), false))) else (if h1_1 = true then (some ((⟨h0_0, h0_1, h0_2, h0_3, ⟨true, []⟩, h0_5, h0_6, ⟨true, []⟩⟩ : zj9), (decide ((h1_0l.length : Int) = 0)))) else (some ((⟨h0_0, h0_1, h0_2, h0_3, ⟨true, []⟩, h0_5, h0_6, ⟨true, []⟩⟩ : zj9), false))))
def zo7 : Nat → Int → Int → Int → Int → Int → Bool → (List Int) → Bool → Option (zj9 × Bool)
 | 0, _, _, _, _, _, _, _, _ => none
 | q + 1, v23, h0_0, h0_1, h0_2, h0_3, h1_0z, h1_0l, h1_1 => (if 0 < v23 then ((zn6 q ⟨h1_0z, h1_0l⟩).bind fun r2 => (if h1_1 = true then (if 0 ≤ r2.2 then (if r2.2 ≤ (h1_0l.length : Int) then (zo4 q v23 (wrp .i64 1) h0_0 h0_1 h0_2 h0_3 h1_0z (List.drop r2.2.toNat h1_0l) (decide (0 < r2.2)) [r2.1]) else none) else none) else (if 0 ≤ r2.2 then (if r2.2 ≤ (h1_0l.length : Int) then (zo4 q v23 (wrp .i64 1) h0_0 h0_1 h0_2 h0_3 h1_0z (List.drop r2.2.toNat h1_0l) false [r2.1]) else none) else none))) else ((zoh q h0_0 h0_1 h0_2 h0_3 h1_0z h1_0l h1_1).bind fun r3 => (if 3 < r3.2.2.1 then (some ((⟨h0_0, h0_1, h0_2, h0_3, ⟨true, []⟩, false, 0, ⟨true, []⟩⟩ : zj9), false)) else (zo6 q h0_0 h0_1 h0_2 h0_3 (decide (0 < r3.2.2.1)) (if (wrp .i64 (r3.2.2.1 - 1)) < 0 then 0 else (wrp .i64 (r3.2.2.1 - 1))) h1_0z r3.1 r3.2.1 r3.2.2.2))))
def zo8 : Nat → (Sl Int) → Option (zj9 × Bool)
 | 0, _ => none
 | q + 1, a0 => ((zod q a0.z a0.l).bind fun r1 => (if 128 < r1.2.2.2.2.2.2 then (some ((⟨r1.1, r1.2.1, r1.2.2.1, r1.2.2.2.1, ⟨true, []⟩, false, 0, ⟨true, []⟩⟩ : zj9), false)) else (zo7 q r1.2.2.2.2.2.2 r1.1 r1.2.1 r1.2.2.1 r1.2.2.2.1 a0.z r1.2.2.2.2.1 r1.2.2.2.2.2.1)))
def zo9 : Nat → (Sl Int) → Option (zj9 × Int)
 | 0, _ => none
 | q + 1, a0 => ((zn4 q a0).bind fun r1 => (if r1.2.2 = 0 then (if r1.2.1 = (a0.l.length : Int) then ((zo8 q ⟨r1.1.n, r1.1.xs⟩).bind fun r2 => (if r2.2 = true then ((znn q r2.1).bind fun r3 => (if r3 = true then (some (r2.1, 0)) else (some ((⟨0, 0, 0, 0, ⟨true, []⟩, false, 0, ⟨true, []⟩⟩ : zj9), 1)))) else (some ((⟨0, 0, 0, 0, ⟨true, []⟩, false, 0, ⟨true, []⟩⟩ : zj9), 3)))) else (some ((⟨0, 0, 0, 0, ⟨true, []⟩, false, 0, ⟨true, []⟩⟩ : zj9), 16))) else (some ((⟨0, 0, 0, 0, ⟨true, []⟩, false, 0, ⟨true, []⟩⟩ : zj9), r1.2.2))))
def zpa : Nat → Nat → Bool → (List (Sl Int)) → Int → Int → Bool → (List Int) → Option ((Ow Int))
 | 0, _, _, _, _, _, _, _ => none
 | q + 1, v6len, v25z, v25l, v26, v27, h0z, h0l => (if v27 < v26 then (if 0 ≤ v27 then ((v25l[v27.toNat]?).bind fun e2 => (if (v6len + e2.l.length) ≤ h0l.length then (zpa q (v6len + e2.l.length) v25z v25l v26 (wrp .i64 (v27 + 1)) h0z (((List.take v6len h0l) ++ e2.l) ++ (List.drop (v6len + e2.l.length) h0l))) else none)) else none) else (some ⟨h0z, true, (List.take v6len h0l)⟩))
def zpb : Nat → Bool → (List (Sl Int)) → Int → Int → Bool → (List Int) → Option ((Ow Int))
 | 0, _, _, _, _, _, _ => none
 | q + 1, v25z, v25l, v26, v27, h0z, h0l => (if v27 < v26 then (if 0 ≤ v27 then ((v25l[v27.toNat]?).bind fun e4 => (if (h0l.length + e4.l.length) ≤ 4294967296 then (zpb q v25z v25l v26 (wrp .i64 (v27 + 1)) (h0z && (decide (e4.l.length = 0))) (h0l ++ e4.l)) else none)) else none) else (some ⟨h0z, true, h0l⟩))
def zpc : Nat → Bool → (List (Sl Int)) → Int → Option ((Ow Int))
 | 0, _, _, _ => none
 | q + 1, v25z, v25l, v26 => (if 0 < v26 then ((v25l[0]?).bind fun e3 => (if e3.l.length ≤ 4294967296 then (zpb q v25z v25l v26 (wrp .i64 1) (decide (e3.l.length = 0)) e3.l) else none)) else (some ⟨true, true, []⟩))
def zpd : Nat → Bool → (List (Sl Int)) → Int → Bool → (List (Sl Int)) → Int → Int → Option ((Ow Int))
 | 0, _, _, _, _, _, _, _ => none
 | q + 1, v0z, v0l, v3, v9z, v9l, v10, v11 => (if v11 < v10 then (if 0 ≤ v11 then ((v9l[v11.toNat]?).bind fun e1 => (if (wrp .i64 (v3 + (e1.l.length : Int))) < 0 then none else (zpd q v0z v0l (wrp .i64 (v3 + (e1.l.length : Int))) v9z v9l v10 (wrp .i64 (v11 + 1))))) else none) else (if v3 < 0 then none else (if 0 < (wrp .i64 (v3 - (wrp .i64 0))) then (if 0 ≤ (wrp .i64 (v3 - (wrp .i64 0))) then (if (wrp .i64 (v3 - (wrp .i64 0))).toNat ≤ 4294967296 then (if (wrp .i64 (v3 - (wrp .i64 0))) = 0 then none else (zpa q 0 v0z v0l (v0l.length : Int) 0 (decide ((wrp .i64 (v3 - (wrp .i64 0))) = 0)) (List.replicate ((wrp .i64 (v3 - (wrp .i64 0))).toNat) 0))) else none) else none) else (zpc q v0z v0l (v0l.length : Int)))))
def zpe : Nat → (Sl (Sl Int)) → Option ((Ow Int))
 | 0, _ => none
 | q + 1, a0 => (zpd q a0.z a0.l 0 a0.z a0.l (a0.l.length : Int) 0)
def zpf : Nat → Bool → (List zj5) → Int → Int → Int → Int → Bool → Int → Bool → (List Int) → Bool → Bool → (List zj5) → Bool → Option (zj6 × Int)
 | 0, _, _, _, _, _, _, _, _, _, _, _, _, _, _ => none
 | q + 1, v89z, v89l, v90, v91, h1_0, h1_1, h1_3, h1_4, h2z, h2l, h2x, h3z, h3l, h3x => (if v91 < v90 then (if 0 ≤ v91 then ((v89l[v91.toNat]?).bind fun e6 => ((zlb q ⟨h3z, h3l⟩ (⟨0, e6.Proc, e6.Seq, (⟨0, 0, 0⟩ : zj7), e6.Resp⟩ : zj8)).bind fun r7 => (zpf q v89z v89l v90 (wrp .i64 (v91 + 1)) h1_0 h1_1 h1_3 h1_4 h2z h2l h2x r7.n r7.xs r7.x))) else none) else ((zm1 q (⟨h1_0, (⟨h1_1, ⟨h2z, h2l⟩, h1_3, h1_4⟩ : zj4), ⟨h3z, h3l⟩⟩ : zj6)).bind fun r8 => (if r8 = true then (some ((⟨h1_0, (⟨h1_1, ⟨h2z, h2l⟩, h1_3, h1_4⟩ : zj4), ⟨h3z, h3l⟩⟩ : zj6), 0)) else (some ((⟨0, (⟨0, ⟨true, []⟩, false, 0⟩ : zj4), ⟨true, []⟩⟩ : zj6), 1)))))
def zpg : Nat → Bool → (List zj5) → Int → Int → Int → Bool → Int → Bool → (List zj5) → Bool → (List Int) → Bool → Option (zj6 × Int)
 | 0, _, _, _, _, _, _, _, _, _, _, _, _ => none
 | q + 1, v89z, v89l, v90, h1_0, h1_1, h1_3, h1_4, h1_5z, h1_5l, h2z, h2l, h2x => (if 0 < v90 then ((v89l[0]?).bind fun e3 => ((zlb q ⟨h1_5z, h1_5l⟩ (⟨0, e3.Proc, e3.Seq, (⟨0, 0, 0⟩ : zj7), e3.Resp⟩ : zj8)).bind fun r4 => (zpf q v89z v89l v90 (wrp .i64 1) h1_0 h1_1 h1_3 h1_4 h2z h2l h2x r4.n r4.xs r4.x))) else ((zm1 q (⟨h1_0, (⟨h1_1, ⟨h2z, h2l⟩, h1_3, h1_4⟩ : zj4), ⟨h1_5z, h1_5l⟩⟩ : zj6)).bind fun r5 => (if r5 = true then (some ((⟨h1_0, (⟨h1_1, ⟨h2z, h2l⟩, h1_3, h1_4⟩ : zj4), ⟨h1_5z, h1_5l⟩⟩ : zj6), 0)) else (some ((⟨0, (⟨0, ⟨true, []⟩, false, 0⟩ : zj4), ⟨true, []⟩⟩ : zj6), 1)))))
def zph : Nat → zj6 → zj9 → Option (zj6 × Int)
 | 0, _, _ => none
 | q + 1, a0, a1 => ((zm1 q a0).bind fun r1 => (if r1 = true then (if a1.Ahead < 0 then (some ((⟨0, (⟨0, ⟨true, []⟩, false, 0⟩ : zj4), ⟨true, []⟩⟩ : zj6), 1)) else (if a1.Behind < 0 then (some ((⟨0, (⟨0, ⟨true, []⟩, false, 0⟩ : zj4), ⟨true, []⟩⟩ : zj6), 1)) else (if (a0.State.L.l.length : Int) < a1.Ahead then (some ((⟨0, (⟨0, ⟨true, []⟩, false, 0⟩ : zj4), ⟨true, []⟩⟩ : zj6), 1)) else (if (wrp .i64 ((a0.State.L.l.length : Int) - a1.Ahead)) < a1.Behind then (some ((⟨0, (⟨0, ⟨true, []⟩, false, 0⟩ : zj4), ⟨true, []⟩⟩ : zj6), 1)) else (if a0.Index = a1.From then (if a1.To < a1.From then (some ((⟨0, (⟨0, ⟨true, []⟩, false, 0⟩ : zj4), ⟨true, []⟩⟩ : zj6), 15)) else (if 0 ≤ a1.Ahead then (if a1.Ahead.toNat ≤ a0.State.L.l.length then (if 0 ≤ (wrp .i64 ((a0.State.L.l.length : Int) - a1.Behind)) then (if (wrp .i64 ((a0.State.L.l.length : Int) - a1.Behind)) ≤ (a0.State.L.l.length : Int) then ((zpe q ⟨false, [⟨a0.State.L.z, (List.take a1.Ahead.toNat a0.State.L.l)⟩, a1.Mid, ⟨a0.State.L.z, (List.drop ((wrp .i64 ((a0.State.L.l.length : Int) - a1.Behind)).toNat) a0.State.L.l)⟩]⟩).bind fun r2 => (zpg q a1.Table.z a1.Table.l (a1.Table.l.length : Int) a1.To a0.State.Kind a1.Sealed a1.Engine a0.Table.z a0.Table.l r2.n r2.xs r2.x)) else none) else none) else none) else none)) else (some ((⟨0, (⟨0, ⟨true, []⟩, false, 0⟩ : zj4), ⟨true, []⟩⟩ : zj6), 15))))))) else (some ((⟨0, (⟨0, ⟨true, []⟩, false, 0⟩ : zj4), ⟨true, []⟩⟩ : zj6), 1))))
def zpi : Nat → Bool → (List Int) → Bool → (List Int) → Int → Int → Option (Bool)
 | 0, _, _, _, _, _, _ => none
 | q + 1, v0z, v0l, v1z, v1l, v12, v13 => (if v13 < v12 then (if 0 ≤ v13 then ((v0l[v13.toNat]?).bind fun e1 => ((v1l[v13.toNat]?).bind fun e2 => (if e1 = e2 then (zpi q v0z v0l v1z v1l v12 (wrp .i64 (v13 + 1))) else (some false)))) else none) else (some true))
def zpj : Nat → (Sl Int) → (Sl Int) → Option (Bool)
 | 0, _, _ => none
 | q + 1, a0, a1 => (if (a0.l.length : Int) = (a1.l.length : Int) then (zpi q a0.z a0.l a1.z a1.l (a0.l.length : Int) 0) else (some false))
def zpk : Nat → zj4 → zj4 → Option (Bool)
 | 0, _, _ => none
 | q + 1, a0, a1 => (if a0.Kind = a1.Kind then (if (a0.Sealed == a1.Sealed) = true then (if a0.To = a1.To then ((zpj q a0.L a1.L).bind fun r1 => (some r1)) else (some false)) else (some false)) else (some false))
def zpl : Nat → Bool → (List zj5) → Bool → (List zj5) → Int → Int → Option (Bool)
 | 0, _, _, _, _, _, _ => none
 | q + 1, v0z, v0l, v1z, v1l, v12, v13 => (if v13 < v12 then (if 0 ≤ v13 then ((v0l[v13.toNat]?).bind fun e1 => ((v1l[v13.toNat]?).bind fun e2 => (if e1.Proc = e2.Proc then (if e1.Seq = e2.Seq then (if e1.Resp = e2.Resp then (zpl q v0z v0l v1z v1l v12 (wrp .i64 (v13 + 1))) else (some false)) else (some false)) else (some false)))) else none) else (some true))
def zpm : Nat → (Sl zj5) → (Sl zj5) → Option (Bool)
 | 0, _, _ => none
 | q + 1, a0, a1 => (if (a0.l.length : Int) = (a1.l.length : Int) then (zpl q a0.z a0.l a1.z a1.l (a0.l.length : Int) 0) else (some false))
def zpn : Nat → zj6 → zj6 → Option (Bool)
 | 0, _, _ => none
 | q + 1, a0, a1 => (if a0.Index = a1.Index then ((zpk q a0.State a1.State).bind fun r1 => (if r1 = true then ((zpm q a0.Table a1.Table).bind fun r2 => (some r2)) else (some false))) else (some false))
def zpo : Nat → zj6 → (Sl zj8) → Int → Option (Bool)
 | 0, _, _, _ => none
 | q + 1, a0, a1, a2 => ((zmp q).bind fun r1 => (if r1 = true then (if 300 < (a0.State.L.l.length : Int) then (some r1) else (if 100 < (a0.Table.l.length : Int) then (some r1) else (if 60 < (a1.l.length : Int) then (some r1) else (if a2 < 0 then (some r1) else (if (a1.l.length : Int) < a2 then (some r1) else ((zmx q a0).bind fun r2 => (if 0 ≤ a2 then (if a2.toNat ≤ a1.l.length then ((zle q a0 ⟨a1.z, (List.take a2.toNat a1.l)⟩).bind fun r3 => ((zle q a0 a1).bind fun r4 => (if r2 = true then (if r3.2 = 0 then (if r4.2 = 0 then ((zm1 q r3.1).bind fun r5 => (if r5 = true then ((zm1 q r4.1).bind fun r6 => (if r6 = true then ((znd q a0 r3.1).bind fun r7 => ((znd q r3.1 r4.1).bind fun r8 => ((znt q r7.1).bind fun r9 => ((znt q r8.1).bind fun r10 => ((zo9 q ⟨r9.1.n, r9.1.xs⟩).bind fun r11 => ((zo9 q ⟨r10.1.n, r10.1.xs⟩).bind fun r12 => ((zph q a0 r11.1).bind fun r13 => ((zph q r13.1 r12.1).bind fun r14 => (if r7.2 = 0 then (if r8.2 = 0 then (if r9.2 = 0 then (if r10.2 = 0 then (if r11.2 = 0 then (if r12.2 = 0 then (if r13.2 = 0 then (if r14.2 = 0 then ((zpn q r13.1 r3.1).bind fun r15 => (if r15 = true then ((zpn q r14.1 r4.1).bind fun r16 => (some r16)) else (some false))) else (some false)) else (some false)) else (some false)) else (some false)) else (some false)) else (some false)) else (some false)) else (some false)))))))))) else (some true))) else (some true))) else (some true)) else (some true)) else (some true)))) else none) else none))))))) else (some r1)))
end Go.Dvm.I
