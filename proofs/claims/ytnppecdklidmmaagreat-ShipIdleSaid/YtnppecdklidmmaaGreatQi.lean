/- The functions of the law, as they answer, over typed data. -/
import Derived.Test.YtnppecdklidmmaaGreatQv2
set_option linter.all false
set_option maxRecDepth 100000
set_option maxHeartbeats 4000000
namespace Go.Dvm.I
open Go Go.Dvm
structure zkk where
 Kind : Int
 L : (Sl Int)
 Sealed : Bool
 To : Int
def zkk.enc (r : zkk) : V := .agg [V.int .i64 r.Kind, (Sl.enc (V.int .i64)) r.L, V.bool r.Sealed, V.int .i64 r.To]
structure zkl where
 Proc : Int
 Seq : Int
 Resp : Int
def zkl.enc (r : zkl) : V := .agg [V.int .i64 r.Proc, V.int .i64 r.Seq, V.int .i64 r.Resp]
structure zkm where
 Index : Int
 State : zkk
 Table : (Sl zkl)
def zkm.enc (r : zkm) : V := .agg [V.int .i64 r.Index, V.int .i64 r.State.Kind, (Sl.enc (V.int .i64)) r.State.L, V.bool r.State.Sealed, V.int .i64 r.State.To, (Sl.enc zkl.enc) r.Table]
structure zkn where
 Code : Int
 A : Int
 B : Int
def zkn.enc (r : zkn) : V := .agg [V.int .i64 r.Code, V.int .i64 r.A, V.int .i64 r.B]
structure zko where
 Index : Int
 Proc : Int
 Seq : Int
 Op : zkn
 Resp : Int
def zko.enc (r : zko) : V := .agg [V.int .i64 r.Index, V.int .i64 r.Proc, V.int .i64 r.Seq, V.int .i64 r.Op.Code, V.int .i64 r.Op.A, V.int .i64 r.Op.B, V.int .i64 r.Resp]
structure zkp where
 From : Int
 To : Int
 Ahead : Int
 Behind : Int
 Mid : (Sl Int)
 Sealed : Bool
 Engine : Int
 Table : (Sl zkl)
def zkp.enc (r : zkp) : V := .agg [V.int .i64 r.From, V.int .i64 r.To, V.int .i64 r.Ahead, V.int .i64 r.Behind, (Sl.enc (V.int .i64)) r.Mid, V.bool r.Sealed, V.int .i64 r.Engine, (Sl.enc zkl.enc) r.Table]
structure zkq where
 Kind : Int
 First : Int
 Records : (Sl zko)
def zkq.enc (r : zkq) : V := .agg [V.int .i64 r.Kind, V.int .i64 r.First, (Sl.enc zko.enc) r.Records]
structure zkr where
 From : Int
 To : Int
 Kind : Int
 Index : Int
 B : (Sl Int)
def zkr.enc (r : zkr) : V := .agg [V.int .i64 r.From, V.int .i64 r.To, V.int .i64 r.Kind, V.int .i64 r.Index, (Sl.enc (V.int .u8)) r.B]
structure zks where
 index : Int
 size : Int
 sum : Int
def zks.enc (r : zks) : V := .agg [V.int .i64 r.index, V.int .i64 r.size, V.int .u64 r.sum]
structure zkt where
 name : Int
 first : Int
 many : Int
def zkt.enc (r : zkt) : V := .agg [V.int .i64 r.name, V.int .i64 r.first, V.int .i64 r.many]
def okSl {α : Type} (ok : α → Prop) (s : Sl α) : Prop := (s.z = true → s.l = []) ∧ s.l.length ≤ maxLen ∧ ∀ a ∈ s.l, ok a
def zkk.ok (r : zkk) : Prop := inR .i64 r.Kind ∧ okSl (fun x => inR .i64 x) r.L ∧ True ∧ inR .i64 r.To
def zkl.ok (r : zkl) : Prop := inR .i64 r.Proc ∧ inR .i64 r.Seq ∧ inR .i64 r.Resp
def zkm.ok (r : zkm) : Prop := inR .i64 r.Index ∧ zkk.ok r.State ∧ okSl (fun x => zkl.ok x) r.Table
def zkn.ok (r : zkn) : Prop := inR .i64 r.Code ∧ inR .i64 r.A ∧ inR .i64 r.B
def zko.ok (r : zko) : Prop := inR .i64 r.Index ∧ inR .i64 r.Proc ∧ inR .i64 r.Seq ∧ zkn.ok r.Op ∧ inR .i64 r.Resp
def zkp.ok (r : zkp) : Prop := inR .i64 r.From ∧ inR .i64 r.To ∧ inR .i64 r.Ahead ∧ inR .i64 r.Behind ∧ okSl (fun x => inR .i64 x) r.Mid ∧ True ∧ inR .i64 r.Engine ∧ okSl (fun x => zkl.ok x) r.Table
def zkq.ok (r : zkq) : Prop := inR .i64 r.Kind ∧ inR .i64 r.First ∧ okSl (fun x => zko.ok x) r.Records
def zkr.ok (r : zkr) : Prop := inR .i64 r.From ∧ inR .i64 r.To ∧ inR .i64 r.Kind ∧ inR .i64 r.Index ∧ okSl (fun x => inR .u8 x) r.B
def zks.ok (r : zks) : Prop := inR .i64 r.index ∧ inR .i64 r.size ∧ inR .u64 r.sum
def zkt.ok (r : zkt) : Prop := inR .i64 r.name ∧ inR .i64 r.first ∧ inR .i64 r.many
def zku : Nat → Int → Option (Int)
 | 0, _ => none
 | q + 1, a0 => (some (if (-1099511627776) < (if 1099511627776 < a0 then 1099511627776 else a0) then (if 1099511627776 < a0 then 1099511627776 else a0) else (-1099511627776)))
def zkv : Nat → zkn → Option (Bool)
 | 0, _ => none
 | q + 1, a0 => (if 0 ≤ a0.Code then (if a0.Code ≤ 10 then ((zku q a0.A).bind fun r1 => (if a0.A = r1 then ((zku q a0.B).bind fun r2 => (some (decide (a0.B = r2)))) else (some false))) else (some false)) else (some false))
def zkw : Nat → zko → Option (Bool)
 | 0, _ => none
 | q + 1, a0 => (if 0 ≤ a0.Index then (if a0.Index < 4611686018427387904 then (if 0 ≤ a0.Proc then (if a0.Proc ≤ 64 then (if 0 ≤ a0.Seq then (if a0.Seq < 4611686018427387904 then ((zkv q a0.Op).bind fun r1 => (if r1 = true then (if (-1125899906842624) ≤ a0.Resp then (some (decide (a0.Resp ≤ 1125899906842624))) else (some false)) else (some false))) else (some false)) else (some false)) else (some false)) else (some false)) else (some false)) else (some false))
def zkx : Nat → Int → Option (Bool)
 | 0, _ => none
 | q + 1, a0 => ((zku q a0).bind fun r1 => (some (!(decide (a0 = r1)))))
def zky : Nat → Bool → (List Int) → Int → Int → Int → Option (Bool)
 | 0, _, _, _, _, _ => none
 | q + 1, v0z, v0l, v1, v5, v6 => (if (wrp .i64 (v6 + 1)) < (v0l.length : Int) then (if 0 ≤ v6 then ((v0l[v6.toNat]?).bind fun e1 => (if e1 ≤ v5 then (some false) else (if 255 < e1 then (some false) else (if 0 ≤ (wrp .i64 (v6 + 1)) then ((v0l[(wrp .i64 (v6 + 1)).toNat]?).bind fun e2 => (if e2 < v1 then (some false) else (if 1099511627776 < e2 then (some false) else (zky q v0z v0l v1 e1 (wrp .i64 (v6 + 2)))))) else none)))) else none) else (if (Int.tmod (v0l.length : Int) 2) = 0 then (some (decide ((v0l.length : Int) ≤ 128))) else (some false)))
def zkz : Nat → (Sl Int) → Int → Option (Bool)
 | 0, _, _ => none
 | q + 1, a0, a1 => (zky q a0.z a0.l a1 (-1) 0)
def zk0 : Nat → Bool → (List Int) → Int → Int → Int → Bool → (List Int) → Bool → Int → Option (Int)
 | 0, _, _, _, _, _, _, _, _, _ => none
 | q + 1, v0z, v0l, v7, v8, h0_0, h0_1z, h0_1l, h0_2, h0_3 => (if v8 < v7 then (if 0 ≤ v8 then ((v0l[v8.toNat]?).bind fun e1 => ((zkx q e1).bind fun r2 => (if r2 = true then (some v8) else (zk0 q v0z v0l v7 (wrp .i64 (v8 + 1)) h0_0 h0_1z h0_1l h0_2 h0_3)))) else none) else (some (-1)))
def zk1 : Nat → Bool → (List Int) → Int → Bool → (List Int) → Bool → Int → Option (Int)
 | 0, _, _, _, _, _, _, _ => none
 | q + 1, v0z, v0l, h0_0, h0_1z, h0_1l, h0_2, h0_3 => (zk0 q v0z v0l (v0l.length : Int) 0 h0_0 h0_1z h0_1l h0_2 h0_3)
def zk2 : Nat → zkk → Option (Bool)
 | 0, _ => none
 | q + 1, a0 => (if a0.To < 0 then (some false) else (if 3 ≤ a0.To then (some false) else (if a0.Sealed = true then ((zk1 q a0.L.z a0.L.l a0.Kind a0.L.z a0.L.l a0.Sealed a0.To).bind fun r1 => (if a0.Kind = 0 then (if (a0.L.l.length : Int) = 1 then (some (!(decide (0 ≤ r1)))) else (some false)) else (if a0.Kind = 1 then (if (a0.L.l.length : Int) = 1 then (some (!(decide (0 ≤ r1)))) else (some false)) else (if a0.Kind = 2 then (if (a0.L.l.length : Int) ≤ 64 then (some (!(decide (0 ≤ r1)))) else (some false)) else (if a0.Kind = 3 then (if (a0.L.l.length : Int) ≤ 64 then (some (!(decide (0 ≤ r1)))) else (some false)) else (if a0.Kind = 4 then ((zkz q a0.L (-1099511627776)).bind fun r2 => (some r2)) else (if a0.Kind = 5 then ((zkz q a0.L 0).bind fun r3 => (some r3)) else (some false)))))))) else (if a0.To = 0 then ((zk1 q a0.L.z a0.L.l a0.Kind a0.L.z a0.L.l a0.Sealed a0.To).bind fun r4 => (if a0.Kind = 0 then (if (a0.L.l.length : Int) = 1 then (some (!(decide (0 ≤ r4)))) else (some false)) else (if a0.Kind = 1 then (if (a0.L.l.length : Int) = 1 then (some (!(decide (0 ≤ r4)))) else (some false)) else (if a0.Kind = 2 then (if (a0.L.l.length : Int) ≤ 64 then (some (!(decide (0 ≤ r4)))) else (some false)) else (if a0.Kind = 3 then (if (a0.L.l.length : Int) ≤ 64 then (some (!(decide (0 ≤ r4)))) else (some false)) else (if a0.Kind = 4 then ((zkz q a0.L (-1099511627776)).bind fun r5 => (some r5)) else (if a0.Kind = 5 then ((zkz q a0.L 0).bind fun r6 => (some r6)) else (some false)))))))) else (some false)))))
def zk3 : Nat → zkk → zkn → Option (zkk × Int)
 | 0, _, _ => none
 | q + 1, a0, a1 => ((a0.L.l[0]?).bind fun e1 => (if a1.Code = 7 then (some (a0, e1)) else (if a0.Kind = 0 then (if a1.Code = 1 then ((zku q a1.A).bind fun r2 => ((zku q (wrp .i64 (e1 + r2))).bind fun r3 => (some ((⟨a0.Kind, ⟨false, [r3]⟩, a0.Sealed, a0.To⟩ : zkk), e1)))) else (if a0.Kind = 1 then (if a1.Code = 2 then ((zku q a1.A).bind fun r4 => (some ((⟨a0.Kind, ⟨false, [r4]⟩, a0.Sealed, a0.To⟩ : zkk), e1))) else (some (a0, 0))) else (some (a0, 0)))) else (if a0.Kind = 1 then (if a1.Code = 2 then ((zku q a1.A).bind fun r5 => (some ((⟨a0.Kind, ⟨false, [r5]⟩, a0.Sealed, a0.To⟩ : zkk), e1))) else (some (a0, 0))) else (some (a0, 0))))))
def zk4 : Nat → (Sl Int) → Option ((Ow Int))
 | 0, _ => none
 | q + 1, a0 => (if a0.z = true then (some ⟨true, true, []⟩) else (if a0.l.length ≤ 4294967296 then (some ⟨false, true, a0.l⟩) else none))
def zk5 : Nat → (Ow Int) → Int → Int → Option ((Ow Int))
 | 0, _, _, _ => none
 | q + 1, a0, a1, a2 => (if 0 ≤ a1 then (if a1 ≤ a2 then (if a2 ≤ (a0.xs.length : Int) then (if a1 = a2 then (some a0) else (if a1.toNat ≤ a0.xs.length then (if a0.n = true then (if 0 ≤ a2 then (if a2.toNat ≤ a0.xs.length then (if (a0.xs.length + (a0.xs.length - a2.toNat)) ≤ 4294967296 then (if (((a0.xs.length + (a0.xs.length - a2.toNat)) : Nat) : Int) ≤ (a0.xs.length : Int) then (if a0.xs.length ≤ (a0.xs.length + (a0.xs.length - a2.toNat)) then (if (a0.xs.length - a2.toNat) = 0 then none else (if a0.x = true then (some ⟨(a0.n && (decide ((a0.xs.length - a2.toNat) = 0))), true, (((List.take (a0.xs.length + (a0.xs.length - a2.toNat)) (a0.xs ++ (List.drop a2.toNat a0.xs))) ++ (List.replicate (a0.xs.length - (a0.xs.length + (a0.xs.length - a2.toNat))) 0)) ++ (List.drop ((a0.xs.length + (a0.xs.length - a2.toNat)) + (a0.xs.length - (a0.xs.length + (a0.xs.length - a2.toNat)))) (a0.xs ++ (List.drop a2.toNat a0.xs))))⟩) else none)) else none) else none) else none) else none) else none) else (if 0 ≤ a2 then (if a2.toNat ≤ a0.xs.length then (if (a1.toNat + (a0.xs.length - a2.toNat)) ≤ a0.xs.length then (if a0.x = true then (if (((a1.toNat + (a0.xs.length - a2.toNat)) : Nat) : Int) ≤ (a0.xs.length : Int) then (if a0.xs.length ≤ (((min a1.toNat a0.xs.length) + (a0.xs.length - a2.toNat)) + (a0.xs.length - (a1.toNat + (a0.xs.length - a2.toNat)))) then (some ⟨a0.n, true, (List.take (a1.toNat + (a0.xs.length - a2.toNat)) (((List.take (a1.toNat + (a0.xs.length - a2.toNat)) (((List.take a1.toNat a0.xs) ++ (List.drop a2.toNat a0.xs)) ++ (List.drop (a1.toNat + (a0.xs.length - a2.toNat)) a0.xs))) ++ (List.replicate (a0.xs.length - (a1.toNat + (a0.xs.length - a2.toNat))) 0)) ++ (List.drop ((a1.toNat + (a0.xs.length - a2.toNat)) + (a0.xs.length - (a1.toNat + (a0.xs.length - a2.toNat)))) (((List.take a1.toNat a0.xs) ++ (List.drop a2.toNat a0.xs)) ++ (List.drop (a1.toNat + (a0.xs.length - a2.toNat)) a0.xs)))))⟩) else none) else none) else none) else none) else none) else none)) else none)) else none) else none) else none)
def zk6 : Nat → zkk → zkn → Option (zkk × Int)
 | 0, _, _ => none
 | q + 1, a0, a1 => (if a1.Code = 7 then (some (a0, (a0.L.l.length : Int))) else (if a1.Code = 3 then (if (a0.L.l.length : Int) < 64 then ((zk4 q a0.L).bind fun r1 => ((zku q a1.A).bind fun r2 => (if (r1.xs.length + 1) ≤ 4294967296 then (some ((⟨a0.Kind, ⟨false, (r1.xs ++ [r2])⟩, a0.Sealed, a0.To⟩ : zkk), (wrp .i64 ((a0.L.l.length : Int) + 1)))) else none))) else (some (a0, (-1)))) else (if a1.Code = 4 then (if (a0.L.l.length : Int) = 0 then (some (a0, (-1))) else (if a0.Kind = 2 then ((a0.L.l[0]?).bind fun e3 => ((zk4 q a0.L).bind fun r4 => ((zk5 q r4 0 (wrp .i64 1)).bind fun r5 => (some ((⟨a0.Kind, ⟨r5.n, r5.xs⟩, a0.Sealed, a0.To⟩ : zkk), e3))))) else (if 0 ≤ (wrp .i64 ((a0.L.l.length : Int) - 1)) then ((a0.L.l[(wrp .i64 ((a0.L.l.length : Int) - 1)).toNat]?).bind fun e6 => ((zk4 q a0.L).bind fun r7 => ((zk5 q r7 (wrp .i64 ((a0.L.l.length : Int) - 1)) (wrp .i64 ((wrp .i64 ((a0.L.l.length : Int) - 1)) + 1))).bind fun r8 => (some ((⟨a0.Kind, ⟨r8.n, r8.xs⟩, a0.Sealed, a0.To⟩ : zkk), e6))))) else none))) else (some (a0, 0)))))
def zk7 : Nat → Bool → (List Int) → Int → Int → Option (Int × Bool)
 | 0, _, _, _, _ => none
 | q + 1, v0z, v0l, v1, v6 => (if v6 < (v0l.length : Int) then (if 0 ≤ v6 then ((v0l[v6.toNat]?).bind fun e1 => (if e1 < v1 then (zk7 q v0z v0l v1 (wrp .i64 (v6 + 2))) else (some (v6, (decide (e1 = v1)))))) else none) else (some (v6, false)))
def zk8 : Nat → (Sl Int) → Int → Option (Int × Bool)
 | 0, _, _ => none
 | q + 1, a0, a1 => (zk7 q a0.z a0.l a1 0)
def zk9 : Nat → (Sl Int) → Int → Option (Int)
 | 0, _, _ => none
 | q + 1, a0, a1 => ((zk8 q a0 a1).bind fun r1 => (if r1.2 = true then (if 0 ≤ (wrp .i64 (r1.1 + 1)) then ((a0.l[(wrp .i64 (r1.1 + 1)).toNat]?).bind fun e2 => (some e2)) else none) else (some (-1))))
def zla : Nat → (Ow Int) → Int → (Ow Int) → Option (Ow Int)
 | 0, _, _, _ => none
 | q + 1, a0, a1, a2 => (if insOk a0 a1 a2 then (some (insR a0 a1 a2)) else none)
def zlb : Nat → (Sl Int) → Int → Int → Option ((Sl Int) × Bool)
 | 0, _, _, _ => none
 | q + 1, a0, a1, a2 => ((zk8 q a0 a1).bind fun r1 => (if r1.2 = true then ((zk4 q a0).bind fun r2 => (if 0 ≤ (wrp .i64 (r1.1 + 1)) then (if (wrp .i64 (r1.1 + 1)).toNat < r2.xs.length then ((r2.xs[(wrp .i64 (r1.1 + 1)).toNat]?).bind fun e3 => (if r2.x = true then (some (⟨r2.n, (List.set r2.xs ((wrp .i64 (r1.1 + 1)).toNat) a2)⟩, true)) else none)) else none) else none)) else (if 128 ≤ (a0.l.length : Int) then (some (a0, false)) else ((zk4 q a0).bind fun r4 => ((zla q r4 r1.1 ⟨false, true, [a1, a2]⟩).bind fun r5 => (some (⟨r5.n, r5.xs⟩, true)))))))
def zlc : Nat → zkk → zkn → Option (zkk × Int)
 | 0, _, _ => none
 | q + 1, a0, a1 => (if a1.Code = 7 then (if a1.A < 0 then (some (a0, (-1))) else (if 255 < a1.A then (some (a0, (-1))) else ((zk9 q a0.L a1.A).bind fun r1 => ((zk8 q a0.L a1.A).bind fun r2 => (if a1.Code = 6 then (if r2.2 = true then ((zk4 q a0.L).bind fun r3 => ((zk5 q r3 r2.1 (wrp .i64 (r2.1 + 2))).bind fun r4 => (some ((⟨a0.Kind, ⟨r4.n, r4.xs⟩, a0.Sealed, a0.To⟩ : zkk), r1)))) else (if a1.Code = 5 then ((zku q a1.B).bind fun r5 => ((zlb q a0.L a1.A r5).bind fun r6 => (if r6.2 = true then (some ((⟨a0.Kind, r6.1, a0.Sealed, a0.To⟩ : zkk), r1)) else (some (a0, (-2)))))) else (some (a0, r1)))) else (if a1.Code = 5 then ((zku q a1.B).bind fun r7 => ((zlb q a0.L a1.A r7).bind fun r8 => (if r8.2 = true then (some ((⟨a0.Kind, r8.1, a0.Sealed, a0.To⟩ : zkk), r1)) else (some (a0, (-2)))))) else (some (a0, r1)))))))) else (if a1.Code = 6 then (if a1.A < 0 then (some (a0, (-1))) else (if 255 < a1.A then (some (a0, (-1))) else ((zk9 q a0.L a1.A).bind fun r9 => ((zk8 q a0.L a1.A).bind fun r10 => (if r10.2 = true then ((zk4 q a0.L).bind fun r11 => ((zk5 q r11 r10.1 (wrp .i64 (r10.1 + 2))).bind fun r12 => (some ((⟨a0.Kind, ⟨r12.n, r12.xs⟩, a0.Sealed, a0.To⟩ : zkk), r9)))) else (if a1.Code = 5 then ((zku q a1.B).bind fun r13 => ((zlb q a0.L a1.A r13).bind fun r14 => (if r14.2 = true then (some ((⟨a0.Kind, r14.1, a0.Sealed, a0.To⟩ : zkk), r9)) else (some (a0, (-2)))))) else (some (a0, r9)))))))) else (if a1.Code = 5 then (if a1.A < 0 then (some (a0, (-1))) else (if 255 < a1.A then (some (a0, (-1))) else ((zk9 q a0.L a1.A).bind fun r15 => ((zk8 q a0.L a1.A).bind fun r16 => ((zku q a1.B).bind fun r17 => ((zlb q a0.L a1.A r17).bind fun r18 => (if r18.2 = true then (some ((⟨a0.Kind, r18.1, a0.Sealed, a0.To⟩ : zkk), r15)) else (some (a0, (-2)))))))))) else (some (a0, 0)))))
def zld : Nat → zkk → zkn → Option (zkk × Int)
 | 0, _, _ => none
 | q + 1, a0, a1 => (if a1.A < 0 then (some (a0, 0)) else (if 65536 ≤ a1.A then (some (a0, 0)) else (if a1.B < 0 then (some (a0, 0)) else ((zk9 q a0.L (wrp .i64 (Int.tdiv a1.A 256))).bind fun r1 => ((zk9 q a0.L (Int.tmod a1.A 256)).bind fun r2 => (if r1 < a1.B then (some (a0, 0)) else (if (wrp .i64 (Int.tdiv a1.A 256)) = (Int.tmod a1.A 256) then (some (a0, 1)) else ((zlb q a0.L (Int.tmod a1.A 256) (wrp .i64 ((if r2 < 0 then 0 else r2) + a1.B))).bind fun r3 => (if r3.2 = true then (if 1099511627776 < (wrp .i64 ((if r2 < 0 then 0 else r2) + a1.B)) then (some (a0, 0)) else ((zlb q r3.1 (wrp .i64 (Int.tdiv a1.A 256)) (wrp .i64 (r1 - a1.B))).bind fun r4 => (some ((⟨a0.Kind, r4.1, a0.Sealed, a0.To⟩ : zkk), 1)))) else (some (a0, 0)))))))))))
def zle : Nat → zkk → zkn → Option (zkk × Int)
 | 0, _, _ => none
 | q + 1, a0, a1 => (if a1.Code = 9 then ((zld q a0 a1).bind fun r1 => (some (r1.1, r1.2))) else (if a1.Code = 7 then (if a1.A < 0 then (some (a0, (-1))) else (if 255 < a1.A then (some (a0, (-1))) else ((zk9 q a0.L a1.A).bind fun r2 => (some (a0, r2))))) else (if a1.Code = 8 then (if a1.A < 0 then (some (a0, (-1))) else (if 255 < a1.A then (some (a0, (-1))) else (if a1.B < 0 then (some (a0, (-1))) else ((zk9 q a0.L a1.A).bind fun r3 => ((zku q a1.B).bind fun r4 => ((zku q (wrp .i64 ((if r3 < 0 then 0 else r3) + r4))).bind fun r5 => ((zlb q a0.L a1.A r5).bind fun r6 => (if r6.2 = true then (some ((⟨a0.Kind, r6.1, a0.Sealed, a0.To⟩ : zkk), r5)) else (some (a0, (-2))))))))))) else (some (a0, 0)))))
def zlf : Nat → zkk → zkn → Option (zkk × Int)
 | 0, _, _ => none
 | q + 1, a0, a1 => ((zk2 q a0).bind fun r1 => (if r1 = true then (if a0.Sealed = true then (some (a0, (-1125899906842624))) else (if a1.Code = 10 then (if 0 ≤ a1.A then (if a1.A < 3 then (some ((⟨a0.Kind, a0.L, true, a1.A⟩ : zkk), 0)) else (some ((⟨a0.Kind, a0.L, true, a0.To⟩ : zkk), 0))) else (some ((⟨a0.Kind, a0.L, true, a0.To⟩ : zkk), 0))) else (if a0.Kind = 0 then ((zk3 q a0 a1).bind fun r2 => (some (r2.1, r2.2))) else (if a0.Kind = 1 then ((zk3 q a0 a1).bind fun r3 => (some (r3.1, r3.2))) else (if a0.Kind = 2 then ((zk6 q a0 a1).bind fun r4 => (some (r4.1, r4.2))) else (if a0.Kind = 3 then ((zk6 q a0 a1).bind fun r5 => (some (r5.1, r5.2))) else (if a0.Kind = 4 then ((zlc q a0 a1).bind fun r6 => (some (r6.1, r6.2))) else ((zle q a0 a1).bind fun r7 => (some (r7.1, r7.2)))))))))) else (some (a0, 0))))
def zlg : Nat → (Sl zkl) → Option ((Ow zkl))
 | 0, _ => none
 | q + 1, a0 => (if a0.z = true then (some ⟨true, true, []⟩) else (if a0.l.length ≤ 4294967296 then (some ⟨false, true, a0.l⟩) else none))
def zlh : Nat → (Ow zkl) → Int → (Ow zkl) → Option (Ow zkl)
 | 0, _, _, _ => none
 | q + 1, a0, a1, a2 => (if insOk a0 a1 a2 then (some (insR a0 a1 a2)) else none)
def zli : Nat → Int → Int → Int → Int → Int → Int → Int → Int → Int → Bool → (List zkl) → Bool → Option (Int)
 | 0, _, _, _, _, _, _, _, _, _, _, _, _ => none
 | q + 1, v7, v8, h0_0, h0_1, h0_2, h0_3, h0_4, h0_5, h0_6, h1z, h1l, h1x => (if v8 < v7 then (if 0 ≤ v8 then (if v8.toNat < h1l.length then ((h1l[v8.toNat]?).bind fun e1 => (if e1.Proc = h0_1 then (some v8) else (zli q v7 (wrp .i64 (v8 + 1)) h0_0 h0_1 h0_2 h0_3 h0_4 h0_5 h0_6 h1z h1l h1x))) else none) else none) else (some (-1)))
def zlj : Nat → Int → Int → Int → Int → Int → Int → Int → Bool → (List zkl) → Bool → Option (Int)
 | 0, _, _, _, _, _, _, _, _, _, _ => none
 | q + 1, h0_0, h0_1, h0_2, h0_3, h0_4, h0_5, h0_6, h1z, h1l, h1x => (zli q (h1l.length : Int) 0 h0_0 h0_1 h0_2 h0_3 h0_4 h0_5 h0_6 h1z h1l h1x)
def zlk : Nat → Int → Int → Int → Int → Int → Int → Int → Int → Int → Bool → (List zkl) → Bool → Option (Nat × (List zkl) × Bool)
 | 0, _, _, _, _, _, _, _, _, _, _, _, _ => none
 | q + 1, v5, v6, h0_0, h0_1, h0_2, h0_3, h0_4, h0_5, h0_6, h1z, h1l, h1x => (if v6 < (h1l.length : Int) then (if 0 ≤ v6 then (if v6.toNat < h1l.length then ((h1l[v6.toNat]?).bind fun e2 => (if e2.Proc = h0_1 then (zlk q v5 (wrp .i64 (v6 + 1)) h0_0 h0_1 h0_2 h0_3 h0_4 h0_5 h0_6 h1z h1l h1x) else (if 0 ≤ v5 then (if v5.toNat < h1l.length then ((h1l[v5.toNat]?).bind fun e3 => (if h1x = true then (zlk q (wrp .i64 (v5 + 1)) (wrp .i64 (v6 + 1)) h0_0 h0_1 h0_2 h0_3 h0_4 h0_5 h0_6 h1z (List.set h1l v5.toNat e2) true) else none)) else none) else none))) else none) else none) else (if 0 ≤ v5 then (if v5.toNat ≤ h1l.length then (if h1x = true then (if v5.toNat ≤ (((min v5.toNat h1l.length) + (h1l.length - v5.toNat)) + (h1l.length - (v5.toNat + (h1l.length - v5.toNat)))) then (if h1z = true then (some (v5.toNat, (((List.take v5.toNat h1l) ++ (List.replicate (h1l.length - v5.toNat) (⟨0, 0, 0⟩ : zkl))) ++ (List.drop (v5.toNat + (h1l.length - v5.toNat)) h1l)), true)) else (some (v5.toNat, (((List.take v5.toNat h1l) ++ (List.replicate (h1l.length - v5.toNat) (⟨0, 0, 0⟩ : zkl))) ++ (List.drop (v5.toNat + (h1l.length - v5.toNat)) h1l)), true))) else none) else none) else none) else none))
def zll : Nat → Int → Int → Int → Int → Int → Int → Int → Bool → (List zkl) → Bool → Option (Nat × (List zkl) × Bool)
 | 0, _, _, _, _, _, _, _, _, _, _ => none
 | q + 1, h0_0, h0_1, h0_2, h0_3, h0_4, h0_5, h0_6, h1z, h1l, h1x => ((zlj q h0_0 h0_1 h0_2 h0_3 h0_4 h0_5 h0_6 h1z h1l h1x).bind fun r1 => (if r1 = (-1) then (some (h1l.length, h1l, h1x)) else (zlk q r1 (wrp .i64 (r1 + 1)) h0_0 h0_1 h0_2 h0_3 h0_4 h0_5 h0_6 h1z h1l h1x)))
def zlm : Nat → Nat → Int → Int → Int → Int → Int → Int → Int → Int → Int → Bool → (List zkl) → Bool → Option (Int)
 | 0, _, _, _, _, _, _, _, _, _, _, _, _, _ => none
 | q + 1, v0len, v7, v8, h0_0, h0_1, h0_2, h0_3, h0_4, h0_5, h0_6, h1z, h1l, h1x => (if v8 < v7 then (if 0 ≤ v8 then (if v8.toNat < v0len then ((h1l[v8.toNat]?).bind fun e1 => (if h0_1 < e1.Proc then (some v8) else (zlm q v0len v7 (wrp .i64 (v8 + 1)) h0_0 h0_1 h0_2 h0_3 h0_4 h0_5 h0_6 h1z h1l h1x))) else none) else none) else (some (-1)))
def zln : Nat → Nat → Int → Int → Int → Int → Int → Int → Int → Bool → (List zkl) → Bool → Option (Int)
 | 0, _, _, _, _, _, _, _, _, _, _, _ => none
 | q + 1, v0len, h0_0, h0_1, h0_2, h0_3, h0_4, h0_5, h0_6, h1z, h1l, h1x => (zlm q v0len (v0len : Int) 0 h0_0 h0_1 h0_2 h0_3 h0_4 h0_5 h0_6 h1z h1l h1x)
def zlo : Nat → (Sl zkl) → zko → Option ((Ow zkl))
 | 0, _, _ => none
 | q + 1, a0, a1 => ((zlg q a0).bind fun r1 => ((zll q a1.Index a1.Proc a1.Seq a1.Op.Code a1.Op.A a1.Op.B a1.Resp r1.n r1.xs r1.x).bind fun r2 => ((zln q r2.1 a1.Index a1.Proc a1.Seq a1.Op.Code a1.Op.A a1.Op.B a1.Resp r1.n r2.2.1 r2.2.2).bind fun r3 => (if r3 < 0 then (if r2.2.2 = true then ((zlh q ⟨r1.n, r2.2.2, (List.take r2.1 r2.2.1)⟩ (r2.1 : Int) ⟨false, true, [(⟨a1.Proc, a1.Seq, a1.Resp⟩ : zkl)]⟩).bind fun r4 => (some r4)) else none) else (if r2.2.2 = true then ((zlh q ⟨r1.n, r2.2.2, (List.take r2.1 r2.2.1)⟩ r3 ⟨false, true, [(⟨a1.Proc, a1.Seq, a1.Resp⟩ : zkl)]⟩).bind fun r5 => (some r5)) else none)))))
def zlp : Nat → Bool → (List zko) → Int → Int → Int → Int → Bool → (List Int) → Bool → Int → Bool → (List zkl) → Bool → Option (zkm × Int)
 | 0, _, _, _, _, _, _, _, _, _, _, _, _, _ => none
 | q + 1, v8z, v8l, v9, v10, h0_0, h0_1, h0_2z, h0_2l, h0_3, h0_4, h2z, h2l, h2x => (if v10 < v9 then (if 0 ≤ v10 then ((v8l[v10.toNat]?).bind fun e5 => (if e5.Index = h0_0 then ((zkw q e5).bind fun r6 => (if r6 = true then ((zlf q (⟨h0_1, ⟨h0_2z, h0_2l⟩, h0_3, h0_4⟩ : zkk) e5.Op).bind fun r7 => ((zlo q ⟨h2z, h2l⟩ (⟨e5.Index, e5.Proc, e5.Seq, e5.Op, r7.2⟩ : zko)).bind fun r8 => (zlp q v8z v8l v9 (wrp .i64 (v10 + 1)) (wrp .i64 (h0_0 + 1)) r7.1.Kind r7.1.L.z r7.1.L.l r7.1.Sealed r7.1.To r8.n r8.xs r8.x))) else (some ((⟨0, (⟨0, ⟨true, []⟩, false, 0⟩ : zkk), ⟨true, []⟩⟩ : zkm), 1)))) else (some ((⟨0, (⟨0, ⟨true, []⟩, false, 0⟩ : zkk), ⟨true, []⟩⟩ : zkm), 15)))) else none) else (some ((⟨h0_0, (⟨h0_1, ⟨h0_2z, h0_2l⟩, h0_3, h0_4⟩ : zkk), ⟨h2z, h2l⟩⟩ : zkm), 0)))
def zlq : Nat → Bool → (List zko) → Int → Int → Int → Bool → (List Int) → Bool → Int → Bool → (List zkl) → Option (zkm × Int)
 | 0, _, _, _, _, _, _, _, _, _, _, _ => none
 | q + 1, v8z, v8l, v9, h0_0, h0_1, h0_2z, h0_2l, h0_3, h0_4, h0_5z, h0_5l => (if 0 < v9 then ((v8l[0]?).bind fun e1 => (if e1.Index = h0_0 then ((zkw q e1).bind fun r2 => (if r2 = true then ((zlf q (⟨h0_1, ⟨h0_2z, h0_2l⟩, h0_3, h0_4⟩ : zkk) e1.Op).bind fun r3 => ((zlo q ⟨h0_5z, h0_5l⟩ (⟨e1.Index, e1.Proc, e1.Seq, e1.Op, r3.2⟩ : zko)).bind fun r4 => (zlp q v8z v8l v9 (wrp .i64 1) (wrp .i64 (h0_0 + 1)) r3.1.Kind r3.1.L.z r3.1.L.l r3.1.Sealed r3.1.To r4.n r4.xs r4.x))) else (some ((⟨0, (⟨0, ⟨true, []⟩, false, 0⟩ : zkk), ⟨true, []⟩⟩ : zkm), 1)))) else (some ((⟨0, (⟨0, ⟨true, []⟩, false, 0⟩ : zkk), ⟨true, []⟩⟩ : zkm), 15)))) else (some ((⟨h0_0, (⟨h0_1, ⟨h0_2z, h0_2l⟩, h0_3, h0_4⟩ : zkk), ⟨h0_5z, h0_5l⟩⟩ : zkm), 0)))
def zlr : Nat → zkm → (Sl zko) → Option (zkm × Int)
 | 0, _, _ => none
 | q + 1, a0, a1 => (zlq q a1.z a1.l (a1.l.length : Int) a0.Index a0.State.Kind a0.State.L.z a0.State.L.l a0.State.Sealed a0.State.To a0.Table.z a0.Table.l)
def zls : Nat → zkl → Option (Bool)
 | 0, _ => none
 | q + 1, a0 => (if 0 ≤ a0.Proc then (if a0.Proc ≤ 64 then (if 0 ≤ a0.Seq then (if a0.Seq < 4611686018427387904 then (if (-1125899906842624) ≤ a0.Resp then (some (decide (a0.Resp ≤ 1125899906842624))) else (some false)) else (some false)) else (some false)) else (some false)) else (some false))
def zlt : Nat → Bool → (List zkl) → Bool → (List zkl) → Int → Int → Option (Bool)
 | 0, _, _, _, _, _, _ => none
 | q + 1, v0z, v0l, v5z, v5l, v6, v7 => (if v7 < v6 then (if 0 ≤ v7 then ((v5l[v7.toNat]?).bind fun e1 => ((zls q e1).bind fun r2 => (if r2 = true then (if 0 < v7 then (if 0 ≤ (wrp .i64 (v7 - 1)) then ((v0l[(wrp .i64 (v7 - 1)).toNat]?).bind fun e3 => (if e1.Proc ≤ e3.Proc then (some false) else (zlt q v0z v0l v5z v5l v6 (wrp .i64 (v7 + 1))))) else none) else (zlt q v0z v0l v5z v5l v6 (wrp .i64 (v7 + 1)))) else (some false)))) else none) else (some true))
def zlu : Nat → (Sl zkl) → Option (Bool)
 | 0, _ => none
 | q + 1, a0 => (zlt q a0.z a0.l a0.z a0.l (a0.l.length : Int) 0)
def zlv : Nat → zkm → Option (Bool)
 | 0, _ => none
 | q + 1, a0 => (if 0 ≤ a0.Index then (if a0.Index < 4611686018427387904 then ((zk2 q a0.State).bind fun r1 => (if r1 = true then ((zlu q a0.Table).bind fun r2 => (some r2)) else (some false))) else (some false)) else (some false))
def zlw : Nat → Int → Bool → (List Int) → Bool → Option ((Ow Int))
 | 0, _, _, _, _ => none
 | q + 1, v1, h0z, h0l, h0x => (if 128 ≤ v1 then (if (h0l.length + 1) ≤ 4294967296 then (zlw q (ishr .u64 v1 7) false (h0l ++ [(ibits .or .u8 (wrp .u8 v1) 128)]) h0x) else none) else (if (h0l.length + 1) ≤ 4294967296 then (some ⟨false, h0x, (h0l ++ [(wrp .u8 v1)])⟩) else none))
def zlx : Nat → (Ow Int) → Int → Option ((Ow Int))
 | 0, _, _ => none
 | q + 1, a0, a1 => (zlw q a1 a0.n a0.xs a0.x)
def zly : Nat → (Ow Int) → Int → Option ((Ow Int))
 | 0, _, _ => none
 | q + 1, a0, a1 => (if a1 < 0 then (some a0) else (if 4611686018427387904 ≤ a1 then (some a0) else ((zlx q a0 (wrp .u64 a1)).bind fun r1 => (some r1))))
def zlz : Nat → Int → Option (Int)
 | 0, _ => none
 | q + 1, a0 => (some (ibits .xor .u64 (ishl .u64 (wrp .u64 a0) 1) (wrp .u64 (ishr .i64 a0 63))))
def zl0 : Nat → (Ow Int) → Int → Option ((Ow Int))
 | 0, _, _ => none
 | q + 1, a0, a1 => ((zlz q a1).bind fun r1 => ((zlx q a0 r1).bind fun r2 => (some r2)))
mutual
def zl1 : Nat → Int → (List Int) → (List Int) → Option ((List Int))
 | 0, _, _, _ => none
 | q + 1, v5, h0_0, h1_0 => (if v5 < 256 then (zl2 q v5 (wrp .u32 v5) v5 0 h0_0 h1_0) else (if 256 ≤ h1_0.length then (if (min 256 h1_0.length) = 256 then (if 256 ≤ h0_0.length then (if 256 ≤ (256 + (h0_0.length - 256)) then (some (List.take 256 ((List.take 256 h1_0) ++ (List.drop 256 h0_0)))) else none) else none) else none) else none))
def zl2 : Nat → Int → Int → Int → Int → (List Int) → (List Int) → Option ((List Int))
 | 0, _, _, _, _, _, _ => none
 | q + 1, v2, v3, v5, v10, h0_0, h1_0 => (if v10 < 8 then (zl2 q v2 (ibits .xor .u32 (ishr .u32 v3 1) (ibits .and .u32 2197175160 (wrp .u32 (0 - (ibits .and .u32 v3 1))))) v5 (wrp .i64 (v10 + 1)) h0_0 h1_0) else (if 0 ≤ v2 then (if v2.toNat < 256 then (if (v2.toNat + 1) ≤ h1_0.length then (zl1 q (wrp .i64 (v5 + 1)) h0_0 (List.set h1_0 v2.toNat v3)) else none) else none) else none))
end
def zl3 : Nat → Option ((List Int))
 | 0 => none
 | q + 1 => (zl1 q 0 (List.replicate 256 0) (List.replicate 256 0))
def zl4 : Nat → Int → Bool → (List Int) → Int → Int → (List Int) → Option (Int)
 | 0, _, _, _, _, _, _ => none
 | q + 1, v6, v12z, v12l, v13, v14, h0_0 => (if v14 < v13 then (if 0 ≤ v14 then ((v12l[v14.toNat]?).bind fun e2 => (if 0 ≤ (ibits .xor .u8 (wrp .u8 v6) e2) then (if (ibits .xor .u8 (wrp .u8 v6) e2).toNat < 256 then ((h0_0[(ibits .xor .u8 (wrp .u8 v6) e2).toNat]?).bind fun e3 => (zl4 q (ibits .xor .u32 e3 (ishr .u32 v6 8)) v12z v12l v13 (wrp .i64 (v14 + 1)) h0_0)) else none) else none)) else none) else (some (ibits .xor .u32 4294967295 v6)))
def zl5 : Nat → Int → (Sl Int) → Option (Int)
 | 0, _, _ => none
 | q + 1, a0, a1 => ((zl3 q).bind fun r1 => (if r1.length = 256 then (zl4 q (ibits .xor .u32 4294967295 a0) a1.z a1.l (a1.l.length : Int) 0 r1) else none))
def zl6 : Nat → (Sl Int) → Option (Int)
 | 0, _ => none
 | q + 1, a0 => ((zl5 q 0 a0).bind fun r1 => (some r1))
def zl7 : Nat → Int → Int → Int → Bool → (List Int) → Option ((Ow Int))
 | 0, _, _, _, _, _ => none
 | q + 1, v0, v7, v8, h0z, h0l => (if v8 < v7 then (if (wrp .i64 (8 * v8)) < 0 then none else (if (h0l.length + 1) ≤ 4294967296 then (zl7 q v0 v7 (wrp .i64 (v8 + 1)) false (h0l ++ [(wrp .u8 (ishr .u64 v0 (wrp .i64 (8 * v8))))])) else none)) else (some ⟨h0z, true, h0l⟩))
def zl8 : Nat → Int → Int → Option ((Ow Int))
 | 0, _, _ => none
 | q + 1, a0, a1 => (zl7 q a0 a1 0 true [])
def zl9 : Nat → Int → Option ((Ow Int))
 | 0, _ => none
 | q + 1, a0 => ((zl8 q (wrp .u64 a0) 4).bind fun r1 => (some r1))
def zma : Nat → (Sl Int) → (Sl Int) → Option ((Ow Int))
 | 0, _, _ => none
 | q + 1, a0, a1 => ((zl6 q a0).bind fun r1 => ((zl5 q r1 a1).bind fun r2 => ((zl9 q r2).bind fun r3 => (some r3))))
def zmb : Nat → Nat → Bool → (List (Sl Int)) → Int → Int → Bool → (List Int) → Option ((Ow Int))
 | 0, _, _, _, _, _, _, _ => none
 | q + 1, v6len, v25z, v25l, v26, v27, h0z, h0l => (if v27 < v26 then (if 0 ≤ v27 then ((v25l[v27.toNat]?).bind fun e2 => (if (v6len + e2.l.length) ≤ h0l.length then (zmb q (v6len + e2.l.length) v25z v25l v26 (wrp .i64 (v27 + 1)) h0z (((List.take v6len h0l) ++ e2.l) ++ (List.drop (v6len + e2.l.length) h0l))) else none)) else none) else (some ⟨h0z, true, (List.take v6len h0l)⟩))
def zmc : Nat → Bool → (List (Sl Int)) → Int → Int → Bool → (List Int) → Option ((Ow Int))
 | 0, _, _, _, _, _, _ => none
 | q + 1, v25z, v25l, v26, v27, h0z, h0l => (if v27 < v26 then (if 0 ≤ v27 then ((v25l[v27.toNat]?).bind fun e4 => (if (h0l.length + e4.l.length) ≤ 4294967296 then (zmc q v25z v25l v26 (wrp .i64 (v27 + 1)) (h0z && (decide (e4.l.length = 0))) (h0l ++ e4.l)) else none)) else none) else (some ⟨h0z, true, h0l⟩))
def zmd : Nat → Bool → (List (Sl Int)) → Int → Option ((Ow Int))
 | 0, _, _, _ => none
 | q + 1, v25z, v25l, v26 => (if 0 < v26 then ((v25l[0]?).bind fun e3 => (if e3.l.length ≤ 4294967296 then (zmc q v25z v25l v26 (wrp .i64 1) (decide (e3.l.length = 0)) e3.l) else none)) else (some ⟨true, true, []⟩))
def zme : Nat → Bool → (List (Sl Int)) → Int → Bool → (List (Sl Int)) → Int → Int → Option ((Ow Int))
 | 0, _, _, _, _, _, _, _ => none
 | q + 1, v0z, v0l, v3, v9z, v9l, v10, v11 => (if v11 < v10 then (if 0 ≤ v11 then ((v9l[v11.toNat]?).bind fun e1 => (if (wrp .i64 (v3 + (e1.l.length : Int))) < 0 then none else (zme q v0z v0l (wrp .i64 (v3 + (e1.l.length : Int))) v9z v9l v10 (wrp .i64 (v11 + 1))))) else none) else (if v3 < 0 then none else (if 0 < (wrp .i64 (v3 - (wrp .i64 0))) then (if 0 ≤ (wrp .i64 (v3 - (wrp .i64 0))) then (if (wrp .i64 (v3 - (wrp .i64 0))).toNat ≤ 4294967296 then (if (wrp .i64 (v3 - (wrp .i64 0))) = 0 then none else (zmb q 0 v0z v0l (v0l.length : Int) 0 (decide ((wrp .i64 (v3 - (wrp .i64 0))) = 0)) (List.replicate ((wrp .i64 (v3 - (wrp .i64 0))).toNat) 0))) else none) else none) else (zmd q v0z v0l (v0l.length : Int)))))
def zmf : Nat → (Sl (Sl Int)) → Option ((Ow Int))
 | 0, _ => none
 | q + 1, a0 => (zme q a0.z a0.l 0 a0.z a0.l (a0.l.length : Int) 0)
def zmg : Nat → (Sl Int) → Option ((Ow Int) × Int)
 | 0, _ => none
 | q + 1, a0 => (if 1048576 < (a0.l.length : Int) then (some (⟨true, true, []⟩, 5)) else ((zly q ⟨true, true, []⟩ (a0.l.length : Int)).bind fun r1 => ((zma q ⟨r1.n, r1.xs⟩ a0).bind fun r2 => ((zmf q ⟨false, [⟨r1.n, r1.xs⟩, a0, ⟨r2.n, r2.xs⟩]⟩).bind fun r3 => (some (r3, 0))))))
def zmh : Nat → Int → Option (Bool)
 | 0, _ => none
 | q + 1, a0 => (some (decide (a0 < 128)))
def zmi : Nat → Bool → (List Int) → Int → Int → Option (Int)
 | 0, _, _, _, _ => none
 | q + 1, v0z, v0l, v7, v8 => (if v8 < v7 then (if 0 ≤ v8 then ((v0l[v8.toNat]?).bind fun e1 => ((zmh q e1).bind fun r2 => (if r2 = true then (some v8) else (zmi q v0z v0l v7 (wrp .i64 (v8 + 1)))))) else none) else (some (-1)))
def zmj : Nat → Bool → (List Int) → Option (Int)
 | 0, _, _ => none
 | q + 1, v0z, v0l => (zmi q v0z v0l (v0l.length : Int) 0)
def zmk : Nat → (Sl Int) → Option (Bool)
 | 0, _ => none
 | q + 1, a0 => (if (a0.l.length : Int) < 10 then ((zmj q a0.z a0.l).bind fun r1 => (some (!(decide (0 ≤ r1))))) else (some false))
def zml : Nat → Bool → (List Int) → Int → Int → Int → Option (Int × Int)
 | 0, _, _, _, _, _ => none
 | q + 1, v0z, v0l, v4, v9, v10 => (if v10 < v9 then (if 0 ≤ v10 then ((v0l[v10.toNat]?).bind fun e1 => (if (wrp .i64 (7 * v10)) < 0 then none else (if v10 = 9 then (if 1 < e1 then (some (0, 0)) else (if e1 = 0 then (if 0 < v10 then (some (0, 0)) else (if e1 < 128 then (some ((ibits .or .u64 v4 (ishl .u64 (wrp .u64 (ibits .and .u8 e1 127)) (wrp .i64 (7 * v10)))), (wrp .i64 (v10 + 1)))) else (zml q v0z v0l (ibits .or .u64 v4 (ishl .u64 (wrp .u64 (ibits .and .u8 e1 127)) (wrp .i64 (7 * v10)))) v9 (wrp .i64 (v10 + 1))))) else (if e1 < 128 then (some ((ibits .or .u64 v4 (ishl .u64 (wrp .u64 (ibits .and .u8 e1 127)) (wrp .i64 (7 * v10)))), (wrp .i64 (v10 + 1)))) else (zml q v0z v0l (ibits .or .u64 v4 (ishl .u64 (wrp .u64 (ibits .and .u8 e1 127)) (wrp .i64 (7 * v10)))) v9 (wrp .i64 (v10 + 1)))))) else (if e1 = 0 then (if 0 < v10 then (some (0, 0)) else (if e1 < 128 then (some ((ibits .or .u64 v4 (ishl .u64 (wrp .u64 (ibits .and .u8 e1 127)) (wrp .i64 (7 * v10)))), (wrp .i64 (v10 + 1)))) else (zml q v0z v0l (ibits .or .u64 v4 (ishl .u64 (wrp .u64 (ibits .and .u8 e1 127)) (wrp .i64 (7 * v10)))) v9 (wrp .i64 (v10 + 1))))) else (if e1 < 128 then (some ((ibits .or .u64 v4 (ishl .u64 (wrp .u64 (ibits .and .u8 e1 127)) (wrp .i64 (7 * v10)))), (wrp .i64 (v10 + 1)))) else (zml q v0z v0l (ibits .or .u64 v4 (ishl .u64 (wrp .u64 (ibits .and .u8 e1 127)) (wrp .i64 (7 * v10)))) v9 (wrp .i64 (v10 + 1)))))))) else none) else (some (0, 0)))
def zmm : Nat → (Sl Int) → Option (Int × Int)
 | 0, _ => none
 | q + 1, a0 => (zml q a0.z a0.l 0 (if 10 < (a0.l.length : Int) then 10 else (a0.l.length : Int)) 0)
def zmn : Nat → (Sl Int) → Option (Int × Int)
 | 0, _ => none
 | q + 1, a0 => ((zmm q a0).bind fun r1 => (if 4611686018427387904 ≤ r1.1 then (some (0, 0)) else (some ((wrp .i64 r1.1), r1.2))))
def zmo : Nat → Bool → (List Int) → Bool → (List Int) → Int → Int → Option (Bool)
 | 0, _, _, _, _, _, _ => none
 | q + 1, v0z, v0l, v1z, v1l, v12, v13 => (if v13 < v12 then (if 0 ≤ v13 then ((v0l[v13.toNat]?).bind fun e1 => ((v1l[v13.toNat]?).bind fun e2 => (if e1 = e2 then (zmo q v0z v0l v1z v1l v12 (wrp .i64 (v13 + 1))) else (some false)))) else none) else (some true))
def zmp : Nat → (Sl Int) → (Sl Int) → Option (Bool)
 | 0, _, _ => none
 | q + 1, a0, a1 => (if (a0.l.length : Int) = (a1.l.length : Int) then (zmo q a0.z a0.l a1.z a1.l (a0.l.length : Int) 0) else (some false))
def zmq : Nat → (Sl Int) → Option ((Ow Int))
 | 0, _ => none
 | q + 1, a0 => (if a0.z = true then (some ⟨true, true, []⟩) else (if a0.l.length ≤ 4294967296 then (some ⟨false, true, a0.l⟩) else none))
def zmr : Nat → (Sl Int) → Option ((Ow Int) × Int × Int)
 | 0, _ => none
 | q + 1, a0 => ((zmk q a0).bind fun r1 => (if r1 = true then (some (⟨true, true, []⟩, 0, 2)) else ((zmn q a0).bind fun r2 => (if r2.2 = 0 then (some (⟨true, true, []⟩, 0, 3)) else (if 1048576 < r2.1 then (some (⟨true, true, []⟩, 0, 5)) else (if (a0.l.length : Int) < (wrp .i64 ((wrp .i64 (r2.2 + 4)) + r2.1)) then (some (⟨true, true, []⟩, 0, 2)) else (if 0 ≤ r2.2 then (if r2.2 ≤ r2.2 then (if r2.2.toNat ≤ a0.l.length then (if 0 ≤ (wrp .i64 (r2.2 + r2.1)) then (if (wrp .i64 (r2.2 + r2.1)) ≤ (wrp .i64 (r2.2 + r2.1)) then (if (wrp .i64 (r2.2 + r2.1)).toNat ≤ a0.l.length then (if r2.2 ≤ (wrp .i64 (r2.2 + r2.1)) then (if (wrp .i64 (r2.2 + r2.1)) ≤ (wrp .i64 ((wrp .i64 (r2.2 + r2.1)) + 4)) then (if (wrp .i64 ((wrp .i64 (r2.2 + r2.1)) + 4)).toNat ≤ a0.l.length then ((zma q ⟨a0.z, (List.take r2.2.toNat a0.l)⟩ ⟨a0.z, (List.drop r2.2.toNat (List.take ((wrp .i64 (r2.2 + r2.1)).toNat) a0.l))⟩).bind fun r3 => ((zmp q ⟨a0.z, (List.drop ((wrp .i64 (r2.2 + r2.1)).toNat) (List.take ((wrp .i64 ((wrp .i64 (r2.2 + r2.1)) + 4)).toNat) a0.l))⟩ ⟨r3.n, r3.xs⟩).bind fun r4 => (if r4 = true then ((zmq q ⟨a0.z, (List.drop r2.2.toNat (List.take ((wrp .i64 (r2.2 + r2.1)).toNat) a0.l))⟩).bind fun r5 => (some (r5, (wrp .i64 ((wrp .i64 (r2.2 + r2.1)) + 4)), 0))) else (some (⟨true, true, []⟩, 0, 4))))) else none) else none) else none) else none) else none) else none) else none) else none) else none)))))))
def zms : Nat → Int → Option (Int)
 | 0, _ => none
 | q + 1, a0 => (some (ibits .xor .i64 (wrp .i64 (ishr .u64 a0 1)) (wrp .i64 (0 - (wrp .i64 (ibits .and .u64 a0 1))))))
def zmt : Nat → (Sl Int) → Option (Int × Int)
 | 0, _ => none
 | q + 1, a0 => ((zmm q a0).bind fun r1 => (if r1.2 = 0 then (some (0, 0)) else ((zms q r1.1).bind fun r2 => (some (r2, r1.2)))))
def zmu : Nat → Bool → (List Int) → Bool → (List Int) → Int → Int → Option (Bool)
 | 0, _, _, _, _, _, _ => none
 | q + 1, v0z, v0l, v1z, v1l, v12, v13 => (if v13 < v12 then (if 0 ≤ v13 then ((v0l[v13.toNat]?).bind fun e1 => ((v1l[v13.toNat]?).bind fun e2 => (if e1 = e2 then (zmu q v0z v0l v1z v1l v12 (wrp .i64 (v13 + 1))) else (some false)))) else none) else (some true))
def zmv : Nat → (Sl Int) → (Sl Int) → Option (Bool)
 | 0, _, _ => none
 | q + 1, a0, a1 => (if (a0.l.length : Int) = (a1.l.length : Int) then (zmu q a0.z a0.l a1.z a1.l (a0.l.length : Int) 0) else (some false))
def zmw : Nat → zkk → zkk → Option (Bool)
 | 0, _, _ => none
 | q + 1, a0, a1 => (if a0.Kind = a1.Kind then (if (a0.Sealed == a1.Sealed) = true then (if a0.To = a1.To then ((zmv q a0.L a1.L).bind fun r1 => (some r1)) else (some false)) else (some false)) else (some false))
def zmx : Nat → Bool → (List zkl) → Bool → (List zkl) → Int → Int → Option (Bool)
 | 0, _, _, _, _, _, _ => none
 | q + 1, v0z, v0l, v1z, v1l, v12, v13 => (if v13 < v12 then (if 0 ≤ v13 then ((v0l[v13.toNat]?).bind fun e1 => ((v1l[v13.toNat]?).bind fun e2 => (if e1.Proc = e2.Proc then (if e1.Seq = e2.Seq then (if e1.Resp = e2.Resp then (zmx q v0z v0l v1z v1l v12 (wrp .i64 (v13 + 1))) else (some false)) else (some false)) else (some false)))) else none) else (some true))
def zmy : Nat → (Sl zkl) → (Sl zkl) → Option (Bool)
 | 0, _, _ => none
 | q + 1, a0, a1 => (if (a0.l.length : Int) = (a1.l.length : Int) then (zmx q a0.z a0.l a1.z a1.l (a0.l.length : Int) 0) else (some false))
def zmz : Nat → zkm → zkm → Option (Bool)
 | 0, _, _ => none
 | q + 1, a0, a1 => (if a0.Index = a1.Index then ((zmw q a0.State a1.State).bind fun r1 => (if r1 = true then ((zmy q a0.Table a1.Table).bind fun r2 => (some r2)) else (some false))) else (some false))
def zm0 (q : Nat) : Option Bool := if 21360 ≤ 8 * q then some true else none
def zm1 : Nat → Int → Option (zkk)
 | 0, _ => none
 | q + 1, a0 => (if a0 = 0 then (some (⟨a0, ⟨false, [0]⟩, false, 0⟩ : zkk)) else (if a0 = 1 then (some (⟨a0, ⟨false, [0]⟩, false, 0⟩ : zkk)) else (if a0 = 2 then (some (⟨a0, ⟨true, []⟩, false, 0⟩ : zkk)) else (if a0 = 3 then (some (⟨a0, ⟨true, []⟩, false, 0⟩ : zkk)) else (if a0 = 4 then (some (⟨a0, ⟨true, []⟩, false, 0⟩ : zkk)) else (if a0 = 5 then (some (⟨a0, ⟨true, []⟩, false, 0⟩ : zkk)) else (some (⟨0, ⟨true, []⟩, false, 0⟩ : zkk))))))))
def zm2 : Nat → Bool → (List Int) → Int → Bool → (List (Sl Int)) → Option ((Ow (Sl Int)) × Int × Int)
 | 0, _, _, _, _, _ => none
 | q + 1, v0z, v0l, v3, h0z, h0l => (if v3 < (v0l.length : Int) then (if 0 ≤ v3 then (if v3 ≤ (v0l.length : Int) then ((zmr q ⟨v0z, (List.drop v3.toNat v0l)⟩).bind fun r1 => (if r1.2.2 = 0 then (if (h0l.length + 1) ≤ 4294967296 then (zm2 q v0z v0l (wrp .i64 (v3 + r1.2.1)) false (h0l ++ [⟨r1.1.n, r1.1.xs⟩])) else none) else (some (⟨h0z, true, h0l⟩, v3, r1.2.2)))) else none) else none) else (some (⟨h0z, true, h0l⟩, v3, 0)))
def zm3 : Nat → (Sl Int) → Option ((Ow (Sl Int)) × Int × Int)
 | 0, _ => none
 | q + 1, a0 => (zm2 q a0.z a0.l 0 true [])
def zm4 : Nat → (Sl Int) → Option ((Ow (Sl Int)) × Int)
 | 0, _ => none
 | q + 1, a0 => ((zm3 q a0).bind fun r1 => (if r1.2.2 = 0 then (some (r1.1, 0)) else (some (⟨true, true, []⟩, r1.2.2))))
def zm5 : Nat → Int → Option (Bool)
 | 0, _ => none
 | q + 1, a0 => (if 1 ≤ a0 then (some (decide (a0 ≤ 3))) else (some false))
def zm6 : Nat → (Sl Int) → Option (zkn × Int)
 | 0, _ => none
 | q + 1, a0 => ((zmn q a0).bind fun r1 => (if 0 ≤ r1.2 then (if r1.2 ≤ (a0.l.length : Int) then ((zmt q ⟨a0.z, (List.drop r1.2.toNat a0.l)⟩).bind fun r2 => (if 0 < r1.2 then (if 0 ≤ r2.2 then (if r2.2 ≤ (((a0.l.length - r1.2.toNat) : Nat) : Int) then ((zmt q ⟨a0.z, (List.drop r2.2.toNat (List.drop r1.2.toNat a0.l))⟩).bind fun r3 => (if 0 < r2.2 then (if 0 ≤ r3.2 then (if r3.2 ≤ ((((a0.l.length - r1.2.toNat) - r2.2.toNat) : Nat) : Int) then (if 0 < r3.2 then ((zkv q (⟨r1.1, r2.1, r3.1⟩ : zkn)).bind fun r4 => (if r4 = true then (some ((⟨r1.1, r2.1, r3.1⟩ : zkn), (wrp .i64 ((a0.l.length : Int) - (((((a0.l.length - r1.2.toNat) - r2.2.toNat) - r3.2.toNat) : Nat) : Int))))) else (some ((⟨0, 0, 0⟩ : zkn), 0)))) else (some ((⟨0, 0, 0⟩ : zkn), 0))) else none) else none) else (if 0 ≤ r3.2 then (if r3.2 ≤ ((((a0.l.length - r1.2.toNat) - r2.2.toNat) : Nat) : Int) then (some ((⟨0, 0, 0⟩ : zkn), 0)) else none) else none))) else none) else none) else (if 0 ≤ r2.2 then (if r2.2 ≤ (((a0.l.length - r1.2.toNat) : Nat) : Int) then ((zmt q ⟨a0.z, (List.drop r2.2.toNat (List.drop r1.2.toNat a0.l))⟩).bind fun r5 => (if 0 ≤ r5.2 then (if r5.2 ≤ ((((a0.l.length - r1.2.toNat) - r2.2.toNat) : Nat) : Int) then (some ((⟨0, 0, 0⟩ : zkn), 0)) else none) else none)) else none) else none))) else none) else none))
def zm7 : Nat → Int → Int → Int → Int → Int → Int → Int → Int → Int → Int → Int → Int → Option (zko × Int)
 | 0, _, _, _, _, _, _, _, _, _, _, _, _ => none
 | q + 1, v3, v47_0, v47_1, v47_2, v47_3, v48, h0_1, h0_2, h0_3, h0_4, h0_5, h0_6 => (if v48 < 4 then (if 0 ≤ v48 then (if v48.toNat < 4 then (if v48.toNat = 0 then (if v47_0 = 0 then (some ((⟨0, 0, 0, (⟨0, 0, 0⟩ : zkn), 0⟩ : zko), 0)) else (zm7 q (wrp .i64 (v3 + v47_0)) v47_0 v47_1 v47_2 v47_3 (wrp .i64 (v48 + 1)) h0_1 h0_2 h0_3 h0_4 h0_5 h0_6)) else (if v48.toNat = 1 then (if v47_1 = 0 then (some ((⟨0, 0, 0, (⟨0, 0, 0⟩ : zkn), 0⟩ : zko), 0)) else (zm7 q (wrp .i64 (v3 + v47_1)) v47_0 v47_1 v47_2 v47_3 (wrp .i64 (v48 + 1)) h0_1 h0_2 h0_3 h0_4 h0_5 h0_6)) else (if v48.toNat = 2 then (if v47_2 = 0 then (some ((⟨0, 0, 0, (⟨0, 0, 0⟩ : zkn), 0⟩ : zko), 0)) else (zm7 q (wrp .i64 (v3 + v47_2)) v47_0 v47_1 v47_2 v47_3 (wrp .i64 (v48 + 1)) h0_1 h0_2 h0_3 h0_4 h0_5 h0_6)) else (if v48.toNat = 3 then (if v47_3 = 0 then (some ((⟨0, 0, 0, (⟨0, 0, 0⟩ : zkn), 0⟩ : zko), 0)) else (zm7 q (wrp .i64 (v3 + v47_3)) v47_0 v47_1 v47_2 v47_3 (wrp .i64 (v48 + 1)) h0_1 h0_2 h0_3 h0_4 h0_5 h0_6)) else none)))) else none) else none) else (some ((⟨0, h0_1, h0_2, (⟨h0_3, h0_4, h0_5⟩ : zkn), h0_6⟩ : zko), v3)))
def zm8 : Nat → (Sl Int) → Option (zko × Int)
 | 0, _ => none
 | q + 1, a0 => ((zmn q a0).bind fun r1 => (if 0 ≤ r1.2 then (if r1.2 ≤ (a0.l.length : Int) then ((zmt q ⟨a0.z, (List.drop r1.2.toNat a0.l)⟩).bind fun r2 => (if 0 ≤ r2.2 then (if r2.2 ≤ (((a0.l.length - r1.2.toNat) : Nat) : Int) then ((zm6 q ⟨a0.z, (List.drop r2.2.toNat (List.drop r1.2.toNat a0.l))⟩).bind fun r3 => (if 0 ≤ r3.2 then (if r3.2 ≤ ((((a0.l.length - r1.2.toNat) - r2.2.toNat) : Nat) : Int) then ((zmt q ⟨a0.z, (List.drop r3.2.toNat (List.drop r2.2.toNat (List.drop r1.2.toNat a0.l)))⟩).bind fun r4 => (zm7 q 0 r1.2 r2.2 r3.2 r4.2 0 r1.1 r2.1 r3.1.Code r3.1.A r3.1.B r4.1)) else none) else none)) else none) else none)) else none) else none))
def zm9 : Nat → Bool → (List zko) → Bool → (List zko) → Int → Int → Option (Bool)
 | 0, _, _, _, _, _, _ => none
 | q + 1, v0z, v0l, v5z, v5l, v6, v7 => (if v7 < v6 then (if 0 ≤ v7 then ((v5l[v7.toNat]?).bind fun e1 => ((zkw q e1).bind fun r2 => (if r2 = true then ((v0l[0]?).bind fun e3 => (if e1.Index = (wrp .i64 (e3.Index + v7)) then (zm9 q v0z v0l v5z v5l v6 (wrp .i64 (v7 + 1))) else (some false))) else (some false)))) else none) else (if 0 < (v0l.length : Int) then (some (decide ((v0l.length : Int) ≤ 256))) else (some false)))
def zna : Nat → (Sl zko) → Option (Bool)
 | 0, _ => none
 | q + 1, a0 => (zm9 q a0.z a0.l a0.z a0.l (a0.l.length : Int) 0)
def znb : Nat → (Ow Int) → zkn → Option ((Ow Int) × Int)
 | 0, _, _ => none
 | q + 1, a0, a1 => ((zkv q a1).bind fun r1 => (if r1 = true then ((zly q a0 a1.Code).bind fun r2 => ((zl0 q r2 a1.A).bind fun r3 => ((zl0 q r3 a1.B).bind fun r4 => (some (r4, 0))))) else (some (a0, 1))))
def znc : Nat → Bool → (List zko) → Int → Int → (List (Int × Int)) → Bool → (List Int) → Bool → Option ((Ow Int) × Int)
 | 0, _, _, _, _, _, _, _, _ => none
 | q + 1, v20z, v20l, v21, v22, h0m, h1z, h1l, h1x => (if v22 < v21 then (if 0 ≤ v22 then ((v20l[v22.toNat]?).bind fun e5 => ((zly q ⟨h1z, h1x, h1l⟩ e5.Proc).bind fun r6 => ((zl0 q r6 (wrp .i64 (e5.Seq - (mget h0m e5.Proc)))).bind fun r7 => ((znb q r7 e5.Op).bind fun r8 => ((zl0 q r8.1 e5.Resp).bind fun r9 => (znc q v20z v20l v21 (wrp .i64 (v22 + 1)) (mset h0m e5.Proc e5.Seq) r9.n r9.xs r9.x)))))) else none) else (some (⟨h1z, h1x, h1l⟩, 0)))
def znd : Nat → (Sl zko) → Option ((Ow Int) × Int)
 | 0, _ => none
 | q + 1, a0 => ((zna q a0).bind fun r1 => (if r1 = true then ((a0.l[0]?).bind fun e2 => ((zly q ⟨true, true, []⟩ e2.Index).bind fun r3 => ((zly q r3 (a0.l.length : Int)).bind fun r4 => (znc q a0.z a0.l (a0.l.length : Int) 0 [] r4.n r4.xs r4.x)))) else (some (⟨true, true, []⟩, 1))))
def zne : Nat → (Sl Int) → (Sl Int) → Option (Bool)
 | 0, _, _ => none
 | q + 1, a0, a1 => (some (decide (a0.l = a1.l)))
def znf : Nat → Bool → (List Int) → Int → Bool → (List Int) → Int → Int → (List (Int × Int)) → Bool → (List zko) → Option ((Ow zko) × Int)
 | 0, _, _, _, _, _, _, _, _, _, _ => none
 | q + 1, v0z, v0l, v4, v10z, v10l, v44, v45, h0m, h1z, h1l => (if v45 < v44 then ((zm8 q ⟨v10z, v10l⟩).bind fun r3 => (if r3.2 = 0 then (some (⟨true, true, []⟩, 3)) else (if (h1l.length + 1) ≤ 4294967296 then (if 0 ≤ r3.2 then (if r3.2 ≤ (v10l.length : Int) then (znf q v0z v0l v4 v10z (List.drop r3.2.toNat v10l) v44 (wrp .i64 (v45 + 1)) (mset h0m r3.1.Proc (wrp .i64 (r3.1.Seq + (mget h0m r3.1.Proc)))) false (h1l ++ [(⟨(wrp .i64 (v4 + v45)), r3.1.Proc, (wrp .i64 (r3.1.Seq + (mget h0m r3.1.Proc))), r3.1.Op, r3.1.Resp⟩ : zko)])) else none) else none) else none))) else ((znd q ⟨h1z, h1l⟩).bind fun r4 => (if r4.2 = 0 then ((zne q ⟨r4.1.n, r4.1.xs⟩ ⟨v0z, v0l⟩).bind fun r5 => (if r5 = true then (some (⟨h1z, false, h1l⟩, 0)) else (some (⟨true, true, []⟩, 3)))) else (some (⟨true, true, []⟩, 3)))))
def zng : Nat → (Sl Int) → Option ((Ow zko) × Int)
 | 0, _ => none
 | q + 1, a0 => ((zmn q a0).bind fun r1 => (if 0 ≤ r1.2 then (if r1.2 ≤ (a0.l.length : Int) then ((zmn q ⟨a0.z, (List.drop r1.2.toNat a0.l)⟩).bind fun r2 => (if r1.2 = 0 then (some (⟨true, true, []⟩, 3)) else (if r2.2 = 0 then (some (⟨true, true, []⟩, 3)) else (if 256 < r2.1 then (some (⟨true, true, []⟩, 3)) else (if 0 ≤ (wrp .i64 (r1.2 + r2.2)) then (if (wrp .i64 (r1.2 + r2.2)) ≤ (a0.l.length : Int) then (znf q a0.z a0.l r1.1 a0.z (List.drop ((wrp .i64 (r1.2 + r2.2)).toNat) a0.l) r2.1 0 [] true []) else none) else none))))) else none) else none))
def znh : Nat → Bool → (List zko) → Int → Bool → (List zko) → Int → Int → Option (Bool)
 | 0, _, _, _, _, _, _, _ => none
 | q + 1, v0z, v0l, v1, v7z, v7l, v8, v9 => (if v9 < v8 then (if 0 ≤ v9 then ((v7l[v9.toNat]?).bind fun e1 => ((zkw q e1).bind fun r2 => (if r2 = true then (if e1.Index = (wrp .i64 (v1 + v9)) then (znh q v0z v0l v1 v7z v7l v8 (wrp .i64 (v9 + 1))) else (some false)) else (some false)))) else none) else (some (decide ((v0l.length : Int) ≤ 4096))))
def zni : Nat → (Sl zko) → Int → Option (Bool)
 | 0, _, _ => none
 | q + 1, a0, a1 => (znh q a0.z a0.l a1 a0.z a0.l (a0.l.length : Int) 0)
def znj : Nat → Int → Option ((Ow Int))
 | 0, _ => none
 | q + 1, a0 => (if a0 < 1 then (some ⟨true, true, []⟩) else (if 4 ≤ a0 then (some ⟨true, true, []⟩) else (if 0 ≤ a0 then (if a0.toNat < 4 then (if a0.toNat = 0 then (some ⟨false, true, []⟩) else (if a0.toNat = 1 then (some ⟨false, true, [1, 2, 4]⟩) else (if a0.toNat = 2 then (some ⟨false, true, [1, 2, 3, 4]⟩) else (if a0.toNat = 3 then (some ⟨false, true, [1, 2, 3, 4, 5]⟩) else none)))) else none) else none)))
def znk : Nat → Bool → (List Int) → Int → Int → Int → Option (Int)
 | 0, _, _, _, _, _ => none
 | q + 1, v0z, v0l, v1, v7, v8 => (if v8 < v7 then (if 0 ≤ v8 then ((v0l[v8.toNat]?).bind fun e1 => (if v1 = e1 then (some v8) else (znk q v0z v0l v1 v7 (wrp .i64 (v8 + 1))))) else none) else (some (-1)))
def znl : Nat → (Sl Int) → Int → Option (Int)
 | 0, _, _ => none
 | q + 1, a0, a1 => (znk q a0.z a0.l a1 (a0.l.length : Int) 0)
def znm : Nat → (Sl Int) → Option (Int)
 | 0, _ => none
 | q + 1, a0 => ((zmn q a0).bind fun r1 => (if r1.2 = 0 then (some 0) else (if (wrp .i64 ((a0.l.length : Int) - r1.2)) < r1.1 then (some 0) else (some (wrp .i64 (r1.2 + r1.1))))))
def znn : Nat → Int → Bool → (List Int) → Int → Int → Int → Int → Int → Int → Int → Int → Bool → (List Int) → Bool → Option (zko × Int)
 | 0, _, _, _, _, _, _, _, _, _, _, _, _, _, _ => none
 | q + 1, v0, v1z, v1l, v7, h0_0, h0_1, h0_2, h0_3, h0_4, h0_5, h0_6, h1z, h1l, h1x => (if 0 < (v1l.length : Int) then ((zmn q ⟨v1z, v1l⟩).bind fun r3 => (if r3.2 = 0 then (some ((⟨h0_0, h0_1, h0_2, (⟨h0_3, h0_4, h0_5⟩ : zkn), h0_6⟩ : zko), 3)) else (if r3.1 ≤ v7 then (some ((⟨h0_0, h0_1, h0_2, (⟨h0_3, h0_4, h0_5⟩ : zkn), h0_6⟩ : zko), 3)) else (if 0 ≤ r3.2 then (if r3.2 ≤ (v1l.length : Int) then ((znl q ⟨h1z, h1l⟩ r3.1).bind fun r4 => (if 0 ≤ r4 then ((zk5 q ⟨h1z, h1x, h1l⟩ r4 (wrp .i64 (r4 + 1))).bind fun r5 => (if r3.1 = 1 then ((zmn q ⟨v1z, (List.drop r3.2.toNat v1l)⟩).bind fun r6 => (if r6.2 = 0 then (some ((⟨r6.1, h0_1, h0_2, (⟨h0_3, h0_4, h0_5⟩ : zkn), h0_6⟩ : zko), 3)) else (if 0 ≤ r6.2 then (if r6.2 ≤ (((v1l.length - r3.2.toNat) : Nat) : Int) then (znn q v0 v1z (List.drop r6.2.toNat (List.drop r3.2.toNat v1l)) r3.1 r6.1 h0_1 h0_2 h0_3 h0_4 h0_5 h0_6 r5.n r5.xs r5.x) else none) else none))) else (if r3.1 = 2 then ((zmn q ⟨v1z, (List.drop r3.2.toNat v1l)⟩).bind fun r7 => (if r7.2 = 0 then (some ((⟨h0_0, r7.1, h0_2, (⟨h0_3, h0_4, h0_5⟩ : zkn), h0_6⟩ : zko), 3)) else (if 0 ≤ r7.2 then (if r7.2 ≤ (((v1l.length - r3.2.toNat) : Nat) : Int) then (znn q v0 v1z (List.drop r7.2.toNat (List.drop r3.2.toNat v1l)) r3.1 h0_0 r7.1 h0_2 h0_3 h0_4 h0_5 h0_6 r5.n r5.xs r5.x) else none) else none))) else (if r3.1 = 3 then ((zmn q ⟨v1z, (List.drop r3.2.toNat v1l)⟩).bind fun r8 => (if r8.2 = 0 then (some ((⟨h0_0, h0_1, r8.1, (⟨h0_3, h0_4, h0_5⟩ : zkn), h0_6⟩ : zko), 3)) else (if 0 ≤ r8.2 then (if r8.2 ≤ (((v1l.length - r3.2.toNat) : Nat) : Int) then (znn q v0 v1z (List.drop r8.2.toNat (List.drop r3.2.toNat v1l)) r3.1 h0_0 h0_1 r8.1 h0_3 h0_4 h0_5 h0_6 r5.n r5.xs r5.x) else none) else none))) else (if r3.1 = 4 then ((zm6 q ⟨v1z, (List.drop r3.2.toNat v1l)⟩).bind fun r9 => (if r9.2 = 0 then (some ((⟨h0_0, h0_1, h0_2, r9.1, h0_6⟩ : zko), 3)) else (if 0 ≤ r9.2 then (if r9.2 ≤ (((v1l.length - r3.2.toNat) : Nat) : Int) then (znn q v0 v1z (List.drop r9.2.toNat (List.drop r3.2.toNat v1l)) r3.1 h0_0 h0_1 h0_2 r9.1.Code r9.1.A r9.1.B h0_6 r5.n r5.xs r5.x) else none) else none))) else (if r3.1 = 5 then ((zmt q ⟨v1z, (List.drop r3.2.toNat v1l)⟩).bind fun r10 => (if r10.2 = 0 then (some ((⟨h0_0, h0_1, h0_2, (⟨h0_3, h0_4, h0_5⟩ : zkn), r10.1⟩ : zko), 3)) else (if 0 ≤ r10.2 then (if r10.2 ≤ (((v1l.length - r3.2.toNat) : Nat) : Int) then (znn q v0 v1z (List.drop r10.2.toNat (List.drop r3.2.toNat v1l)) r3.1 h0_0 h0_1 h0_2 h0_3 h0_4 h0_5 r10.1 r5.n r5.xs r5.x) else none) else none))) else (some ((⟨h0_0, h0_1, h0_2, (⟨h0_3, h0_4, h0_5⟩ : zkn), h0_6⟩ : zko), 3)))))))) else (if r3.1 < 16 then (some ((⟨h0_0, h0_1, h0_2, (⟨h0_3, h0_4, h0_5⟩ : zkn), h0_6⟩ : zko), 7)) else (if v0 = 3 then (some ((⟨h0_0, h0_1, h0_2, (⟨h0_3, h0_4, h0_5⟩ : zkn), h0_6⟩ : zko), 7)) else ((znm q ⟨v1z, (List.drop r3.2.toNat v1l)⟩).bind fun r11 => (if r11 = 0 then (some ((⟨h0_0, h0_1, h0_2, (⟨h0_3, h0_4, h0_5⟩ : zkn), h0_6⟩ : zko), 3)) else (if 0 ≤ r11 then (if r11 ≤ (((v1l.length - r3.2.toNat) : Nat) : Int) then (znn q v0 v1z (List.drop r11.toNat (List.drop r3.2.toNat v1l)) r3.1 h0_0 h0_1 h0_2 h0_3 h0_4 h0_5 h0_6 h1z h1l h1x) else none) else none))))))) else none) else none)))) else (if 0 < (h1l.length : Int) then (some ((⟨h0_0, h0_1, h0_2, (⟨h0_3, h0_4, h0_5⟩ : zkn), h0_6⟩ : zko), 7)) else ((zkw q (⟨h0_0, h0_1, h0_2, (⟨h0_3, h0_4, h0_5⟩ : zkn), h0_6⟩ : zko)).bind fun r12 => (if r12 = true then (some ((⟨h0_0, h0_1, h0_2, (⟨h0_3, h0_4, h0_5⟩ : zkn), h0_6⟩ : zko), 0)) else (some ((⟨h0_0, h0_1, h0_2, (⟨h0_3, h0_4, h0_5⟩ : zkn), h0_6⟩ : zko), 1))))))
def zno : Nat → Int → (Sl Int) → Option (zko × Int)
 | 0, _, _ => none
 | q + 1, a0, a1 => ((znj q a0).bind fun r1 => ((zk4 q ⟨r1.n, r1.xs⟩).bind fun r2 => (znn q a0 a1.z a1.l (-1) 0 0 0 0 0 0 0 r2.n r2.xs r2.x)))
def znp : Nat → (Sl Int) → Option (zko × Int)
 | 0, _ => none
 | q + 1, a0 => (if (a0.l.length : Int) = 0 then (some ((⟨0, 0, 0, (⟨0, 0, 0⟩ : zkn), 0⟩ : zko), 2)) else ((zmn q a0).bind fun r1 => (if r1.2 = 0 then (some ((⟨0, 0, 0, (⟨0, 0, 0⟩ : zkn), 0⟩ : zko), 3)) else ((znj q r1.1).bind fun r2 => (if r2.n = true then (some ((⟨0, 0, 0, (⟨0, 0, 0⟩ : zkn), 0⟩ : zko), 6)) else (if 0 ≤ r1.2 then (if r1.2 ≤ (a0.l.length : Int) then ((zno q r1.1 ⟨a0.z, (List.drop r1.2.toNat a0.l)⟩).bind fun r3 => (if r3.2 = 0 then (some (r3.1, 0)) else (some ((⟨0, 0, 0, (⟨0, 0, 0⟩ : zkn), 0⟩ : zko), r3.2)))) else none) else none))))))
def znq : Nat → Int → Bool → (List Int) → Bool → (List zko) → Option ((Ow zko) × Bool)
 | 0, _, _, _, _, _ => none
 | q + 1, v0, v1z, v1l, h0z, h0l => (if 0 < (v1l.length : Int) then ((zmn q ⟨v1z, v1l⟩).bind fun r1 => (if r1.2 = 0 then (some (⟨true, true, []⟩, false)) else (if r1.1 = 0 then (some (⟨true, true, []⟩, false)) else (if (wrp .i64 ((v1l.length : Int) - r1.2)) < r1.1 then (some (⟨true, true, []⟩, false)) else (if 0 ≤ r1.2 then ((v1l[r1.2.toNat]?).bind fun e2 => (if e2 = (wrp .u8 v0) then (if r1.2 ≤ (wrp .i64 (r1.2 + r1.1)) then (if (wrp .i64 (r1.2 + r1.1)).toNat ≤ v1l.length then ((znp q ⟨v1z, (List.drop r1.2.toNat (List.take ((wrp .i64 (r1.2 + r1.1)).toNat) v1l))⟩).bind fun r3 => (if r3.2 = 0 then (if (h0l.length + 1) ≤ 4294967296 then (if 0 ≤ (wrp .i64 (r1.2 + r1.1)) then (if (wrp .i64 (r1.2 + r1.1)) ≤ (v1l.length : Int) then (znq q v0 v1z (List.drop ((wrp .i64 (r1.2 + r1.1)).toNat) v1l) false (h0l ++ [r3.1])) else none) else none) else none) else (some (⟨true, true, []⟩, false)))) else none) else none) else (some (⟨true, true, []⟩, false)))) else none))))) else (some (⟨h0z, true, h0l⟩, true)))
def znr : Nat → Int → (Sl Int) → Option ((Ow zko) × Bool)
 | 0, _, _ => none
 | q + 1, a0, a1 => (znq q a0 a1.z a1.l true [])
def zns : Nat → (Sl Int) → Option ((Ow Int))
 | 0, _ => none
 | q + 1, a0 => ((zmg q a0).bind fun r1 => (some r1.1))
def znt : Nat → Bool → (List (Sl Int)) → Int → Int → Bool → (List (Sl Int)) → Option ((Ow (Sl Int)))
 | 0, _, _, _, _, _, _ => none
 | q + 1, v6z, v6l, v7, v8, h0z, h0l => (if v8 < v7 then (if 0 ≤ v8 then ((v6l[v8.toNat]?).bind fun e1 => ((zns q e1).bind fun r2 => (if (h0l.length + 1) ≤ 4294967296 then (znt q v6z v6l v7 (wrp .i64 (v8 + 1)) false (h0l ++ [⟨r2.n, r2.xs⟩])) else none))) else none) else (some ⟨h0z, true, h0l⟩))
def znu : Nat → (Sl (Sl Int)) → Option ((Ow (Sl Int)))
 | 0, _ => none
 | q + 1, a0 => (znt q a0.z a0.l (a0.l.length : Int) 0 true [])
def znv : Nat → Bool → (List (Sl Int)) → Int → Int → Bool → (List Int) → Bool → Option ((Ow Int))
 | 0, _, _, _, _, _, _, _ => none
 | q + 1, v14z, v14l, v15, v16, h0z, h0l, h0x => (if v16 < v15 then (if 0 ≤ v16 then ((v14l[v16.toNat]?).bind fun e2 => ((zly q ⟨h0z, h0x, h0l⟩ (e2.l.length : Int)).bind fun r3 => (znv q v14z v14l v15 (wrp .i64 (v16 + 1)) r3.n r3.xs r3.x))) else none) else ((zns q ⟨h0z, h0l⟩).bind fun r4 => (some r4)))
def znw : Nat → (Sl (Sl Int)) → Option ((Ow Int))
 | 0, _ => none
 | q + 1, a0 => ((zly q ⟨true, true, []⟩ (wrp .i64 ((a0.l.length : Int) - 1))).bind fun r1 => (if 0 ≤ (wrp .i64 ((a0.l.length : Int) - 1)) then (if (wrp .i64 ((a0.l.length : Int) - 1)).toNat ≤ a0.l.length then (znv q a0.z (List.take ((wrp .i64 ((a0.l.length : Int) - 1)).toNat) a0.l) (((min ((wrp .i64 ((a0.l.length : Int) - 1)).toNat) a0.l.length) : Nat) : Int) 0 r1.n r1.xs r1.x) else none) else none))
def znx : Nat → Bool → (List Int) → Int → Bool → (List (Sl Int)) → Bool → Int → Int → Int → Option (Int × Int × Int × Int × Bool)
 | 0, _, _, _, _, _, _, _, _, _ => none
 | q + 1, v1z, v1l, v19, h1z, h1l, h1x, h3_0, h3_1, h3_2 => (if v19 < 3 then ((zmn q ⟨v1z, v1l⟩).bind fun r2 => (if 0 ≤ v19 then (if v19.toNat < 3 then (if v19.toNat = 0 then (if r2.2 = 0 then (some (3, 0, 0, 0, false)) else (if 0 ≤ r2.2 then (if r2.2 ≤ (v1l.length : Int) then (znx q v1z (List.drop r2.2.toNat v1l) (wrp .i64 (v19 + 1)) h1z h1l h1x r2.1 h3_1 h3_2) else none) else none)) else (if v19.toNat = 1 then (if r2.2 = 0 then (some (3, 0, 0, 0, false)) else (if 0 ≤ r2.2 then (if r2.2 ≤ (v1l.length : Int) then (znx q v1z (List.drop r2.2.toNat v1l) (wrp .i64 (v19 + 1)) h1z h1l h1x h3_0 r2.1 h3_2) else none) else none)) else (if v19.toNat = 2 then (if r2.2 = 0 then (some (3, 0, 0, 0, false)) else (if 0 ≤ r2.2 then (if r2.2 ≤ (v1l.length : Int) then (znx q v1z (List.drop r2.2.toNat v1l) (wrp .i64 (v19 + 1)) h1z h1l h1x h3_0 h3_1 r2.1) else none) else none)) else none))) else none) else none)) else (if 0 < (v1l.length : Int) then (some (3, 0, 0, 0, false)) else ((zm5 q h3_0).bind fun r3 => (if r3 = true then (if 6 ≤ h3_1 then (some (1, 0, 0, 0, false)) else (some (0, h3_0, h3_1, h3_2, true))) else (some (6, 0, 0, 0, false))))))
def zny : Nat → Bool → (List Int) → Bool → (List (Sl Int)) → Bool → Option (Int × Int × Int × Int × Bool)
 | 0, _, _, _, _, _ => none
 | q + 1, v1z, v1l, h1z, h1l, h1x => (if (v1l.length : Int) = 0 then (some (3, 0, 0, 0, false)) else ((v1l[0]?).bind fun e1 => (if e1 = 108 then (if 1 ≤ (v1l.length : Int) then (znx q v1z (List.drop 1 v1l) 0 h1z h1l h1x 0 0 0) else none) else (some (3, 0, 0, 0, false)))))
def znz : Nat → Nat → Nat → Int → Int → Bool → (List (Sl Int)) → Bool → Int → Int → Int → Bool → Bool → (List zko) → Option (Nat × Int × Int × Int × Int × Int × Bool × Int × Int × Int × Int × Int × Nat × Bool × Bool × (List zko))
 | 0, _, _, _, _, _, _, _, _, _, _, _, _, _ => none
 | q + 1, v1len, v19len, v20, v21, h1z, h1l, h1x, h2_0, h2_1, h2_2, h2_4, h3z, h3l => (if v21 < v20 then (if 0 ≤ v21 then (if v21.toNat < v19len then ((h1l[(1 + v21.toNat)]?).bind fun e8 => (if h2_0 = 3 then ((zng q e8).bind fun r9 => (if r9.2 = 0 then (if h2_4 = true then (if (r9.1.xs.length : Int) = 0 then (some (1, 0, 0, 0, 0, 0, false, (wrp .i64 (v21 + 1)), 3, h2_0, h2_1, h2_2, h3l.length, h2_4, h3z, h3l)) else (if 16 < (r9.1.xs.length : Int) then (some (1, 0, 0, 0, 0, 0, false, (wrp .i64 (v21 + 1)), 3, h2_0, h2_1, h2_2, h3l.length, h2_4, h3z, h3l)) else ((zni q ⟨r9.1.n, r9.1.xs⟩ (wrp .i64 (h2_2 + (h3l.length : Int)))).bind fun r10 => (if r10 = true then (if 4096 < (wrp .i64 ((h3l.length : Int) + (r9.1.xs.length : Int))) then (some (1, 0, 0, 0, 0, 0, false, (wrp .i64 (v21 + 1)), 5, h2_0, h2_1, h2_2, h3l.length, h2_4, h3z, h3l)) else (if (h3l.length + r9.1.xs.length) ≤ 4294967296 then (znz q v1len v19len v20 (wrp .i64 (v21 + 1)) h1z h1l h1x h2_0 h2_1 h2_2 (decide ((r9.1.xs.length : Int) = 16)) (h3z && (decide (r9.1.xs.length = 0))) (h3l ++ r9.1.xs)) else none)) else (some (1, 0, 0, 0, 0, 0, false, (wrp .i64 (v21 + 1)), 3, h2_0, h2_1, h2_2, h3l.length, h2_4, h3z, h3l)))))) else (some (1, 0, 0, 0, 0, 0, false, (wrp .i64 (v21 + 1)), 3, h2_0, h2_1, h2_2, h3l.length, h2_4, h3z, h3l))) else (some (1, 0, 0, 0, 0, 0, false, (wrp .i64 (v21 + 1)), 3, h2_0, h2_1, h2_2, h3l.length, h2_4, h3z, h3l)))) else ((znr q h2_0 e8).bind fun r11 => (if r11.2 = true then (if h2_4 = true then (if (r11.1.xs.length : Int) = 0 then (some (1, 0, 0, 0, 0, 0, false, (wrp .i64 (v21 + 1)), 3, h2_0, h2_1, h2_2, h3l.length, h2_4, h3z, h3l)) else (if 16 < (r11.1.xs.length : Int) then (some (1, 0, 0, 0, 0, 0, false, (wrp .i64 (v21 + 1)), 3, h2_0, h2_1, h2_2, h3l.length, h2_4, h3z, h3l)) else ((zni q ⟨r11.1.n, r11.1.xs⟩ (wrp .i64 (h2_2 + (h3l.length : Int)))).bind fun r12 => (if r12 = true then (if 4096 < (wrp .i64 ((h3l.length : Int) + (r11.1.xs.length : Int))) then (some (1, 0, 0, 0, 0, 0, false, (wrp .i64 (v21 + 1)), 5, h2_0, h2_1, h2_2, h3l.length, h2_4, h3z, h3l)) else (if (h3l.length + r11.1.xs.length) ≤ 4294967296 then (znz q v1len v19len v20 (wrp .i64 (v21 + 1)) h1z h1l h1x h2_0 h2_1 h2_2 (decide ((r11.1.xs.length : Int) = 16)) (h3z && (decide (r11.1.xs.length = 0))) (h3l ++ r11.1.xs)) else none)) else (some (1, 0, 0, 0, 0, 0, false, (wrp .i64 (v21 + 1)), 3, h2_0, h2_1, h2_2, h3l.length, h2_4, h3z, h3l)))))) else (some (1, 0, 0, 0, 0, 0, false, (wrp .i64 (v21 + 1)), 3, h2_0, h2_1, h2_2, h3l.length, h2_4, h3z, h3l))) else (some (1, 0, 0, 0, 0, 0, false, (wrp .i64 (v21 + 1)), 3, h2_0, h2_1, h2_2, h3l.length, h2_4, h3z, h3l)))))) else none) else none) else (some (1, 0, 0, 0, 0, 0, false, (v1len : Int), 0, h2_0, h2_1, h2_2, h3l.length, h2_4, h3z, h3l)))
def zn0 : Nat → Nat → Nat → Int → Bool → (List (Sl Int)) → Bool → Int → Int → Int → Bool → Option (Nat × Int × Int × Int × Int × Int × Bool × Int × Int × Int × Int × Int × Nat × Bool × Bool × (List zko))
 | 0, _, _, _, _, _, _, _, _, _, _ => none
 | q + 1, v1len, v19len, v20, h1z, h1l, h1x, h2_0, h2_1, h2_2, h2_4 => (if 0 < v20 then (if 0 < v19len then ((h1l[1]?).bind fun e3 => (if h2_0 = 3 then ((zng q e3).bind fun r4 => (if r4.2 = 0 then (if h2_4 = true then (if (r4.1.xs.length : Int) = 0 then (some (0, (wrp .i64 1), 3, h2_0, h2_1, h2_2, h2_4, 0, 0, 0, 0, 0, 0, false, false, [])) else (if 16 < (r4.1.xs.length : Int) then (some (0, (wrp .i64 1), 3, h2_0, h2_1, h2_2, h2_4, 0, 0, 0, 0, 0, 0, false, false, [])) else ((zni q ⟨r4.1.n, r4.1.xs⟩ (wrp .i64 (h2_2 + 0))).bind fun r5 => (if r5 = true then (if 4096 < (wrp .i64 (0 + (r4.1.xs.length : Int))) then (some (0, (wrp .i64 1), 5, h2_0, h2_1, h2_2, h2_4, 0, 0, 0, 0, 0, 0, false, false, [])) else (if r4.1.xs.length ≤ 4294967296 then (znz q v1len v19len v20 (wrp .i64 1) h1z h1l h1x h2_0 h2_1 h2_2 (decide ((r4.1.xs.length : Int) = 16)) (decide (r4.1.xs.length = 0)) r4.1.xs) else none)) else (some (0, (wrp .i64 1), 3, h2_0, h2_1, h2_2, h2_4, 0, 0, 0, 0, 0, 0, false, false, [])))))) else (some (0, (wrp .i64 1), 3, h2_0, h2_1, h2_2, h2_4, 0, 0, 0, 0, 0, 0, false, false, []))) else (some (0, (wrp .i64 1), 3, h2_0, h2_1, h2_2, h2_4, 0, 0, 0, 0, 0, 0, false, false, [])))) else ((znr q h2_0 e3).bind fun r6 => (if r6.2 = true then (if h2_4 = true then (if (r6.1.xs.length : Int) = 0 then (some (0, (wrp .i64 1), 3, h2_0, h2_1, h2_2, h2_4, 0, 0, 0, 0, 0, 0, false, false, [])) else (if 16 < (r6.1.xs.length : Int) then (some (0, (wrp .i64 1), 3, h2_0, h2_1, h2_2, h2_4, 0, 0, 0, 0, 0, 0, false, false, [])) else ((zni q ⟨r6.1.n, r6.1.xs⟩ (wrp .i64 (h2_2 + 0))).bind fun r7 => (if r7 = true then (if 4096 < (wrp .i64 (0 + (r6.1.xs.length : Int))) then (some (0, (wrp .i64 1), 5, h2_0, h2_1, h2_2, h2_4, 0, 0, 0, 0, 0, 0, false, false, [])) else (if r6.1.xs.length ≤ 4294967296 then (znz q v1len v19len v20 (wrp .i64 1) h1z h1l h1x h2_0 h2_1 h2_2 (decide ((r6.1.xs.length : Int) = 16)) (decide (r6.1.xs.length = 0)) r6.1.xs) else none)) else (some (0, (wrp .i64 1), 3, h2_0, h2_1, h2_2, h2_4, 0, 0, 0, 0, 0, 0, false, false, [])))))) else (some (0, (wrp .i64 1), 3, h2_0, h2_1, h2_2, h2_4, 0, 0, 0, 0, 0, 0, false, false, []))) else (some (0, (wrp .i64 1), 3, h2_0, h2_1, h2_2, h2_4, 0, 0, 0, 0, 0, 0, false, false, [])))))) else none) else (some (0, (v1len : Int), 0, h2_0, h2_1, h2_2, h2_4, 0, 0, 0, 0, 0, 0, false, false, [])))
def zn1 : Nat → Nat → Bool → (List (Sl Int)) → Bool → Option (Nat × Int × Int × Int × Int × Int × Bool × Int × Int × Int × Int × Int × Nat × Bool × Bool × (List zko))
 | 0, _, _, _, _ => none
 | q + 1, v1len, h1z, h1l, h1x => (if 0 < v1len then ((h1l[0]?).bind fun e1 => ((zny q e1.z e1.l h1z h1l h1x).bind fun r2 => (if r2.1 = 0 then (if 1 ≤ v1len then (zn0 q v1len (v1len - 1) (((v1len - 1) : Nat) : Int) h1z h1l h1x r2.2.1 r2.2.2.1 r2.2.2.2.1 r2.2.2.2.2) else none) else (some (0, 0, r2.1, r2.2.1, r2.2.2.1, r2.2.2.2.1, r2.2.2.2.2, 0, 0, 0, 0, 0, 0, false, false, []))))) else none)
def zn2 : Nat → Bool → (List Int) → Int → Bool → (List (Sl Int)) → Bool → Int → Int → Int → Option (Int × Int × Int × Int × Bool)
 | 0, _, _, _, _, _, _, _, _, _ => none
 | q + 1, v1z, v1l, v19, h1z, h1l, h1x, h3_0, h3_1, h3_2 => (if v19 < 3 then ((zmn q ⟨v1z, v1l⟩).bind fun r2 => (if 0 ≤ v19 then (if v19.toNat < 3 then (if v19.toNat = 0 then (if r2.2 = 0 then (some (3, 0, 0, 0, false)) else (if 0 ≤ r2.2 then (if r2.2 ≤ (v1l.length : Int) then (zn2 q v1z (List.drop r2.2.toNat v1l) (wrp .i64 (v19 + 1)) h1z h1l h1x r2.1 h3_1 h3_2) else none) else none)) else (if v19.toNat = 1 then (if r2.2 = 0 then (some (3, 0, 0, 0, false)) else (if 0 ≤ r2.2 then (if r2.2 ≤ (v1l.length : Int) then (zn2 q v1z (List.drop r2.2.toNat v1l) (wrp .i64 (v19 + 1)) h1z h1l h1x h3_0 r2.1 h3_2) else none) else none)) else (if v19.toNat = 2 then (if r2.2 = 0 then (some (3, 0, 0, 0, false)) else (if 0 ≤ r2.2 then (if r2.2 ≤ (v1l.length : Int) then (zn2 q v1z (List.drop r2.2.toNat v1l) (wrp .i64 (v19 + 1)) h1z h1l h1x h3_0 h3_1 r2.1) else none) else none)) else none))) else none) else none)) else (if 0 < (v1l.length : Int) then (some (3, 0, 0, 0, false)) else ((zm5 q h3_0).bind fun r3 => (if r3 = true then (if 6 ≤ h3_1 then (some (1, 0, 0, 0, false)) else (some (0, h3_0, h3_1, h3_2, true))) else (some (6, 0, 0, 0, false))))))
def zn3 : Nat → Bool → (List Int) → Bool → (List (Sl Int)) → Bool → Option (Int × Int × Int × Int × Bool)
 | 0, _, _, _, _, _ => none
 | q + 1, v1z, v1l, h1z, h1l, h1x => (if (v1l.length : Int) = 0 then (some (3, 0, 0, 0, false)) else ((v1l[0]?).bind fun e1 => (if e1 = 108 then (if 1 ≤ (v1l.length : Int) then (zn2 q v1z (List.drop 1 v1l) 0 h1z h1l h1x 0 0 0) else none) else (some (3, 0, 0, 0, false)))))
def zn4 : Nat → Nat → Nat → Int → Int → Bool → (List (Sl Int)) → Bool → Int → Int → Int → Bool → Bool → (List zko) → Option (Nat × Int × Int × Int × Int × Int × Bool × Int × Int × Int × Int × Int × Nat × Bool × Bool × (List zko))
 | 0, _, _, _, _, _, _, _, _, _, _, _, _, _ => none
 | q + 1, v1len, v19len, v20, v21, h1z, h1l, h1x, h2_0, h2_1, h2_2, h2_4, h3z, h3l => (if v21 < v20 then (if 0 ≤ v21 then (if v21.toNat < v19len then ((h1l[(1 + v21.toNat)]?).bind fun e8 => (if h2_0 = 3 then ((zng q e8).bind fun r9 => (if r9.2 = 0 then (if h2_4 = true then (if (r9.1.xs.length : Int) = 0 then (some (1, 0, 0, 0, 0, 0, false, (wrp .i64 (v21 + 1)), 3, h2_0, h2_1, h2_2, h3l.length, h2_4, h3z, h3l)) else (if 16 < (r9.1.xs.length : Int) then (some (1, 0, 0, 0, 0, 0, false, (wrp .i64 (v21 + 1)), 3, h2_0, h2_1, h2_2, h3l.length, h2_4, h3z, h3l)) else ((zni q ⟨r9.1.n, r9.1.xs⟩ (wrp .i64 (h2_2 + (h3l.length : Int)))).bind fun r10 => (if r10 = true then (if 4096 < (wrp .i64 ((h3l.length : Int) + (r9.1.xs.length : Int))) then (some (1, 0, 0, 0, 0, 0, false, (wrp .i64 (v21 + 1)), 5, h2_0, h2_1, h2_2, h3l.length, h2_4, h3z, h3l)) else (if (h3l.length + r9.1.xs.length) ≤ 4294967296 then (zn4 q v1len v19len v20 (wrp .i64 (v21 + 1)) h1z h1l h1x h2_0 h2_1 h2_2 (decide ((r9.1.xs.length : Int) = 16)) (h3z && (decide (r9.1.xs.length = 0))) (h3l ++ r9.1.xs)) else none)) else (some (1, 0, 0, 0, 0, 0, false, (wrp .i64 (v21 + 1)), 3, h2_0, h2_1, h2_2, h3l.length, h2_4, h3z, h3l)))))) else (some (1, 0, 0, 0, 0, 0, false, (wrp .i64 (v21 + 1)), 3, h2_0, h2_1, h2_2, h3l.length, h2_4, h3z, h3l))) else (some (1, 0, 0, 0, 0, 0, false, (wrp .i64 (v21 + 1)), 3, h2_0, h2_1, h2_2, h3l.length, h2_4, h3z, h3l)))) else ((znr q h2_0 e8).bind fun r11 => (if r11.2 = true then (if h2_4 = true then (if (r11.1.xs.length : Int) = 0 then (some (1, 0, 0, 0, 0, 0, false, (wrp .i64 (v21 + 1)), 3, h2_0, h2_1, h2_2, h3l.length, h2_4, h3z, h3l)) else (if 16 < (r11.1.xs.length : Int) then (some (1, 0, 0, 0, 0, 0, false, (wrp .i64 (v21 + 1)), 3, h2_0, h2_1, h2_2, h3l.length, h2_4, h3z, h3l)) else ((zni q ⟨r11.1.n, r11.1.xs⟩ (wrp .i64 (h2_2 + (h3l.length : Int)))).bind fun r12 => (if r12 = true then (if 4096 < (wrp .i64 ((h3l.length : Int) + (r11.1.xs.length : Int))) then (some (1, 0, 0, 0, 0, 0, false, (wrp .i64 (v21 + 1)), 5, h2_0, h2_1, h2_2, h3l.length, h2_4, h3z, h3l)) else (if (h3l.length + r11.1.xs.length) ≤ 4294967296 then (zn4 q v1len v19len v20 (wrp .i64 (v21 + 1)) h1z h1l h1x h2_0 h2_1 h2_2 (decide ((r11.1.xs.length : Int) = 16)) (h3z && (decide (r11.1.xs.length = 0))) (h3l ++ r11.1.xs)) else none)) else (some (1, 0, 0, 0, 0, 0, false, (wrp .i64 (v21 + 1)), 3, h2_0, h2_1, h2_2, h3l.length, h2_4, h3z, h3l)))))) else (some (1, 0, 0, 0, 0, 0, false, (wrp .i64 (v21 + 1)), 3, h2_0, h2_1, h2_2, h3l.length, h2_4, h3z, h3l))) else (some (1, 0, 0, 0, 0, 0, false, (wrp .i64 (v21 + 1)), 3, h2_0, h2_1, h2_2, h3l.length, h2_4, h3z, h3l)))))) else none) else none) else (some (1, 0, 0, 0, 0, 0, false, (v1len : Int), 0, h2_0, h2_1, h2_2, h3l.length, h2_4, h3z, h3l)))
def zn5 : Nat → Nat → Nat → Int → Bool → (List (Sl Int)) → Bool → Int → Int → Int → Bool → Option (Nat × Int × Int × Int × Int × Int × Bool × Int × Int × Int × Int × Int × Nat × Bool × Bool × (List zko))
 | 0, _, _, _, _, _, _, _, _, _, _ => none
 | q + 1, v1len, v19len, v20, h1z, h1l, h1x, h2_0, h2_1, h2_2, h2_4 => (if 0 < v20 then (if 0 < v19len then ((h1l[1]?).bind fun e3 => (if h2_0 = 3 then ((zng q e3).bind fun r4 => (if r4.2 = 0 then (if h2_4 = true then (if (r4.1.xs.length : Int) = 0 then (some (0, (wrp .i64 1), 3, h2_0, h2_1, h2_2, h2_4, 0, 0, 0, 0, 0, 0, false, false, [])) else (if 16 < (r4.1.xs.length : Int) then (some (0, (wrp .i64 1), 3, h2_0, h2_1, h2_2, h2_4, 0, 0, 0, 0, 0, 0, false, false, [])) else ((zni q ⟨r4.1.n, r4.1.xs⟩ (wrp .i64 (h2_2 + 0))).bind fun r5 => (if r5 = true then (if 4096 < (wrp .i64 (0 + (r4.1.xs.length : Int))) then (some (0, (wrp .i64 1), 5, h2_0, h2_1, h2_2, h2_4, 0, 0, 0, 0, 0, 0, false, false, [])) else (if r4.1.xs.length ≤ 4294967296 then (zn4 q v1len v19len v20 (wrp .i64 1) h1z h1l h1x h2_0 h2_1 h2_2 (decide ((r4.1.xs.length : Int) = 16)) (decide (r4.1.xs.length = 0)) r4.1.xs) else none)) else (some (0, (wrp .i64 1), 3, h2_0, h2_1, h2_2, h2_4, 0, 0, 0, 0, 0, 0, false, false, [])))))) else (some (0, (wrp .i64 1), 3, h2_0, h2_1, h2_2, h2_4, 0, 0, 0, 0, 0, 0, false, false, []))) else (some (0, (wrp .i64 1), 3, h2_0, h2_1, h2_2, h2_4, 0, 0, 0, 0, 0, 0, false, false, [])))) else ((znr q h2_0 e3).bind fun r6 => (if r6.2 = true then (if h2_4 = true then (if (r6.1.xs.length : Int) = 0 then (some (0, (wrp .i64 1), 3, h2_0, h2_1, h2_2, h2_4, 0, 0, 0, 0, 0, 0, false, false, [])) else (if 16 < (r6.1.xs.length : Int) then (some (0, (wrp .i64 1), 3, h2_0, h2_1, h2_2, h2_4, 0, 0, 0, 0, 0, 0, false, false, [])) else ((zni q ⟨r6.1.n, r6.1.xs⟩ (wrp .i64 (h2_2 + 0))).bind fun r7 => (if r7 = true then (if 4096 < (wrp .i64 (0 + (r6.1.xs.length : Int))) then (some (0, (wrp .i64 1), 5, h2_0, h2_1, h2_2, h2_4, 0, 0, 0, 0, 0, 0, false, false, [])) else (if r6.1.xs.length ≤ 4294967296 then (zn4 q v1len v19len v20 (wrp .i64 1) h1z h1l h1x h2_0 h2_1 h2_2 (decide ((r6.1.xs.length : Int) = 16)) (decide (r6.1.xs.length = 0)) r6.1.xs) else none)) else (some (0, (wrp .i64 1), 3, h2_0, h2_1, h2_2, h2_4, 0, 0, 0, 0, 0, 0, false, false, [])))))) else (some (0, (wrp .i64 1), 3, h2_0, h2_1, h2_2, h2_4, 0, 0, 0, 0, 0, 0, false, false, []))) else (some (0, (wrp .i64 1), 3, h2_0, h2_1, h2_2, h2_4, 0, 0, 0, 0, 0, 0, false, false, [])))))) else none) else (some (0, (v1len : Int), 0, h2_0, h2_1, h2_2, h2_4, 0, 0, 0, 0, 0, 0, false, false, [])))
def zn6 : Nat → Nat → Bool → (List (Sl Int)) → Bool → Option (Nat × Int × Int × Int × Int × Int × Bool × Int × Int × Int × Int × Int × Nat × Bool × Bool × (List zko))
 | 0, _, _, _, _ => none
 | q + 1, v1len, h1z, h1l, h1x => (if 0 < v1len then ((h1l[0]?).bind fun e1 => ((zn3 q e1.z e1.l h1z h1l h1x).bind fun r2 => (if r2.1 = 0 then (if 1 ≤ v1len then (zn5 q v1len (v1len - 1) (((v1len - 1) : Nat) : Int) h1z h1l h1x r2.2.1 r2.2.2.1 r2.2.2.2.1 r2.2.2.2.2) else none) else (some (0, 0, r2.1, r2.2.1, r2.2.2.1, r2.2.2.2.1, r2.2.2.2.2, 0, 0, 0, 0, 0, 0, false, false, []))))) else none)
def zn7 : Nat → (Sl Int) → Option (zkq × (Ow (Sl Int)) × Int)
 | 0, _ => none
 | q + 1, a0 => ((zm4 q a0).bind fun r1 => (if r1.2 = 0 then (if (r1.1.xs.length : Int) < 2 then (some ((⟨0, 0, ⟨true, []⟩⟩ : zkq), ⟨true, true, []⟩, 16)) else (if 0 ≤ (wrp .i64 ((r1.1.xs.length : Int) - 1)) then (if (wrp .i64 ((r1.1.xs.length : Int) - 1)).toNat ≤ r1.1.xs.length then (if r1.1.n = true then ((zn1 q ((wrp .i64 ((r1.1.xs.length : Int) - 1)).toNat) r1.1.n r1.1.xs r1.1.x).bind fun r2 => (if r2.1 = 0 then (if r2.2.2.1 = 0 then ((znu q ⟨r1.1.n, r1.1.xs⟩).bind fun r3 => ((znw q ⟨r3.n, r3.xs⟩).bind fun r4 => (if (wrp .i64 ((r1.1.xs.length : Int) - 1)).toNat < r1.1.xs.length then ((r1.1.xs[(wrp .i64 ((r1.1.xs.length : Int) - 1)).toNat]?).bind fun e5 => ((zns q e5).bind fun r6 => ((zne q ⟨r4.n, r4.xs⟩ ⟨r6.n, r6.xs⟩).bind fun r7 => (if r7 = true then (some ((⟨r2.2.2.2.2.1, r2.2.2.2.2.2.1, ⟨true, []⟩⟩ : zkq), ⟨r3.n, false, r3.xs⟩, 0)) else (some ((⟨0, 0, ⟨true, []⟩⟩ : zkq), ⟨true, true, []⟩, 16)))))) else none))) else (some ((⟨0, 0, ⟨true, []⟩⟩ : zkq), ⟨true, true, []⟩, r2.2.2.1))) else (if r2.2.2.2.2.2.2.2.2.1 = 0 then ((znu q ⟨r1.1.n, r1.1.xs⟩).bind fun r8 => ((znw q ⟨r8.n, r8.xs⟩).bind fun r9 => (if (wrp .i64 ((r1.1.xs.length : Int) - 1)).toNat < r1.1.xs.length then ((r1.1.xs[(wrp .i64 ((r1.1.xs.length : Int) - 1)).toNat]?).bind fun e10 => ((zns q e10).bind fun r11 => ((zne q ⟨r9.n, r9.xs⟩ ⟨r11.n, r11.xs⟩).bind fun r12 => (if r12 = true then (some ((⟨r2.2.2.2.2.2.2.2.2.2.2.1, r2.2.2.2.2.2.2.2.2.2.2.2.1, ⟨r2.2.2.2.2.2.2.2.2.2.2.2.2.2.2.1, r2.2.2.2.2.2.2.2.2.2.2.2.2.2.2.2⟩⟩ : zkq), ⟨r8.n, false, r8.xs⟩, 0)) else (some ((⟨0, 0, ⟨true, []⟩⟩ : zkq), ⟨true, true, []⟩, 16)))))) else none))) else (some ((⟨0, 0, ⟨true, []⟩⟩ : zkq), ⟨true, true, []⟩, r2.2.2.2.2.2.2.2.2.1))))) else ((zn6 q ((wrp .i64 ((r1.1.xs.length : Int) - 1)).toNat) r1.1.n r1.1.xs r1.1.x).bind fun r13 => (if r13.1 = 0 then (if r13.2.2.1 = 0 then ((znu q ⟨r1.1.n, (List.take ((wrp .i64 ((r1.1.xs.length : Int) - 1)).toNat) r1.1.xs)⟩).bind fun r14 => ((znw q ⟨r14.n, r14.xs⟩).bind fun r15 => (if (wrp .i64 ((r1.1.xs.length : Int) - 1)).toNat < r1.1.xs.length then ((r1.1.xs[(wrp .i64 ((r1.1.xs.length : Int) - 1)).toNat]?).bind fun e16 => ((zns q e16).bind fun r17 => ((zne q ⟨r15.n, r15.xs⟩ ⟨r17.n, r17.xs⟩).bind fun r18 => (if r18 = true then (some ((⟨r13.2.2.2.2.1, r13.2.2.2.2.2.1, ⟨true, []⟩⟩ : zkq), ⟨r14.n, false, r14.xs⟩, 0)) else (some ((⟨0, 0, ⟨true, []⟩⟩ : zkq), ⟨true, true, []⟩, 16)))))) else none))) else (some ((⟨0, 0, ⟨true, []⟩⟩ : zkq), ⟨true, true, []⟩, r13.2.2.1))) else (if r13.2.2.2.2.2.2.2.2.1 = 0 then ((znu q ⟨r1.1.n, (List.take ((wrp .i64 ((r1.1.xs.length : Int) - 1)).toNat) r1.1.xs)⟩).bind fun r19 => ((znw q ⟨r19.n, r19.xs⟩).bind fun r20 => (if (wrp .i64 ((r1.1.xs.length : Int) - 1)).toNat < r1.1.xs.length then ((r1.1.xs[(wrp .i64 ((r1.1.xs.length : Int) - 1)).toNat]?).bind fun e21 => ((zns q e21).bind fun r22 => ((zne q ⟨r20.n, r20.xs⟩ ⟨r22.n, r22.xs⟩).bind fun r23 => (if r23 = true then (some ((⟨r13.2.2.2.2.2.2.2.2.2.2.1, r13.2.2.2.2.2.2.2.2.2.2.2.1, ⟨r13.2.2.2.2.2.2.2.2.2.2.2.2.2.2.1, r13.2.2.2.2.2.2.2.2.2.2.2.2.2.2.2⟩⟩ : zkq), ⟨r19.n, false, r19.xs⟩, 0)) else (some ((⟨0, 0, ⟨true, []⟩⟩ : zkq), ⟨true, true, []⟩, 16)))))) else none))) else (some ((⟨0, 0, ⟨true, []⟩⟩ : zkq), ⟨true, true, []⟩, r13.2.2.2.2.2.2.2.2.1)))))) else none) else none)) else (some ((⟨0, 0, ⟨true, []⟩⟩ : zkq), ⟨true, true, []⟩, r1.2))))
def zn8 : Nat → (Sl Int) → Option (zkq × Int)
 | 0, _ => none
 | q + 1, a0 => ((zn7 q a0).bind fun r1 => (some (r1.1, r1.2.2)))
def zn9 : Nat → Bool → (List Int) → Int → Int → Int → Option (Int)
 | 0, _, _, _, _, _ => none
 | q + 1, v0z, v0l, v3, v7, v8 => (if v8 < v7 then (if 0 ≤ v8 then ((v0l[v8.toNat]?).bind fun e1 => (if (wrp .i64 (8 * v8)) < 0 then none else (zn9 q v0z v0l (ibits .or .u64 v3 (ishl .u64 (wrp .u64 e1) (wrp .i64 (8 * v8)))) v7 (wrp .i64 (v8 + 1))))) else none) else (some v3))
def zoa : Nat → (Sl Int) → Option (Int)
 | 0, _ => none
 | q + 1, a0 => (zn9 q a0.z a0.l 0 (if 8 < (a0.l.length : Int) then 8 else (a0.l.length : Int)) 0)
def zob : Nat → (Sl Int) → Option (zks × Int)
 | 0, _ => none
 | q + 1, a0 => (if (a0.l.length : Int) = 0 then (some ((⟨0, 0, 0⟩ : zks), 3)) else ((a0.l[0]?).bind fun e1 => (if e1 = 115 then (if 1 ≤ (a0.l.length : Int) then ((zmn q ⟨a0.z, (List.drop 1 a0.l)⟩).bind fun r2 => (if 0 ≤ r2.2 then (if r2.2 ≤ (((a0.l.length - 1) : Nat) : Int) then ((zmn q ⟨a0.z, (List.drop r2.2.toNat (List.drop 1 a0.l))⟩).bind fun r3 => (if 0 ≤ r3.2 then (if r3.2 ≤ ((((a0.l.length - 1) - r2.2.toNat) : Nat) : Int) then ((zmn q ⟨a0.z, (List.drop r3.2.toNat (List.drop r2.2.toNat (List.drop 1 a0.l)))⟩).bind fun r4 => (if 0 ≤ r4.2 then (if r4.2 ≤ (((((a0.l.length - 1) - r2.2.toNat) - r3.2.toNat) : Nat) : Int) then (if r2.2 = 0 then (some ((⟨r3.1, r4.1, 0⟩ : zks), 3)) else (if r3.2 = 0 then (some ((⟨r3.1, r4.1, 0⟩ : zks), 3)) else (if r4.2 = 0 then (some ((⟨r3.1, r4.1, 0⟩ : zks), 3)) else (if r2.1 = 3 then (if ((((((a0.l.length - 1) - r2.2.toNat) - r3.2.toNat) - r4.2.toNat) : Nat) : Int) = 4 then ((zoa q ⟨a0.z, (List.drop r4.2.toNat (List.drop r3.2.toNat (List.drop r2.2.toNat (List.drop 1 a0.l))))⟩).bind fun r5 => (some ((⟨r3.1, r4.1, r5⟩ : zks), 0))) else (some ((⟨r3.1, r4.1, 0⟩ : zks), 3))) else (some ((⟨r3.1, r4.1, 0⟩ : zks), 6)))))) else none) else none)) else none) else none)) else none) else none)) else none) else (some ((⟨0, 0, 0⟩ : zks), 3)))))
def zoc : Nat → Bool → (List (Sl Int)) → Bool → (List (Sl Int)) → Int → Int → Option (Bool)
 | 0, _, _, _, _, _, _ => none
 | q + 1, v0z, v0l, v5z, v5l, v6, v7 => (if v7 < v6 then (if 0 ≤ v7 then ((v5l[v7.toNat]?).bind fun e1 => (if (e1.l.length : Int) = 0 then (some false) else (if 64 < (e1.l.length : Int) then (some false) else (if (e1.l.length : Int) < 64 then (if v7 < (wrp .i64 ((v0l.length : Int) - 1)) then (some false) else (zoc q v0z v0l v5z v5l v6 (wrp .i64 (v7 + 1)))) else (zoc q v0z v0l v5z v5l v6 (wrp .i64 (v7 + 1))))))) else none) else (some true))
def zod : Nat → (Sl (Sl Int)) → Option (Bool)
 | 0, _ => none
 | q + 1, a0 => (zoc q a0.z a0.l a0.z a0.l (a0.l.length : Int) 0)
def zoe : Nat → Int → Int → Bool → (List Int) → Bool → Int → Bool → Int → (List Int) → Option (zkk × Int)
 | 0, _, _, _, _, _, _, _, _, _ => none
 | q + 1, v42, v43, h1_0z, h1_0l, h2_0, h3_0, h3_2, h3_3, h4l => (if v43 < v42 then ((zmt q ⟨h1_0z, h1_0l⟩).bind fun r7 => (if h2_0 = true then (if 0 ≤ r7.2 then (if r7.2 ≤ (h1_0l.length : Int) then (if (h4l.length + 1) ≤ 4294967296 then (zoe q v42 (wrp .i64 (v43 + 1)) h1_0z (List.drop r7.2.toNat h1_0l) (decide (0 < r7.2)) h3_0 h3_2 h3_3 (h4l ++ [r7.1])) else none) else none) else none) else (if 0 ≤ r7.2 then (if r7.2 ≤ (h1_0l.length : Int) then (if (h4l.length + 1) ≤ 4294967296 then (zoe q v42 (wrp .i64 (v43 + 1)) h1_0z (List.drop r7.2.toNat h1_0l) false h3_0 h3_2 h3_3 (h4l ++ [r7.1])) else none) else none) else none))) else (if h2_0 = true then (if 0 < (h1_0l.length : Int) then (some ((⟨0, ⟨true, []⟩, false, 0⟩ : zkk), 3)) else ((zk2 q (⟨h3_0, ⟨false, h4l⟩, h3_2, h3_3⟩ : zkk)).bind fun r8 => (if r8 = true then (some ((⟨h3_0, ⟨false, h4l⟩, h3_2, h3_3⟩ : zkk), 0)) else (some ((⟨0, ⟨true, []⟩, false, 0⟩ : zkk), 1))))) else (some ((⟨0, ⟨true, []⟩, false, 0⟩ : zkk), 3))))
def zof : Nat → Int → Bool → (List Int) → Bool → Int → Bool → Int → Option (zkk × Int)
 | 0, _, _, _, _, _, _, _ => none
 | q + 1, v42, h1_0z, h1_0l, h2_0, h3_0, h3_2, h3_3 => (if 0 < v42 then ((zmt q ⟨h1_0z, h1_0l⟩).bind fun r5 => (if h2_0 = true then (if 0 ≤ r5.2 then (if r5.2 ≤ (h1_0l.length : Int) then (zoe q v42 (wrp .i64 1) h1_0z (List.drop r5.2.toNat h1_0l) (decide (0 < r5.2)) h3_0 h3_2 h3_3 [r5.1]) else none) else none) else (if 0 ≤ r5.2 then (if r5.2 ≤ (h1_0l.length : Int) then (zoe q v42 (wrp .i64 1) h1_0z (List.drop r5.2.toNat h1_0l) false h3_0 h3_2 h3_3 [r5.1]) else none) else none))) else (if h2_0 = true then (if 0 < (h1_0l.length : Int) then (some ((⟨0, ⟨true, []⟩, false, 0⟩ : zkk), 3)) else ((zk2 q (⟨h3_0, ⟨true, []⟩, h3_2, h3_3⟩ : zkk)).bind fun r6 => (if r6 = true then (some ((⟨h3_0, ⟨true, []⟩, h3_2, h3_3⟩ : zkk), 0)) else (some ((⟨0, ⟨true, []⟩, false, 0⟩ : zkk), 1))))) else (some ((⟨0, ⟨true, []⟩, false, 0⟩ : zkk), 3))))
def zog : Nat → (Sl Int) → Option (zkk × Int)
 | 0, _ => none
 | q + 1, a0 => ((zmn q a0).bind fun r1 => (if 0 ≤ r1.2 then (if r1.2 ≤ (a0.l.length : Int) then ((zmn q ⟨a0.z, (List.drop r1.2.toNat a0.l)⟩).bind fun r2 => (if 0 < r1.2 then (if 0 ≤ r2.2 then (if r2.2 ≤ (((a0.l.length - r1.2.toNat) : Nat) : Int) then ((zmn q ⟨a0.z, (List.drop r2.2.toNat (List.drop r1.2.toNat a0.l))⟩).bind fun r3 => (if 0 < r2.2 then (if 0 ≤ r3.2 then (if r3.2 ≤ ((((a0.l.length - r1.2.toNat) - r2.2.toNat) : Nat) : Int) then (if 0 < r3.2 then (if 3 < r2.1 then (some ((⟨0, ⟨true, []⟩, false, 0⟩ : zkk), 3)) else (if 128 < r3.1 then (some ((⟨0, ⟨true, []⟩, false, 0⟩ : zkk), 3)) else (zof q r3.1 a0.z (List.drop r3.2.toNat (List.drop r2.2.toNat (List.drop r1.2.toNat a0.l))) (decide (0 < r3.2)) r1.1 (decide (0 < r2.1)) (if (wrp .i64 (r2.1 - 1)) < 0 then 0 else (wrp .i64 (r2.1 - 1)))))) else (some ((⟨0, ⟨true, []⟩, false, 0⟩ : zkk), 3))) else none) else none) else (if 0 ≤ r3.2 then (if r3.2 ≤ ((((a0.l.length - r1.2.toNat) - r2.2.toNat) : Nat) : Int) then (some ((⟨0, ⟨true, []⟩, false, 0⟩ : zkk), 3)) else none) else none))) else none) else none) else (if 0 ≤ r2.2 then (if r2.2 ≤ (((a0.l.length - r1.2.toNat) : Nat) : Int) then ((zmn q ⟨a0.z, (List.drop r2.2.toNat (List.drop r1.2.toNat a0.l))⟩).bind fun r4 => (if 0 ≤ r4.2 then (if r4.2 ≤ ((((a0.l.length - r1.2.toNat) - r2.2.toNat) : Nat) : Int) then (some ((⟨0, ⟨true, []⟩, false, 0⟩ : zkk), 3)) else none) else none)) else none) else none))) else none) else none))
def zoh : Nat → (Sl Int) → Option (zkl × Int)
 | 0, _ => none
 | q + 1, a0 => ((zmn q a0).bind fun r1 => (if 0 ≤ r1.2 then (if r1.2 ≤ (a0.l.length : Int) then ((zmn q ⟨a0.z, (List.drop r1.2.toNat a0.l)⟩).bind fun r2 => (if 0 ≤ r2.2 then (if r2.2 ≤ (((a0.l.length - r1.2.toNat) : Nat) : Int) then ((zmt q ⟨a0.z, (List.drop r2.2.toNat (List.drop r1.2.toNat a0.l))⟩).bind fun r3 => (if r1.2 = 0 then (some ((⟨r1.1, r2.1, r3.1⟩ : zkl), 0)) else (if r2.2 = 0 then (some ((⟨r1.1, r2.1, r3.1⟩ : zkl), 0)) else (if r3.2 = 0 then (some ((⟨r1.1, r2.1, r3.1⟩ : zkl), 0)) else (some ((⟨r1.1, r2.1, r3.1⟩ : zkl), (wrp .i64 ((wrp .i64 (r1.2 + r2.2)) + r3.2)))))))) else none) else none)) else none) else none))
def zoi : Nat → Bool → (List Int) → Int → Int → Int → Int → Bool → (List Int) → Bool → Int → (List zkl) → Option (zkm × Int)
 | 0, _, _, _, _, _, _, _, _, _, _, _ => none
 | q + 1, v0z, v0l, v3, v62, v63, h1_0, h1_1z, h1_1l, h1_2, h1_3, h2l => (if v63 < v62 then ((zoh q ⟨v0z, v0l⟩).bind fun r5 => (if r5.2 = 0 then (some ((⟨0, (⟨0, ⟨true, []⟩, false, 0⟩ : zkk), ⟨false, h2l⟩⟩ : zkm), 3)) else (if (h2l.length + 1) ≤ 4294967296 then (if 0 ≤ r5.2 then (if r5.2 ≤ (v0l.length : Int) then (zoi q v0z (List.drop r5.2.toNat v0l) v3 v62 (wrp .i64 (v63 + 1)) h1_0 h1_1z h1_1l h1_2 h1_3 (h2l ++ [r5.1])) else none) else none) else none))) else (if 0 < (v0l.length : Int) then (some ((⟨0, (⟨0, ⟨true, []⟩, false, 0⟩ : zkk), ⟨false, h2l⟩⟩ : zkm), 3)) else (some ((⟨0, (⟨h1_0, ⟨h1_1z, h1_1l⟩, h1_2, h1_3⟩ : zkk), ⟨false, h2l⟩⟩ : zkm), v3))))
def zoj : Nat → Bool → (List Int) → Int → Int → Int → Bool → (List Int) → Bool → Int → Option (zkm × Int)
 | 0, _, _, _, _, _, _, _, _, _ => none
 | q + 1, v0z, v0l, v3, v62, h1_0, h1_1z, h1_1l, h1_2, h1_3 => (if 0 < v62 then ((zoh q ⟨v0z, v0l⟩).bind fun r4 => (if r4.2 = 0 then (some ((⟨0, (⟨0, ⟨true, []⟩, false, 0⟩ : zkk), ⟨true, []⟩⟩ : zkm), 3)) else (if 0 ≤ r4.2 then (if r4.2 ≤ (v0l.length : Int) then (zoi q v0z (List.drop r4.2.toNat v0l) v3 v62 (wrp .i64 1) h1_0 h1_1z h1_1l h1_2 h1_3 [r4.1]) else none) else none))) else (if 0 < (v0l.length : Int) then (some ((⟨0, (⟨0, ⟨true, []⟩, false, 0⟩ : zkk), ⟨true, []⟩⟩ : zkm), 3)) else (some ((⟨0, (⟨h1_0, ⟨h1_1z, h1_1l⟩, h1_2, h1_3⟩ : zkk), ⟨true, []⟩⟩ : zkm), v3))))
def zok : Nat → (Sl Int) → Option (zkm × Int)
 | 0, _ => none
 | q + 1, a0 => ((zmn q a0).bind fun r1 => (if r1.2 = 0 then (some ((⟨0, (⟨0, ⟨true, []⟩, false, 0⟩ : zkk), ⟨true, []⟩⟩ : zkm), 3)) else (if (wrp .i64 ((a0.l.length : Int) - r1.2)) < r1.1 then (some ((⟨0, (⟨0, ⟨true, []⟩, false, 0⟩ : zkk), ⟨true, []⟩⟩ : zkm), 3)) else (if 0 ≤ r1.2 then (if r1.2 ≤ (wrp .i64 (r1.2 + r1.1)) then (if (wrp .i64 (r1.2 + r1.1)).toNat ≤ a0.l.length then ((zog q ⟨a0.z, (List.drop r1.2.toNat (List.take ((wrp .i64 (r1.2 + r1.1)).toNat) a0.l))⟩).bind fun r2 => (if r2.2 = 3 then (some ((⟨0, (⟨0, ⟨true, []⟩, false, 0⟩ : zkk), ⟨true, []⟩⟩ : zkm), r2.2)) else (if 0 ≤ (wrp .i64 (r1.2 + r1.1)) then (if (wrp .i64 (r1.2 + r1.1)) ≤ (a0.l.length : Int) then ((zmn q ⟨a0.z, (List.drop ((wrp .i64 (r1.2 + r1.1)).toNat) a0.l)⟩).bind fun r3 => (if r3.2 = 0 then (some ((⟨0, (⟨0, ⟨true, []⟩, false, 0⟩ : zkk), ⟨true, []⟩⟩ : zkm), 3)) else (if (((a0.l.length - (wrp .i64 (r1.2 + r1.1)).toNat) : Nat) : Int) < r3.1 then (some ((⟨0, (⟨0, ⟨true, []⟩, false, 0⟩ : zkk), ⟨true, []⟩⟩ : zkm), 3)) else (if 0 ≤ r3.2 then (if r3.2 ≤ (((a0.l.length - (wrp .i64 (r1.2 + r1.1)).toNat) : Nat) : Int) then (zoj q a0.z (List.drop r3.2.toNat (List.drop ((wrp .i64 (r1.2 + r1.1)).toNat) a0.l)) r2.2 r3.1 r2.1.Kind r2.1.L.z r2.1.L.l r2.1.Sealed r2.1.To) else none) else none)))) else none) else none))) else none) else none) else none))))
def zol : Nat → (Sl Int) → Option (zkm × Int)
 | 0, _ => none
 | q + 1, a0 => ((zm4 q a0).bind fun r1 => (if r1.2 = 0 then (if (r1.1.xs.length : Int) = 0 then (some ((⟨0, (⟨0, ⟨true, []⟩, false, 0⟩ : zkk), ⟨true, []⟩⟩ : zkm), 16)) else (if 0 < r1.1.xs.length then ((r1.1.xs[0]?).bind fun e2 => ((zob q e2).bind fun r3 => (if r3.2 = 0 then (if 1 ≤ r1.1.xs.length then ((zmf q ⟨r1.1.n, (List.drop 1 r1.1.xs)⟩).bind fun r4 => (if (r4.xs.length : Int) = r3.1.size then ((zod q ⟨r1.1.n, (List.drop 1 r1.1.xs)⟩).bind fun r5 => (if r5 = true then ((zl6 q ⟨r4.n, r4.xs⟩).bind fun r6 => (if (wrp .u64 r6) = r3.1.sum then ((zok q ⟨r4.n, r4.xs⟩).bind fun r7 => (if r7.2 = 0 then ((zlv q (⟨r3.1.index, r7.1.State, r7.1.Table⟩ : zkm)).bind fun r8 => (if r8 = true then (some ((⟨r3.1.index, r7.1.State, r7.1.Table⟩ : zkm), 0)) else (some ((⟨0, (⟨0, ⟨true, []⟩, false, 0⟩ : zkk), ⟨true, []⟩⟩ : zkm), 1)))) else (some ((⟨0, (⟨0, ⟨true, []⟩, false, 0⟩ : zkk), ⟨true, []⟩⟩ : zkm), r7.2)))) else (some ((⟨0, (⟨0, ⟨true, []⟩, false, 0⟩ : zkk), ⟨true, []⟩⟩ : zkm), 4)))) else (some ((⟨0, (⟨0, ⟨true, []⟩, false, 0⟩ : zkk), ⟨true, []⟩⟩ : zkm), 3)))) else (some ((⟨0, (⟨0, ⟨true, []⟩, false, 0⟩ : zkk), ⟨true, []⟩⟩ : zkm), 16)))) else none) else (some ((⟨0, (⟨0, ⟨true, []⟩, false, 0⟩ : zkk), ⟨true, []⟩⟩ : zkm), r3.2))))) else none)) else (some ((⟨0, (⟨0, ⟨true, []⟩, false, 0⟩ : zkk), ⟨true, []⟩⟩ : zkm), r1.2))))
def zom : Nat → Int → Bool → (List zkr) → Int → Int → Int → Int → Int → Bool → (List Int) → Int → Int → Int → Int → Bool → (List Int) → Bool → Int → Bool → (List zkl) → Option (Bool)
 | 0, _, _, _, _, _, _, _, _, _, _, _, _, _, _, _, _, _, _, _, _ => none
 | q + 1, v0, v2z, v2l, v12, h0_0, h0_1, h0_2, h0_3, h0_4z, h0_4l, h1_0, h1_1, h1_2, h1_3, h1_4z, h1_4l, h1_5, h1_6, h1_7z, h1_7l => (if v12 < (v2l.length : Int) then (if 0 ≤ v12 then ((v2l[v12.toNat]?).bind fun e3 => (if 3000 < (e3.B.l.length : Int) then (some true) else (if e3.Kind = 0 then ((zn8 q e3.B).bind fun r4 => (if r4.2 = 0 then (if r4.1.Kind = h1_1 then (if h1_2 < r4.1.First then (zom q v0 v2z v2l (wrp .i64 (v12 + 1)) h0_0 h0_1 h0_2 h0_3 h0_4z h0_4l h1_0 h1_1 h1_2 h1_3 h1_4z h1_4l h1_5 h1_6 h1_7z h1_7l) else (if 0 ≤ (if (r4.1.Records.l.length : Int) < (wrp .i64 (h1_2 - r4.1.First)) then (r4.1.Records.l.length : Int) else (wrp .i64 (h1_2 - r4.1.First))) then (if (if (r4.1.Records.l.length : Int) < (wrp .i64 (h1_2 - r4.1.First)) then (r4.1.Records.l.length : Int) else (wrp .i64 (h1_2 - r4.1.First))) ≤ (r4.1.Records.l.length : Int) then ((zlr q (⟨h1_2, (⟨h1_3, ⟨h1_4z, h1_4l⟩, h1_5, h1_6⟩ : zkk), ⟨h1_7z, h1_7l⟩⟩ : zkm) ⟨r4.1.Records.z, (List.drop ((if (r4.1.Records.l.length : Int) < (wrp .i64 (h1_2 - r4.1.First)) then (r4.1.Records.l.length : Int) else (wrp .i64 (h1_2 - r4.1.First))).toNat) r4.1.Records.l)⟩).bind fun r5 => (if r5.2 = 0 then (zom q v0 v2z v2l (wrp .i64 (v12 + 1)) h0_0 h0_1 h0_2 h0_3 h0_4z h0_4l h1_0 h1_1 r5.1.Index r5.1.State.Kind r5.1.State.L.z r5.1.State.L.l r5.1.State.Sealed r5.1.State.To r5.1.Table.z r5.1.Table.l) else (zom q v0 v2z v2l (wrp .i64 (v12 + 1)) h0_0 h0_1 h0_2 h0_3 h0_4z h0_4l h1_0 h1_1 h1_2 h1_3 h1_4z h1_4l h1_5 h1_6 h1_7z h1_7l))) else none) else none)) else (zom q v0 v2z v2l (wrp .i64 (v12 + 1)) h0_0 h0_1 h0_2 h0_3 h0_4z h0_4l h1_0 h1_1 h1_2 h1_3 h1_4z h1_4l h1_5 h1_6 h1_7z h1_7l)) else (zom q v0 v2z v2l (wrp .i64 (v12 + 1)) h0_0 h0_1 h0_2 h0_3 h0_4z h0_4l h1_0 h1_1 h1_2 h1_3 h1_4z h1_4l h1_5 h1_6 h1_7z h1_7l))) else (if e3.Kind = 2 then ((zol q e3.B).bind fun r6 => (if r6.2 = 0 then (if r6.1.State.Kind = h1_1 then (if h1_2 < r6.1.Index then (zom q v0 v2z v2l (wrp .i64 (v12 + 1)) h0_0 h0_1 h0_2 h0_3 h0_4z h0_4l h1_0 h1_1 r6.1.Index r6.1.State.Kind r6.1.State.L.z r6.1.State.L.l r6.1.State.Sealed r6.1.State.To r6.1.Table.z r6.1.Table.l) else (zom q v0 v2z v2l (wrp .i64 (v12 + 1)) h0_0 h0_1 h0_2 h0_3 h0_4z h0_4l h1_0 h1_1 h1_2 h1_3 h1_4z h1_4l h1_5 h1_6 h1_7z h1_7l)) else (zom q v0 v2z v2l (wrp .i64 (v12 + 1)) h0_0 h0_1 h0_2 h0_3 h0_4z h0_4l h1_0 h1_1 h1_2 h1_3 h1_4z h1_4l h1_5 h1_6 h1_7z h1_7l)) else (zom q v0 v2z v2l (wrp .i64 (v12 + 1)) h0_0 h0_1 h0_2 h0_3 h0_4z h0_4l h1_0 h1_1 h1_2 h1_3 h1_4z h1_4l h1_5 h1_6 h1_7z h1_7l))) else (zom q v0 v2z v2l (wrp .i64 (v12 + 1)) h0_0 h0_1 h0_2 h0_3 h0_4z h0_4l h1_0 h1_1 h1_2 h1_3 h1_4z h1_4l h1_5 h1_6 h1_7z h1_7l))))) else none) else ((zk4 q ⟨h1_4z, h1_4l⟩).bind fun r7 => ((zlg q ⟨h1_7z, h1_7l⟩).bind fun r8 => (if h0_2 = 0 then ((zn8 q ⟨h0_4z, h0_4l⟩).bind fun r9 => (if r9.2 = 0 then (if r9.1.Kind = h1_1 then (if h1_2 < r9.1.First then (if h1_0 = v0 then (if h1_2 < h1_2 then (some false) else ((zmz q (⟨h1_2, (⟨h1_3, ⟨r7.n, r7.xs⟩, h1_5, h1_6⟩ : zkk), ⟨r8.n, r8.xs⟩⟩ : zkm) (⟨h1_2, (⟨h1_3, ⟨r7.n, r7.xs⟩, h1_5, h1_6⟩ : zkk), ⟨r8.n, r8.xs⟩⟩ : zkm)).bind fun r10 => (some r10))) else (some false)) else (if 0 ≤ (if (r9.1.Records.l.length : Int) < (wrp .i64 (h1_2 - r9.1.First)) then (r9.1.Records.l.length : Int) else (wrp .i64 (h1_2 - r9.1.First))) then (if (if (r9.1.Records.l.length : Int) < (wrp .i64 (h1_2 - r9.1.First)) then (r9.1.Records.l.length : Int) else (wrp .i64 (h1_2 - r9.1.First))) ≤ (r9.1.Records.l.length : Int) then ((zlr q (⟨h1_2, (⟨h1_3, ⟨h1_4z, h1_4l⟩, h1_5, h1_6⟩ : zkk), ⟨h1_7z, h1_7l⟩⟩ : zkm) ⟨r9.1.Records.z, (List.drop ((if (r9.1.Records.l.length : Int) < (wrp .i64 (h1_2 - r9.1.First)) then (r9.1.Records.l.length : Int) else (wrp .i64 (h1_2 - r9.1.First))).toNat) r9.1.Records.l)⟩).bind fun r11 => (if r11.2 = 0 then ((zk4 q r11.1.State.L).bind fun r12 => ((zlg q r11.1.Table).bind fun r13 => (if h1_0 = v0 then (if r11.1.Index < h1_2 then (some false) else (some true)) else (some false)))) else (if h1_0 = v0 then (if h1_2 < h1_2 then (some false) else ((zmz q (⟨h1_2, (⟨h1_3, ⟨r7.n, r7.xs⟩, h1_5, h1_6⟩ : zkk), ⟨r8.n, r8.xs⟩⟩ : zkm) (⟨h1_2, (⟨h1_3, ⟨r7.n, r7.xs⟩, h1_5, h1_6⟩ : zkk), ⟨r8.n, r8.xs⟩⟩ : zkm)).bind fun r14 => (some r14))) else (some false)))) else none) else none)) else (if h1_0 = v0 then (if h1_2 < h1_2 then (some false) else ((zmz q (⟨h1_2, (⟨h1_3, ⟨r7.n, r7.xs⟩, h1_5, h1_6⟩ : zkk), ⟨r8.n, r8.xs⟩⟩ : zkm) (⟨h1_2, (⟨h1_3, ⟨r7.n, r7.xs⟩, h1_5, h1_6⟩ : zkk), ⟨r8.n, r8.xs⟩⟩ : zkm)).bind fun r15 => (some r15))) else (some false))) else (if h1_0 = v0 then (if h1_2 < h1_2 then (some false) else ((zmz q (⟨h1_2, (⟨h1_3, ⟨r7.n, r7.xs⟩, h1_5, h1_6⟩ : zkk), ⟨r8.n, r8.xs⟩⟩ : zkm) (⟨h1_2, (⟨h1_3, ⟨r7.n, r7.xs⟩, h1_5, h1_6⟩ : zkk), ⟨r8.n, r8.xs⟩⟩ : zkm)).bind fun r16 => (some r16))) else (some false)))) else (if h0_2 = 2 then ((zol q ⟨h0_4z, h0_4l⟩).bind fun r17 => (if r17.2 = 0 then (if r17.1.State.Kind = h1_1 then (if h1_2 < r17.1.Index then ((zk4 q r17.1.State.L).bind fun r18 => ((zlg q r17.1.Table).bind fun r19 => (if h1_0 = v0 then (if r17.1.Index < h1_2 then (some false) else (some true)) else (some false)))) else (if h1_0 = v0 then (if h1_2 < h1_2 then (some false) else (some true)) else (some false))) else (if h1_0 = v0 then (if h1_2 < h1_2 then (some false) else ((zmz q (⟨h1_2, (⟨h1_3, ⟨r7.n, r7.xs⟩, h1_5, h1_6⟩ : zkk), ⟨r8.n, r8.xs⟩⟩ : zkm) (⟨h1_2, (⟨h1_3, ⟨r7.n, r7.xs⟩, h1_5, h1_6⟩ : zkk), ⟨r8.n, r8.xs⟩⟩ : zkm)).bind fun r20 => (some r20))) else (some false))) else (if h1_0 = v0 then (if h1_2 < h1_2 then (some false) else ((zmz q (⟨h1_2, (⟨h1_3, ⟨r7.n, r7.xs⟩, h1_5, h1_6⟩ : zkk), ⟨r8.n, r8.xs⟩⟩ : zkm) (⟨h1_2, (⟨h1_3, ⟨r7.n, r7.xs⟩, h1_5, h1_6⟩ : zkk), ⟨r8.n, r8.xs⟩⟩ : zkm)).bind fun r21 => (some r21))) else (some false)))) else (if h1_0 = v0 then (if h1_2 < h1_2 then (some false) else ((zmz q (⟨h1_2, (⟨h1_3, ⟨r7.n, r7.xs⟩, h1_5, h1_6⟩ : zkk), ⟨r8.n, r8.xs⟩⟩ : zkm) (⟨h1_2, (⟨h1_3, ⟨r7.n, r7.xs⟩, h1_5, h1_6⟩ : zkk), ⟨r8.n, r8.xs⟩⟩ : zkm)).bind fun r22 => (some r22))) else (some false)))))))
def zon : Nat → Int → Int → (Sl zkr) → zkr → Option (Bool)
 | 0, _, _, _, _ => none
 | q + 1, a0, a1, a2, a3 => ((zm0 q).bind fun r1 => (if a1 < 0 then (if r1 = true then (some true) else (some false)) else (if 6 ≤ a1 then (if r1 = true then (some true) else (some false)) else ((zm1 q a1).bind fun r2 => (if r1 = true then (if 40 < (a2.l.length : Int) then (some true) else (if 3000 < (a3.B.l.length : Int) then (some true) else (zom q a0 a2.z a2.l 0 a3.From a3.To a3.Kind a3.Index a3.B.z a3.B.l a0 a1 0 r2.Kind r2.L.z r2.L.l r2.Sealed r2.To true []))) else (some false))))))
end Go.Dvm.I
