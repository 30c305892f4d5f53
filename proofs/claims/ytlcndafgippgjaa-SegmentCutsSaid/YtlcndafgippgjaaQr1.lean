/- The machine comes to these answers: part 2. -/
import Derived.Test.YtlcndafgippgjaaQl0
import Derived.Test.YtlcndafgippgjaaQr0
set_option linter.all false
set_option maxRecDepth 100000
set_option maxHeartbeats 4000000
namespace Go.Dvm.C
open Go Go.Dvm Go.Dvm.I
def zbqx (q : Nat) : Prop := ∀ (M : Nat) (hM : 8 * q ≤ M) (j : Nat) (hj : q ≤ j) (v3 : Int) (v47_0 : Int) (v47_1 : Int) (v47_2 : Int) (v47_3 : Int) (v48 : Int) (h0_1 : Int) (h0_2 : Int) (h0_3 : Int) (h0_4 : Int) (h0_5 : Int) (h0_6 : Int) (r : zjs × Int) (_ : zlm q v3 v47_0 v47_1 v47_2 v47_3 v48 h0_1 h0_2 h0_3 h0_4 h0_5 h0_6 = some r) (R : Option (List V)) (_ : some [zjs.enc r.1, (V.int .i64) r.2] = R) (fr : Fr) (H : Hp) (_ : canon 0 [2, 3, 47, 48] fr H = ([(2, (.ptr 0 0)), (3, (.int .i64 v3)), (47, (.agg [(.int .i64 v47_0), (.int .i64 v47_1), (.int .i64 v47_2), (.int .i64 v47_3)])), (48, (.int .i64 v48))], [(.box [(.int .i64 0), (.int .i64 h0_1), (.int .i64 h0_2), (.int .i64 h0_3), (.int .i64 h0_4), (.int .i64 h0_5), (.int .i64 h0_6)])])), fin z1z (unw T (orc T (M + 7)) (M + 7) 0 [.blk 0, .code z1o] (iter 0 [2, 3, 47, 48] (exec T (orc T (M + 7)) (M + 7) 0 z1l) j fr H)) = R
def zbqy := And.intro @kk <| And.intro @zbhr <| And.intro @zbfk <| And.intro @zbip <| And.intro @zbiu <| And.intro @zbht <| And.intro @zbhu <| @zbhv
theorem zbqz (q : Nat) (zbs8 : zbqx q) : zbqx (q + 1) := by
 intro M hM j hj v3 v47_0 v47_1 v47_2 v47_3 v48 h0_1 h0_2 h0_3 h0_4 h0_5 h0_6 r h R hR fr H hc
 obtain ⟨j, rfl⟩ : ∃ i, j = i + 1 := ⟨j - 1, by omega⟩
 rw [zhr, hc]; clear hc
 rw [zlm] at h
 replace h := br h; rcases h with ⟨h1, h⟩ | ⟨h1, h⟩
 ·replace h := br h; rcases h with ⟨h2, h⟩ | ⟨h2, h⟩
  ·replace h := br h; rcases h with ⟨h3, h⟩ | ⟨h3, h⟩
   ·replace h := bc h; rcases h with ⟨h4, h⟩ | ⟨h4, h⟩
    ·replace h := br h; rcases h with ⟨h5, h⟩ | ⟨h5, h⟩
     ·cases h; subst hR; simp (maxDischargeDepth := 12) only [zbqy, kn, simprocAttr, qa, qb, qc, qd, Ow.enc, zjr.enc, zjs.enc, Sl.enc, *]
     ·replace h := zbs8 M (by omega) j (by omega) _ _ _ _ _ _ _ _ _ _ _ _ _ h R hR
      simp (maxDischargeDepth := 12) only [zbqy, kn, simprocAttr, qa, qb, qc, qd, Ow.enc, zjr.enc, zjs.enc, Sl.enc, *]
    ·replace h := bc h; rcases h with ⟨h6, h⟩ | ⟨h6, h⟩
     ·replace h := br h; rcases h with ⟨h7, h⟩ | ⟨h7, h⟩
      ·cases h; subst hR; simp (maxDischargeDepth := 12) only [zbqy, kn, simprocAttr, qa, qb, qc, qd, Ow.enc, zjr.enc, zjs.enc, Sl.enc, *]
      ·replace h := zbs8 M (by omega) j (by omega) _ _ _ _ _ _ _ _ _ _ _ _ _ h R hR
       simp (maxDischargeDepth := 12) only [zbqy, kn, simprocAttr, qa, qb, qc, qd, Ow.enc, zjr.enc, zjs.enc, Sl.enc, *]
     ·replace h := bc h; rcases h with ⟨h8, h⟩ | ⟨h8, h⟩
      ·replace h := br h; rcases h with ⟨h9, h⟩ | ⟨h9, h⟩
       ·cases h; subst hR; simp (maxDischargeDepth := 12) only [zbqy, kn, simprocAttr, qa, qb, qc, qd, Ow.enc, zjr.enc, zjs.enc, Sl.enc, *]
       ·replace h := zbs8 M (by omega) j (by omega) _ _ _ _ _ _ _ _ _ _ _ _ _ h R hR
        simp (maxDischargeDepth := 12) only [zbqy, kn, simprocAttr, qa, qb, qc, qd, Ow.enc, zjr.enc, zjs.enc, Sl.enc, *]
      ·replace h := bc h; rcases h with ⟨h10, h⟩ | ⟨h10, h⟩
       ·replace h := br h; rcases h with ⟨h11, h⟩ | ⟨h11, h⟩
        ·cases h; subst hR; simp (maxDischargeDepth := 12) only [zbqy, kn, simprocAttr, qa, qb, qc, qd, Ow.enc, zjr.enc, zjs.enc, Sl.enc, *]
        ·replace h := zbs8 M (by omega) j (by omega) _ _ _ _ _ _ _ _ _ _ _ _ _ h R hR
         simp (maxDischargeDepth := 12) only [zbqy, kn, simprocAttr, qa, qb, qc, qd, Ow.enc, zjr.enc, zjs.enc, Sl.enc, *]
       ·cases h
   ·cases h
  ·cases h
 ·cases h; subst hR; simp (maxDischargeDepth := 12) only [zbqy, kn, simprocAttr, qa, qb, qc, qd, Ow.enc, zjr.enc, zjs.enc, Sl.enc, *]
theorem zbq0 : ∀ q, zbqx q
 | 0 => by intro M hM j hj; intros; rename_i h _ _ _ _ _; cases h
 | q + 1 => by have i0 := zbq0 q; exact zbqz q i0
theorem zbq1 : ∀ (q N : Nat), 8 * q ≤ N → ∀ (a0 : (Sl Int)), ∀ (r : zjs × Int), zln q a0 = some r → (orc T N).deep F.zln [(Sl.enc (V.int .u8)) a0] = some [zjs.enc r.1, (V.int .i64) r.2] := by
 intro q N hM a0 r h
 rcases q with _ | q
 ·cases h
 obtain ⟨M, rfl⟩ : ∃ M, N = M + 8 := ⟨N - 8, by omega⟩
 have zbs8 := (zbq0 q)
 generalize hR : some [zjs.enc r.1, (V.int .i64) r.2] = R
 rw [zh0, z9w, Option.bind_some, zhy]
 rw [zln] at h
 replace h := ob h; obtain ⟨r1, h1, h⟩ := h
 replace h1 := zbpq q (M + 7) (by omega) _ _ h1
 try simp only [Ow.enc, Sl.enc, kn, simprocAttr, qa, qb, qc, qd] at h1
 replace h := br h; rcases h with ⟨h2, h⟩ | ⟨h2, h⟩
 ·replace h := br h; rcases h with ⟨h3, h⟩ | ⟨h3, h⟩
  ·replace h := ob h; obtain ⟨r2, h4, h⟩ := h
   replace h4 := zbqa q (M + 7) (by omega) _ _ h4
   try simp only [Ow.enc, Sl.enc, kn, simprocAttr, qa, qb, qc, qd] at h4
   replace h := br h; rcases h with ⟨h5, h⟩ | ⟨h5, h⟩
   ·replace h := br h; rcases h with ⟨h6, h⟩ | ⟨h6, h⟩
    ·try simp only [kn, simprocAttr, qa, qb, qc, qd] at h6
     replace h := ob h; obtain ⟨r3, h7, h⟩ := h
     replace h7 := zbqc q (M + 7) (by omega) _ _ h7
     try simp only [Ow.enc, zjr.enc, Sl.enc, kn, simprocAttr, qa, qb, qc, qd] at h7
     replace h := br h; rcases h with ⟨h8, h⟩ | ⟨h8, h⟩
     ·replace h := br h; rcases h with ⟨h9, h⟩ | ⟨h9, h⟩
      ·try simp only [kn, simprocAttr, qa, qb, qc, qd] at h9
       replace h := ob h; obtain ⟨r4, h10, h⟩ := h
       replace h10 := zbqa q (M + 7) (by omega) _ _ h10
       try simp only [Ow.enc, Sl.enc, kn, simprocAttr, qa, qb, qc, qd] at h10
       replace h := zbs8 M (by omega) (M + 7) (by omega) _ _ _ _ _ _ _ _ _ _ _ _ _ h R hR
       simp (maxDischargeDepth := 12) only [zbqy, kn, simprocAttr, qa, qb, qc, qd, Ow.enc, zjr.enc, zjs.enc, Sl.enc, *]
      ·try simp only [kn, simprocAttr, qa, qb, qc, qd] at h9
       cases h
     ·cases h
    ·try simp only [kn, simprocAttr, qa, qb, qc, qd] at h6
     cases h
   ·cases h
  ·cases h
 ·cases h
def zbq2 := And.intro @kk <| And.intro @zbep <| And.intro @zber <| And.intro @zbes <| @zbet
theorem zbq3 : ∀ (q N : Nat), 8 * q ≤ N → ∀ (a0 : (Sl Int)) (a1 : (Sl Int)), ∀ (r : Bool), zlo q a0 a1 = some r → (orc T N).deep F.zlo [(Sl.enc (V.int .u8)) a0, (Sl.enc (V.int .u8)) a1] = some [V.bool r] := by
 intro q N hM a0 a1 r h
 rcases q with _ | q
 ·cases h
 obtain ⟨M, rfl⟩ : ∃ M, N = M + 8 := ⟨N - 8, by omega⟩
 generalize hR : some [V.bool r] = R
 rw [zh0, z9a, Option.bind_some, zhy]
 rw [zlo] at h
 cases h; subst hR; simp (maxDischargeDepth := 12) only [zbq2, kn, simprocAttr, qa, qb, qc, qd, Ow.enc, Sl.enc, *]
def zbq4 (q : Nat) : Prop := ∀ (M : Nat) (hM : 8 * q ≤ M) (j : Nat) (hj : q ≤ j) (v0z : Bool) (v0l : List Int) (v4 : Int) (v10z : Bool) (v10l : List Int) (v44 : Int) (v45 : Int) (h0m : List (Int × Int)) (h1z : Bool) (h1l : List zjs) (r : (Ow zjs) × Int) (_ : zlp q v0z v0l v4 v10z v10l v44 v45 h0m h1z h1l = some r) (R : Option (List V)) (_ : some [(Ow.enc 7 zjs.enc) r.1, (V.int .i64) r.2] = R) (fr : Fr) (H : Hp) (_ : canon 0 [0, 4, 8, 9, 10, 44, 45] fr H = ([(0, (.sl v0z (List.map (V.int .u8) v0l))), (4, (.int .i64 v4)), (8, (.mp 0)), (9, (.vw 1 0 0 h1l.length 1)), (10, (.sl v10z (List.map (V.int .u8) v10l))), (44, (.int .i64 v44)), (45, (.int .i64 v45))], [(.map h0m), (.row 0 h1z 7 (List.map zjs.enc h1l) true)])), fin zx7 (unw T (orc T (M + 7)) (M + 7) 0 [.blk 0, .code zxy] (iter 0 [0, 4, 8, 9, 10, 44, 45] (exec T (orc T (M + 7)) (M + 7) 0 zxp) j fr H)) = R
def zbq5 := And.intro @kk <| And.intro @zbfo <| And.intro @zbeq <| And.intro @zbe0 <| And.intro @zbfk <| And.intro @zbhs <| And.intro @zbfq <| And.intro @zbfr <| @zbfs
theorem zbq6 (q : Nat) (zbs9 : zbq4 q) : zbq4 (q + 1) := by
 intro M hM j hj v0z v0l v4 v10z v10l v44 v45 h0m h1z h1l r h R hR fr H hc
 obtain ⟨j, rfl⟩ : ∃ i, j = i + 1 := ⟨j - 1, by omega⟩
 rw [zhr, hc]; clear hc
 rw [zlp] at h
 replace h := br h; rcases h with ⟨h1, h⟩ | ⟨h1, h⟩
 ·replace h := ob h; obtain ⟨r3, h2, h⟩ := h
  replace h2 := zbq1 q (M + 7) (by omega) _ _ h2
  try simp only [Ow.enc, zjr.enc, zjs.enc, Sl.enc, kn, simprocAttr, qa, qb, qc, qd] at h2
  replace h := br h; rcases h with ⟨h3, h⟩ | ⟨h3, h⟩
  ·cases h; subst hR; simp (maxDischargeDepth := 12) only [zbq5, kn, simprocAttr, qa, qb, qc, qd, Ow.enc, zjr.enc, zjs.enc, Sl.enc, *]
  ·replace h := br h; rcases h with ⟨h4, h⟩ | ⟨h4, h⟩
   ·try simp only [kn, simprocAttr, qa, qb, qc, qd] at h4
    replace h := br h; rcases h with ⟨h5, h⟩ | ⟨h5, h⟩
    ·replace h := br h; rcases h with ⟨h6, h⟩ | ⟨h6, h⟩
     ·replace h := zbs9 M (by omega) j (by omega) _ _ _ _ _ _ _ _ _ _ _ h R hR
      simp (maxDischargeDepth := 12) only [zbq5, kn, simprocAttr, qa, qb, qc, qd, Ow.enc, zjr.enc, zjs.enc, Sl.enc, *]
     ·cases h
    ·cases h
   ·try simp only [kn, simprocAttr, qa, qb, qc, qd] at h4
    cases h
 ·replace h := ob h; obtain ⟨r4, h7, h⟩ := h
  replace h7 := zbog q (M + 7) (by omega) _ _ h7
  try simp only [Ow.enc, zjr.enc, zjs.enc, Sl.enc, kn, simprocAttr, qa, qb, qc, qd] at h7
  replace h := br h; rcases h with ⟨h8, h⟩ | ⟨h8, h⟩
  ·replace h := ob h; obtain ⟨r5, h9, h⟩ := h
   replace h9 := zbq3 q (M + 7) (by omega) _ _ _ h9
   try simp only [Ow.enc, Sl.enc, kn, simprocAttr, qa, qb, qc, qd] at h9
   replace h := bb h; rcases h with ⟨h10', h10, h⟩ | ⟨h10', h10, h⟩
   ·cases h; subst hR; simp (maxDischargeDepth := 12) only [zbq5, kn, simprocAttr, qa, qb, qc, qd, Ow.enc, zjr.enc, zjs.enc, Sl.enc, *]
   ·cases h; subst hR; simp (maxDischargeDepth := 12) only [zbq5, kn, simprocAttr, qa, qb, qc, qd, Ow.enc, zjr.enc, zjs.enc, Sl.enc, *]
  ·cases h; subst hR; simp (maxDischargeDepth := 12) only [zbq5, kn, simprocAttr, qa, qb, qc, qd, Ow.enc, zjr.enc, zjs.enc, Sl.enc, *]
theorem zbq7 : ∀ q, zbq4 q
 | 0 => by intro M hM j hj; intros; rename_i h _ _ _ _ _; cases h
 | q + 1 => by have i0 := zbq7 q; exact zbq6 q i0
theorem zbq8 : ∀ (q N : Nat), 8 * q ≤ N → ∀ (a0 : (Sl Int)), ∀ (r : (Ow zjs) × Int), zlq q a0 = some r → (orc T N).deep F.zlq [(Sl.enc (V.int .u8)) a0] = some [(Ow.enc 7 zjs.enc) r.1, (V.int .i64) r.2] := by
 intro q N hM a0 r h
 rcases q with _ | q
 ·cases h
 obtain ⟨M, rfl⟩ : ∃ M, N = M + 8 := ⟨N - 8, by omega⟩
 have zbs9 := (zbq7 q)
 generalize hR : some [(Ow.enc 7 zjs.enc) r.1, (V.int .i64) r.2] = R
 rw [zh0, z9h, Option.bind_some, zhy]
 rw [zlq] at h
 replace h := ob h; obtain ⟨r1, h1, h⟩ := h
 replace h1 := zbpq q (M + 7) (by omega) _ _ h1
 try simp only [Ow.enc, Sl.enc, kn, simprocAttr, qa, qb, qc, qd] at h1
 replace h := br h; rcases h with ⟨h2, h⟩ | ⟨h2, h⟩
 ·replace h := br h; rcases h with ⟨h3, h⟩ | ⟨h3, h⟩
  ·replace h := ob h; obtain ⟨r2, h4, h⟩ := h
   replace h4 := zbpq q (M + 7) (by omega) _ _ h4
   try simp only [Ow.enc, Sl.enc, kn, simprocAttr, qa, qb, qc, qd] at h4
   replace h := br h; rcases h with ⟨h5, h⟩ | ⟨h5, h⟩
   ·cases h; subst hR; simp (maxDischargeDepth := 12) only [zbq5, kn, simprocAttr, qa, qb, qc, qd, Ow.enc, zjr.enc, zjs.enc, Sl.enc, *]
   ·replace h := br h; rcases h with ⟨h6, h⟩ | ⟨h6, h⟩
    ·cases h; subst hR; simp (maxDischargeDepth := 12) only [zbq5, kn, simprocAttr, qa, qb, qc, qd, Ow.enc, zjr.enc, zjs.enc, Sl.enc, *]
    ·replace h := br h; rcases h with ⟨h7, h⟩ | ⟨h7, h⟩
     ·cases h; subst hR; simp (maxDischargeDepth := 12) only [zbq5, kn, simprocAttr, qa, qb, qc, qd, Ow.enc, zjr.enc, zjs.enc, Sl.enc, *]
     ·replace h := br h; rcases h with ⟨h8, h⟩ | ⟨h8, h⟩
      ·try simp only [kn, simprocAttr, qa, qb, qc, qd] at h8
       replace h := br h; rcases h with ⟨h9, h⟩ | ⟨h9, h⟩
       ·try simp only [kn, simprocAttr, qa, qb, qc, qd] at h9
        replace h := zbs9 M (by omega) (M + 7) (by omega) _ _ _ _ _ _ _ _ _ _ _ h R hR
        simp (maxDischargeDepth := 12) only [zbq5, kn, simprocAttr, qa, qb, qc, qd, Ow.enc, zjr.enc, zjs.enc, Sl.enc, *]
       ·try simp only [kn, simprocAttr, qa, qb, qc, qd] at h9
        cases h
      ·try simp only [kn, simprocAttr, qa, qb, qc, qd] at h8
       cases h
  ·cases h
 ·cases h
def zbq9 := And.intro @kk <| And.intro @zbje <| And.intro @zbjg <| And.intro @zbjh <| @zbji
theorem zbra : ∀ (q N : Nat), 8 * q ≤ N → ∀ (a0 : (Sl Int)), ∀ (r : (Ow Int)), zlr q a0 = some r → (orc T N).deep F.zlr [(Sl.enc (V.int .i64)) a0] = some [(Ow.enc 1 (V.int .i64)) r] := by
 intro q N hM a0 r h
 rcases q with _ | q
 ·cases h
 obtain ⟨M, rfl⟩ : ∃ M, N = M + 8 := ⟨N - 8, by omega⟩
 generalize hR : some [(Ow.enc 1 (V.int .i64)) r] = R
 rw [zh0, z99, Option.bind_some, zhy]
 rw [zlr] at h
 replace h := bb h; rcases h with ⟨h1', h1, h⟩ | ⟨h1', h1, h⟩
 ·cases h; subst hR; simp (maxDischargeDepth := 12) only [zbq9, kn, simprocAttr, qa, qb, qc, qd, Ow.enc, Sl.enc, *]
 ·replace h := br h; rcases h with ⟨h2, h⟩ | ⟨h2, h⟩
  ·cases h; subst hR; simp (maxDischargeDepth := 12) only [zbq9, kn, simprocAttr, qa, qb, qc, qd, Ow.enc, Sl.enc, *]
  ·cases h
def zbrb (q : Nat) : Prop := ∀ (M : Nat) (hM : 8 * q ≤ M) (j : Nat) (hj : q ≤ j) (v0z : Bool) (v0l : List Int) (v1 : Int) (v7 : Int) (v8 : Int) (r : Int) (_ : zls q v0z v0l v1 v7 v8 = some r) (R : Option (List V)) (_ : some [(V.int .i64) r] = R) (fr : Fr) (H : Hp) (_ : canon 0 [0, 1, 7, 8] fr H = ([(0, (.sl v0z (List.map (V.int .i64) v0l))), (1, (.int .i64 v1)), (7, (.int .i64 v7)), (8, (.int .i64 v8))], [])), fin z6d (unw T (orc T (M + 7)) (M + 7) 0 [.blk 0, .code z6a] (iter 0 [0, 1, 7, 8] (exec T (orc T (M + 7)) (M + 7) 0 z57) j fr H)) = R
def zbrc := And.intro @kk <| And.intro @zbjj <| And.intro @zbjl <| And.intro @zbjm <| @zbjn
theorem zbrd (q : Nat) (zbta : zbrb q) : zbrb (q + 1) := by
 intro M hM j hj v0z v0l v1 v7 v8 r h R hR fr H hc
 obtain ⟨j, rfl⟩ : ∃ i, j = i + 1 := ⟨j - 1, by omega⟩
 rw [zhr, hc]; clear hc
 rw [zls] at h
 replace h := br h; rcases h with ⟨h1, h⟩ | ⟨h1, h⟩
 ·replace h := br h; rcases h with ⟨h2, h⟩ | ⟨h2, h⟩
  ·replace h := ob h; obtain ⟨e1, h3, h⟩ := h
   replace h := br h; rcases h with ⟨h4, h⟩ | ⟨h4, h⟩
   ·cases h; subst hR; simp (maxDischargeDepth := 12) only [zbrc, kn, simprocAttr, qa, qb, qc, qd, Ow.enc, Sl.enc, *]
   ·replace h := zbta M (by omega) j (by omega) _ _ _ _ _ _ h R hR
    simp (maxDischargeDepth := 12) only [zbrc, kn, simprocAttr, qa, qb, qc, qd, Ow.enc, Sl.enc, *]
  ·cases h
 ·cases h; subst hR; simp (maxDischargeDepth := 12) only [zbrc, kn, simprocAttr, qa, qb, qc, qd, Ow.enc, Sl.enc, *]
theorem zbre : ∀ q, zbrb q
 | 0 => by intro M hM j hj; intros; rename_i h _ _ _ _ _; cases h
 | q + 1 => by have i0 := zbre q; exact zbrd q i0
theorem zbrf : ∀ (q N : Nat), 8 * q ≤ N → ∀ (a0 : (Sl Int)) (a1 : Int), ∀ (r : Int), zlt q a0 a1 = some r → (orc T N).deep F.zlt [(Sl.enc (V.int .i64)) a0, (V.int .i64) a1] = some [(V.int .i64) r] := by
 intro q N hM a0 a1 r h
 rcases q with _ | q
 ·cases h
 obtain ⟨M, rfl⟩ : ∃ M, N = M + 8 := ⟨N - 8, by omega⟩
 have zbta := (zbre q)
 generalize hR : some [(V.int .i64) r] = R
 rw [zh0, zbaa, Option.bind_some, zhy]
 rw [zlt] at h
 replace h := zbta M (by omega) (M + 7) (by omega) _ _ _ _ _ _ h R hR
 simp (maxDischargeDepth := 12) only [zbrc, kn, simprocAttr, qa, qb, qc, qd, Ow.enc, Sl.enc, *]
def zbrg := And.intro @kk <| And.intro @zbjo <| And.intro @zbjq <| And.intro @zbjr <| @zbjs
theorem zbrh : ∀ (q N : Nat), 8 * q ≤ N → ∀ (a0 : (Ow Int)) (a1 : Int) (a2 : Int), ∀ (r : (Ow Int)), zlu q a0 a1 a2 = some r → (orc T N).deep F.zlu [(Ow.enc 1 (V.int .i64)) a0, (V.int .i64) a1, (V.int .i64) a2] = some [(Ow.enc 1 (V.int .i64)) r] := by
 intro q N hM a0 a1 a2 r h
 rcases q with _ | q
 ·cases h
 obtain ⟨M, rfl⟩ : ∃ M, N = M + 8 := ⟨N - 8, by omega⟩
 generalize hR : some [(Ow.enc 1 (V.int .i64)) r] = R
 rw [zh0, zbab, Option.bind_some, zhy]
 rw [zlu] at h
 replace h := br h; rcases h with ⟨h1, h⟩ | ⟨h1, h⟩
 ·replace h := br h; rcases h with ⟨h2, h⟩ | ⟨h2, h⟩
  ·replace h := br h; rcases h with ⟨h3, h⟩ | ⟨h3, h⟩
   ·replace h := br h; rcases h with ⟨h4, h⟩ | ⟨h4, h⟩
    ·cases h; subst hR; simp (maxDischargeDepth := 12) only [zbrg, kn, simprocAttr, qa, qb, qc, qd, Ow.enc, Sl.enc, *]
    ·replace h := br h; rcases h with ⟨h5, h⟩ | ⟨h5, h⟩
     ·replace h := bb h; rcases h with ⟨h6', h6, h⟩ | ⟨h6', h6, h⟩
      ·replace h := br h; rcases h with ⟨h7, h⟩ | ⟨h7, h⟩
       ·replace h := br h; rcases h with ⟨h8, h⟩ | ⟨h8, h⟩
        ·replace h := br h; rcases h with ⟨h9, h⟩ | ⟨h9, h⟩
         ·try simp only [kn, simprocAttr, qa, qb, qc, qd] at h9
          replace h := br h; rcases h with ⟨h10, h⟩ | ⟨h10, h⟩
          ·try simp only [kn, simprocAttr, qa, qb, qc, qd] at h10
           replace h := br h; rcases h with ⟨h11, h⟩ | ⟨h11, h⟩
           ·try simp only [kn, simprocAttr, qa, qb, qc, qd] at h11
            replace h := br h; rcases h with ⟨h12, h⟩ | ⟨h12, h⟩
            ·try simp only [kn, simprocAttr, qa, qb, qc, qd] at h12
             cases h
            ·try simp only [kn, simprocAttr, qa, qb, qc, qd] at h12
             replace h := bb h; rcases h with ⟨h13', h13, h⟩ | ⟨h13', h13, h⟩
             ·cases h; subst hR; simp (maxDischargeDepth := 12) only [zbrg, kn, simprocAttr, qa, qb, qc, qd, Ow.enc, Sl.enc, *]
             ·cases h
           ·try simp only [kn, simprocAttr, qa, qb, qc, qd] at h11
            cases h
          ·try simp only [kn, simprocAttr, qa, qb, qc, qd] at h10
           cases h
         ·try simp only [kn, simprocAttr, qa, qb, qc, qd] at h9
          cases h
        ·cases h
       ·cases h
      ·replace h := br h; rcases h with ⟨h14, h⟩ | ⟨h14, h⟩
       ·replace h := br h; rcases h with ⟨h15, h⟩ | ⟨h15, h⟩
        ·replace h := br h; rcases h with ⟨h16, h⟩ | ⟨h16, h⟩
         ·try simp only [kn, simprocAttr, qa, qb, qc, qd] at h16
          replace h := bb h; rcases h with ⟨h17', h17, h⟩ | ⟨h17', h17, h⟩
          ·replace h := br h; rcases h with ⟨h18, h⟩ | ⟨h18, h⟩
           ·try simp only [kn, simprocAttr, qa, qb, qc, qd] at h18
            replace h := br h; rcases h with ⟨h19, h⟩ | ⟨h19, h⟩
            ·try simp only [kn, simprocAttr, qa, qb, qc, qd] at h19
             cases h; subst hR; simp (maxDischargeDepth := 12) only [zbrg, kn, simprocAttr, qa, qb, qc, qd, Ow.enc, Sl.enc, *]
            ·try simp only [kn, simprocAttr, qa, qb, qc, qd] at h19
             cases h
           ·try simp only [kn, simprocAttr, qa, qb, qc, qd] at h18
            cases h
          ·cases h
         ·try simp only [kn, simprocAttr, qa, qb, qc, qd] at h16
          cases h
        ·cases h
       ·cases h
     ·cases h
   ·cases h
  ·cases h
 ·cases h
def zbri := And.intro @kk <| And.intro @zbjw <| And.intro @zbfk <| And.intro @zbjy <| And.intro @zbjz <| @zbj0
theorem zbrj : ∀ (q N : Nat), 8 * q ≤ N → ∀ (a0 : (Sl Int)), ∀ (r : Int), zlv q a0 = some r → (orc T N).deep F.zlv [(Sl.enc (V.int .u8)) a0] = some [(V.int .i64) r] := by
 intro q N hM a0 r h
 rcases q with _ | q
 ·cases h
 obtain ⟨M, rfl⟩ : ∃ M, N = M + 8 := ⟨N - 8, by omega⟩
 generalize hR : some [(V.int .i64) r] = R
 rw [zh0, zbad, Option.bind_some, zhy]
 rw [zlv] at h
 replace h := ob h; obtain ⟨r1, h1, h⟩ := h
 replace h1 := zbpq q (M + 7) (by omega) _ _ h1
 try simp only [Ow.enc, Sl.enc, kn, simprocAttr, qa, qb, qc, qd] at h1
 replace h := br h; rcases h with ⟨h2, h⟩ | ⟨h2, h⟩
 ·cases h; subst hR; simp (maxDischargeDepth := 12) only [zbri, kn, simprocAttr, qa, qb, qc, qd, Ow.enc, Sl.enc, *]
 ·replace h := br h; rcases h with ⟨h3, h⟩ | ⟨h3, h⟩
  ·try simp only [kn, simprocAttr, qa, qb, qc, qd] at h3
   cases h; subst hR; simp (maxDischargeDepth := 12) only [zbri, kn, simprocAttr, qa, qb, qc, qd, Ow.enc, Sl.enc, *]
  ·try simp only [kn, simprocAttr, qa, qb, qc, qd] at h3
   cases h; subst hR; simp (maxDischargeDepth := 12) only [zbri, kn, simprocAttr, qa, qb, qc, qd, Ow.enc, Sl.enc, *]
def zbrk (q : Nat) : Prop := ∀ (M : Nat) (hM : 8 * q ≤ M) (j : Nat) (hj : q ≤ j) (v0 : Int) (v1z : Bool) (v1l : List Int) (v7 : Int) (h0_0 : Int) (h0_1 : Int) (h0_2 : Int) (h0_3 : Int) (h0_4 : Int) (h0_5 : Int) (h0_6 : Int) (h1z : Bool) (h1l : List Int) (h1x : Bool) (r : zjs × Int) (_ : zlw q v0 v1z v1l v7 h0_0 h0_1 h0_2 h0_3 h0_4 h0_5 h0_6 h1z h1l h1x = some r) (R : Option (List V)) (_ : some [zjs.enc r.1, (V.int .i64) r.2] = R) (fr : Fr) (H : Hp) (_ : canon 0 [0, 1, 4, 6, 7] fr H = ([(0, (.int .i64 v0)), (1, (.sl v1z (List.map (V.int .u8) v1l))), (4, (.ptr 0 0)), (6, (.vw 1 0 0 h1l.length 1)), (7, (.int .i64 v7))], [(.box [(.int .i64 h0_0), (.int .i64 h0_1), (.int .i64 h0_2), (.int .i64 h0_3), (.int .i64 h0_4), (.int .i64 h0_5), (.int .i64 h0_6)]), (.row 0 h1z 1 (List.map (V.int .i64) h1l) h1x)])), fin z4x (unw T (orc T (M + 7)) (M + 7) 0 [.blk 0, .code z4t] (iter 0 [0, 1, 4, 6, 7] (exec T (orc T (M + 7)) (M + 7) 0 z4j) j fr H)) = R
def zbrl := And.intro @kk <| And.intro @zbiy <| And.intro @zbjt <| And.intro @zbdi <| And.intro @zbfk <| And.intro @zbgj <| And.intro @zbip <| And.intro @zbiu <| And.intro @zbjf <| And.intro @zbjk <| And.intro @zbjp <| And.intro @zbjx <| And.intro @zbju <| And.intro @zbjv <| And.intro @zbi0 <| And.intro @zbi1 <| @zbi2
theorem zbrm (q : Nat) (zbtb : zbrk q) : zbrk (q + 1) := by
 intro M hM j hj v0 v1z v1l v7 h0_0 h0_1 h0_2 h0_3 h0_4 h0_5 h0_6 h1z h1l h1x r h R hR fr H hc
 obtain ⟨j, rfl⟩ : ∃ i, j = i + 1 := ⟨j - 1, by omega⟩
 rw [zhr, hc]; clear hc
 rw [zlw] at h
 replace h := br h; rcases h with ⟨h1, h⟩ | ⟨h1, h⟩
 ·replace h := ob h; obtain ⟨r3, h2, h⟩ := h
  replace h2 := zbpq q (M + 7) (by omega) _ _ h2
  try simp only [Ow.enc, Sl.enc, kn, simprocAttr, qa, qb, qc, qd] at h2
  replace h := br h; rcases h with ⟨h3, h⟩ | ⟨h3, h⟩
  ·cases h; subst hR; simp (maxDischargeDepth := 12) only [zbrl, kn, simprocAttr, qa, qb, qc, qd, Ow.enc, zjr.enc, zjs.enc, Sl.enc, *]
  ·replace h := br h; rcases h with ⟨h4, h⟩ | ⟨h4, h⟩
   ·cases h; subst hR; simp (maxDischargeDepth := 12) only [zbrl, kn, simprocAttr, qa, qb, qc, qd, Ow.enc, zjr.enc, zjs.enc, Sl.enc, *]
   ·replace h := br h; rcases h with ⟨h5, h⟩ | ⟨h5, h⟩
    ·replace h := br h; rcases h with ⟨h6, h⟩ | ⟨h6, h⟩
     ·replace h := ob h; obtain ⟨r4, h7, h⟩ := h
      replace h7 := zbrf q (M + 7) (by omega) _ _ _ h7
      try simp only [Ow.enc, Sl.enc, kn, simprocAttr, qa, qb, qc, qd] at h7
      replace h := br h; rcases h with ⟨h8, h⟩ | ⟨h8, h⟩
      ·replace h := ob h; obtain ⟨r5, h9, h⟩ := h
       replace h9 := zbrh q (M + 7) (by omega) _ _ _ _ h9
       try simp only [Ow.enc, Sl.enc, kn, simprocAttr, qa, qb, qc, qd] at h9
       replace h := br h; rcases h with ⟨h10, h⟩ | ⟨h10, h⟩
       ·replace h := ob h; obtain ⟨r6, h11, h⟩ := h
        replace h11 := zbpq q (M + 6) (by omega) _ _ h11
        try simp only [Ow.enc, Sl.enc, kn, simprocAttr, qa, qb, qc, qd] at h11
        replace h := br h; rcases h with ⟨h12, h⟩ | ⟨h12, h⟩
        ·cases h; subst hR; simp (maxDischargeDepth := 12) only [zbrl, kn, simprocAttr, qa, qb, qc, qd, Ow.enc, zjr.enc, zjs.enc, Sl.enc, *]
        ·replace h := br h; rcases h with ⟨h13, h⟩ | ⟨h13, h⟩
         ·replace h := br h; rcases h with ⟨h14, h⟩ | ⟨h14, h⟩
          ·try simp only [kn, simprocAttr, qa, qb, qc, qd] at h14
           replace h := zbtb M (by omega) j (by omega) _ _ _ _ _ _ _ _ _ _ _ _ _ _ _ h R hR
           simp (maxDischargeDepth := 12) only [zbrl, kn, simprocAttr, qa, qb, qc, qd, Ow.enc, zjr.enc, zjs.enc, Sl.enc, *]
          ·try simp only [kn, simprocAttr, qa, qb, qc, qd] at h14
           cases h
         ·cases h
       ·replace h := br h; rcases h with ⟨h15, h⟩ | ⟨h15, h⟩
        ·replace h := ob h; obtain ⟨r7, h16, h⟩ := h
         replace h16 := zbpq q (M + 6) (by omega) _ _ h16
         try simp only [Ow.enc, Sl.enc, kn, simprocAttr, qa, qb, qc, qd] at h16
         replace h := br h; rcases h with ⟨h17, h⟩ | ⟨h17, h⟩
         ·cases h; subst hR; simp (maxDischargeDepth := 12) only [zbrl, kn, simprocAttr, qa, qb, qc, qd, Ow.enc, zjr.enc, zjs.enc, Sl.enc, *]
         ·replace h := br h; rcases h with ⟨h18, h⟩ | ⟨h18, h⟩
          ·replace h := br h; rcases h with ⟨h19, h⟩ | ⟨h19, h⟩
           ·try simp only [kn, simprocAttr, qa, qb, qc, qd] at h19
            replace h := zbtb M (by omega) j (by omega) _ _ _ _ _ _ _ _ _ _ _ _ _ _ _ h R hR
            simp (maxDischargeDepth := 12) only [zbrl, kn, simprocAttr, qa, qb, qc, qd, Ow.enc, zjr.enc, zjs.enc, Sl.enc, *]
           ·try simp only [kn, simprocAttr, qa, qb, qc, qd] at h19
            cases h
          ·cases h
        ·replace h := br h; rcases h with ⟨h20, h⟩ | ⟨h20, h⟩
         ·replace h := ob h; obtain ⟨r8, h21, h⟩ := h
          replace h21 := zbpq q (M + 6) (by omega) _ _ h21
          try simp only [Ow.enc, Sl.enc, kn, simprocAttr, qa, qb, qc, qd] at h21
          replace h := br h; rcases h with ⟨h22, h⟩ | ⟨h22, h⟩
          ·cases h; subst hR; simp (maxDischargeDepth := 12) only [zbrl, kn, simprocAttr, qa, qb, qc, qd, Ow.enc, zjr.enc, zjs.enc, Sl.enc, *]
          ·replace h := br h; rcases h with ⟨h23, h⟩ | ⟨h23, h⟩
           ·replace h := br h; rcases h with ⟨h24, h⟩ | ⟨h24, h⟩
            ·try simp only [kn, simprocAttr, qa, qb, qc, qd] at h24
             replace h := zbtb M (by omega) j (by omega) _ _ _ _ _ _ _ _ _ _ _ _ _ _ _ h R hR
             simp (maxDischargeDepth := 12) only [zbrl, kn, simprocAttr, qa, qb, qc, qd, Ow.enc, zjr.enc, zjs.enc, Sl.enc, *]
            ·try simp only [kn, simprocAttr, qa, qb, qc, qd] at h24
             cases h
           ·cases h
         ·replace h := br h; rcases h with ⟨h25, h⟩ | ⟨h25, h⟩
          ·replace h := ob h; obtain ⟨r9, h26, h⟩ := h
           replace h26 := zbqc q (M + 6) (by omega) _ _ h26
           try simp only [Ow.enc, zjr.enc, Sl.enc, kn, simprocAttr, qa, qb, qc, qd] at h26
           replace h := br h; rcases h with ⟨h27, h⟩ | ⟨h27, h⟩
           ·cases h; subst hR; simp (maxDischargeDepth := 12) only [zbrl, kn, simprocAttr, qa, qb, qc, qd, Ow.enc, zjr.enc, zjs.enc, Sl.enc, *]
           ·replace h := br h; rcases h with ⟨h28, h⟩ | ⟨h28, h⟩
            ·replace h := br h; rcases h with ⟨h29, h⟩ | ⟨h29, h⟩
             ·try simp only [kn, simprocAttr, qa, qb, qc, qd] at h29
              replace h := zbtb M (by omega) j (by omega) _ _ _ _ _ _ _ _ _ _ _ _ _ _ _ h R hR
              simp (maxDischargeDepth := 12) only [zbrl, kn, simprocAttr, qa, qb, qc, qd, Ow.enc, zjr.enc, zjs.enc, Sl.enc, *]
             ·try simp only [kn, simprocAttr, qa, qb, qc, qd] at h29
              cases h
            ·cases h
          ·replace h := br h; rcases h with ⟨h30, h⟩ | ⟨h30, h⟩
           ·replace h := ob h; obtain ⟨r10, h31, h⟩ := h
            replace h31 := zbqa q (M + 6) (by omega) _ _ h31
            try simp only [Ow.enc, Sl.enc, kn, simprocAttr, qa, qb, qc, qd] at h31
            replace h := br h; rcases h with ⟨h32, h⟩ | ⟨h32, h⟩
            ·cases h; subst hR; simp (maxDischargeDepth := 12) only [zbrl, kn, simprocAttr, qa, qb, qc, qd, Ow.enc, zjr.enc, zjs.enc, Sl.enc, *]
            ·replace h := br h; rcases h with ⟨h33, h⟩ | ⟨h33, h⟩
             ·replace h := br h; rcases h with ⟨h34, h⟩ | ⟨h34, h⟩
              ·try simp only [kn, simprocAttr, qa, qb, qc, qd] at h34
               replace h := zbtb M (by omega) j (by omega) _ _ _ _ _ _ _ _ _ _ _ _ _ _ _ h R hR
               simp (maxDischargeDepth := 12) only [zbrl, kn, simprocAttr, qa, qb, qc, qd, Ow.enc, zjr.enc, zjs.enc, Sl.enc, *]
              ·try simp only [kn, simprocAttr, qa, qb, qc, qd] at h34
               cases h
             ·cases h
           ·cases h; subst hR; simp (maxDischargeDepth := 12) only [zbrl, kn, simprocAttr, qa, qb, qc, qd, Ow.enc, zjr.enc, zjs.enc, Sl.enc, *]
      ·replace h := br h; rcases h with ⟨h35, h⟩ | ⟨h35, h⟩
       ·cases h; subst hR; simp (maxDischargeDepth := 12) only [zbrl, kn, simprocAttr, qa, qb, qc, qd, Ow.enc, zjr.enc, zjs.enc, Sl.enc, *]
       ·replace h := br h; rcases h with ⟨h36, h⟩ | ⟨h36, h⟩
        ·cases h; subst hR; simp (maxDischargeDepth := 12) only [zbrl, kn, simprocAttr, qa, qb, qc, qd, Ow.enc, zjr.enc, zjs.enc, Sl.enc, *]
        ·replace h := ob h; obtain ⟨r11, h37, h⟩ := h
         replace h37 := zbrj q (M + 7) (by omega) _ _ h37
         try simp only [Ow.enc, Sl.enc, kn, simprocAttr, qa, qb, qc, qd] at h37
         replace h := br h; rcases h with ⟨h38, h⟩ | ⟨h38, h⟩
         ·cases h; subst hR; simp (maxDischargeDepth := 12) only [zbrl, kn, simprocAttr, qa, qb, qc, qd, Ow.enc, zjr.enc, zjs.enc, Sl.enc, *]
         ·replace h := br h; rcases h with ⟨h39, h⟩ | ⟨h39, h⟩
          ·replace h := br h; rcases h with ⟨h40, h⟩ | ⟨h40, h⟩
           ·try simp only [kn, simprocAttr, qa, qb, qc, qd] at h40
            replace h := zbtb M (by omega) j (by omega) _ _ _ _ _ _ _ _ _ _ _ _ _ _ _ h R hR
            simp (maxDischargeDepth := 12) only [zbrl, kn, simprocAttr, qa, qb, qc, qd, Ow.enc, zjr.enc, zjs.enc, Sl.enc, *]
           ·try simp only [kn, simprocAttr, qa, qb, qc, qd] at h40
            cases h
          ·cases h
     ·cases h
    ·cases h
 ·replace h := br h; rcases h with ⟨h41, h⟩ | ⟨h41, h⟩
  ·cases h; subst hR; simp (maxDischargeDepth := 12) only [zbrl, kn, simprocAttr, qa, qb, qc, qd, Ow.enc, zjr.enc, zjs.enc, Sl.enc, *]
  ·replace h := ob h; obtain ⟨r12, h42, h⟩ := h
   replace h42 := zbnv q (M + 7) (by omega) _ _ h42
   try simp only [Ow.enc, zjr.enc, zjs.enc, kn, simprocAttr, qa, qb, qc, qd] at h42
   replace h := bb h; rcases h with ⟨h43', h43, h⟩ | ⟨h43', h43, h⟩
   ·cases h; subst hR; simp (maxDischargeDepth := 12) only [zbrl, kn, simprocAttr, qa, qb, qc, qd, Ow.enc, zjr.enc, zjs.enc, Sl.enc, *]
   ·cases h; subst hR; simp (maxDischargeDepth := 12) only [zbrl, kn, simprocAttr, qa, qb, qc, qd, Ow.enc, zjr.enc, zjs.enc, Sl.enc, *]
theorem zbrn : ∀ q, zbrk q
 | 0 => by intro M hM j hj; intros; rename_i h _ _ _ _ _; cases h
 | q + 1 => by have i0 := zbrn q; exact zbrm q i0
theorem zbro : ∀ (q N : Nat), 8 * q ≤ N → ∀ (a0 : Int) (a1 : (Sl Int)), ∀ (r : zjs × Int), zlx q a0 a1 = some r → (orc T N).deep F.zlx [(V.int .i64) a0, (Sl.enc (V.int .u8)) a1] = some [zjs.enc r.1, (V.int .i64) r.2] := by
 intro q N hM a0 a1 r h
 rcases q with _ | q
 ·cases h
 obtain ⟨M, rfl⟩ : ∃ M, N = M + 8 := ⟨N - 8, by omega⟩
 have zbtb := (zbrn q)
 generalize hR : some [zjs.enc r.1, (V.int .i64) r.2] = R
 rw [zh0, z95, Option.bind_some, zhy]
 rw [zlx] at h
 replace h := ob h; obtain ⟨r1, h1, h⟩ := h
 replace h1 := zboi q (M + 7) (by omega) _ _ h1
 try simp only [Ow.enc, kn, simprocAttr, qa, qb, qc, qd] at h1
 replace h := ob h; obtain ⟨r2, h2, h⟩ := h
 replace h2 := zbra q (M + 7) (by omega) _ _ h2
 try simp only [Ow.enc, Sl.enc, kn, simprocAttr, qa, qb, qc, qd] at h2
 replace h := zbtb M (by omega) (M + 7) (by omega) _ _ _ _ _ _ _ _ _ _ _ _ _ _ _ h R hR
 simp (maxDischargeDepth := 12) only [zbrl, kn, simprocAttr, qa, qb, qc, qd, Ow.enc, zjr.enc, zjs.enc, Sl.enc, *]
def zbrp := And.intro @kk <| And.intro @zbhw <| And.intro @zbfk <| And.intro @zbgj <| And.intro @zbiz <| And.intro @zbhy <| And.intro @zbhz <| @zbh0
theorem zbrq : ∀ (q N : Nat), 8 * q ≤ N → ∀ (a0 : (Sl Int)), ∀ (r : zjs × Int), zly q a0 = some r → (orc T N).deep F.zly [(Sl.enc (V.int .u8)) a0] = some [zjs.enc r.1, (V.int .i64) r.2] := by
 intro q N hM a0 r h
 rcases q with _ | q
 ·cases h
 obtain ⟨M, rfl⟩ : ∃ M, N = M + 8 := ⟨N - 8, by omega⟩
 generalize hR : some [zjs.enc r.1, (V.int .i64) r.2] = R
 rw [zh0, z9x, Option.bind_some, zhy]
 rw [zly] at h
 replace h := br h; rcases h with ⟨h1, h⟩ | ⟨h1, h⟩
 ·cases h; subst hR; simp (maxDischargeDepth := 12) only [zbrp, kn, simprocAttr, qa, qb, qc, qd, Ow.enc, zjr.enc, zjs.enc, Sl.enc, *]
 ·replace h := ob h; obtain ⟨r1, h2, h⟩ := h
  replace h2 := zbpq q (M + 7) (by omega) _ _ h2
  try simp only [Ow.enc, Sl.enc, kn, simprocAttr, qa, qb, qc, qd] at h2
  replace h := br h; rcases h with ⟨h3, h⟩ | ⟨h3, h⟩
  ·cases h; subst hR; simp (maxDischargeDepth := 12) only [zbrp, kn, simprocAttr, qa, qb, qc, qd, Ow.enc, zjr.enc, zjs.enc, Sl.enc, *]
  ·replace h := ob h; obtain ⟨r2, h4, h⟩ := h
   replace h4 := zboi q (M + 7) (by omega) _ _ h4
   try simp only [Ow.enc, kn, simprocAttr, qa, qb, qc, qd] at h4
   replace h := bb h; rcases h with ⟨h5', h5, h⟩ | ⟨h5', h5, h⟩
   ·cases h; subst hR; simp (maxDischargeDepth := 12) only [zbrp, kn, simprocAttr, qa, qb, qc, qd, Ow.enc, zjr.enc, zjs.enc, Sl.enc, *]
   ·replace h := br h; rcases h with ⟨h6, h⟩ | ⟨h6, h⟩
    ·replace h := br h; rcases h with ⟨h7, h⟩ | ⟨h7, h⟩
     ·replace h := ob h; obtain ⟨r3, h8, h⟩ := h
      replace h8 := zbro q (M + 7) (by omega) _ _ _ h8
      try simp only [Ow.enc, zjr.enc, zjs.enc, Sl.enc, kn, simprocAttr, qa, qb, qc, qd] at h8
      replace h := br h; rcases h with ⟨h9, h⟩ | ⟨h9, h⟩
      ·cases h; subst hR; simp (maxDischargeDepth := 12) only [zbrp, kn, simprocAttr, qa, qb, qc, qd, Ow.enc, zjr.enc, zjs.enc, Sl.enc, *]
      ·cases h; subst hR; simp (maxDischargeDepth := 12) only [zbrp, kn, simprocAttr, qa, qb, qc, qd, Ow.enc, zjr.enc, zjs.enc, Sl.enc, *]
     ·cases h
    ·cases h
def zbrr (q : Nat) : Prop := ∀ (M : Nat) (hM : 8 * q ≤ M) (j : Nat) (hj : q ≤ j) (v0 : Int) (v1z : Bool) (v1l : List Int) (h0z : Bool) (h0l : List zjs) (r : (Ow zjs) × Bool) (_ : zlz q v0 v1z v1l h0z h0l = some r) (R : Option (List V)) (_ : some [(Ow.enc 7 zjs.enc) r.1, V.bool r.2] = R) (fr : Fr) (H : Hp) (_ : canon 0 [0, 1, 6] fr H = ([(0, (.int .i64 v0)), (1, (.sl v1z (List.map (V.int .u8) v1l))), (6, (.vw 0 0 0 h0l.length 1))], [(.row 0 h0z 7 (List.map zjs.enc h0l) true)])), fin zyn (unw T (orc T (M + 7)) (M + 7) 0 [.blk 0, .code zyj] (iter 0 [0, 1, 6] (exec T (orc T (M + 7)) (M + 7) 0 zyh) j fr H)) = R
def zbrs := And.intro @kk <| And.intro @zbft <| And.intro @zbfk <| And.intro @zbhx <| And.intro @zbfv <| And.intro @zbfw <| @zbfx
theorem zbrt (q : Nat) (zbtc : zbrr q) : zbrr (q + 1) := by
 intro M hM j hj v0 v1z v1l h0z h0l r h R hR fr H hc
 obtain ⟨j, rfl⟩ : ∃ i, j = i + 1 := ⟨j - 1, by omega⟩
 rw [zhr, hc]; clear hc
 rw [zlz] at h
 replace h := br h; rcases h with ⟨h1, h⟩ | ⟨h1, h⟩
 ·replace h := ob h; obtain ⟨r1, h2, h⟩ := h
  replace h2 := zbpq q (M + 7) (by omega) _ _ h2
  try simp only [Ow.enc, Sl.enc, kn, simprocAttr, qa, qb, qc, qd] at h2
  replace h := br h; rcases h with ⟨h3, h⟩ | ⟨h3, h⟩
  ·cases h; subst hR; simp (maxDischargeDepth := 12) only [zbrs, kn, simprocAttr, qa, qb, qc, qd, Ow.enc, zjr.enc, zjs.enc, Sl.enc, *]
  ·replace h := br h; rcases h with ⟨h4, h⟩ | ⟨h4, h⟩
   ·cases h; subst hR; simp (maxDischargeDepth := 12) only [zbrs, kn, simprocAttr, qa, qb, qc, qd, Ow.enc, zjr.enc, zjs.enc, Sl.enc, *]
   ·replace h := br h; rcases h with ⟨h5, h⟩ | ⟨h5, h⟩
    ·try simp only [kn, simprocAttr, qa, qb, qc, qd] at h5
     cases h; subst hR; simp (maxDischargeDepth := 12) only [zbrs, kn, simprocAttr, qa, qb, qc, qd, Ow.enc, zjr.enc, zjs.enc, Sl.enc, *]
    ·try simp only [kn, simprocAttr, qa, qb, qc, qd] at h5
     replace h := br h; rcases h with ⟨h6, h⟩ | ⟨h6, h⟩
     ·replace h := ob h; obtain ⟨e2, h7, h⟩ := h
      replace h := br h; rcases h with ⟨h8, h⟩ | ⟨h8, h⟩
      ·replace h := br h; rcases h with ⟨h9, h⟩ | ⟨h9, h⟩
       ·try simp only [kn, simprocAttr, qa, qb, qc, qd] at h9
        replace h := br h; rcases h with ⟨h10, h⟩ | ⟨h10, h⟩
        ·try simp only [kn, simprocAttr, qa, qb, qc, qd] at h10
         replace h := ob h; obtain ⟨r3, h11, h⟩ := h
         replace h11 := zbrq q (M + 7) (by omega) _ _ h11
         try simp only [Ow.enc, zjr.enc, zjs.enc, Sl.enc, kn, simprocAttr, qa, qb, qc, qd] at h11
         replace h := br h; rcases h with ⟨h12, h⟩ | ⟨h12, h⟩
         ·replace h := br h; rcases h with ⟨h13, h⟩ | ⟨h13, h⟩
          ·try simp only [kn, simprocAttr, qa, qb, qc, qd] at h13
           replace h := br h; rcases h with ⟨h14, h⟩ | ⟨h14, h⟩
           ·try simp only [kn, simprocAttr, qa, qb, qc, qd] at h14
            replace h := br h; rcases h with ⟨h15, h⟩ | ⟨h15, h⟩
            ·try simp only [kn, simprocAttr, qa, qb, qc, qd] at h15
             replace h := zbtc M (by omega) j (by omega) _ _ _ _ _ _ h R hR
             simp (maxDischargeDepth := 12) only [zbrs, kn, simprocAttr, qa, qb, qc, qd, Ow.enc, zjr.enc, zjs.enc, Sl.enc, *]
            ·try simp only [kn, simprocAttr, qa, qb, qc, qd] at h15
             cases h
           ·try simp only [kn, simprocAttr, qa, qb, qc, qd] at h14
            cases h
          ·try simp only [kn, simprocAttr, qa, qb, qc, qd] at h13
           cases h
         ·cases h; subst hR; simp (maxDischargeDepth := 12) only [zbrs, kn, simprocAttr, qa, qb, qc, qd, Ow.enc, zjr.enc, zjs.enc, Sl.enc, *]
        ·try simp only [kn, simprocAttr, qa, qb, qc, qd] at h10
         cases h
       ·try simp only [kn, simprocAttr, qa, qb, qc, qd] at h9
        cases h
      ·cases h; subst hR; simp (maxDischargeDepth := 12) only [zbrs, kn, simprocAttr, qa, qb, qc, qd, Ow.enc, zjr.enc, zjs.enc, Sl.enc, *]
     ·cases h
 ·cases h; subst hR; simp (maxDischargeDepth := 12) only [zbrs, kn, simprocAttr, qa, qb, qc, qd, Ow.enc, zjr.enc, zjs.enc, Sl.enc, *]
theorem zbru : ∀ q, zbrr q
 | 0 => by intro M hM j hj; intros; rename_i h _ _ _ _ _; cases h
 | q + 1 => by have i0 := zbru q; exact zbrt q i0
theorem zbrv : ∀ (q N : Nat), 8 * q ≤ N → ∀ (a0 : Int) (a1 : (Sl Int)), ∀ (r : (Ow zjs) × Bool), zl0 q a0 a1 = some r → (orc T N).deep F.zl0 [(V.int .i64) a0, (Sl.enc (V.int .u8)) a1] = some [(Ow.enc 7 zjs.enc) r.1, V.bool r.2] := by
 intro q N hM a0 a1 r h
 rcases q with _ | q
 ·cases h
 obtain ⟨M, rfl⟩ : ∃ M, N = M + 8 := ⟨N - 8, by omega⟩
 have zbtc := (zbru q)
 generalize hR : some [(Ow.enc 7 zjs.enc) r.1, V.bool r.2] = R
 rw [zh0, z9i, Option.bind_some, zhy]
 rw [zl0] at h
 replace h := zbtc M (by omega) (M + 7) (by omega) _ _ _ _ _ _ h R hR
 simp (maxDischargeDepth := 12) only [zbrs, kn, simprocAttr, qa, qb, qc, qd, Ow.enc, zjr.enc, zjs.enc, Sl.enc, *]
def zbrw := And.intro @kk <| And.intro @zbcx <| And.intro @zbcl <| And.intro @zbcz <| And.intro @zbc0 <| @zbc1
theorem zbrx : ∀ (q N : Nat), 8 * q ≤ N → ∀ (a0 : Int), ∀ (r : Int), zl1 q a0 = some r → (orc T N).deep F.zl1 [(V.int .i64) a0] = some [(V.int .i64) r] := by
 intro q N hM a0 r h
 rcases q with _ | q
 ·cases h
 obtain ⟨M, rfl⟩ : ∃ M, N = M + 8 := ⟨N - 8, by omega⟩
 generalize hR : some [(V.int .i64) r] = R
 rw [zh0, z8w, Option.bind_some, zhy]
 rw [zl1] at h
 replace h := br h; rcases h with ⟨h1, h⟩ | ⟨h1, h⟩
 ·cases h; subst hR; simp (maxDischargeDepth := 12) only [zbrw, kn, simprocAttr, qa, qb, qc, qd, Ow.enc, Sl.enc, *]
 ·replace h := br h; rcases h with ⟨h2, h⟩ | ⟨h2, h⟩
  ·cases h; subst hR; simp (maxDischargeDepth := 12) only [zbrw, kn, simprocAttr, qa, qb, qc, qd, Ow.enc, Sl.enc, *]
  ·replace h := ob h; obtain ⟨r1, h3, h⟩ := h
   replace h3 := zbml q (M + 7) (by omega) _ _ _ h3
   try simp only [Ow.enc, Sl.enc, kn, simprocAttr, qa, qb, qc, qd] at h3
   cases h; subst hR; simp (maxDischargeDepth := 12) only [zbrw, kn, simprocAttr, qa, qb, qc, qd, Ow.enc, Sl.enc, *]
def zbry (q : Nat) : Prop := ∀ (M : Nat) (hM : 8 * q ≤ M) (j : Nat) (hj : q ≤ j) (w1 : Nat) (v1z : Bool) (v1l : List Int) (v19 : Int) (h1z : Bool) (h1l : List (Sl Int)) (h1x : Bool) (h3_0 : Int) (h3_1 : Int) (h3_2 : Int) (r : Int × Int × Int × Int × Bool) (_ : zl2 q v1z v1l v19 h1z h1l h1x h3_0 h3_1 h3_2 = some r) (R : Option (List V × Hp)) (_ : (some ([(.int .i64 r.1)], [(.box [(.int .i64 0), (.int .i64 0), (.sl true [])]), (.row w1 h1z 1 (List.map (Sl.enc (V.int .u8)) h1l) h1x), (.box [(.int .i64 r.2.1), (.int .i64 r.2.2.1), (.int .i64 r.2.2.2.1), (.sl true []), (.bool r.2.2.2.2)])]) : Option (List V × Hp)) = R) (fr : Fr) (H : Hp) (_ : canon 3 [0, 1, 5, 19] fr H = ([(0, (.ptr 2 0)), (1, (.sl v1z (List.map (V.int .u8) v1l))), (5, (.ptr 3 0)), (19, (.int .i64 v19))], [(.box [(.int .i64 0), (.int .i64 0), (.sl true [])]), (.row w1 h1z 1 (List.map (Sl.enc (V.int .u8)) h1l) h1x), (.box [(.int .i64 0), (.int .i64 0), (.int .i64 0), (.sl true []), (.bool false)]), (.box [(.int .i64 h3_0), (.int .i64 h3_1), (.int .i64 h3_2)])])), finI 3 false [.tmp 4] (unw T (orc T (M + 5)) (M + 5) 3 [.blk 0, .code zt8] (iter 3 [0, 1, 5, 19] (exec T (orc T (M + 5)) (M + 5) 3 ztt) j fr H)) = R
def zbrz := And.intro @kk <| And.intro @zbd9 <| And.intro @zbcb <| @zbfk
theorem zbr0 (q : Nat) (zbtd : zbry q) : zbry (q + 1) := by
 intro M hM j hj w1 v1z v1l v19 h1z h1l h1x h3_0 h3_1 h3_2 r h R hR fr H hc
 obtain ⟨j, rfl⟩ : ∃ i, j = i + 1 := ⟨j - 1, by omega⟩
 rw [zhr, hc]; clear hc
 rw [zl2] at h
 replace h := br h; rcases h with ⟨h1, h⟩ | ⟨h1, h⟩
 ·replace h := ob h; obtain ⟨r2, h2, h⟩ := h
  replace h2 := zbpq q (M + 5) (by omega) _ _ h2
  try simp only [Ow.enc, Sl.enc, kn, simprocAttr, qa, qb, qc, qd] at h2
  replace h := br h; rcases h with ⟨h3, h⟩ | ⟨h3, h⟩
  ·replace h := br h; rcases h with ⟨h4, h⟩ | ⟨h4, h⟩
   ·replace h := bc h; rcases h with ⟨h5, h⟩ | ⟨h5, h⟩
    ·replace h := br h; rcases h with ⟨h6, h⟩ | ⟨h6, h⟩
     ·cases h; subst hR; simp (maxDischargeDepth := 12) only [zbrz, kn, simprocAttr, qa, qb, qc, qd, Ow.enc, Sl.enc, *]
     ·replace h := br h; rcases h with ⟨h7, h⟩ | ⟨h7, h⟩
      ·replace h := br h; rcases h with ⟨h8, h⟩ | ⟨h8, h⟩
       ·replace h := zbtd M (by omega) j (by omega) w1 _ _ _ _ _ _ _ _ _ _ h R hR
        simp (maxDischargeDepth := 12) only [zbrz, kn, simprocAttr, qa, qb, qc, qd, Ow.enc, Sl.enc, *]
       ·cases h
      ·cases h
    ·replace h := bc h; rcases h with ⟨h9, h⟩ | ⟨h9, h⟩
     ·replace h := br h; rcases h with ⟨h10, h⟩ | ⟨h10, h⟩
      ·cases h; subst hR; simp (maxDischargeDepth := 12) only [zbrz, kn, simprocAttr, qa, qb, qc, qd, Ow.enc, Sl.enc, *]
      ·replace h := br h; rcases h with ⟨h11, h⟩ | ⟨h11, h⟩
       ·replace h := br h; rcases h with ⟨h12, h⟩ | ⟨h12, h⟩
        ·replace h := zbtd M (by omega) j (by omega) w1 _ _ _ _ _ _ _ _ _ _ h R hR
         simp (maxDischargeDepth := 12) only [zbrz, kn, simprocAttr, qa, qb, qc, qd, Ow.enc, Sl.enc, *]
        ·cases h
       ·cases h
     ·replace h := bc h; rcases h with ⟨h13, h⟩ | ⟨h13, h⟩
      ·replace h := br h; rcases h with ⟨h14, h⟩ | ⟨h14, h⟩
       ·cases h; subst hR; simp (maxDischargeDepth := 12) only [zbrz, kn, simprocAttr, qa, qb, qc, qd, Ow.enc, Sl.enc, *]
       ·replace h := br h; rcases h with ⟨h15, h⟩ | ⟨h15, h⟩
        ·replace h := br h; rcases h with ⟨h16, h⟩ | ⟨h16, h⟩
         ·replace h := zbtd M (by omega) j (by omega) w1 _ _ _ _ _ _ _ _ _ _ h R hR
          simp (maxDischargeDepth := 12) only [zbrz, kn, simprocAttr, qa, qb, qc, qd, Ow.enc, Sl.enc, *]
         ·cases h
        ·cases h
      ·cases h
   ·cases h
  ·cases h
 ·replace h := br h; rcases h with ⟨h17, h⟩ | ⟨h17, h⟩
  ·cases h; subst hR; simp (maxDischargeDepth := 12) only [zbrz, kn, simprocAttr, qa, qb, qc, qd, Ow.enc, Sl.enc, *]
  ·replace h := ob h; obtain ⟨r3, h18, h⟩ := h
   replace h18 := zbme q (M + 5) (by omega) _ _ h18
   replace h := bb h; rcases h with ⟨h19', h19, h⟩ | ⟨h19', h19, h⟩
   ·replace h := br h; rcases h with ⟨h20, h⟩ | ⟨h20, h⟩
    ·cases h; subst hR; simp (maxDischargeDepth := 12) only [zbrz, kn, simprocAttr, qa, qb, qc, qd, Ow.enc, Sl.enc, *]
    ·cases h; subst hR; simp (maxDischargeDepth := 12) only [zbrz, kn, simprocAttr, qa, qb, qc, qd, Ow.enc, Sl.enc, *]
   ·cases h; subst hR; simp (maxDischargeDepth := 12) only [zbrz, kn, simprocAttr, qa, qb, qc, qd, Ow.enc, Sl.enc, *]
theorem zbr1 : ∀ q, zbry q
 | 0 => by intro M hM j hj; intros; rename_i h _ _ _ _ _; cases h
 | q + 1 => by have i0 := zbr1 q; exact zbr0 q i0
theorem zbr2 : ∀ (q M : Nat), 8 * q ≤ M → ∀ (w1 : Nat), ∀ (v1z : Bool), ∀ (v1l : List Int), ∀ (h1z : Bool), ∀ (h1l : List (Sl Int)), ∀ (h1x : Bool), ∀ (r : Int × Int × Int × Int × Bool), zl3 q v1z v1l h1z h1l h1x = some r → (orc T (M + 6)).inl F.zm2 [(.ptr 2 0), (.sl v1z (List.map (V.int .u8) v1l))] [(.box [(.int .i64 0), (.int .i64 0), (.sl true [])]), (.row w1 h1z 1 (List.map (Sl.enc (V.int .u8)) h1l) h1x), (.box [(.int .i64 0), (.int .i64 0), (.int .i64 0), (.sl true []), (.bool false)])] = (some ([(.int .i64 r.1)], [(.box [(.int .i64 0), (.int .i64 0), (.sl true [])]), (.row w1 h1z 1 (List.map (Sl.enc (V.int .u8)) h1l) h1x), (.box [(.int .i64 r.2.1), (.int .i64 r.2.2.1), (.int .i64 r.2.2.2.1), (.sl true []), (.bool r.2.2.2.2)])]) : Option (List V × Hp)) := by
 intro q M hM w1 v1z v1l h1z h1l h1x r h
 rcases q with _ | q
 ·cases h
 have zbtd := (zbr1 q)
 generalize hR : (some ([(.int .i64 r.1)], [(.box [(.int .i64 0), (.int .i64 0), (.sl true [])]), (.row w1 h1z 1 (List.map (Sl.enc (V.int .u8)) h1l) h1x), (.box [(.int .i64 r.2.1), (.int .i64 r.2.2.1), (.int .i64 r.2.2.2.1), (.sl true []), (.bool r.2.2.2.2)])]) : Option (List V × Hp)) = R
 rw [zbeb (n := M + 5)]
 rw [zl3] at h
 replace h := br h; rcases h with ⟨h1, h⟩ | ⟨h1, h⟩
 ·cases h; subst hR; simp (maxDischargeDepth := 12) only [zbrz, kn, simprocAttr, qa, qb, qc, qd, Ow.enc, Sl.enc, *]
 ·replace h := ob h; obtain ⟨e1, h2, h⟩ := h
  replace h := br h; rcases h with ⟨h3, h⟩ | ⟨h3, h⟩
  ·replace h := br h; rcases h with ⟨h4, h⟩ | ⟨h4, h⟩
   ·replace h := zbtd M (by omega) (M + 5) (by omega) w1 _ _ _ _ _ _ _ _ _ _ h R hR
    simp (maxDischargeDepth := 12) only [zbrz, kn, simprocAttr, qa, qb, qc, qd, Ow.enc, Sl.enc, *]
   ·cases h
  ·cases h; subst hR; simp (maxDischargeDepth := 12) only [zbrz, kn, simprocAttr, qa, qb, qc, qd, Ow.enc, Sl.enc, *]
def zbr3 (q : Nat) : Prop := ∀ (M : Nat) (hM : 8 * q ≤ M) (j : Nat) (hj : q ≤ j) (w1 : Nat) (v19len : Nat) (v20 : Int) (h1z : Bool) (h1l : List (Sl Int)) (h1x : Bool) (h2_0 : Int) (h2_1 : Int) (h2_2 : Int) (h2_4 : Bool) (r : Nat × Int × Int × Int × Int × Int × Bool × Int × Int × Int × Int × Int × Nat × Bool × Bool × (List zjs)) (_ : zl5 q v19len v20 h1z h1l h1x h2_0 h2_1 h2_2 h2_4 = some r) (R : Option (List V × Hp)) (_ : (if r.1 = 0 then (some ([(.int .i64 r.2.1), (.int .i64 r.2.2.1)], [(.box [(.int .i64 0), (.int .i64 0), (.sl true [])]), (.row w1 h1z 1 (List.map (Sl.enc (V.int .u8)) h1l) h1x), (.box [(.int .i64 r.2.2.2.1), (.int .i64 r.2.2.2.2.1), (.int .i64 r.2.2.2.2.2.1), (.sl true []), (.bool r.2.2.2.2.2.2.1)])]) : Option (List V × Hp)) else (some ([(.int .i64 r.2.2.2.2.2.2.2.1), (.int .i64 r.2.2.2.2.2.2.2.2.1)], [(.box [(.int .i64 0), (.int .i64 0), (.sl true [])]), (.row w1 h1z 1 (List.map (Sl.enc (V.int .u8)) h1l) h1x), (.box [(.int .i64 r.2.2.2.2.2.2.2.2.2.1), (.int .i64 r.2.2.2.2.2.2.2.2.2.2.1), (.int .i64 r.2.2.2.2.2.2.2.2.2.2.2.1), (.vw 3 0 0 r.2.2.2.2.2.2.2.2.2.2.2.2.1 1), (.bool r.2.2.2.2.2.2.2.2.2.2.2.2.2.1)]), (.row 0 r.2.2.2.2.2.2.2.2.2.2.2.2.2.2.1 7 (List.map zjs.enc r.2.2.2.2.2.2.2.2.2.2.2.2.2.2.2) true)]) : Option (List V × Hp))) = R) (fr : Fr) (H : Hp) (_ : canon 3 [0, 1, 19, 20, 21] fr H = ([(0, (.ptr 2 0)), (1, (.vw 1 w1 0 h1l.length 1)), (19, (.vw 1 w1 1 v19len 1)), (20, (.int .i64 v20)), (21, (.int .i64 0))], [(.box [(.int .i64 0), (.int .i64 0), (.sl true [])]), (.row w1 h1z 1 (List.map (Sl.enc (V.int .u8)) h1l) h1x), (.box [(.int .i64 h2_0), (.int .i64 h2_1), (.int .i64 h2_2), (.sl true []), (.bool h2_4)])])), finI 3 false [.tmp 4, .tmp 5] (unw T (orc T (M + 6)) (M + 6) 3 [.blk 0, .code zqy] (iter 3 [0, 1, 19, 20, 21] (exec T (orc T (M + 6)) (M + 6) 3 zqv) j fr H)) = R
def zbr4 (q : Nat) : Prop := ∀ (M : Nat) (hM : 8 * q ≤ M) (j : Nat) (hj : q ≤ j) (w1 : Nat) (v19len : Nat) (v20 : Int) (v21 : Int) (h1z : Bool) (h1l : List (Sl Int)) (h1x : Bool) (h2_0 : Int) (h2_1 : Int) (h2_2 : Int) (h2_4 : Bool) (h3z : Bool) (h3l : List zjs) (r : Nat × Int × Int × Int × Int × Int × Bool × Int × Int × Int × Int × Int × Nat × Bool × Bool × (List zjs)) (_ : zl4 q v19len v20 v21 h1z h1l h1x h2_0 h2_1 h2_2 h2_4 h3z h3l = some r) (R : Option (List V × Hp)) (_ : (if r.1 = 0 then (some ([(.int .i64 r.2.1), (.int .i64 r.2.2.1)], [(.box [(.int .i64 0), (.int .i64 0), (.sl true [])]), (.row w1 h1z 1 (List.map (Sl.enc (V.int .u8)) h1l) h1x), (.box [(.int .i64 r.2.2.2.1), (.int .i64 r.2.2.2.2.1), (.int .i64 r.2.2.2.2.2.1), (.sl true []), (.bool r.2.2.2.2.2.2.1)])]) : Option (List V × Hp)) else (some ([(.int .i64 r.2.2.2.2.2.2.2.1), (.int .i64 r.2.2.2.2.2.2.2.2.1)], [(.box [(.int .i64 0), (.int .i64 0), (.sl true [])]), (.row w1 h1z 1 (List.map (Sl.enc (V.int .u8)) h1l) h1x), (.box [(.int .i64 r.2.2.2.2.2.2.2.2.2.1), (.int .i64 r.2.2.2.2.2.2.2.2.2.2.1), (.int .i64 r.2.2.2.2.2.2.2.2.2.2.2.1), (.vw 3 0 0 r.2.2.2.2.2.2.2.2.2.2.2.2.1 1), (.bool r.2.2.2.2.2.2.2.2.2.2.2.2.2.1)]), (.row 0 r.2.2.2.2.2.2.2.2.2.2.2.2.2.2.1 7 (List.map zjs.enc r.2.2.2.2.2.2.2.2.2.2.2.2.2.2.2) true)]) : Option (List V × Hp))) = R) (fr : Fr) (H : Hp) (_ : canon 3 [0, 1, 19, 20, 21] fr H = ([(0, (.ptr 2 0)), (1, (.vw 1 w1 0 h1l.length 1)), (19, (.vw 1 w1 1 v19len 1)), (20, (.int .i64 v20)), (21, (.int .i64 v21))], [(.box [(.int .i64 0), (.int .i64 0), (.sl true [])]), (.row w1 h1z 1 (List.map (Sl.enc (V.int .u8)) h1l) h1x), (.box [(.int .i64 h2_0), (.int .i64 h2_1), (.int .i64 h2_2), (.vw 3 0 0 h3l.length 1), (.bool h2_4)]), (.row 0 h3z 7 (List.map zjs.enc h3l) true)])), finI 3 false [.tmp 4, .tmp 5] (unw T (orc T (M + 6)) (M + 6) 3 [.blk 0, .code zqy] (iter 3 [0, 1, 19, 20, 21] (exec T (orc T (M + 6)) (M + 6) 3 zqv) j fr H)) = R
def zbr5 := And.intro @kk <| And.intro @zbcu <| And.intro @zbec <| And.intro @zbbr <| And.intro @zbea <| And.intro @zbfp <| And.intro @zbfu <| And.intro @zbed <| @zbee
theorem zbr6 (q : Nat) (zbte : zbr4 q) : zbr3 (q + 1) := by
 intro M hM j hj w1 v19len v20 h1z h1l h1x h2_0 h2_1 h2_2 h2_4 r h R hR fr H hc
 obtain ⟨j, rfl⟩ : ∃ i, j = i + 1 := ⟨j - 1, by omega⟩
 rw [zhr, hc]; clear hc
 rw [zl5] at h
 replace h := br h; rcases h with ⟨h1, h⟩ | ⟨h1, h⟩
 ·replace h := br h; rcases h with ⟨h2, h⟩ | ⟨h2, h⟩
  ·replace h := ob h; obtain ⟨e3, h3, h⟩ := h
   replace h := br h; rcases h with ⟨h4, h⟩ | ⟨h4, h⟩
   ·replace h := ob h; obtain ⟨r4, h5, h⟩ := h
    replace h5 := zbq8 q (M + 5) (by omega) _ _ h5
    try simp only [Ow.enc, zjr.enc, zjs.enc, Sl.enc, kn, simprocAttr, qa, qb, qc, qd] at h5
    replace h := br h; rcases h with ⟨h6, h⟩ | ⟨h6, h⟩
    ·replace h := bb h; rcases h with ⟨h7', h7, h⟩ | ⟨h7', h7, h⟩
     ·replace h := br h; rcases h with ⟨h8, h⟩ | ⟨h8, h⟩
      ·cases h; subst hR; simp (maxDischargeDepth := 12) only [zbr5, kn, simprocAttr, qa, qb, qc, qd, Ow.enc, zjr.enc, zjs.enc, Sl.enc, *]
      ·replace h := br h; rcases h with ⟨h9, h⟩ | ⟨h9, h⟩
       ·cases h; subst hR; simp (maxDischargeDepth := 12) only [zbr5, kn, simprocAttr, qa, qb, qc, qd, Ow.enc, zjr.enc, zjs.enc, Sl.enc, *]
       ·replace h := ob h; obtain ⟨r5, h10, h⟩ := h
        replace h10 := zbn0 q (M + 5) (by omega) _ _ _ h10
        try simp only [Ow.enc, zjr.enc, zjs.enc, Sl.enc, kn, simprocAttr, qa, qb, qc, qd] at h10
        replace h := bb h; rcases h with ⟨h11', h11, h⟩ | ⟨h11', h11, h⟩
        ·replace h := br h; rcases h with ⟨h12, h⟩ | ⟨h12, h⟩
         ·try simp only [kn, simprocAttr, qa, qb, qc, qd] at h12
          cases h; subst hR; simp (maxDischargeDepth := 12) only [zbr5, kn, simprocAttr, qa, qb, qc, qd, Ow.enc, zjr.enc, zjs.enc, Sl.enc, *]
         ·try simp only [kn, simprocAttr, qa, qb, qc, qd] at h12
          replace h := br h; rcases h with ⟨h13, h⟩ | ⟨h13, h⟩
          ·replace h := zbte M (by omega) j (by omega) w1 _ _ _ _ _ _ _ _ _ _ _ _ _ h R hR
           simp (maxDischargeDepth := 12) only [zbr5, kn, simprocAttr, qa, qb, qc, qd, Ow.enc, zjr.enc, zjs.enc, Sl.enc, *]
          ·cases h
        ·cases h; subst hR; simp (maxDischargeDepth := 12) only [zbr5, kn, simprocAttr, qa, qb, qc, qd, Ow.enc, zjr.enc, zjs.enc, Sl.enc, *]
     ·cases h; subst hR; simp (maxDischargeDepth := 12) only [zbr5, kn, simprocAttr, qa, qb, qc, qd, Ow.enc, zjr.enc, zjs.enc, Sl.enc, *]
    ·cases h; subst hR; simp (maxDischargeDepth := 12) only [zbr5, kn, simprocAttr, qa, qb, qc, qd, Ow.enc, zjr.enc, zjs.enc, Sl.enc, *]
   ·replace h := ob h; obtain ⟨r6, h14, h⟩ := h
    replace h14 := zbrv q (M + 5) (by omega) _ _ _ h14
    try simp only [Ow.enc, zjr.enc, zjs.enc, Sl.enc, kn, simprocAttr, qa, qb, qc, qd] at h14
    replace h := bb h; rcases h with ⟨h15', h15, h⟩ | ⟨h15', h15, h⟩
    ·replace h := bb h; rcases h with ⟨h16', h16, h⟩ | ⟨h16', h16, h⟩
     ·replace h := br h; rcases h with ⟨h17, h⟩ | ⟨h17, h⟩
      ·cases h; subst hR; simp (maxDischargeDepth := 12) only [zbr5, kn, simprocAttr, qa, qb, qc, qd, Ow.enc, zjr.enc, zjs.enc, Sl.enc, *]
      ·replace h := br h; rcases h with ⟨h18, h⟩ | ⟨h18, h⟩
       ·cases h; subst hR; simp (maxDischargeDepth := 12) only [zbr5, kn, simprocAttr, qa, qb, qc, qd, Ow.enc, zjr.enc, zjs.enc, Sl.enc, *]
       ·replace h := ob h; obtain ⟨r7, h19, h⟩ := h
        replace h19 := zbn0 q (M + 5) (by omega) _ _ _ h19
        try simp only [Ow.enc, zjr.enc, zjs.enc, Sl.enc, kn, simprocAttr, qa, qb, qc, qd] at h19
        replace h := bb h; rcases h with ⟨h20', h20, h⟩ | ⟨h20', h20, h⟩
        ·replace h := br h; rcases h with ⟨h21, h⟩ | ⟨h21, h⟩
         ·try simp only [kn, simprocAttr, qa, qb, qc, qd] at h21
          cases h; subst hR; simp (maxDischargeDepth := 12) only [zbr5, kn, simprocAttr, qa, qb, qc, qd, Ow.enc, zjr.enc, zjs.enc, Sl.enc, *]
         ·try simp only [kn, simprocAttr, qa, qb, qc, qd] at h21
          replace h := br h; rcases h with ⟨h22, h⟩ | ⟨h22, h⟩
          ·replace h := zbte M (by omega) j (by omega) w1 _ _ _ _ _ _ _ _ _ _ _ _ _ h R hR
           simp (maxDischargeDepth := 12) only [zbr5, kn, simprocAttr, qa, qb, qc, qd, Ow.enc, zjr.enc, zjs.enc, Sl.enc, *]
          ·cases h
        ·cases h; subst hR; simp (maxDischargeDepth := 12) only [zbr5, kn, simprocAttr, qa, qb, qc, qd, Ow.enc, zjr.enc, zjs.enc, Sl.enc, *]
     ·cases h; subst hR; simp (maxDischargeDepth := 12) only [zbr5, kn, simprocAttr, qa, qb, qc, qd, Ow.enc, zjr.enc, zjs.enc, Sl.enc, *]
    ·cases h; subst hR; simp (maxDischargeDepth := 12) only [zbr5, kn, simprocAttr, qa, qb, qc, qd, Ow.enc, zjr.enc, zjs.enc, Sl.enc, *]
  ·cases h
 ·cases h; subst hR; simp (maxDischargeDepth := 12) only [zbr5, kn, simprocAttr, qa, qb, qc, qd, Ow.enc, zjr.enc, zjs.enc, Sl.enc, *]
theorem zbr7 (q : Nat) (zbte : zbr4 q) : zbr4 (q + 1) := by
 intro M hM j hj w1 v19len v20 v21 h1z h1l h1x h2_0 h2_1 h2_2 h2_4 h3z h3l r h R hR fr H hc
 obtain ⟨j, rfl⟩ : ∃ i, j = i + 1 := ⟨j - 1, by omega⟩
 rw [zhr, hc]; clear hc
 rw [zl4] at h
 replace h := br h; rcases h with ⟨h1, h⟩ | ⟨h1, h⟩
 ·replace h := br h; rcases h with ⟨h2, h⟩ | ⟨h2, h⟩
  ·replace h := br h; rcases h with ⟨h3, h⟩ | ⟨h3, h⟩
   ·replace h := ob h; obtain ⟨e8, h4, h⟩ := h
    replace h := br h; rcases h with ⟨h5, h⟩ | ⟨h5, h⟩
    ·replace h := ob h; obtain ⟨r9, h6, h⟩ := h
     replace h6 := zbq8 q (M + 5) (by omega) _ _ h6
     try simp only [Ow.enc, zjr.enc, zjs.enc, Sl.enc, kn, simprocAttr, qa, qb, qc, qd] at h6
     replace h := br h; rcases h with ⟨h7, h⟩ | ⟨h7, h⟩
     ·replace h := bb h; rcases h with ⟨h8', h8, h⟩ | ⟨h8', h8, h⟩
      ·replace h := br h; rcases h with ⟨h9, h⟩ | ⟨h9, h⟩
       ·cases h; subst hR; simp (maxDischargeDepth := 12) only [zbr5, kn, simprocAttr, qa, qb, qc, qd, Ow.enc, zjr.enc, zjs.enc, Sl.enc, *]
       ·replace h := br h; rcases h with ⟨h10, h⟩ | ⟨h10, h⟩
        ·cases h; subst hR; simp (maxDischargeDepth := 12) only [zbr5, kn, simprocAttr, qa, qb, qc, qd, Ow.enc, zjr.enc, zjs.enc, Sl.enc, *]
        ·replace h := ob h; obtain ⟨r10, h11, h⟩ := h
         replace h11 := zbn0 q (M + 5) (by omega) _ _ _ h11
         try simp only [Ow.enc, zjr.enc, zjs.enc, Sl.enc, kn, simprocAttr, qa, qb, qc, qd] at h11
         replace h := bb h; rcases h with ⟨h12', h12, h⟩ | ⟨h12', h12, h⟩
         ·replace h := br h; rcases h with ⟨h13, h⟩ | ⟨h13, h⟩
          ·try simp only [kn, simprocAttr, qa, qb, qc, qd] at h13
           cases h; subst hR; simp (maxDischargeDepth := 12) only [zbr5, kn, simprocAttr, qa, qb, qc, qd, Ow.enc, zjr.enc, zjs.enc, Sl.enc, *]
          ·try simp only [kn, simprocAttr, qa, qb, qc, qd] at h13
           replace h := br h; rcases h with ⟨h14, h⟩ | ⟨h14, h⟩
           ·try simp only [kn, simprocAttr, qa, qb, qc, qd] at h14
            replace h := zbte M (by omega) j (by omega) w1 _ _ _ _ _ _ _ _ _ _ _ _ _ h R hR
            simp (maxDischargeDepth := 12) only [zbr5, kn, simprocAttr, qa, qb, qc, qd, Ow.enc, zjr.enc, zjs.enc, Sl.enc, *]
           ·try simp only [kn, simprocAttr, qa, qb, qc, qd] at h14
            cases h
         ·cases h; subst hR; simp (maxDischargeDepth := 12) only [zbr5, kn, simprocAttr, qa, qb, qc, qd, Ow.enc, zjr.enc, zjs.enc, Sl.enc, *]
      ·cases h; subst hR; simp (maxDischargeDepth := 12) only [zbr5, kn, simprocAttr, qa, qb, qc, qd, Ow.enc, zjr.enc, zjs.enc, Sl.enc, *]
     ·cases h; subst hR; simp (maxDischargeDepth := 12) only [zbr5, kn, simprocAttr, qa, qb, qc, qd, Ow.enc, zjr.enc, zjs.enc, Sl.enc, *]
    ·replace h := ob h; obtain ⟨r11, h15, h⟩ := h
     replace h15 := zbrv q (M + 5) (by omega) _ _ _ h15
     try simp only [Ow.enc, zjr.enc, zjs.enc, Sl.enc, kn, simprocAttr, qa, qb, qc, qd] at h15
     replace h := bb h; rcases h with ⟨h16', h16, h⟩ | ⟨h16', h16, h⟩
     ·replace h := bb h; rcases h with ⟨h17', h17, h⟩ | ⟨h17', h17, h⟩
      ·replace h := br h; rcases h with ⟨h18, h⟩ | ⟨h18, h⟩
       ·cases h; subst hR; simp (maxDischargeDepth := 12) only [zbr5, kn, simprocAttr, qa, qb, qc, qd, Ow.enc, zjr.enc, zjs.enc, Sl.enc, *]
       ·replace h := br h; rcases h with ⟨h19, h⟩ | ⟨h19, h⟩
        ·cases h; subst hR; simp (maxDischargeDepth := 12) only [zbr5, kn, simprocAttr, qa, qb, qc, qd, Ow.enc, zjr.enc, zjs.enc, Sl.enc, *]
        ·replace h := ob h; obtain ⟨r12, h20, h⟩ := h
         replace h20 := zbn0 q (M + 5) (by omega) _ _ _ h20
         try simp only [Ow.enc, zjr.enc, zjs.enc, Sl.enc, kn, simprocAttr, qa, qb, qc, qd] at h20
         replace h := bb h; rcases h with ⟨h21', h21, h⟩ | ⟨h21', h21, h⟩
         ·replace h := br h; rcases h with ⟨h22, h⟩ | ⟨h22, h⟩
          ·try simp only [kn, simprocAttr, qa, qb, qc, qd] at h22
           cases h; subst hR; simp (maxDischargeDepth := 12) only [zbr5, kn, simprocAttr, qa, qb, qc, qd, Ow.enc, zjr.enc, zjs.enc, Sl.enc, *]
          ·try simp only [kn, simprocAttr, qa, qb, qc, qd] at h22
           replace h := br h; rcases h with ⟨h23, h⟩ | ⟨h23, h⟩
           ·try simp only [kn, simprocAttr, qa, qb, qc, qd] at h23
            replace h := zbte M (by omega) j (by omega) w1 _ _ _ _ _ _ _ _ _ _ _ _ _ h R hR
            simp (maxDischargeDepth := 12) only [zbr5, kn, simprocAttr, qa, qb, qc, qd, Ow.enc, zjr.enc, zjs.enc, Sl.enc, *]
           ·try simp only [kn, simprocAttr, qa, qb, qc, qd] at h23
            cases h
         ·cases h; subst hR; simp (maxDischargeDepth := 12) only [zbr5, kn, simprocAttr, qa, qb, qc, qd, Ow.enc, zjr.enc, zjs.enc, Sl.enc, *]
      ·cases h; subst hR; simp (maxDischargeDepth := 12) only [zbr5, kn, simprocAttr, qa, qb, qc, qd, Ow.enc, zjr.enc, zjs.enc, Sl.enc, *]
     ·cases h; subst hR; simp (maxDischargeDepth := 12) only [zbr5, kn, simprocAttr, qa, qb, qc, qd, Ow.enc, zjr.enc, zjs.enc, Sl.enc, *]
   ·cases h
  ·cases h
 ·cases h; subst hR; simp (maxDischargeDepth := 12) only [zbr5, kn, simprocAttr, qa, qb, qc, qd, Ow.enc, zjr.enc, zjs.enc, Sl.enc, *]
theorem zbr8 : ∀ q, zbr3 q ∧ zbr4 q
 | 0 => by refine ⟨?_, ?_⟩ <;> (intro M hM j hj; intros; rename_i h _ _ _ _ _; cases h)
 | q + 1 => by have ⟨i0, i1⟩ := zbr8 q; exact ⟨zbr6 q i1, zbr7 q i1⟩
theorem zbr9 : ∀ (q M : Nat), 8 * q ≤ M → ∀ (w1 : Nat), ∀ (h1z : Bool), ∀ (h1l : List (Sl Int)), ∀ (h1x : Bool), ∀ (r : Nat × Int × Int × Int × Int × Int × Bool × Int × Int × Int × Int × Int × Nat × Bool × Bool × (List zjs)), zl6 q h1z h1l h1x = some r → (orc T (M + 7)).inl F.zm0 [(.ptr 2 0), (.vw 1 w1 0 h1l.length 1)] [(.box [(.int .i64 0), (.int .i64 0), (.sl true [])]), (.row w1 h1z 1 (List.map (Sl.enc (V.int .u8)) h1l) h1x), (.box [(.int .i64 0), (.int .i64 0), (.int .i64 0), (.sl true []), (.bool false)])] = (if r.1 = 0 then (some ([(.int .i64 r.2.1), (.int .i64 r.2.2.1)], [(.box [(.int .i64 0), (.int .i64 0), (.sl true [])]), (.row w1 h1z 1 (List.map (Sl.enc (V.int .u8)) h1l) h1x), (.box [(.int .i64 r.2.2.2.1), (.int .i64 r.2.2.2.2.1), (.int .i64 r.2.2.2.2.2.1), (.sl true []), (.bool r.2.2.2.2.2.2.1)])]) : Option (List V × Hp)) else (some ([(.int .i64 r.2.2.2.2.2.2.2.1), (.int .i64 r.2.2.2.2.2.2.2.2.1)], [(.box [(.int .i64 0), (.int .i64 0), (.sl true [])]), (.row w1 h1z 1 (List.map (Sl.enc (V.int .u8)) h1l) h1x), (.box [(.int .i64 r.2.2.2.2.2.2.2.2.2.1), (.int .i64 r.2.2.2.2.2.2.2.2.2.2.1), (.int .i64 r.2.2.2.2.2.2.2.2.2.2.2.1), (.vw 3 0 0 r.2.2.2.2.2.2.2.2.2.2.2.2.1 1), (.bool r.2.2.2.2.2.2.2.2.2.2.2.2.2.1)]), (.row 0 r.2.2.2.2.2.2.2.2.2.2.2.2.2.2.1 7 (List.map zjs.enc r.2.2.2.2.2.2.2.2.2.2.2.2.2.2.2) true)]) : Option (List V × Hp))) := by
 intro q M hM w1 h1z h1l h1x r h
 rcases q with _ | q
 ·cases h
 have ih_segment_Recover_s0_l0 := (zbr8 q).1
 generalize hR : (if r.1 = 0 then (some ([(.int .i64 r.2.1), (.int .i64 r.2.2.1)], [(.box [(.int .i64 0), (.int .i64 0), (.sl true [])]), (.row w1 h1z 1 (List.map (Sl.enc (V.int .u8)) h1l) h1x), (.box [(.int .i64 r.2.2.2.1), (.int .i64 r.2.2.2.2.1), (.int .i64 r.2.2.2.2.2.1), (.sl true []), (.bool r.2.2.2.2.2.2.1)])]) : Option (List V × Hp)) else (some ([(.int .i64 r.2.2.2.2.2.2.2.1), (.int .i64 r.2.2.2.2.2.2.2.2.1)], [(.box [(.int .i64 0), (.int .i64 0), (.sl true [])]), (.row w1 h1z 1 (List.map (Sl.enc (V.int .u8)) h1l) h1x), (.box [(.int .i64 r.2.2.2.2.2.2.2.2.2.1), (.int .i64 r.2.2.2.2.2.2.2.2.2.2.1), (.int .i64 r.2.2.2.2.2.2.2.2.2.2.2.1), (.vw 3 0 0 r.2.2.2.2.2.2.2.2.2.2.2.2.1 1), (.bool r.2.2.2.2.2.2.2.2.2.2.2.2.2.1)]), (.row 0 r.2.2.2.2.2.2.2.2.2.2.2.2.2.2.1 7 (List.map zjs.enc r.2.2.2.2.2.2.2.2.2.2.2.2.2.2.2) true)]) : Option (List V × Hp))) = R
 rw [zbcw (n := M + 6)]
 rw [zl6] at h
 replace h := br h; rcases h with ⟨h1, h⟩ | ⟨h1, h⟩
 ·replace h := ob h; obtain ⟨e1, h2, h⟩ := h
  replace h := ob h; obtain ⟨r2, h3, h⟩ := h
  replace h3 := zbr2 q M (by omega) w1 _ _ _ _ _ _ h3
  try simp only [Ow.enc, zjr.enc, zjs.enc, Sl.enc, kn, simprocAttr, qa, qb, qc, qd] at h3
  replace h := br h; rcases h with ⟨h4, h⟩ | ⟨h4, h⟩
  ·replace h := br h; rcases h with ⟨h5, h⟩ | ⟨h5, h⟩
   ·replace h := ih_segment_Recover_s0_l0 M (by omega) (M + 6) (by omega) w1 _ _ _ _ _ _ _ _ _ _ h R hR
    simp (maxDischargeDepth := 12) only [zbr5, kn, simprocAttr, qa, qb, qc, qd, Ow.enc, zjr.enc, zjs.enc, Sl.enc, *]
   ·cases h
  ·cases h; subst hR; simp (maxDischargeDepth := 12) only [zbr5, kn, simprocAttr, qa, qb, qc, qd, Ow.enc, zjr.enc, zjs.enc, Sl.enc, *]
 ·cases h
def zbsa (q : Nat) : Prop := ∀ (M : Nat) (hM : 8 * q ≤ M) (j : Nat) (hj : q ≤ j) (v10 : Int) (v32len : Nat) (v33 : Int) (v34 : Int) (h1_0 : Int) (h1_1 : Int) (h1_2 : Int) (h1_4 : Bool) (h2z : Bool) (h2l : List (Sl Int)) (h2x : Bool) (r : zjt × Int × Bool) (_ : zl7 q v10 v32len v33 v34 h1_0 h1_1 h1_2 h1_4 h2z h2l h2x = some r) (R : Option (List V)) (_ : some [zjt.enc r.1, (V.int .i64) r.2.1, V.bool r.2.2] = R) (fr : Fr) (H : Hp) (_ : canon 0 [2, 7, 10, 32, 33, 34] fr H = ([(2, (.ptr 0 0)), (7, (.ptr 1 0)), (10, (.int .i64 v10)), (32, (.vw 2 0 0 v32len 1)), (33, (.int .i64 v33)), (34, (.int .i64 v34))], [(.box [(.int .i64 0), (.int .i64 0), (.sl true [])]), (.box [(.int .i64 h1_0), (.int .i64 h1_1), (.int .i64 h1_2), (.sl true []), (.bool h1_4)]), (.row 0 h2z 1 (List.map (Sl.enc (V.int .u8)) h2l) h2x)])), fin zof (unw T (orc T (M + 7)) (M + 7) 0 [.blk 0, .code zn6] (iter 0 [2, 7, 10, 32, 33, 34] (exec T (orc T (M + 7)) (M + 7) 0 zn3) j fr H)) = R
def zbsb (q : Nat) : Prop := ∀ (M : Nat) (hM : 8 * q ≤ M) (j : Nat) (hj : q ≤ j) (v10 : Int) (v32len : Nat) (v33 : Int) (v34 : Int) (h1_0 : Int) (h1_1 : Int) (h1_2 : Int) (h1_4 : Bool) (h2z : Bool) (h2l : List (Sl Int)) (h2x : Bool) (r : zjt × Int × Bool) (_ : zl8 q v10 v32len v33 v34 h1_0 h1_1 h1_2 h1_4 h2z h2l h2x = some r) (R : Option (List V)) (_ : some [zjt.enc r.1, (V.int .i64) r.2.1, V.bool r.2.2] = R) (fr : Fr) (H : Hp) (_ : canon 0 [2, 7, 10, 32, 33, 34] fr H = ([(2, (.ptr 0 0)), (7, (.ptr 1 0)), (10, (.int .i64 v10)), (32, (.vw 2 0 0 v32len 0)), (33, (.int .i64 v33)), (34, (.int .i64 v34))], [(.box [(.int .i64 0), (.int .i64 0), (.sl true [])]), (.box [(.int .i64 h1_0), (.int .i64 h1_1), (.int .i64 h1_2), (.sl true []), (.bool h1_4)]), (.row 0 h2z 1 (List.map (Sl.enc (V.int .u8)) h2l) h2x)])), fin zof (unw T (orc T (M + 7)) (M + 7) 0 [.blk 0, .code zn6] (iter 0 [2, 7, 10, 32, 33, 34] (exec T (orc T (M + 7)) (M + 7) 0 zn3) j fr H)) = R
def zbsc (q : Nat) : Prop := ∀ (M : Nat) (hM : 8 * q ≤ M) (j : Nat) (hj : q ≤ j) (v10 : Int) (v32len : Nat) (v33 : Int) (v34 : Int) (h1_0 : Int) (h1_1 : Int) (h1_2 : Int) (h1_3len : Nat) (h1_4 : Bool) (h2z : Bool) (h2l : List (Sl Int)) (h2x : Bool) (h3z : Bool) (h3l : List zjs) (r : zjt × Int × Bool) (_ : zl9 q v10 v32len v33 v34 h1_0 h1_1 h1_2 h1_3len h1_4 h2z h2l h2x h3z h3l = some r) (R : Option (List V)) (_ : some [zjt.enc r.1, (V.int .i64) r.2.1, V.bool r.2.2] = R) (fr : Fr) (H : Hp) (_ : canon 0 [2, 7, 10, 32, 33, 34] fr H = ([(2, (.ptr 0 0)), (7, (.ptr 1 0)), (10, (.int .i64 v10)), (32, (.vw 2 0 0 v32len 1)), (33, (.int .i64 v33)), (34, (.int .i64 v34))], [(.box [(.int .i64 0), (.int .i64 0), (.sl true [])]), (.box [(.int .i64 h1_0), (.int .i64 h1_1), (.int .i64 h1_2), (.vw 3 0 0 h1_3len 1), (.bool h1_4)]), (.row 0 h2z 1 (List.map (Sl.enc (V.int .u8)) h2l) h2x), (.row 0 h3z 7 (List.map zjs.enc h3l) true)])), fin zof (unw T (orc T (M + 7)) (M + 7) 0 [.blk 0, .code zn6] (iter 0 [2, 7, 10, 32, 33, 34] (exec T (orc T (M + 7)) (M + 7) 0 zn3) j fr H)) = R
def zbsd (q : Nat) : Prop := ∀ (M : Nat) (hM : 8 * q ≤ M) (j : Nat) (hj : q ≤ j) (v10 : Int) (v32len : Nat) (v33 : Int) (v34 : Int) (h1_0 : Int) (h1_1 : Int) (h1_2 : Int) (h1_3len : Nat) (h1_4 : Bool) (h2z : Bool) (h2l : List (Sl Int)) (h2x : Bool) (h3z : Bool) (h3l : List zjs) (r : zjt × Int × Bool) (_ : zma q v10 v32len v33 v34 h1_0 h1_1 h1_2 h1_3len h1_4 h2z h2l h2x h3z h3l = some r) (R : Option (List V)) (_ : some [zjt.enc r.1, (V.int .i64) r.2.1, V.bool r.2.2] = R) (fr : Fr) (H : Hp) (_ : canon 0 [2, 7, 10, 32, 33, 34] fr H = ([(2, (.ptr 0 0)), (7, (.ptr 1 0)), (10, (.int .i64 v10)), (32, (.vw 2 0 0 v32len 0)), (33, (.int .i64 v33)), (34, (.int .i64 v34))], [(.box [(.int .i64 0), (.int .i64 0), (.sl true [])]), (.box [(.int .i64 h1_0), (.int .i64 h1_1), (.int .i64 h1_2), (.vw 3 0 0 h1_3len 1), (.bool h1_4)]), (.row 0 h2z 1 (List.map (Sl.enc (V.int .u8)) h2l) h2x), (.row 0 h3z 7 (List.map zjs.enc h3l) true)])), fin zof (unw T (orc T (M + 7)) (M + 7) 0 [.blk 0, .code zn6] (iter 0 [2, 7, 10, 32, 33, 34] (exec T (orc T (M + 7)) (M + 7) 0 zn3) j fr H)) = R
def zbse := And.intro @kk <| And.intro @zba6 <| And.intro @zbcq <| And.intro @zbcv <| And.intro @zbcy <| And.intro @zba8 <| And.intro @zba9 <| @zbba
theorem zbsf (q : Nat) (zbtf : zbsa q) : zbsa (q + 1) := by
 intro M hM j hj v10 v32len v33 v34 h1_0 h1_1 h1_2 h1_4 h2z h2l h2x r h R hR fr H hc
 obtain ⟨j, rfl⟩ : ∃ i, j = i + 1 := ⟨j - 1, by omega⟩
 rw [zhr, hc]; clear hc
 rw [zl7] at h
 replace h := br h; rcases h with ⟨h1, h⟩ | ⟨h1, h⟩
 ·replace h := br h; rcases h with ⟨h2, h⟩ | ⟨h2, h⟩
  ·replace h := br h; rcases h with ⟨h3, h⟩ | ⟨h3, h⟩
   ·replace h := ob h; obtain ⟨e3, h4, h⟩ := h
    replace h := ob h; obtain ⟨r4, h5, h⟩ := h
    replace h5 := zbrx q (M + 7) (by omega) _ _ h5
    replace h := zbtf M (by omega) j (by omega) _ _ _ _ _ _ _ _ _ _ _ _ h R hR
    simp (maxDischargeDepth := 12) only [zbse, kn, simprocAttr, qa, qb, qc, qd, Ow.enc, zjr.enc, zjs.enc, zjt.enc, Sl.enc, *]
   ·cases h
  ·cases h
 ·cases h; subst hR; simp (maxDischargeDepth := 12) only [zbse, kn, simprocAttr, qa, qb, qc, qd, Ow.enc, zjr.enc, zjs.enc, zjt.enc, Sl.enc, *]
theorem zbsg (q : Nat) (zbtg : zbsb q) : zbsb (q + 1) := by
 intro M hM j hj v10 v32len v33 v34 h1_0 h1_1 h1_2 h1_4 h2z h2l h2x r h R hR fr H hc
 obtain ⟨j, rfl⟩ : ∃ i, j = i + 1 := ⟨j - 1, by omega⟩
 rw [zhr, hc]; clear hc
 rw [zl8] at h
 replace h := br h; rcases h with ⟨h1, h⟩ | ⟨h1, h⟩
 ·replace h := br h; rcases h with ⟨h2, h⟩ | ⟨h2, h⟩
  ·replace h := br h; rcases h with ⟨h3, h⟩ | ⟨h3, h⟩
   ·replace h := ob h; obtain ⟨e5, h4, h⟩ := h
    replace h := ob h; obtain ⟨r6, h5, h⟩ := h
    replace h5 := zbrx q (M + 7) (by omega) _ _ h5
    replace h := zbtg M (by omega) j (by omega) _ _ _ _ _ _ _ _ _ _ _ _ h R hR
    simp (maxDischargeDepth := 12) only [zbse, kn, simprocAttr, qa, qb, qc, qd, Ow.enc, zjr.enc, zjs.enc, zjt.enc, Sl.enc, *]
   ·cases h
  ·cases h
 ·cases h; subst hR; simp (maxDischargeDepth := 12) only [zbse, kn, simprocAttr, qa, qb, qc, qd, Ow.enc, zjr.enc, zjs.enc, zjt.enc, Sl.enc, *]
theorem zbsh (q : Nat) (zbth : zbsc q) : zbsc (q + 1) := by
 intro M hM j hj v10 v32len v33 v34 h1_0 h1_1 h1_2 h1_3len h1_4 h2z h2l h2x h3z h3l r h R hR fr H hc
 obtain ⟨j, rfl⟩ : ∃ i, j = i + 1 := ⟨j - 1, by omega⟩
 rw [zhr, hc]; clear hc
 rw [zl9] at h
 replace h := br h; rcases h with ⟨h1, h⟩ | ⟨h1, h⟩
 ·replace h := br h; rcases h with ⟨h2, h⟩ | ⟨h2, h⟩
  ·replace h := br h; rcases h with ⟨h3, h⟩ | ⟨h3, h⟩
   ·replace h := ob h; obtain ⟨e7, h4, h⟩ := h
    replace h := ob h; obtain ⟨r8, h5, h⟩ := h
    replace h5 := zbrx q (M + 7) (by omega) _ _ h5
    replace h := zbth M (by omega) j (by omega) _ _ _ _ _ _ _ _ _ _ _ _ _ _ _ h R hR
    simp (maxDischargeDepth := 12) only [zbse, kn, simprocAttr, qa, qb, qc, qd, Ow.enc, zjr.enc, zjs.enc, zjt.enc, Sl.enc, *]
   ·cases h
  ·cases h
 ·cases h; subst hR; simp (maxDischargeDepth := 12) only [zbse, kn, simprocAttr, qa, qb, qc, qd, Ow.enc, zjr.enc, zjs.enc, zjt.enc, Sl.enc, *]
theorem zbsi (q : Nat) (zbti : zbsd q) : zbsd (q + 1) := by
 intro M hM j hj v10 v32len v33 v34 h1_0 h1_1 h1_2 h1_3len h1_4 h2z h2l h2x h3z h3l r h R hR fr H hc
 obtain ⟨j, rfl⟩ : ∃ i, j = i + 1 := ⟨j - 1, by omega⟩
 rw [zhr, hc]; clear hc
 rw [zma] at h
 replace h := br h; rcases h with ⟨h1, h⟩ | ⟨h1, h⟩
 ·replace h := br h; rcases h with ⟨h2, h⟩ | ⟨h2, h⟩
  ·replace h := br h; rcases h with ⟨h3, h⟩ | ⟨h3, h⟩
   ·replace h := ob h; obtain ⟨e9, h4, h⟩ := h
    replace h := ob h; obtain ⟨r10, h5, h⟩ := h
    replace h5 := zbrx q (M + 7) (by omega) _ _ h5
    replace h := zbti M (by omega) j (by omega) _ _ _ _ _ _ _ _ _ _ _ _ _ _ _ h R hR
    simp (maxDischargeDepth := 12) only [zbse, kn, simprocAttr, qa, qb, qc, qd, Ow.enc, zjr.enc, zjs.enc, zjt.enc, Sl.enc, *]
   ·cases h
  ·cases h
 ·cases h; subst hR; simp (maxDischargeDepth := 12) only [zbse, kn, simprocAttr, qa, qb, qc, qd, Ow.enc, zjr.enc, zjs.enc, zjt.enc, Sl.enc, *]
theorem zbsj : ∀ q, zbsa q ∧ zbsb q ∧ zbsc q ∧ zbsd q
 | 0 => by refine ⟨?_, ?_, ?_, ?_⟩ <;> (intro M hM j hj; intros; rename_i h _ _ _ _ _; cases h)
 | q + 1 => by have ⟨i0, i1, i2, i3⟩ := zbsj q; exact ⟨zbsf q i0, zbsg q i1, zbsh q i2, zbsi q i3⟩
theorem zbsk : ∀ (q N : Nat), 8 * q ≤ N → ∀ (a0 : (Sl Int)), ∀ (r : zjt × Int × Bool), zmb q a0 = some r → (orc T N).deep F.zmb [(Sl.enc (V.int .u8)) a0] = some [zjt.enc r.1, (V.int .i64) r.2.1, V.bool r.2.2] := by
 intro q N hM a0 r h
 rcases q with _ | q
 ·cases h
 obtain ⟨M, rfl⟩ : ∃ M, N = M + 8 := ⟨N - 8, by omega⟩
 have zbtf := (zbsj q).1
 have zbtg := (zbsj q).2.1
 have zbth := (zbsj q).2.2.1
 have zbti := (zbsj q).2.2.2
 generalize hR : some [zjt.enc r.1, (V.int .i64) r.2.1, V.bool r.2.2] = R
 rw [zh0, z8j, Option.bind_some, zhy]
 rw [zmb] at h
 replace h := ob h; obtain ⟨r1, h1, h⟩ := h
 replace h1 := zbp6 q (M + 7) (by omega) _ _ h1
 try simp only [Ow.enc, Sl.enc, kn, simprocAttr, qa, qb, qc, qd] at h1
 replace h := br h; rcases h with ⟨h2, h⟩ | ⟨h2, h⟩
 ·cases h; subst hR; simp (maxDischargeDepth := 12) only [zbse, kn, simprocAttr, qa, qb, qc, qd, Ow.enc, zjr.enc, zjs.enc, zjt.enc, Sl.enc, *]
 ·replace h := ob h; obtain ⟨r2, h3, h⟩ := h
  replace h3 := zbr9 q M (by omega) 0 _ _ _ _ h3
  try simp only [Ow.enc, zjr.enc, zjs.enc, Sl.enc, kn, simprocAttr, qa, qb, qc, qd] at h3
  replace h := br h; rcases h with ⟨h4, h⟩ | ⟨h4, h⟩
  ·replace h := br h; rcases h with ⟨h5, h⟩ | ⟨h5, h⟩
   ·cases h; subst hR; simp (maxDischargeDepth := 12) only [zbse, kn, simprocAttr, qa, qb, qc, qd, Ow.enc, zjr.enc, zjs.enc, zjt.enc, Sl.enc, *]
   ·replace h := br h; rcases h with ⟨h6, h⟩ | ⟨h6, h⟩
    ·replace h := br h; rcases h with ⟨h7, h⟩ | ⟨h7, h⟩
     ·replace h := bb h; rcases h with ⟨h8', h8, h⟩ | ⟨h8', h8, h⟩
      ·replace h := zbtf M (by omega) (M + 7) (by omega) _ _ _ _ _ _ _ _ _ _ _ _ h R hR
       simp (maxDischargeDepth := 12) only [zbse, kn, simprocAttr, qa, qb, qc, qd, Ow.enc, zjr.enc, zjs.enc, zjt.enc, Sl.enc, *]
      ·replace h := zbtg M (by omega) (M + 7) (by omega) _ _ _ _ _ _ _ _ _ _ _ _ h R hR
       simp (maxDischargeDepth := 12) only [zbse, kn, simprocAttr, qa, qb, qc, qd, Ow.enc, zjr.enc, zjs.enc, zjt.enc, Sl.enc, *]
     ·cases h
    ·cases h
  ·replace h := br h; rcases h with ⟨h9, h⟩ | ⟨h9, h⟩
   ·cases h; subst hR; simp (maxDischargeDepth := 12) only [zbse, kn, simprocAttr, qa, qb, qc, qd, Ow.enc, zjr.enc, zjs.enc, zjt.enc, Sl.enc, *]
   ·replace h := br h; rcases h with ⟨h10, h⟩ | ⟨h10, h⟩
    ·replace h := br h; rcases h with ⟨h11, h⟩ | ⟨h11, h⟩
     ·replace h := bb h; rcases h with ⟨h12', h12, h⟩ | ⟨h12', h12, h⟩
      ·replace h := zbth M (by omega) (M + 7) (by omega) _ _ _ _ _ _ _ _ _ _ _ _ _ _ _ h R hR
       simp (maxDischargeDepth := 12) only [zbse, kn, simprocAttr, qa, qb, qc, qd, Ow.enc, zjr.enc, zjs.enc, zjt.enc, Sl.enc, *]
      ·replace h := zbti M (by omega) (M + 7) (by omega) _ _ _ _ _ _ _ _ _ _ _ _ _ _ _ h R hR
       simp (maxDischargeDepth := 12) only [zbse, kn, simprocAttr, qa, qb, qc, qd, Ow.enc, zjr.enc, zjs.enc, zjt.enc, Sl.enc, *]
     ·cases h
    ·cases h
def zbsl := And.intro @kk <| And.intro @zbc7 <| And.intro @zbc9 <| And.intro @zbda <| @zbdb
theorem zbsm : ∀ (q N : Nat), 8 * q ≤ N → ∀ (a0 : Int) (a1 : zjs), ∀ (r : zjs × Int), zmc q a0 a1 = some r → (orc T N).deep F.zmc [(V.int .i64) a0, zjs.enc a1] = some [zjs.enc r.1, (V.int .i64) r.2] := by
 intro q N hM a0 a1 r h
 rcases q with _ | q
 ·cases h
 obtain ⟨M, rfl⟩ : ∃ M, N = M + 8 := ⟨N - 8, by omega⟩
 generalize hR : some [zjs.enc r.1, (V.int .i64) r.2] = R
 rw [zh0, z8y, Option.bind_some, zhy]
 rw [zmc] at h
 replace h := br h; rcases h with ⟨h1, h⟩ | ⟨h1, h⟩
 ·cases h; subst hR; simp (maxDischargeDepth := 12) only [zbsl, kn, simprocAttr, qa, qb, qc, qd, Ow.enc, zjr.enc, zjs.enc, Sl.enc, *]
 ·replace h := br h; rcases h with ⟨h2, h⟩ | ⟨h2, h⟩
  ·cases h; subst hR; simp (maxDischargeDepth := 12) only [zbsl, kn, simprocAttr, qa, qb, qc, qd, Ow.enc, zjr.enc, zjs.enc, Sl.enc, *]
  ·replace h := br h; rcases h with ⟨h3, h⟩ | ⟨h3, h⟩
   ·replace h := br h; rcases h with ⟨h4, h⟩ | ⟨h4, h⟩
    ·cases h; subst hR; simp (maxDischargeDepth := 12) only [zbsl, kn, simprocAttr, qa, qb, qc, qd, Ow.enc, zjr.enc, zjs.enc, Sl.enc, *]
    ·cases h; subst hR; simp (maxDischargeDepth := 12) only [zbsl, kn, simprocAttr, qa, qb, qc, qd, Ow.enc, zjr.enc, zjs.enc, Sl.enc, *]
   ·replace h := br h; rcases h with ⟨h5, h⟩ | ⟨h5, h⟩
    ·cases h; subst hR; simp (maxDischargeDepth := 12) only [zbsl, kn, simprocAttr, qa, qb, qc, qd, Ow.enc, zjr.enc, zjs.enc, Sl.enc, *]
    ·cases h; subst hR; simp (maxDischargeDepth := 12) only [zbsl, kn, simprocAttr, qa, qb, qc, qd, Ow.enc, zjr.enc, zjs.enc, Sl.enc, *]
def zbsn (q : Nat) : Prop := ∀ (M : Nat) (hM : 8 * q ≤ M) (j : Nat) (hj : q ≤ j) (v0 : Int) (h0_0 : Int) (h0_1 : Int) (h0_2z : Bool) (h0_2l : List zjs) (h2_0 : Int) (h2_1 : Int) (r : zjt) (_ : zme q v0 h0_0 h0_1 h0_2z h0_2l h2_0 h2_1 = some r) (R : Option (List V)) (_ : some [zjt.enc r] = R) (fr : Fr) (H : Hp) (_ : canon 0 [0, 3, 4, 5, 6] fr H = ([(0, (.int .i64 v0)), (3, (.ptr 0 0)), (4, (.ptr 1 0)), (5, (.ptr 2 0)), (6, (.int .i64 0))], [(.box [(.int .i64 h0_0), (.int .i64 h0_1), (.sl h0_2z (List.map zjs.enc h0_2l))]), (.box [(.int .i64 0), (.int .i64 0), (.sl true [])]), (.box [(.int .i64 h2_0), (.int .i64 h2_1), (.sl true [])])])), fin zor (unw T (orc T (M + 7)) (M + 7) 0 [.blk 0, .code zon] (iter 0 [0, 3, 4, 5, 6] (exec T (orc T (M + 7)) (M + 7) 0 zok) j fr H)) = R
def zbso (q : Nat) : Prop := ∀ (M : Nat) (hM : 8 * q ≤ M) (j : Nat) (hj : q ≤ j) (v0 : Int) (v6 : Int) (h0_0 : Int) (h0_1 : Int) (h0_2z : Bool) (h0_2l : List zjs) (h2_0 : Int) (h2_1 : Int) (h3l : List zjs) (r : zjt) (_ : zmd q v0 v6 h0_0 h0_1 h0_2z h0_2l h2_0 h2_1 h3l = some r) (R : Option (List V)) (_ : some [zjt.enc r] = R) (fr : Fr) (H : Hp) (_ : canon 0 [0, 3, 4, 5, 6] fr H = ([(0, (.int .i64 v0)), (3, (.ptr 0 0)), (4, (.ptr 1 0)), (5, (.ptr 2 0)), (6, (.int .i64 v6))], [(.box [(.int .i64 h0_0), (.int .i64 h0_1), (.sl h0_2z (List.map zjs.enc h0_2l))]), (.box [(.int .i64 0), (.int .i64 0), (.sl true [])]), (.box [(.int .i64 h2_0), (.int .i64 h2_1), (.vw 3 0 0 h3l.length 1)]), (.row 0 false 7 (List.map zjs.enc h3l) true)])), fin zor (unw T (orc T (M + 7)) (M + 7) 0 [.blk 0, .code zon] (iter 0 [0, 3, 4, 5, 6] (exec T (orc T (M + 7)) (M + 7) 0 zok) j fr H)) = R
def zbsp := And.intro @kk <| And.intro @zbbg <| And.intro @zbc8 <| And.intro @zbbi <| And.intro @zbbj <| @zbbk
theorem zbsq (q : Nat) (zbtj : zbso q) : zbsn (q + 1) := by
 intro M hM j hj v0 h0_0 h0_1 h0_2z h0_2l h2_0 h2_1 r h R hR fr H hc
 obtain ⟨j, rfl⟩ : ∃ i, j = i + 1 := ⟨j - 1, by omega⟩
 rw [zhr, hc]; clear hc
 rw [zme] at h
 replace h := br h; rcases h with ⟨h1, h⟩ | ⟨h1, h⟩
 ·replace h := ob h; obtain ⟨e1, h2, h⟩ := h
  replace h := ob h; obtain ⟨r2, h3, h⟩ := h
  replace h3 := zbsm q (M + 7) (by omega) _ _ _ h3
  try simp only [Ow.enc, zjr.enc, zjs.enc, kn, simprocAttr, qa, qb, qc, qd] at h3
  replace h := zbtj M (by omega) j (by omega) _ _ _ _ _ _ _ _ _ _ h R hR
  simp (maxDischargeDepth := 12) only [zbsp, kn, simprocAttr, qa, qb, qc, qd, Ow.enc, zjr.enc, zjs.enc, zjt.enc, Sl.enc, *]
 ·cases h; subst hR; simp (maxDischargeDepth := 12) only [zbsp, kn, simprocAttr, qa, qb, qc, qd, Ow.enc, zjr.enc, zjs.enc, zjt.enc, Sl.enc, *]
theorem zbsr (q : Nat) (zbtj : zbso q) : zbso (q + 1) := by
 intro M hM j hj v0 v6 h0_0 h0_1 h0_2z h0_2l h2_0 h2_1 h3l r h R hR fr H hc
 obtain ⟨j, rfl⟩ : ∃ i, j = i + 1 := ⟨j - 1, by omega⟩
 rw [zhr, hc]; clear hc
 rw [zmd] at h
 replace h := br h; rcases h with ⟨h1, h⟩ | ⟨h1, h⟩
 ·replace h := br h; rcases h with ⟨h2, h⟩ | ⟨h2, h⟩
  ·replace h := ob h; obtain ⟨e3, h3, h⟩ := h
   replace h := ob h; obtain ⟨r4, h4, h⟩ := h
   replace h4 := zbsm q (M + 7) (by omega) _ _ _ h4
   try simp only [Ow.enc, zjr.enc, zjs.enc, kn, simprocAttr, qa, qb, qc, qd] at h4
   replace h := br h; rcases h with ⟨h5, h⟩ | ⟨h5, h⟩
   ·try simp only [kn, simprocAttr, qa, qb, qc, qd] at h5
    replace h := zbtj M (by omega) j (by omega) _ _ _ _ _ _ _ _ _ _ h R hR
    simp (maxDischargeDepth := 12) only [zbsp, kn, simprocAttr, qa, qb, qc, qd, Ow.enc, zjr.enc, zjs.enc, zjt.enc, Sl.enc, *]
   ·try simp only [kn, simprocAttr, qa, qb, qc, qd] at h5
    cases h
  ·cases h
 ·cases h; subst hR; simp (maxDischargeDepth := 12) only [zbsp, kn, simprocAttr, qa, qb, qc, qd, Ow.enc, zjr.enc, zjs.enc, zjt.enc, Sl.enc, *]
theorem zbss : ∀ q, zbsn q ∧ zbso q
 | 0 => by refine ⟨?_, ?_⟩ <;> (intro M hM j hj; intros; rename_i h _ _ _ _ _; cases h)
 | q + 1 => by have ⟨i0, i1⟩ := zbss q; exact ⟨zbsq q i1, zbsr q i1⟩
theorem zbst : ∀ (q N : Nat), 8 * q ≤ N → ∀ (a0 : Int) (a1 : zjt), ∀ (r : zjt), zmf q a0 a1 = some r → (orc T N).deep F.zmf [(V.int .i64) a0, zjt.enc a1] = some [zjt.enc r] := by
 intro q N hM a0 a1 r h
 rcases q with _ | q
 ·cases h
 obtain ⟨M, rfl⟩ : ∃ M, N = M + 8 := ⟨N - 8, by omega⟩
 have ih_ferrymanref08_Upgraded_l0 := (zbss q).1
 generalize hR : some [zjt.enc r] = R
 rw [zh0, z8l, Option.bind_some, zhy]
 rw [zmf] at h
 replace h := ih_ferrymanref08_Upgraded_l0 M (by omega) (M + 7) (by omega) _ _ _ _ _ _ _ _ h R hR
 simp (maxDischargeDepth := 12) only [zbsp, kn, simprocAttr, qa, qb, qc, qd, Ow.enc, zjr.enc, zjs.enc, zjt.enc, Sl.enc, *]
def zbsu (q : Nat) : Prop := ∀ (M : Nat) (hM : 8 * q ≤ M) (j : Nat) (hj : q ≤ j) (v0z : Bool) (v0l : List zjs) (v1z : Bool) (v1l : List zjs) (v5 : Int) (r : Bool) (_ : zmg q v0z v0l v1z v1l v5 = some r) (R : Option (List V)) (_ : some [V.bool r] = R) (fr : Fr) (H : Hp) (_ : canon 0 [0, 1, 5] fr H = ([(0, (.sl v0z (List.map zjs.enc v0l))), (1, (.sl v1z (List.map zjs.enc v1l))), (5, (.int .i64 v5))], [])), fin zrg (unw T (orc T (M + 7)) (M + 7) 0 [.blk 0, .code zrc] (iter 0 [0, 1, 5] (exec T (orc T (M + 7)) (M + 7) 0 zq9) j fr H)) = R
def zbsv := And.intro @kk <| And.intro @zbc2 <| And.intro @zbc4 <| And.intro @zbc5 <| @zbc6
theorem zbsw (q : Nat) (zbtk : zbsu q) : zbsu (q + 1) := by
 intro M hM j hj v0z v0l v1z v1l v5 r h R hR fr H hc
 obtain ⟨j, rfl⟩ : ∃ i, j = i + 1 := ⟨j - 1, by omega⟩
 rw [zhr, hc]; clear hc
 rw [zmg] at h
 replace h := br h; rcases h with ⟨h1, h⟩ | ⟨h1, h⟩
 ·replace h := br h; rcases h with ⟨h2, h⟩ | ⟨h2, h⟩
  ·replace h := ob h; obtain ⟨e1, h3, h⟩ := h
   replace h := ob h; obtain ⟨e2, h4, h⟩ := h
   replace h := br h; rcases h with ⟨h5, h⟩ | ⟨h5, h⟩
   ·replace h := br h; rcases h with ⟨h6, h⟩ | ⟨h6, h⟩
    ·replace h := br h; rcases h with ⟨h7, h⟩ | ⟨h7, h⟩
     ·replace h := br h; rcases h with ⟨h8, h⟩ | ⟨h8, h⟩
      ·replace h := br h; rcases h with ⟨h9, h⟩ | ⟨h9, h⟩
       ·replace h := br h; rcases h with ⟨h10, h⟩ | ⟨h10, h⟩
        ·replace h := br h; rcases h with ⟨h11, h⟩ | ⟨h11, h⟩
         ·replace h := zbtk M (by omega) j (by omega) _ _ _ _ _ _ h R hR
          simp (maxDischargeDepth := 12) only [zbsv, kn, simprocAttr, qa, qb, qc, qd, Ow.enc, zjr.enc, zjs.enc, Sl.enc, *]
         ·cases h; subst hR; simp (maxDischargeDepth := 12) only [zbsv, kn, simprocAttr, qa, qb, qc, qd, Ow.enc, zjr.enc, zjs.enc, Sl.enc, *]
        ·cases h; subst hR; simp (maxDischargeDepth := 12) only [zbsv, kn, simprocAttr, qa, qb, qc, qd, Ow.enc, zjr.enc, zjs.enc, Sl.enc, *]
       ·cases h; subst hR; simp (maxDischargeDepth := 12) only [zbsv, kn, simprocAttr, qa, qb, qc, qd, Ow.enc, zjr.enc, zjs.enc, Sl.enc, *]
      ·cases h; subst hR; simp (maxDischargeDepth := 12) only [zbsv, kn, simprocAttr, qa, qb, qc, qd, Ow.enc, zjr.enc, zjs.enc, Sl.enc, *]
     ·cases h; subst hR; simp (maxDischargeDepth := 12) only [zbsv, kn, simprocAttr, qa, qb, qc, qd, Ow.enc, zjr.enc, zjs.enc, Sl.enc, *]
    ·cases h; subst hR; simp (maxDischargeDepth := 12) only [zbsv, kn, simprocAttr, qa, qb, qc, qd, Ow.enc, zjr.enc, zjs.enc, Sl.enc, *]
   ·cases h; subst hR; simp (maxDischargeDepth := 12) only [zbsv, kn, simprocAttr, qa, qb, qc, qd, Ow.enc, zjr.enc, zjs.enc, Sl.enc, *]
  ·cases h
 ·cases h; subst hR; simp (maxDischargeDepth := 12) only [zbsv, kn, simprocAttr, qa, qb, qc, qd, Ow.enc, zjr.enc, zjs.enc, Sl.enc, *]
theorem zbsx : ∀ q, zbsu q
 | 0 => by intro M hM j hj; intros; rename_i h _ _ _ _ _; cases h
 | q + 1 => by have i0 := zbsx q; exact zbsw q i0
theorem zbsy : ∀ (q N : Nat), 8 * q ≤ N → ∀ (a0 : (Sl zjs)) (a1 : (Sl zjs)), ∀ (r : Bool), zmh q a0 a1 = some r → (orc T N).deep F.zmh [(Sl.enc zjs.enc) a0, (Sl.enc zjs.enc) a1] = some [V.bool r] := by
 intro q N hM a0 a1 r h
 rcases q with _ | q
 ·cases h
 obtain ⟨M, rfl⟩ : ∃ M, N = M + 8 := ⟨N - 8, by omega⟩
 have zbtk := (zbsx q)
 generalize hR : some [V.bool r] = R
 rw [zh0, z8x, Option.bind_some, zhy]
 rw [zmh] at h
 replace h := br h; rcases h with ⟨h1, h⟩ | ⟨h1, h⟩
 ·replace h := zbtk M (by omega) (M + 7) (by omega) _ _ _ _ _ _ h R hR
  simp (maxDischargeDepth := 12) only [zbsv, kn, simprocAttr, qa, qb, qc, qd, Ow.enc, zjr.enc, zjs.enc, Sl.enc, *]
 ·cases h; subst hR; simp (maxDischargeDepth := 12) only [zbsv, kn, simprocAttr, qa, qb, qc, qd, Ow.enc, zjr.enc, zjs.enc, Sl.enc, *]
def zbsz := And.intro @kk <| And.intro @zbbb <| And.intro @zbc3 <| And.intro @zbbd <| And.intro @zbbe <| @zbbf
theorem zbs0 : ∀ (q N : Nat), 8 * q ≤ N → ∀ (a0 : zjt) (a1 : zjt), ∀ (r : Bool), zmi q a0 a1 = some r → (orc T N).deep F.zmi [zjt.enc a0, zjt.enc a1] = some [V.bool r] := by
 intro q N hM a0 a1 r h
 rcases q with _ | q
 ·cases h
 obtain ⟨M, rfl⟩ : ∃ M, N = M + 8 := ⟨N - 8, by omega⟩
 generalize hR : some [V.bool r] = R
 rw [zh0, z8k, Option.bind_some, zhy]
 rw [zmi] at h
 replace h := ob h; obtain ⟨r1, h1, h⟩ := h
 replace h1 := zbsy q (M + 7) (by omega) _ _ _ h1
 try simp only [Ow.enc, zjr.enc, zjs.enc, Sl.enc, kn, simprocAttr, qa, qb, qc, qd] at h1
 replace h := bb h; rcases h with ⟨h2', h2, h⟩ | ⟨h2', h2, h⟩
 ·replace h := br h; rcases h with ⟨h3, h⟩ | ⟨h3, h⟩
  ·cases h; subst hR; simp (maxDischargeDepth := 12) only [zbsz, kn, simprocAttr, qa, qb, qc, qd, Ow.enc, zjr.enc, zjs.enc, zjt.enc, Sl.enc, *]
  ·cases h; subst hR; simp (maxDischargeDepth := 12) only [zbsz, kn, simprocAttr, qa, qb, qc, qd, Ow.enc, zjr.enc, zjs.enc, zjt.enc, Sl.enc, *]
 ·cases h; subst hR; simp (maxDischargeDepth := 12) only [zbsz, kn, simprocAttr, qa, qb, qc, qd, Ow.enc, zjr.enc, zjs.enc, zjt.enc, Sl.enc, *]
def zbs1 := And.intro @kk <| And.intro @zbef <| And.intro @zbd5 <| And.intro @zbeh <| And.intro @zbei <| @zbej
theorem zbs2 : ∀ (q N : Nat), 8 * q ≤ N → ∀ (a0 : (Sl Int)), ∀ (r : (Ow (Sl Int)) × Int), zmj q a0 = some r → (orc T N).deep F.zmj [(Sl.enc (V.int .u8)) a0] = some [(Ow.enc 1 (Sl.enc (V.int .u8))) r.1, (V.int .i64) r.2] := by
 intro q N hM a0 r h
 rcases q with _ | q
 ·cases h
 obtain ⟨M, rfl⟩ : ∃ M, N = M + 8 := ⟨N - 8, by omega⟩
 generalize hR : some [(Ow.enc 1 (Sl.enc (V.int .u8))) r.1, (V.int .i64) r.2] = R
 rw [zh0, z88, Option.bind_some, zhy]
 rw [zmj] at h
 replace h := ob h; obtain ⟨r1, h1, h⟩ := h
 replace h1 := zbp4 q (M + 7) (by omega) _ _ h1
 try simp only [Ow.enc, Sl.enc, kn, simprocAttr, qa, qb, qc, qd] at h1
 replace h := br h; rcases h with ⟨h2, h⟩ | ⟨h2, h⟩
 ·cases h; subst hR; simp (maxDischargeDepth := 12) only [zbs1, kn, simprocAttr, qa, qb, qc, qd, Ow.enc, Sl.enc, *]
 ·cases h; subst hR; simp (maxDischargeDepth := 12) only [zbs1, kn, simprocAttr, qa, qb, qc, qd, Ow.enc, Sl.enc, *]
def zbs3 (q : Nat) : Prop := ∀ (M : Nat) (hM : 8 * q ≤ M) (j : Nat) (hj : q ≤ j) (v6z : Bool) (v6l : List (Sl Int)) (v7 : Int) (v8 : Int) (h0z : Bool) (h0l : List (Sl Int)) (r : (Ow (Sl Int))) (_ : zmk q v6z v6l v7 v8 h0z h0l = some r) (R : Option (List V)) (_ : some [(Ow.enc 1 (Sl.enc (V.int .u8))) r] = R) (fr : Fr) (H : Hp) (_ : canon 0 [3, 6, 7, 8] fr H = ([(3, (.vw 0 0 0 h0l.length 1)), (6, (.sl v6z (List.map (Sl.enc (V.int .u8)) v6l))), (7, (.int .i64 v7)), (8, (.int .i64 v8))], [(.row 0 h0z 1 (List.map (Sl.enc (V.int .u8)) h0l) true)])), fin zu8 (unw T (orc T (M + 7)) (M + 7) 0 [.blk 0, .code zu4] (iter 0 [3, 6, 7, 8] (exec T (orc T (M + 7)) (M + 7) 0 zu1) j fr H)) = R
def zbs4 := And.intro @kk <| And.intro @zbek <| And.intro @zbcg <| And.intro @zbem <| And.intro @zben <| @zbeo
theorem zbs5 (q : Nat) (zbtl : zbs3 q) : zbs3 (q + 1) := by
 intro M hM j hj v6z v6l v7 v8 h0z h0l r h R hR fr H hc
 obtain ⟨j, rfl⟩ : ∃ i, j = i + 1 := ⟨j - 1, by omega⟩
 rw [zhr, hc]; clear hc
 rw [zmk] at h
 replace h := br h; rcases h with ⟨h1, h⟩ | ⟨h1, h⟩
 ·replace h := br h; rcases h with ⟨h2, h⟩ | ⟨h2, h⟩
  ·replace h := ob h; obtain ⟨e1, h3, h⟩ := h
   replace h := ob h; obtain ⟨r2, h4, h⟩ := h
   replace h4 := zbnn q (M + 7) (by omega) _ _ h4
   try simp only [Ow.enc, Sl.enc, kn, simprocAttr, qa, qb, qc, qd] at h4
   replace h := br h; rcases h with ⟨h5, h⟩ | ⟨h5, h⟩
   ·try simp only [kn, simprocAttr, qa, qb, qc, qd] at h5
    replace h := zbtl M (by omega) j (by omega) _ _ _ _ _ _ _ h R hR
    simp (maxDischargeDepth := 12) only [zbs4, kn, simprocAttr, qa, qb, qc, qd, Ow.enc, Sl.enc, *]
   ·try simp only [kn, simprocAttr, qa, qb, qc, qd] at h5
    cases h
  ·cases h
 ·cases h; subst hR; simp (maxDischargeDepth := 12) only [zbs4, kn, simprocAttr, qa, qb, qc, qd, Ow.enc, Sl.enc, *]
theorem zbs6 : ∀ q, zbs3 q
 | 0 => by intro M hM j hj; intros; rename_i h _ _ _ _ _; cases h
 | q + 1 => by have i0 := zbs6 q; exact zbs5 q i0
theorem zbs7 : ∀ (q N : Nat), 8 * q ≤ N → ∀ (a0 : (Sl (Sl Int))), ∀ (r : (Ow (Sl Int))), zml q a0 = some r → (orc T N).deep F.zml [(Sl.enc (Sl.enc (V.int .u8))) a0] = some [(Ow.enc 1 (Sl.enc (V.int .u8))) r] := by
 intro q N hM a0 r h
 rcases q with _ | q
 ·cases h
 obtain ⟨M, rfl⟩ : ∃ M, N = M + 8 := ⟨N - 8, by omega⟩
 have zbtl := (zbs6 q)
 generalize hR : some [(Ow.enc 1 (Sl.enc (V.int .u8))) r] = R
 rw [zh0, z89, Option.bind_some, zhy]
 rw [zml] at h
 replace h := zbtl M (by omega) (M + 7) (by omega) _ _ _ _ _ _ _ h R hR
 simp (maxDischargeDepth := 12) only [zbs4, kn, simprocAttr, qa, qb, qc, qd, Ow.enc, Sl.enc, *]
end Go.Dvm.C
