/- The machine comes to these answers: part 1. -/
import Derived.Test.YtlcndafgippgjaaQl0
set_option linter.all false
set_option maxRecDepth 100000
set_option maxHeartbeats 4000000
namespace Go.Dvm.C
open Go Go.Dvm Go.Dvm.I
def zbmd := And.intro @kk <| And.intro @zbca <| And.intro @zbcc <| And.intro @zbcd <| @zbce
theorem zbme : ∀ (q N : Nat), 8 * q ≤ N → ∀ (a0 : Int), ∀ (r : Bool), zju q a0 = some r → (orc T N).deep F.zju [(V.int .i64) a0] = some [V.bool r] := by
 intro q N hM a0 r h
 rcases q with _ | q
 ·cases h
 obtain ⟨M, rfl⟩ : ∃ M, N = M + 8 := ⟨N - 8, by omega⟩
 generalize hR : some [V.bool r] = R
 rw [zh0, z8r, Option.bind_some, zhy]
 rw [zju] at h
 replace h := br h; rcases h with ⟨h1, h⟩ | ⟨h1, h⟩
 ·cases h; subst hR; simp (maxDischargeDepth := 12) only [zbmd, kn, simprocAttr, qa, qb, qc, qd, Ow.enc, Sl.enc, *]
 ·cases h; subst hR; simp (maxDischargeDepth := 12) only [zbmd, kn, simprocAttr, qa, qb, qc, qd, Ow.enc, Sl.enc, *]
def zbmf (q : Nat) : Prop := ∀ (M : Nat) (hM : 8 * q ≤ M) (j : Nat) (hj : q ≤ j) (w0 : Nat) (v1 : Int) (h0z : Bool) (h0l : List Int) (h0x : Bool) (r : (Ow Int)) (_ : zjv q v1 h0z h0l h0x = some r) (R : Option (List V)) (_ : some [(Ow.enc 1 (V.int .u8)) r] = R) (fr : Fr) (H : Hp) (_ : canon 1 [0, 1] fr H = ([(0, (.vw 0 w0 0 h0l.length 1)), (1, (.int .u64 v1))], [(.row w0 h0z 1 (List.map (V.int .u8) h0l) h0x)])), fin zs4 (unw T (orc T (M + 7)) (M + 7) 1 [.blk 0, .code zs1] (iter 1 [0, 1] (exec T (orc T (M + 7)) (M + 7) 1 c_48_8) j fr H)) = R
def zbmg := And.intro @kk <| And.intro @zbdz <| And.intro @zbd1 <| And.intro @zbd2 <| @zbd3
theorem zbmh (q : Nat) (zbqd : zbmf q) : zbmf (q + 1) := by
 intro M hM j hj w0 v1 h0z h0l h0x r h R hR fr H hc
 obtain ⟨j, rfl⟩ : ∃ i, j = i + 1 := ⟨j - 1, by omega⟩
 rw [zhr, hc]; clear hc
 rw [zjv] at h
 replace h := br h; rcases h with ⟨h1, h⟩ | ⟨h1, h⟩
 ·replace h := br h; rcases h with ⟨h2, h⟩ | ⟨h2, h⟩
  ·try simp only [kn, simprocAttr, qa, qb, qc, qd] at h2
   replace h := zbqd M (by omega) j (by omega) (w0 + 1) _ _ _ _ _ h R hR
   simp (maxDischargeDepth := 12) only [zbmg, kn, simprocAttr, qa, qb, qc, qd, Ow.enc, Sl.enc, *]
  ·try simp only [kn, simprocAttr, qa, qb, qc, qd] at h2
   cases h
 ·replace h := br h; rcases h with ⟨h3, h⟩ | ⟨h3, h⟩
  ·try simp only [kn, simprocAttr, qa, qb, qc, qd] at h3
   cases h; subst hR; simp (maxDischargeDepth := 12) only [zbmg, kn, simprocAttr, qa, qb, qc, qd, Ow.enc, Sl.enc, *]
  ·try simp only [kn, simprocAttr, qa, qb, qc, qd] at h3
   cases h
theorem zbmi : ∀ q, zbmf q
 | 0 => by intro M hM j hj; intros; rename_i h _ _ _ _ _; cases h
 | q + 1 => by have i0 := zbmi q; exact zbmh q i0
theorem zbmj : ∀ (q N : Nat), 8 * q ≤ N → ∀ (a0 : (Ow Int)) (a1 : Int), ∀ (r : (Ow Int)), zjw q a0 a1 = some r → (orc T N).deep F.zjw [(Ow.enc 1 (V.int .u8)) a0, (V.int .u64) a1] = some [(Ow.enc 1 (V.int .u8)) r] := by
 intro q N hM a0 a1 r h
 rcases q with _ | q
 ·cases h
 obtain ⟨M, rfl⟩ : ∃ M, N = M + 8 := ⟨N - 8, by omega⟩
 have zbqd := (zbmi q)
 generalize hR : some [(Ow.enc 1 (V.int .u8)) r] = R
 rw [zh0, z84, Option.bind_some, zhy]
 rw [zjw] at h
 replace h := zbqd M (by omega) (M + 7) (by omega) 0 _ _ _ _ _ h R hR
 simp (maxDischargeDepth := 12) only [zbmg, kn, simprocAttr, qa, qb, qc, qd, Ow.enc, Sl.enc, *]
def zbmk := And.intro @kk <| And.intro @zbck <| And.intro @zbd0 <| And.intro @zbcm <| And.intro @zbcn <| @zbco
theorem zbml : ∀ (q N : Nat), 8 * q ≤ N → ∀ (a0 : (Ow Int)) (a1 : Int), ∀ (r : (Ow Int)), zjx q a0 a1 = some r → (orc T N).deep F.zjx [(Ow.enc 1 (V.int .u8)) a0, (V.int .i64) a1] = some [(Ow.enc 1 (V.int .u8)) r] := by
 intro q N hM a0 a1 r h
 rcases q with _ | q
 ·cases h
 obtain ⟨M, rfl⟩ : ∃ M, N = M + 8 := ⟨N - 8, by omega⟩
 generalize hR : some [(Ow.enc 1 (V.int .u8)) r] = R
 rw [zh0, z8t, Option.bind_some, zhy]
 rw [zjx] at h
 replace h := br h; rcases h with ⟨h1, h⟩ | ⟨h1, h⟩
 ·cases h; subst hR; simp (maxDischargeDepth := 12) only [zbmk, kn, simprocAttr, qa, qb, qc, qd, Ow.enc, Sl.enc, *]
 ·replace h := br h; rcases h with ⟨h2, h⟩ | ⟨h2, h⟩
  ·cases h; subst hR; simp (maxDischargeDepth := 12) only [zbmk, kn, simprocAttr, qa, qb, qc, qd, Ow.enc, Sl.enc, *]
  ·replace h := ob h; obtain ⟨r1, h3, h⟩ := h
   replace h3 := zbmj q (M + 7) (by omega) _ _ _ h3
   try simp only [Ow.enc, Sl.enc, kn, simprocAttr, qa, qb, qc, qd] at h3
   cases h; subst hR; simp (maxDischargeDepth := 12) only [zbmk, kn, simprocAttr, qa, qb, qc, qd, Ow.enc, Sl.enc, *]
def zbmm (q : Nat) : Prop := ∀ (M : Nat) (hM : 8 * q ≤ M) (j : Nat) (hj : q ≤ j) (v5 : Int) (h0_0 : List Int) (h1_0 : List Int) (r : (List Int)) (_ : zjy q v5 h0_0 h1_0 = some r) (R : Option (List V)) (_ : some [(arrEnc (V.int .u32)) r] = R) (fr : Fr) (H : Hp) (_ : canon 0 [0, 1, 5] fr H = ([(0, (.ptr 0 0)), (1, (.ptr 1 0)), (5, (.int .i64 v5))], [(.box (List.map (V.int .u32) h0_0)), (.box (List.map (V.int .u32) h1_0))])), fin z3e (unw T (orc T (M + 7)) (M + 7) 0 [.blk 0, .code z3a] (iter 0 [0, 1, 5] (exec T (orc T (M + 7)) (M + 7) 0 z27) j fr H)) = R
def zbmn (q : Nat) : Prop := ∀ (M : Nat) (hM : 8 * q ≤ M) (j : Nat) (hj : q ≤ j) (j1 : Nat) (hj1 : q ≤ j1) (v2 : Int) (v3 : Int) (v5 : Int) (v10 : Int) (h0_0 : List Int) (h1_0 : List Int) (r : (List Int)) (_ : zjz q v2 v3 v5 v10 h0_0 h1_0 = some r) (R : Option (List V)) (_ : some [(arrEnc (V.int .u32)) r] = R) (fr : Fr) (H : Hp) (_ : canon 0 [0, 1, 2, 3, 5, 10] fr H = ([(0, (.ptr 0 0)), (1, (.ptr 1 0)), (2, (.int .i64 v2)), (3, (.int .u32 v3)), (5, (.int .i64 v5)), (10, (.int .i64 v10))], [(.box (List.map (V.int .u32) h0_0)), (.box (List.map (V.int .u32) h1_0))])), fin z3e (unw T (orc T (M + 7)) (M + 7) 0 [.blk 2, .code z20, .blk 1, .code z24, .rounds [0, 1, 5] z27 j1, .blk 0, .code z3a] (iter 0 [0, 1, 2, 3, 5, 10] (exec T (orc T (M + 7)) (M + 7) 0 z2x) j fr H)) = R
def zbmo := And.intro @kk <| And.intro @zbib <| And.intro @zbid <| And.intro @zbie <| @zbif
theorem zbmp (q : Nat) (zbqe : zbmn q) : zbmm (q + 1) := by
 intro M hM j hj v5 h0_0 h1_0 r h R hR fr H hc
 obtain ⟨j, rfl⟩ : ∃ i, j = i + 1 := ⟨j - 1, by omega⟩
 rw [zhr, hc]; clear hc
 rw [zjy] at h
 replace h := br h; rcases h with ⟨h1, h⟩ | ⟨h1, h⟩
 ·replace h := zbqe M (by omega) (M + 7) (by omega) j (by omega) _ _ _ _ _ _ _ h R hR
  simp (maxDischargeDepth := 12) only [zbmo, kn, simprocAttr, qa, qb, qc, qd, Ow.enc, Sl.enc, arrEnc, *]
 ·replace h := br h; rcases h with ⟨h2, h⟩ | ⟨h2, h⟩
  ·replace h := bc h; rcases h with ⟨h3, h⟩ | ⟨h3, h⟩
   ·replace h := br h; rcases h with ⟨h4, h⟩ | ⟨h4, h⟩
    ·replace h := br h; rcases h with ⟨h5, h⟩ | ⟨h5, h⟩
     ·try simp only [kn, simprocAttr, qa, qb, qc, qd] at h5
      cases h; subst hR; simp (maxDischargeDepth := 12) only [zbmo, kn, simprocAttr, qa, qb, qc, qd, Ow.enc, Sl.enc, arrEnc, *]
     ·try simp only [kn, simprocAttr, qa, qb, qc, qd] at h5
      cases h
    ·cases h
   ·cases h
  ·cases h
theorem zbmq (q : Nat) (zbqf : zbmm q) (zbqe : zbmn q) : zbmn (q + 1) := by
 intro M hM j hj j1 hj1 v2 v3 v5 v10 h0_0 h1_0 r h R hR fr H hc
 obtain ⟨j, rfl⟩ : ∃ i, j = i + 1 := ⟨j - 1, by omega⟩
 rw [zhr, hc]; clear hc
 rw [zjz] at h
 replace h := br h; rcases h with ⟨h1, h⟩ | ⟨h1, h⟩
 ·replace h := zbqe M (by omega) j (by omega) j1 (by omega) _ _ _ _ _ _ _ h R hR
  simp (maxDischargeDepth := 12) only [zbmo, kn, simprocAttr, qa, qb, qc, qd, Ow.enc, Sl.enc, arrEnc, *]
 ·replace h := br h; rcases h with ⟨h2, h⟩ | ⟨h2, h⟩
  ·replace h := br h; rcases h with ⟨h3, h⟩ | ⟨h3, h⟩
   ·replace h := br h; rcases h with ⟨h4, h⟩ | ⟨h4, h⟩
    ·try simp only [kn, simprocAttr, qa, qb, qc, qd] at h4
     replace h := zbqf M (by omega) j1 (by omega) _ _ _ _ h R hR
     simp (maxDischargeDepth := 12) only [zbmo, kn, simprocAttr, qa, qb, qc, qd, Ow.enc, Sl.enc, arrEnc, *]
    ·try simp only [kn, simprocAttr, qa, qb, qc, qd] at h4
     cases h
   ·cases h
  ·cases h
theorem zbmr : ∀ q, zbmm q ∧ zbmn q
 | 0 => by refine ⟨?_, ?_⟩ <;> (intro M hM j hj; intros; rename_i h _ _ _ _ _; cases h)
 | q + 1 => by have ⟨i0, i1⟩ := zbmr q; exact ⟨zbmp q i1, zbmq q i0 i1⟩
theorem zbms : ∀ (q N : Nat), 8 * q ≤ N → ∀ (r : (List Int)), zj0 q = some r → (orc T N).deep F.zj0 [] = some [(arrEnc (V.int .u32)) r] := by
 intro q N hM r h
 rcases q with _ | q
 ·cases h
 obtain ⟨M, rfl⟩ : ∃ M, N = M + 8 := ⟨N - 8, by omega⟩
 have zbqf := (zbmr q).1
 generalize hR : some [(arrEnc (V.int .u32)) r] = R
 rw [zh0, z90, Option.bind_some, zhy]
 rw [zj0] at h
 replace h := zbqf M (by omega) (M + 7) (by omega) _ _ _ _ h R hR
 simp (maxDischargeDepth := 12) only [zbmo, kn, simprocAttr, qa, qb, qc, qd, Ow.enc, Sl.enc, arrEnc, *]
def zbmt (q : Nat) : Prop := ∀ (M : Nat) (hM : 8 * q ≤ M) (j : Nat) (hj : q ≤ j) (v6 : Int) (v12z : Bool) (v12l : List Int) (v13 : Int) (v14 : Int) (h0_0 : List Int) (r : Int) (_ : zj1 q v6 v12z v12l v13 v14 h0_0 = some r) (R : Option (List V)) (_ : some [(V.int .u32) r] = R) (fr : Fr) (H : Hp) (_ : canon 0 [5, 6, 12, 13, 14] fr H = ([(5, (.ptr 0 0)), (6, (.int .u32 v6)), (12, (.sl v12z (List.map (V.int .u8) v12l))), (13, (.int .i64 v13)), (14, (.int .i64 v14))], [(.box (List.map (V.int .u32) h0_0))])), fin zzy (unw T (orc T (M + 7)) (M + 7) 0 [.blk 0, .code zzt] (iter 0 [5, 6, 12, 13, 14] (exec T (orc T (M + 7)) (M + 7) 0 zzq) j fr H)) = R
def zbmu := And.intro @kk <| And.intro @zbgx <| And.intro @zbic <| And.intro @zbgz <| And.intro @zbg0 <| @zbg1
theorem zbmv (q : Nat) (zbqg : zbmt q) : zbmt (q + 1) := by
 intro M hM j hj v6 v12z v12l v13 v14 h0_0 r h R hR fr H hc
 obtain ⟨j, rfl⟩ : ∃ i, j = i + 1 := ⟨j - 1, by omega⟩
 rw [zhr, hc]; clear hc
 rw [zj1] at h
 replace h := br h; rcases h with ⟨h1, h⟩ | ⟨h1, h⟩
 ·replace h := br h; rcases h with ⟨h2, h⟩ | ⟨h2, h⟩
  ·replace h := ob h; obtain ⟨e2, h3, h⟩ := h
   replace h := br h; rcases h with ⟨h4, h⟩ | ⟨h4, h⟩
   ·replace h := br h; rcases h with ⟨h5, h⟩ | ⟨h5, h⟩
    ·replace h := ob h; obtain ⟨e3, h6, h⟩ := h
     replace h := zbqg M (by omega) j (by omega) _ _ _ _ _ _ _ h R hR
     simp (maxDischargeDepth := 12) only [zbmu, kn, simprocAttr, qa, qb, qc, qd, Ow.enc, Sl.enc, arrEnc, *]
    ·cases h
   ·cases h
  ·cases h
 ·cases h; subst hR; simp (maxDischargeDepth := 12) only [zbmu, kn, simprocAttr, qa, qb, qc, qd, Ow.enc, Sl.enc, arrEnc, *]
theorem zbmw : ∀ q, zbmt q
 | 0 => by intro M hM j hj; intros; rename_i h _ _ _ _ _; cases h
 | q + 1 => by have i0 := zbmw q; exact zbmv q i0
theorem zbmx : ∀ (q N : Nat), 8 * q ≤ N → ∀ (a0 : Int) (a1 : (Sl Int)), ∀ (r : Int), zj2 q a0 a1 = some r → (orc T N).deep F.zj2 [(V.int .u32) a0, (Sl.enc (V.int .u8)) a1] = some [(V.int .u32) r] := by
 intro q N hM a0 a1 r h
 rcases q with _ | q
 ·cases h
 obtain ⟨M, rfl⟩ : ∃ M, N = M + 8 := ⟨N - 8, by omega⟩
 have zbqg := (zbmw q)
 generalize hR : some [(V.int .u32) r] = R
 rw [zh0, z9q, Option.bind_some, zhy]
 rw [zj2] at h
 replace h := ob h; obtain ⟨r1, h1, h⟩ := h
 replace h1 := zbms q (M + 7) (by omega)  _ h1
 try simp only [Ow.enc, arrEnc, kn, simprocAttr, qa, qb, qc, qd] at h1
 replace h := bc h; rcases h with ⟨h2, h⟩ | ⟨h2, h⟩
 ·replace h := zbqg M (by omega) (M + 7) (by omega) _ _ _ _ _ _ _ h R hR
  simp (maxDischargeDepth := 12) only [zbmu, kn, simprocAttr, qa, qb, qc, qd, Ow.enc, Sl.enc, arrEnc, *]
 ·cases h
def zbmy := And.intro @kk <| And.intro @zbg2 <| And.intro @zbgy <| And.intro @zbg4 <| And.intro @zbg5 <| @zbg6
theorem zbmz : ∀ (q N : Nat), 8 * q ≤ N → ∀ (a0 : (Sl Int)), ∀ (r : Int), zj3 q a0 = some r → (orc T N).deep F.zj3 [(Sl.enc (V.int .u8)) a0] = some [(V.int .u32) r] := by
 intro q N hM a0 r h
 rcases q with _ | q
 ·cases h
 obtain ⟨M, rfl⟩ : ∃ M, N = M + 8 := ⟨N - 8, by omega⟩
 generalize hR : some [(V.int .u32) r] = R
 rw [zh0, z9r, Option.bind_some, zhy]
 rw [zj3] at h
 replace h := ob h; obtain ⟨r1, h1, h⟩ := h
 replace h1 := zbmx q (M + 7) (by omega) _ _ _ h1
 try simp only [Ow.enc, Sl.enc, kn, simprocAttr, qa, qb, qc, qd] at h1
 cases h; subst hR; simp (maxDischargeDepth := 12) only [zbmy, kn, simprocAttr, qa, qb, qc, qd, Ow.enc, Sl.enc, *]
def zbm0 (q : Nat) : Prop := ∀ (M : Nat) (hM : 8 * q ≤ M) (j : Nat) (hj : q ≤ j) (v0 : Int) (v7 : Int) (v8 : Int) (h0z : Bool) (h0l : List Int) (r : (Ow Int)) (_ : zj4 q v0 v7 v8 h0z h0l = some r) (R : Option (List V)) (_ : some [(Ow.enc 1 (V.int .u8)) r] = R) (fr : Fr) (H : Hp) (_ : canon 0 [0, 5, 7, 8] fr H = ([(0, (.int .u64 v0)), (5, (.vw 0 0 0 h0l.length 1)), (7, (.int .i64 v7)), (8, (.int .i64 v8))], [(.row 0 h0z 1 (List.map (V.int .u8) h0l) true)])), fin z2q (unw T (orc T (M + 7)) (M + 7) 0 [.blk 0, .code z2m] (iter 0 [0, 5, 7, 8] (exec T (orc T (M + 7)) (M + 7) 0 z2j) j fr H)) = R
def zbm1 := And.intro @kk <| And.intro @zbh6 <| And.intro @zbh8 <| And.intro @zbh9 <| @zbia
theorem zbm2 (q : Nat) (zbqh : zbm0 q) : zbm0 (q + 1) := by
 intro M hM j hj v0 v7 v8 h0z h0l r h R hR fr H hc
 obtain ⟨j, rfl⟩ : ∃ i, j = i + 1 := ⟨j - 1, by omega⟩
 rw [zhr, hc]; clear hc
 rw [zj4] at h
 replace h := br h; rcases h with ⟨h1, h⟩ | ⟨h1, h⟩
 ·replace h := br h; rcases h with ⟨h2, h⟩ | ⟨h2, h⟩
  ·cases h
  ·replace h := br h; rcases h with ⟨h3, h⟩ | ⟨h3, h⟩
   ·try simp only [kn, simprocAttr, qa, qb, qc, qd] at h3
    replace h := zbqh M (by omega) j (by omega) _ _ _ _ _ _ h R hR
    simp (maxDischargeDepth := 12) only [zbm1, kn, simprocAttr, qa, qb, qc, qd, Ow.enc, Sl.enc, *]
   ·try simp only [kn, simprocAttr, qa, qb, qc, qd] at h3
    cases h
 ·cases h; subst hR; simp (maxDischargeDepth := 12) only [zbm1, kn, simprocAttr, qa, qb, qc, qd, Ow.enc, Sl.enc, *]
theorem zbm3 : ∀ q, zbm0 q
 | 0 => by intro M hM j hj; intros; rename_i h _ _ _ _ _; cases h
 | q + 1 => by have i0 := zbm3 q; exact zbm2 q i0
theorem zbm4 : ∀ (q N : Nat), 8 * q ≤ N → ∀ (a0 : Int) (a1 : Int), ∀ (r : (Ow Int)), zj5 q a0 a1 = some r → (orc T N).deep F.zj5 [(V.int .u64) a0, (V.int .i64) a1] = some [(Ow.enc 1 (V.int .u8)) r] := by
 intro q N hM a0 a1 r h
 rcases q with _ | q
 ·cases h
 obtain ⟨M, rfl⟩ : ∃ M, N = M + 8 := ⟨N - 8, by omega⟩
 have zbqh := (zbm3 q)
 generalize hR : some [(Ow.enc 1 (V.int .u8)) r] = R
 rw [zh0, z9z, Option.bind_some, zhy]
 rw [zj5] at h
 replace h := zbqh M (by omega) (M + 7) (by omega) _ _ _ _ _ _ h R hR
 simp (maxDischargeDepth := 12) only [zbm1, kn, simprocAttr, qa, qb, qc, qd, Ow.enc, Sl.enc, *]
def zbm5 := And.intro @kk <| And.intro @zbgs <| And.intro @zbh7 <| And.intro @zbgu <| And.intro @zbgv <| @zbgw
theorem zbm6 : ∀ (q N : Nat), 8 * q ≤ N → ∀ (a0 : Int), ∀ (r : (Ow Int)), zj6 q a0 = some r → (orc T N).deep F.zj6 [(V.int .u32) a0] = some [(Ow.enc 1 (V.int .u8)) r] := by
 intro q N hM a0 r h
 rcases q with _ | q
 ·cases h
 obtain ⟨M, rfl⟩ : ∃ M, N = M + 8 := ⟨N - 8, by omega⟩
 generalize hR : some [(Ow.enc 1 (V.int .u8)) r] = R
 rw [zh0, z9p, Option.bind_some, zhy]
 rw [zj6] at h
 replace h := ob h; obtain ⟨r1, h1, h⟩ := h
 replace h1 := zbm4 q (M + 7) (by omega) _ _ _ h1
 try simp only [Ow.enc, kn, simprocAttr, qa, qb, qc, qd] at h1
 cases h; subst hR; simp (maxDischargeDepth := 12) only [zbm5, kn, simprocAttr, qa, qb, qc, qd, Ow.enc, Sl.enc, *]
def zbm7 := And.intro @kk <| And.intro @zbe9 <| And.intro @zbgt <| And.intro @zbgy <| And.intro @zbg3 <| And.intro @zbfb <| And.intro @zbfc <| @zbfd
theorem zbm8 : ∀ (q N : Nat), 8 * q ≤ N → ∀ (a0 : (Sl Int)) (a1 : (Sl Int)), ∀ (r : (Ow Int)), zj7 q a0 a1 = some r → (orc T N).deep F.zj7 [(Sl.enc (V.int .u8)) a0, (Sl.enc (V.int .u8)) a1] = some [(Ow.enc 1 (V.int .u8)) r] := by
 intro q N hM a0 a1 r h
 rcases q with _ | q
 ·cases h
 obtain ⟨M, rfl⟩ : ∃ M, N = M + 8 := ⟨N - 8, by omega⟩
 generalize hR : some [(Ow.enc 1 (V.int .u8)) r] = R
 rw [zh0, z9e, Option.bind_some, zhy]
 rw [zj7] at h
 replace h := ob h; obtain ⟨r1, h1, h⟩ := h
 replace h1 := zbmz q (M + 7) (by omega) _ _ h1
 try simp only [Ow.enc, Sl.enc, kn, simprocAttr, qa, qb, qc, qd] at h1
 replace h := ob h; obtain ⟨r2, h2, h⟩ := h
 replace h2 := zbmx q (M + 7) (by omega) _ _ _ h2
 try simp only [Ow.enc, Sl.enc, kn, simprocAttr, qa, qb, qc, qd] at h2
 replace h := ob h; obtain ⟨r3, h3, h⟩ := h
 replace h3 := zbm6 q (M + 7) (by omega) _ _ h3
 try simp only [Ow.enc, kn, simprocAttr, qa, qb, qc, qd] at h3
 cases h; subst hR; simp (maxDischargeDepth := 12) only [zbm7, kn, simprocAttr, qa, qb, qc, qd, Ow.enc, Sl.enc, *]
def zbm9 (q : Nat) : Prop := ∀ (M : Nat) (hM : 8 * q ≤ M) (j : Nat) (hj : q ≤ j) (v0z : Bool) (v0l : List (Sl Int)) (v3 : Int) (v9z : Bool) (v9l : List (Sl Int)) (v10 : Int) (v11 : Int) (r : (Ow Int)) (_ : zkb q v0z v0l v3 v9z v9l v10 v11 = some r) (R : Option (List V)) (_ : some [(Ow.enc 1 (V.int .u8)) r] = R) (fr : Fr) (H : Hp) (_ : canon 0 [0, 3, 9, 10, 11] fr H = ([(0, (.sl v0z (List.map (Sl.enc (V.int .u8)) v0l))), (3, (.int .i64 v3)), (9, (.sl v9z (List.map (Sl.enc (V.int .u8)) v9l))), (10, (.int .i64 v10)), (11, (.int .i64 v11))], [])), fin zp2 (unw T (orc T (M + 7)) (M + 7) 0 [.blk 0, .code zpy] (iter 0 [0, 3, 9, 10, 11] (exec T (orc T (M + 7)) (M + 7) 0 zph) j fr H)) = R
def zbna (q : Nat) : Prop := ∀ (M : Nat) (hM : 8 * q ≤ M) (j : Nat) (hj : q ≤ j) (v6len : Nat) (v25z : Bool) (v25l : List (Sl Int)) (v26 : Int) (v27 : Int) (h0z : Bool) (h0l : List Int) (r : (Ow Int)) (_ : zj8 q v6len v25z v25l v26 v27 h0z h0l = some r) (R : Option (List V)) (_ : some [(Ow.enc 1 (V.int .u8)) r] = R) (fr : Fr) (H : Hp) (_ : canon 0 [6, 25, 26, 27] fr H = ([(6, (.vw 0 0 0 v6len 0)), (25, (.sl v25z (List.map (Sl.enc (V.int .u8)) v25l))), (26, (.int .i64 v26)), (27, (.int .i64 v27))], [(.row 0 h0z 1 (List.map (V.int .u8) h0l) true)])), fin zp2 (unw T (orc T (M + 7)) (M + 7) 0 [.blk 2, .code zpw] (iter 0 [6, 25, 26, 27] (exec T (orc T (M + 7)) (M + 7) 0 zpt) j fr H)) = R
def zbnb (q : Nat) : Prop := ∀ (M : Nat) (hM : 8 * q ≤ M) (j : Nat) (hj : q ≤ j) (v25z : Bool) (v25l : List (Sl Int)) (v26 : Int) (r : (Ow Int)) (_ : zka q v25z v25l v26 = some r) (R : Option (List V)) (_ : some [(Ow.enc 1 (V.int .u8)) r] = R) (fr : Fr) (H : Hp) (_ : canon 0 [6, 25, 26, 27] fr H = ([(6, (.sl true [])), (25, (.sl v25z (List.map (Sl.enc (V.int .u8)) v25l))), (26, (.int .i64 v26)), (27, (.int .i64 0))], [])), fin zp2 (unw T (orc T (M + 7)) (M + 7) 0 [.blk 2, .code zpw] (iter 0 [6, 25, 26, 27] (exec T (orc T (M + 7)) (M + 7) 0 zpt) j fr H)) = R
def zbnc (q : Nat) : Prop := ∀ (M : Nat) (hM : 8 * q ≤ M) (j : Nat) (hj : q ≤ j) (v25z : Bool) (v25l : List (Sl Int)) (v26 : Int) (v27 : Int) (h0z : Bool) (h0l : List Int) (r : (Ow Int)) (_ : zj9 q v25z v25l v26 v27 h0z h0l = some r) (R : Option (List V)) (_ : some [(Ow.enc 1 (V.int .u8)) r] = R) (fr : Fr) (H : Hp) (_ : canon 0 [6, 25, 26, 27] fr H = ([(6, (.vw 0 0 0 h0l.length 1)), (25, (.sl v25z (List.map (Sl.enc (V.int .u8)) v25l))), (26, (.int .i64 v26)), (27, (.int .i64 v27))], [(.row 0 h0z 1 (List.map (V.int .u8) h0l) true)])), fin zp2 (unw T (orc T (M + 7)) (M + 7) 0 [.blk 2, .code zpw] (iter 0 [6, 25, 26, 27] (exec T (orc T (M + 7)) (M + 7) 0 zpt) j fr H)) = R
def zbnd := And.intro @kk <| And.intro @zbb0 <| And.intro @zbdr <| And.intro @zbds <| And.intro @zbdt <| And.intro @zbb2 <| And.intro @zbb3 <| @zbb4
theorem zbne (q : Nat) (zbqi : zbm9 q) (zbqj : zbna q) (zbqk : zbnb q) : zbm9 (q + 1) := by
 intro M hM j hj v0z v0l v3 v9z v9l v10 v11 r h R hR fr H hc
 obtain ⟨j, rfl⟩ : ∃ i, j = i + 1 := ⟨j - 1, by omega⟩
 rw [zhr, hc]; clear hc
 rw [zkb] at h
 replace h := br h; rcases h with ⟨h1, h⟩ | ⟨h1, h⟩
 ·replace h := br h; rcases h with ⟨h2, h⟩ | ⟨h2, h⟩
  ·replace h := ob h; obtain ⟨e1, h3, h⟩ := h
   replace h := br h; rcases h with ⟨h4, h⟩ | ⟨h4, h⟩
   ·try simp only [kn, simprocAttr, qa, qb, qc, qd] at h4
    cases h
   ·try simp only [kn, simprocAttr, qa, qb, qc, qd] at h4
    replace h := zbqi M (by omega) j (by omega) _ _ _ _ _ _ _ _ h R hR
    simp (maxDischargeDepth := 12) only [zbnd, kn, simprocAttr, qa, qb, qc, qd, Ow.enc, Sl.enc, *]
  ·cases h
 ·replace h := br h; rcases h with ⟨h5, h⟩ | ⟨h5, h⟩
  ·cases h
  ·replace h := br h; rcases h with ⟨h6, h⟩ | ⟨h6, h⟩
   ·try simp only [kn, simprocAttr, qa, qb, qc, qd] at h6
    replace h := br h; rcases h with ⟨h7, h⟩ | ⟨h7, h⟩
    ·try simp only [kn, simprocAttr, qa, qb, qc, qd] at h7
     replace h := br h; rcases h with ⟨h8, h⟩ | ⟨h8, h⟩
     ·try simp only [kn, simprocAttr, qa, qb, qc, qd] at h8
      replace h := br h; rcases h with ⟨h9, h⟩ | ⟨h9, h⟩
      ·try simp only [kn, simprocAttr, qa, qb, qc, qd] at h9
       cases h
      ·try simp only [kn, simprocAttr, qa, qb, qc, qd] at h9
       replace h := zbqj M (by omega) (M + 7) (by omega) _ _ _ _ _ _ _ _ h R hR
       simp (maxDischargeDepth := 12) only [zbnd, kn, simprocAttr, qa, qb, qc, qd, Ow.enc, Sl.enc, *]
     ·try simp only [kn, simprocAttr, qa, qb, qc, qd] at h8
      cases h
    ·try simp only [kn, simprocAttr, qa, qb, qc, qd] at h7
     cases h
   ·try simp only [kn, simprocAttr, qa, qb, qc, qd] at h6
    replace h := zbqk M (by omega) (M + 7) (by omega) _ _ _ _ h R hR
    simp (maxDischargeDepth := 12) only [zbnd, kn, simprocAttr, qa, qb, qc, qd, Ow.enc, Sl.enc, *]
theorem zbnf (q : Nat) (zbqj : zbna q) : zbna (q + 1) := by
 intro M hM j hj v6len v25z v25l v26 v27 h0z h0l r h R hR fr H hc
 obtain ⟨j, rfl⟩ : ∃ i, j = i + 1 := ⟨j - 1, by omega⟩
 rw [zhr, hc]; clear hc
 rw [zj8] at h
 replace h := br h; rcases h with ⟨h1, h⟩ | ⟨h1, h⟩
 ·replace h := br h; rcases h with ⟨h2, h⟩ | ⟨h2, h⟩
  ·replace h := ob h; obtain ⟨e2, h3, h⟩ := h
   replace h := br h; rcases h with ⟨h4, h⟩ | ⟨h4, h⟩
   ·try simp only [kn, simprocAttr, qa, qb, qc, qd] at h4
    replace h := zbqj M (by omega) j (by omega) _ _ _ _ _ _ _ _ h R hR
    simp (maxDischargeDepth := 12) only [zbnd, kn, simprocAttr, qa, qb, qc, qd, Ow.enc, Sl.enc, *]
   ·try simp only [kn, simprocAttr, qa, qb, qc, qd] at h4
    cases h
  ·cases h
 ·cases h; subst hR; simp (maxDischargeDepth := 12) only [zbnd, kn, simprocAttr, qa, qb, qc, qd, Ow.enc, Sl.enc, *]
theorem zbng (q : Nat) (zbql : zbnc q) : zbnb (q + 1) := by
 intro M hM j hj v25z v25l v26 r h R hR fr H hc
 obtain ⟨j, rfl⟩ : ∃ i, j = i + 1 := ⟨j - 1, by omega⟩
 rw [zhr, hc]; clear hc
 rw [zka] at h
 replace h := br h; rcases h with ⟨h1, h⟩ | ⟨h1, h⟩
 ·replace h := ob h; obtain ⟨e3, h2, h⟩ := h
  replace h := br h; rcases h with ⟨h3, h⟩ | ⟨h3, h⟩
  ·replace h := zbql M (by omega) j (by omega) _ _ _ _ _ _ _ h R hR
   simp (maxDischargeDepth := 12) only [zbnd, kn, simprocAttr, qa, qb, qc, qd, Ow.enc, Sl.enc, *]
  ·cases h
 ·cases h; subst hR; simp (maxDischargeDepth := 12) only [zbnd, kn, simprocAttr, qa, qb, qc, qd, Ow.enc, Sl.enc, *]
theorem zbnh (q : Nat) (zbql : zbnc q) : zbnc (q + 1) := by
 intro M hM j hj v25z v25l v26 v27 h0z h0l r h R hR fr H hc
 obtain ⟨j, rfl⟩ : ∃ i, j = i + 1 := ⟨j - 1, by omega⟩
 rw [zhr, hc]; clear hc
 rw [zj9] at h
 replace h := br h; rcases h with ⟨h1, h⟩ | ⟨h1, h⟩
 ·replace h := br h; rcases h with ⟨h2, h⟩ | ⟨h2, h⟩
  ·replace h := ob h; obtain ⟨e4, h3, h⟩ := h
   replace h := br h; rcases h with ⟨h4, h⟩ | ⟨h4, h⟩
   ·try simp only [kn, simprocAttr, qa, qb, qc, qd] at h4
    replace h := zbql M (by omega) j (by omega) _ _ _ _ _ _ _ h R hR
    simp (maxDischargeDepth := 12) only [zbnd, kn, simprocAttr, qa, qb, qc, qd, Ow.enc, Sl.enc, *]
   ·try simp only [kn, simprocAttr, qa, qb, qc, qd] at h4
    cases h
  ·cases h
 ·cases h; subst hR; simp (maxDischargeDepth := 12) only [zbnd, kn, simprocAttr, qa, qb, qc, qd, Ow.enc, Sl.enc, *]
theorem zbni : ∀ q, zbm9 q ∧ zbna q ∧ zbnb q ∧ zbnc q
 | 0 => by refine ⟨?_, ?_, ?_, ?_⟩ <;> (intro M hM j hj; intros; rename_i h _ _ _ _ _; cases h)
 | q + 1 => by have ⟨i0, i1, i2, i3⟩ := zbni q; exact ⟨zbne q i0 i1 i2, zbnf q i1, zbng q i3, zbnh q i3⟩
theorem zbnj : ∀ (q N : Nat), 8 * q ≤ N → ∀ (a0 : (Sl (Sl Int))), ∀ (r : (Ow Int)), zkc q a0 = some r → (orc T N).deep F.zkc [(Sl.enc (Sl.enc (V.int .u8))) a0] = some [(Ow.enc 1 (V.int .u8)) r] := by
 intro q N hM a0 r h
 rcases q with _ | q
 ·cases h
 obtain ⟨M, rfl⟩ : ∃ M, N = M + 8 := ⟨N - 8, by omega⟩
 have zbqi := (zbni q).1
 generalize hR : some [(Ow.enc 1 (V.int .u8)) r] = R
 rw [zh0, z8p, Option.bind_some, zhy]
 rw [zkc] at h
 replace h := zbqi M (by omega) (M + 7) (by omega) _ _ _ _ _ _ _ _ h R hR
 simp (maxDischargeDepth := 12) only [zbnd, kn, simprocAttr, qa, qb, qc, qd, Ow.enc, Sl.enc, *]
def zbnk := And.intro @kk <| And.intro @zbdu <| And.intro @zbb1 <| And.intro @zbcl <| And.intro @zbfa <| And.intro @zbdw <| And.intro @zbdx <| @zbdy
theorem zbnl : ∀ (q N : Nat), 8 * q ≤ N → ∀ (a0 : (Sl Int)), ∀ (r : (Ow Int) × Int), zkd q a0 = some r → (orc T N).deep F.zkd [(Sl.enc (V.int .u8)) a0] = some [(Ow.enc 1 (V.int .u8)) r.1, (V.int .i64) r.2] := by
 intro q N hM a0 r h
 rcases q with _ | q
 ·cases h
 obtain ⟨M, rfl⟩ : ∃ M, N = M + 8 := ⟨N - 8, by omega⟩
 generalize hR : some [(Ow.enc 1 (V.int .u8)) r.1, (V.int .i64) r.2] = R
 rw [zh0, z83, Option.bind_some, zhy]
 rw [zkd] at h
 replace h := br h; rcases h with ⟨h1, h⟩ | ⟨h1, h⟩
 ·cases h; subst hR; simp (maxDischargeDepth := 12) only [zbnk, kn, simprocAttr, qa, qb, qc, qd, Ow.enc, Sl.enc, *]
 ·replace h := ob h; obtain ⟨r1, h2, h⟩ := h
  replace h2 := zbml q (M + 7) (by omega) _ _ _ h2
  try simp only [Ow.enc, Sl.enc, kn, simprocAttr, qa, qb, qc, qd] at h2
  replace h := ob h; obtain ⟨r2, h3, h⟩ := h
  replace h3 := zbm8 q (M + 7) (by omega) _ _ _ h3
  try simp only [Ow.enc, Sl.enc, kn, simprocAttr, qa, qb, qc, qd] at h3
  replace h := ob h; obtain ⟨r3, h4, h⟩ := h
  replace h4 := zbnj q (M + 7) (by omega) _ _ h4
  try simp only [Ow.enc, Sl.enc, kn, simprocAttr, qa, qb, qc, qd] at h4
  cases h; subst hR; simp (maxDischargeDepth := 12) only [zbnk, kn, simprocAttr, qa, qb, qc, qd, Ow.enc, Sl.enc, *]
def zbnm := And.intro @kk <| And.intro @zbcf <| And.intro @zbdv <| And.intro @zbch <| And.intro @zbci <| @zbcj
theorem zbnn : ∀ (q N : Nat), 8 * q ≤ N → ∀ (a0 : (Sl Int)), ∀ (r : (Ow Int)), zke q a0 = some r → (orc T N).deep F.zke [(Sl.enc (V.int .u8)) a0] = some [(Ow.enc 1 (V.int .u8)) r] := by
 intro q N hM a0 r h
 rcases q with _ | q
 ·cases h
 obtain ⟨M, rfl⟩ : ∃ M, N = M + 8 := ⟨N - 8, by omega⟩
 generalize hR : some [(Ow.enc 1 (V.int .u8)) r] = R
 rw [zh0, z8s, Option.bind_some, zhy]
 rw [zke] at h
 replace h := ob h; obtain ⟨r1, h1, h⟩ := h
 replace h1 := zbnl q (M + 7) (by omega) _ _ h1
 try simp only [Ow.enc, Sl.enc, kn, simprocAttr, qa, qb, qc, qd] at h1
 cases h; subst hR; simp (maxDischargeDepth := 12) only [zbnm, kn, simprocAttr, qa, qb, qc, qd, Ow.enc, Sl.enc, *]
def zbno := And.intro @kk <| And.intro @zbaw <| And.intro @zbcb <| And.intro @zbcg <| And.intro @zbcl <| And.intro @zbay <| And.intro @zbaz <| @zba0
theorem zbnp : ∀ (q N : Nat), 8 * q ≤ N → ∀ (a0 : Int) (a1 : Int) (a2 : Int), ∀ (r : (Ow Int) × Int), zkf q a0 a1 a2 = some r → (orc T N).deep F.zkf [(V.int .i64) a0, (V.int .i64) a1, (V.int .i64) a2] = some [(Ow.enc 1 (V.int .u8)) r.1, (V.int .i64) r.2] := by
 intro q N hM a0 a1 a2 r h
 rcases q with _ | q
 ·cases h
 obtain ⟨M, rfl⟩ : ∃ M, N = M + 8 := ⟨N - 8, by omega⟩
 generalize hR : some [(Ow.enc 1 (V.int .u8)) r.1, (V.int .i64) r.2] = R
 rw [zh0, z8h, Option.bind_some, zhy]
 rw [zkf] at h
 replace h := ob h; obtain ⟨r1, h1, h⟩ := h
 replace h1 := zbme q (M + 7) (by omega) _ _ h1
 replace h := bb h; rcases h with ⟨h2', h2, h⟩ | ⟨h2', h2, h⟩
 ·replace h := br h; rcases h with ⟨h3, h⟩ | ⟨h3, h⟩
  ·cases h; subst hR; simp (maxDischargeDepth := 12) only [zbno, kn, simprocAttr, qa, qb, qc, qd, Ow.enc, Sl.enc, *]
  ·replace h := br h; rcases h with ⟨h4, h⟩ | ⟨h4, h⟩
   ·cases h; subst hR; simp (maxDischargeDepth := 12) only [zbno, kn, simprocAttr, qa, qb, qc, qd, Ow.enc, Sl.enc, *]
   ·replace h := br h; rcases h with ⟨h5, h⟩ | ⟨h5, h⟩
    ·cases h; subst hR; simp (maxDischargeDepth := 12) only [zbno, kn, simprocAttr, qa, qb, qc, qd, Ow.enc, Sl.enc, *]
    ·replace h := br h; rcases h with ⟨h6, h⟩ | ⟨h6, h⟩
     ·cases h; subst hR; simp (maxDischargeDepth := 12) only [zbno, kn, simprocAttr, qa, qb, qc, qd, Ow.enc, Sl.enc, *]
     ·replace h := ob h; obtain ⟨r2, h7, h⟩ := h
      replace h7 := zbml q (M + 7) (by omega) _ _ _ h7
      try simp only [Ow.enc, Sl.enc, kn, simprocAttr, qa, qb, qc, qd] at h7
      replace h := ob h; obtain ⟨r3, h8, h⟩ := h
      replace h8 := zbml q (M + 7) (by omega) _ _ _ h8
      try simp only [Ow.enc, Sl.enc, kn, simprocAttr, qa, qb, qc, qd] at h8
      replace h := ob h; obtain ⟨r4, h9, h⟩ := h
      replace h9 := zbml q (M + 7) (by omega) _ _ _ h9
      try simp only [Ow.enc, Sl.enc, kn, simprocAttr, qa, qb, qc, qd] at h9
      replace h := ob h; obtain ⟨r5, h10, h⟩ := h
      replace h10 := zbnn q (M + 7) (by omega) _ _ h10
      try simp only [Ow.enc, Sl.enc, kn, simprocAttr, qa, qb, qc, qd] at h10
      cases h; subst hR; simp (maxDischargeDepth := 12) only [zbno, kn, simprocAttr, qa, qb, qc, qd, Ow.enc, Sl.enc, *]
 ·cases h; subst hR; simp (maxDischargeDepth := 12) only [zbno, kn, simprocAttr, qa, qb, qc, qd, Ow.enc, Sl.enc, *]
def zbnq := And.intro @kk <| And.intro @zbfy <| And.intro @zbf0 <| And.intro @zbf1 <| @zbf2
theorem zbnr : ∀ (q N : Nat), 8 * q ≤ N → ∀ (a0 : Int), ∀ (r : Int), zkg q a0 = some r → (orc T N).deep F.zkg [(V.int .i64) a0] = some [(V.int .i64) r] := by
 intro q N hM a0 r h
 rcases q with _ | q
 ·cases h
 obtain ⟨M, rfl⟩ : ∃ M, N = M + 8 := ⟨N - 8, by omega⟩
 generalize hR : some [(V.int .i64) r] = R
 rw [zh0, z9j, Option.bind_some, zhy]
 rw [zkg] at h
 cases h; subst hR; simp (maxDischargeDepth := 12) only [zbnq, kn, simprocAttr, qa, qb, qc, qd, Ow.enc, Sl.enc, *]
def zbns := And.intro @kk <| And.intro @zbeu <| And.intro @zbfz <| And.intro @zbew <| And.intro @zbex <| @zbey
theorem zbnt : ∀ (q N : Nat), 8 * q ≤ N → ∀ (a0 : zjr), ∀ (r : Bool), zkh q a0 = some r → (orc T N).deep F.zkh [zjr.enc a0] = some [V.bool r] := by
 intro q N hM a0 r h
 rcases q with _ | q
 ·cases h
 obtain ⟨M, rfl⟩ : ∃ M, N = M + 8 := ⟨N - 8, by omega⟩
 generalize hR : some [V.bool r] = R
 rw [zh0, z9b, Option.bind_some, zhy]
 rw [zkh] at h
 replace h := br h; rcases h with ⟨h1, h⟩ | ⟨h1, h⟩
 ·replace h := br h; rcases h with ⟨h2, h⟩ | ⟨h2, h⟩
  ·replace h := ob h; obtain ⟨r1, h3, h⟩ := h
   replace h3 := zbnr q (M + 7) (by omega) _ _ h3
   replace h := br h; rcases h with ⟨h4, h⟩ | ⟨h4, h⟩
   ·replace h := ob h; obtain ⟨r2, h5, h⟩ := h
    replace h5 := zbnr q (M + 7) (by omega) _ _ h5
    cases h; subst hR; simp (maxDischargeDepth := 12) only [zbns, kn, simprocAttr, qa, qb, qc, qd, Ow.enc, zjr.enc, Sl.enc, *]
   ·cases h; subst hR; simp (maxDischargeDepth := 12) only [zbns, kn, simprocAttr, qa, qb, qc, qd, Ow.enc, zjr.enc, Sl.enc, *]
  ·cases h; subst hR; simp (maxDischargeDepth := 12) only [zbns, kn, simprocAttr, qa, qb, qc, qd, Ow.enc, zjr.enc, Sl.enc, *]
 ·cases h; subst hR; simp (maxDischargeDepth := 12) only [zbns, kn, simprocAttr, qa, qb, qc, qd, Ow.enc, zjr.enc, Sl.enc, *]
def zbnu := And.intro @kk <| And.intro @zbdh <| And.intro @zbev <| And.intro @zbdj <| And.intro @zbdk <| @zbdl
theorem zbnv : ∀ (q N : Nat), 8 * q ≤ N → ∀ (a0 : zjs), ∀ (r : Bool), zki q a0 = some r → (orc T N).deep F.zki [zjs.enc a0] = some [V.bool r] := by
 intro q N hM a0 r h
 rcases q with _ | q
 ·cases h
 obtain ⟨M, rfl⟩ : ∃ M, N = M + 8 := ⟨N - 8, by omega⟩
 generalize hR : some [V.bool r] = R
 rw [zh0, z80, Option.bind_some, zhy]
 rw [zki] at h
 replace h := br h; rcases h with ⟨h1, h⟩ | ⟨h1, h⟩
 ·replace h := br h; rcases h with ⟨h2, h⟩ | ⟨h2, h⟩
  ·replace h := br h; rcases h with ⟨h3, h⟩ | ⟨h3, h⟩
   ·replace h := br h; rcases h with ⟨h4, h⟩ | ⟨h4, h⟩
    ·replace h := br h; rcases h with ⟨h5, h⟩ | ⟨h5, h⟩
     ·replace h := br h; rcases h with ⟨h6, h⟩ | ⟨h6, h⟩
      ·replace h := ob h; obtain ⟨r1, h7, h⟩ := h
       replace h7 := zbnt q (M + 7) (by omega) _ _ h7
       try simp only [Ow.enc, zjr.enc, kn, simprocAttr, qa, qb, qc, qd] at h7
       replace h := bb h; rcases h with ⟨h8', h8, h⟩ | ⟨h8', h8, h⟩
       ·replace h := br h; rcases h with ⟨h9, h⟩ | ⟨h9, h⟩
        ·cases h; subst hR; simp (maxDischargeDepth := 12) only [zbnu, kn, simprocAttr, qa, qb, qc, qd, Ow.enc, zjr.enc, zjs.enc, Sl.enc, *]
        ·cases h; subst hR; simp (maxDischargeDepth := 12) only [zbnu, kn, simprocAttr, qa, qb, qc, qd, Ow.enc, zjr.enc, zjs.enc, Sl.enc, *]
       ·cases h; subst hR; simp (maxDischargeDepth := 12) only [zbnu, kn, simprocAttr, qa, qb, qc, qd, Ow.enc, zjr.enc, zjs.enc, Sl.enc, *]
      ·cases h; subst hR; simp (maxDischargeDepth := 12) only [zbnu, kn, simprocAttr, qa, qb, qc, qd, Ow.enc, zjr.enc, zjs.enc, Sl.enc, *]
     ·cases h; subst hR; simp (maxDischargeDepth := 12) only [zbnu, kn, simprocAttr, qa, qb, qc, qd, Ow.enc, zjr.enc, zjs.enc, Sl.enc, *]
    ·cases h; subst hR; simp (maxDischargeDepth := 12) only [zbnu, kn, simprocAttr, qa, qb, qc, qd, Ow.enc, zjr.enc, zjs.enc, Sl.enc, *]
   ·cases h; subst hR; simp (maxDischargeDepth := 12) only [zbnu, kn, simprocAttr, qa, qb, qc, qd, Ow.enc, zjr.enc, zjs.enc, Sl.enc, *]
  ·cases h; subst hR; simp (maxDischargeDepth := 12) only [zbnu, kn, simprocAttr, qa, qb, qc, qd, Ow.enc, zjr.enc, zjs.enc, Sl.enc, *]
 ·cases h; subst hR; simp (maxDischargeDepth := 12) only [zbnu, kn, simprocAttr, qa, qb, qc, qd, Ow.enc, zjr.enc, zjs.enc, Sl.enc, *]
def zbnw (q : Nat) : Prop := ∀ (M : Nat) (hM : 8 * q ≤ M) (j : Nat) (hj : q ≤ j) (v0z : Bool) (v0l : List zjs) (v1 : Int) (v7z : Bool) (v7l : List zjs) (v8 : Int) (v9 : Int) (r : Bool) (_ : zkj q v0z v0l v1 v7z v7l v8 v9 = some r) (R : Option (List V)) (_ : some [V.bool r] = R) (fr : Fr) (H : Hp) (_ : canon 0 [0, 1, 7, 8, 9] fr H = ([(0, (.sl v0z (List.map zjs.enc v0l))), (1, (.int .i64 v1)), (7, (.sl v7z (List.map zjs.enc v7l))), (8, (.int .i64 v8)), (9, (.int .i64 v9))], [])), fin zo3 (unw T (orc T (M + 7)) (M + 7) 0 [.blk 0, .code zo0] (iter 0 [0, 1, 7, 8, 9] (exec T (orc T (M + 7)) (M + 7) 0 zox) j fr H)) = R
def zbnx := And.intro @kk <| And.intro @zbbq <| And.intro @zbdi <| And.intro @zbbs <| And.intro @zbbt <| @zbbu
theorem zbny (q : Nat) (zbqm : zbnw q) : zbnw (q + 1) := by
 intro M hM j hj v0z v0l v1 v7z v7l v8 v9 r h R hR fr H hc
 obtain ⟨j, rfl⟩ : ∃ i, j = i + 1 := ⟨j - 1, by omega⟩
 rw [zhr, hc]; clear hc
 rw [zkj] at h
 replace h := br h; rcases h with ⟨h1, h⟩ | ⟨h1, h⟩
 ·replace h := br h; rcases h with ⟨h2, h⟩ | ⟨h2, h⟩
  ·replace h := ob h; obtain ⟨e1, h3, h⟩ := h
   replace h := ob h; obtain ⟨r2, h4, h⟩ := h
   replace h4 := zbnv q (M + 7) (by omega) _ _ h4
   try simp only [Ow.enc, zjr.enc, zjs.enc, kn, simprocAttr, qa, qb, qc, qd] at h4
   replace h := bb h; rcases h with ⟨h5', h5, h⟩ | ⟨h5', h5, h⟩
   ·replace h := br h; rcases h with ⟨h6, h⟩ | ⟨h6, h⟩
    ·try simp only [kn, simprocAttr, qa, qb, qc, qd] at h6
     replace h := zbqm M (by omega) j (by omega) _ _ _ _ _ _ _ _ h R hR
     simp (maxDischargeDepth := 12) only [zbnx, kn, simprocAttr, qa, qb, qc, qd, Ow.enc, zjr.enc, zjs.enc, Sl.enc, *]
    ·try simp only [kn, simprocAttr, qa, qb, qc, qd] at h6
     cases h; subst hR; simp (maxDischargeDepth := 12) only [zbnx, kn, simprocAttr, qa, qb, qc, qd, Ow.enc, zjr.enc, zjs.enc, Sl.enc, *]
   ·cases h; subst hR; simp (maxDischargeDepth := 12) only [zbnx, kn, simprocAttr, qa, qb, qc, qd, Ow.enc, zjr.enc, zjs.enc, Sl.enc, *]
  ·cases h
 ·cases h; subst hR; simp (maxDischargeDepth := 12) only [zbnx, kn, simprocAttr, qa, qb, qc, qd, Ow.enc, zjr.enc, zjs.enc, Sl.enc, *]
theorem zbnz : ∀ q, zbnw q
 | 0 => by intro M hM j hj; intros; rename_i h _ _ _ _ _; cases h
 | q + 1 => by have i0 := zbnz q; exact zbny q i0
theorem zbn0 : ∀ (q N : Nat), 8 * q ≤ N → ∀ (a0 : (Sl zjs)) (a1 : Int), ∀ (r : Bool), zkk q a0 a1 = some r → (orc T N).deep F.zkk [(Sl.enc zjs.enc) a0, (V.int .i64) a1] = some [V.bool r] := by
 intro q N hM a0 a1 r h
 rcases q with _ | q
 ·cases h
 obtain ⟨M, rfl⟩ : ∃ M, N = M + 8 := ⟨N - 8, by omega⟩
 have zbqm := (zbnz q)
 generalize hR : some [V.bool r] = R
 rw [zh0, z8n, Option.bind_some, zhy]
 rw [zkk] at h
 replace h := zbqm M (by omega) (M + 7) (by omega) _ _ _ _ _ _ _ _ h R hR
 simp (maxDischargeDepth := 12) only [zbnx, kn, simprocAttr, qa, qb, qc, qd, Ow.enc, zjr.enc, zjs.enc, Sl.enc, *]
def zbn1 (q : Nat) : Prop := ∀ (M : Nat) (hM : 8 * q ≤ M) (j : Nat) (hj : q ≤ j) (v0z : Bool) (v0l : List zjs) (v5z : Bool) (v5l : List zjs) (v6 : Int) (v7 : Int) (r : Bool) (_ : zkl q v0z v0l v5z v5l v6 v7 = some r) (R : Option (List V)) (_ : some [V.bool r] = R) (fr : Fr) (H : Hp) (_ : canon 0 [0, 5, 6, 7] fr H = ([(0, (.sl v0z (List.map zjs.enc v0l))), (5, (.sl v5z (List.map zjs.enc v5l))), (6, (.int .i64 v6)), (7, (.int .i64 v7))], [])), fin zyz (unw T (orc T (M + 7)) (M + 7) 0 [.blk 0, .code zyw] (iter 0 [0, 5, 6, 7] (exec T (orc T (M + 7)) (M + 7) 0 zyt) j fr H)) = R
def zbn2 := And.intro @kk <| And.intro @zbf3 <| And.intro @zbdi <| And.intro @zbf5 <| And.intro @zbf6 <| @zbf7
theorem zbn3 (q : Nat) (zbqn : zbn1 q) : zbn1 (q + 1) := by
 intro M hM j hj v0z v0l v5z v5l v6 v7 r h R hR fr H hc
 obtain ⟨j, rfl⟩ : ∃ i, j = i + 1 := ⟨j - 1, by omega⟩
 rw [zhr, hc]; clear hc
 rw [zkl] at h
 replace h := br h; rcases h with ⟨h1, h⟩ | ⟨h1, h⟩
 ·replace h := br h; rcases h with ⟨h2, h⟩ | ⟨h2, h⟩
  ·replace h := ob h; obtain ⟨e1, h3, h⟩ := h
   replace h := ob h; obtain ⟨r2, h4, h⟩ := h
   replace h4 := zbnv q (M + 7) (by omega) _ _ h4
   try simp only [Ow.enc, zjr.enc, zjs.enc, kn, simprocAttr, qa, qb, qc, qd] at h4
   replace h := bb h; rcases h with ⟨h5', h5, h⟩ | ⟨h5', h5, h⟩
   ·replace h := ob h; obtain ⟨e3, h6, h⟩ := h
    replace h := br h; rcases h with ⟨h7, h⟩ | ⟨h7, h⟩
    ·try simp only [kn, simprocAttr, qa, qb, qc, qd] at h7
     replace h := zbqn M (by omega) j (by omega) _ _ _ _ _ _ _ h R hR
     simp (maxDischargeDepth := 12) only [zbn2, kn, simprocAttr, qa, qb, qc, qd, Ow.enc, zjr.enc, zjs.enc, Sl.enc, *]
    ·try simp only [kn, simprocAttr, qa, qb, qc, qd] at h7
     cases h; subst hR; simp (maxDischargeDepth := 12) only [zbn2, kn, simprocAttr, qa, qb, qc, qd, Ow.enc, zjr.enc, zjs.enc, Sl.enc, *]
   ·cases h; subst hR; simp (maxDischargeDepth := 12) only [zbn2, kn, simprocAttr, qa, qb, qc, qd, Ow.enc, zjr.enc, zjs.enc, Sl.enc, *]
  ·cases h
 ·replace h := br h; rcases h with ⟨h8, h⟩ | ⟨h8, h⟩
  ·cases h; subst hR; simp (maxDischargeDepth := 12) only [zbn2, kn, simprocAttr, qa, qb, qc, qd, Ow.enc, zjr.enc, zjs.enc, Sl.enc, *]
  ·cases h; subst hR; simp (maxDischargeDepth := 12) only [zbn2, kn, simprocAttr, qa, qb, qc, qd, Ow.enc, zjr.enc, zjs.enc, Sl.enc, *]
theorem zbn4 : ∀ q, zbn1 q
 | 0 => by intro M hM j hj; intros; rename_i h _ _ _ _ _; cases h
 | q + 1 => by have i0 := zbn4 q; exact zbn3 q i0
theorem zbn5 : ∀ (q N : Nat), 8 * q ≤ N → ∀ (a0 : (Sl zjs)), ∀ (r : Bool), zkm q a0 = some r → (orc T N).deep F.zkm [(Sl.enc zjs.enc) a0] = some [V.bool r] := by
 intro q N hM a0 r h
 rcases q with _ | q
 ·cases h
 obtain ⟨M, rfl⟩ : ∃ M, N = M + 8 := ⟨N - 8, by omega⟩
 have zbqn := (zbn4 q)
 generalize hR : some [V.bool r] = R
 rw [zh0, z9k, Option.bind_some, zhy]
 rw [zkm] at h
 replace h := zbqn M (by omega) (M + 7) (by omega) _ _ _ _ _ _ _ h R hR
 simp (maxDischargeDepth := 12) only [zbn2, kn, simprocAttr, qa, qb, qc, qd, Ow.enc, zjr.enc, zjs.enc, Sl.enc, *]
def zbn6 := And.intro @kk <| And.intro @zbh1 <| And.intro @zbh3 <| And.intro @zbh4 <| @zbh5
theorem zbn7 : ∀ (q N : Nat), 8 * q ≤ N → ∀ (a0 : Int), ∀ (r : Int), zkn q a0 = some r → (orc T N).deep F.zkn [(V.int .i64) a0] = some [(V.int .u64) r] := by
 intro q N hM a0 r h
 rcases q with _ | q
 ·cases h
 obtain ⟨M, rfl⟩ : ∃ M, N = M + 8 := ⟨N - 8, by omega⟩
 generalize hR : some [(V.int .u64) r] = R
 rw [zh0, z9y, Option.bind_some, zhy]
 rw [zkn] at h
 cases h; subst hR; simp (maxDischargeDepth := 12) only [zbn6, kn, simprocAttr, qa, qb, qc, qd, Ow.enc, Sl.enc, *]
def zbn8 := And.intro @kk <| And.intro @zbf8 <| And.intro @zbd0 <| And.intro @zbh2 <| And.intro @zbga <| And.intro @zbgb <| @zbgc
theorem zbn9 : ∀ (q N : Nat), 8 * q ≤ N → ∀ (a0 : (Ow Int)) (a1 : Int), ∀ (r : (Ow Int)), zko q a0 a1 = some r → (orc T N).deep F.zko [(Ow.enc 1 (V.int .u8)) a0, (V.int .i64) a1] = some [(Ow.enc 1 (V.int .u8)) r] := by
 intro q N hM a0 a1 r h
 rcases q with _ | q
 ·cases h
 obtain ⟨M, rfl⟩ : ∃ M, N = M + 8 := ⟨N - 8, by omega⟩
 generalize hR : some [(Ow.enc 1 (V.int .u8)) r] = R
 rw [zh0, z9l, Option.bind_some, zhy]
 rw [zko] at h
 replace h := ob h; obtain ⟨r1, h1, h⟩ := h
 replace h1 := zbn7 q (M + 7) (by omega) _ _ h1
 replace h := ob h; obtain ⟨r2, h2, h⟩ := h
 replace h2 := zbmj q (M + 7) (by omega) _ _ _ h2
 try simp only [Ow.enc, Sl.enc, kn, simprocAttr, qa, qb, qc, qd] at h2
 cases h; subst hR; simp (maxDischargeDepth := 12) only [zbn8, kn, simprocAttr, qa, qb, qc, qd, Ow.enc, Sl.enc, *]
def zboa := And.intro @kk <| And.intro @zbgd <| And.intro @zbcl <| And.intro @zbev <| And.intro @zbf9 <| And.intro @zbgf <| And.intro @zbgg <| @zbgh
theorem zbob : ∀ (q N : Nat), 8 * q ≤ N → ∀ (a0 : (Ow Int)) (a1 : zjr), ∀ (r : (Ow Int) × Int), zkp q a0 a1 = some r → (orc T N).deep F.zkp [(Ow.enc 1 (V.int .u8)) a0, zjr.enc a1] = some [(Ow.enc 1 (V.int .u8)) r.1, (V.int .i64) r.2] := by
 intro q N hM a0 a1 r h
 rcases q with _ | q
 ·cases h
 obtain ⟨M, rfl⟩ : ∃ M, N = M + 8 := ⟨N - 8, by omega⟩
 generalize hR : some [(Ow.enc 1 (V.int .u8)) r.1, (V.int .i64) r.2] = R
 rw [zh0, z9m, Option.bind_some, zhy]
 rw [zkp] at h
 replace h := ob h; obtain ⟨r1, h1, h⟩ := h
 replace h1 := zbnt q (M + 7) (by omega) _ _ h1
 try simp only [Ow.enc, zjr.enc, kn, simprocAttr, qa, qb, qc, qd] at h1
 replace h := bb h; rcases h with ⟨h2', h2, h⟩ | ⟨h2', h2, h⟩
 ·replace h := ob h; obtain ⟨r2, h3, h⟩ := h
  replace h3 := zbml q (M + 7) (by omega) _ _ _ h3
  try simp only [Ow.enc, Sl.enc, kn, simprocAttr, qa, qb, qc, qd] at h3
  replace h := ob h; obtain ⟨r3, h4, h⟩ := h
  replace h4 := zbn9 q (M + 7) (by omega) _ _ _ h4
  try simp only [Ow.enc, Sl.enc, kn, simprocAttr, qa, qb, qc, qd] at h4
  replace h := ob h; obtain ⟨r4, h5, h⟩ := h
  replace h5 := zbn9 q (M + 7) (by omega) _ _ _ h5
  try simp only [Ow.enc, Sl.enc, kn, simprocAttr, qa, qb, qc, qd] at h5
  cases h; subst hR; simp (maxDischargeDepth := 12) only [zboa, kn, simprocAttr, qa, qb, qc, qd, Ow.enc, zjr.enc, Sl.enc, *]
 ·cases h; subst hR; simp (maxDischargeDepth := 12) only [zboa, kn, simprocAttr, qa, qb, qc, qd, Ow.enc, zjr.enc, Sl.enc, *]
def zboc (q : Nat) : Prop := ∀ (M : Nat) (hM : 8 * q ≤ M) (j : Nat) (hj : q ≤ j) (v20z : Bool) (v20l : List zjs) (v21 : Int) (v22 : Int) (h0m : List (Int × Int)) (h1z : Bool) (h1l : List Int) (h1x : Bool) (r : (Ow Int) × Int) (_ : zkq q v20z v20l v21 v22 h0m h1z h1l h1x = some r) (R : Option (List V)) (_ : some [(Ow.enc 1 (V.int .u8)) r.1, (V.int .i64) r.2] = R) (fr : Fr) (H : Hp) (_ : canon 0 [4, 5, 20, 21, 22] fr H = ([(4, (.mp 0)), (5, (.vw 1 0 0 h1l.length 1)), (20, (.sl v20z (List.map zjs.enc v20l))), (21, (.int .i64 v21)), (22, (.int .i64 v22))], [(.map h0m), (.row 0 h1z 1 (List.map (V.int .u8) h1l) h1x)])), fin zvy (unw T (orc T (M + 7)) (M + 7) 0 [.blk 0, .code zvs] (iter 0 [4, 5, 20, 21, 22] (exec T (orc T (M + 7)) (M + 7) 0 zvp) j fr H)) = R
def zbod := And.intro @kk <| And.intro @zbez <| And.intro @zbcl <| And.intro @zbf4 <| And.intro @zbf9 <| And.intro @zbge <| And.intro @zbe1 <| And.intro @zbe2 <| @zbe3
theorem zboe (q : Nat) (zbqo : zboc q) : zboc (q + 1) := by
 intro M hM j hj v20z v20l v21 v22 h0m h1z h1l h1x r h R hR fr H hc
 obtain ⟨j, rfl⟩ : ∃ i, j = i + 1 := ⟨j - 1, by omega⟩
 rw [zhr, hc]; clear hc
 rw [zkq] at h
 replace h := br h; rcases h with ⟨h1, h⟩ | ⟨h1, h⟩
 ·replace h := br h; rcases h with ⟨h2, h⟩ | ⟨h2, h⟩
  ·replace h := ob h; obtain ⟨e5, h3, h⟩ := h
   replace h := ob h; obtain ⟨r6, h4, h⟩ := h
   replace h4 := zbml q (M + 7) (by omega) _ _ _ h4
   try simp only [Ow.enc, Sl.enc, kn, simprocAttr, qa, qb, qc, qd] at h4
   replace h := ob h; obtain ⟨r7, h5, h⟩ := h
   replace h5 := zbn9 q (M + 7) (by omega) _ _ _ h5
   try simp only [Ow.enc, Sl.enc, kn, simprocAttr, qa, qb, qc, qd] at h5
   replace h := ob h; obtain ⟨r8, h6, h⟩ := h
   replace h6 := zbob q (M + 7) (by omega) _ _ _ h6
   try simp only [Ow.enc, zjr.enc, Sl.enc, kn, simprocAttr, qa, qb, qc, qd] at h6
   replace h := ob h; obtain ⟨r9, h7, h⟩ := h
   replace h7 := zbn9 q (M + 7) (by omega) _ _ _ h7
   try simp only [Ow.enc, Sl.enc, kn, simprocAttr, qa, qb, qc, qd] at h7
   replace h := zbqo M (by omega) j (by omega) _ _ _ _ _ _ _ _ _ h R hR
   simp (maxDischargeDepth := 12) only [zbod, kn, simprocAttr, qa, qb, qc, qd, Ow.enc, zjr.enc, zjs.enc, Sl.enc, *]
  ·cases h
 ·cases h; subst hR; simp (maxDischargeDepth := 12) only [zbod, kn, simprocAttr, qa, qb, qc, qd, Ow.enc, zjr.enc, zjs.enc, Sl.enc, *]
theorem zbof : ∀ q, zboc q
 | 0 => by intro M hM j hj; intros; rename_i h _ _ _ _ _; cases h
 | q + 1 => by have i0 := zbof q; exact zboe q i0
theorem zbog : ∀ (q N : Nat), 8 * q ≤ N → ∀ (a0 : (Sl zjs)), ∀ (r : (Ow Int) × Int), zkr q a0 = some r → (orc T N).deep F.zkr [(Sl.enc zjs.enc) a0] = some [(Ow.enc 1 (V.int .u8)) r.1, (V.int .i64) r.2] := by
 intro q N hM a0 r h
 rcases q with _ | q
 ·cases h
 obtain ⟨M, rfl⟩ : ∃ M, N = M + 8 := ⟨N - 8, by omega⟩
 have zbqo := (zbof q)
 generalize hR : some [(Ow.enc 1 (V.int .u8)) r.1, (V.int .i64) r.2] = R
 rw [zh0, z9c, Option.bind_some, zhy]
 rw [zkr] at h
 replace h := ob h; obtain ⟨r1, h1, h⟩ := h
 replace h1 := zbn5 q (M + 7) (by omega) _ _ h1
 try simp only [Ow.enc, zjr.enc, zjs.enc, Sl.enc, kn, simprocAttr, qa, qb, qc, qd] at h1
 replace h := bb h; rcases h with ⟨h2', h2, h⟩ | ⟨h2', h2, h⟩
 ·replace h := ob h; obtain ⟨e2, h3, h⟩ := h
  replace h := ob h; obtain ⟨r3, h4, h⟩ := h
  replace h4 := zbml q (M + 7) (by omega) _ _ _ h4
  try simp only [Ow.enc, Sl.enc, kn, simprocAttr, qa, qb, qc, qd] at h4
  replace h := ob h; obtain ⟨r4, h5, h⟩ := h
  replace h5 := zbml q (M + 7) (by omega) _ _ _ h5
  try simp only [Ow.enc, Sl.enc, kn, simprocAttr, qa, qb, qc, qd] at h5
  replace h := zbqo M (by omega) (M + 7) (by omega) _ _ _ _ _ _ _ _ _ h R hR
  simp (maxDischargeDepth := 12) only [zbod, kn, simprocAttr, qa, qb, qc, qd, Ow.enc, zjr.enc, zjs.enc, Sl.enc, *]
 ·cases h; subst hR; simp (maxDischargeDepth := 12) only [zbod, kn, simprocAttr, qa, qb, qc, qd, Ow.enc, zjr.enc, zjs.enc, Sl.enc, *]
def zboh := And.intro @kk <| And.intro @zbgi <| And.intro @zbgk <| And.intro @zbgl <| @zbgm
theorem zboi : ∀ (q N : Nat), 8 * q ≤ N → ∀ (a0 : Int), ∀ (r : (Ow Int)), zks q a0 = some r → (orc T N).deep F.zks [(V.int .i64) a0] = some [(Ow.enc 1 (V.int .i64)) r] := by
 intro q N hM a0 r h
 rcases q with _ | q
 ·cases h
 obtain ⟨M, rfl⟩ : ∃ M, N = M + 8 := ⟨N - 8, by omega⟩
 generalize hR : some [(Ow.enc 1 (V.int .i64)) r] = R
 rw [zh0, z9n, Option.bind_some, zhy]
 rw [zks] at h
 replace h := br h; rcases h with ⟨h1, h⟩ | ⟨h1, h⟩
 ·cases h; subst hR; simp (maxDischargeDepth := 12) only [zboh, kn, simprocAttr, qa, qb, qc, qd, Ow.enc, Sl.enc, *]
 ·replace h := br h; rcases h with ⟨h2, h⟩ | ⟨h2, h⟩
  ·cases h; subst hR; simp (maxDischargeDepth := 12) only [zboh, kn, simprocAttr, qa, qb, qc, qd, Ow.enc, Sl.enc, *]
  ·replace h := br h; rcases h with ⟨h3, h⟩ | ⟨h3, h⟩
   ·replace h := br h; rcases h with ⟨h4, h⟩ | ⟨h4, h⟩
    ·replace h := bc h; rcases h with ⟨h5, h⟩ | ⟨h5, h⟩
     ·cases h; subst hR; simp (maxDischargeDepth := 12) only [zboh, kn, simprocAttr, qa, qb, qc, qd, Ow.enc, Sl.enc, *]
     ·replace h := bc h; rcases h with ⟨h6, h⟩ | ⟨h6, h⟩
      ·cases h; subst hR; simp (maxDischargeDepth := 12) only [zboh, kn, simprocAttr, qa, qb, qc, qd, Ow.enc, Sl.enc, *]
      ·replace h := bc h; rcases h with ⟨h7, h⟩ | ⟨h7, h⟩
       ·cases h; subst hR; simp (maxDischargeDepth := 12) only [zboh, kn, simprocAttr, qa, qb, qc, qd, Ow.enc, Sl.enc, *]
       ·replace h := bc h; rcases h with ⟨h8, h⟩ | ⟨h8, h⟩
        ·cases h; subst hR; simp (maxDischargeDepth := 12) only [zboh, kn, simprocAttr, qa, qb, qc, qd, Ow.enc, Sl.enc, *]
        ·cases h
    ·cases h
   ·cases h
def zboj := And.intro @kk <| And.intro @zbgn <| And.intro @zbcl <| And.intro @zbf9 <| And.intro @zbge <| And.intro @zbgp <| And.intro @zbgq <| @zbgr
theorem zbok : ∀ (q N : Nat), 8 * q ≤ N → ∀ (a0 : (Ow Int)) (a1 : Int) (a2 : zjs), ∀ (r : (Ow Int)), zkt q a0 a1 a2 = some r → (orc T N).deep F.zkt [(Ow.enc 1 (V.int .u8)) a0, (V.int .i64) a1, zjs.enc a2] = some [(Ow.enc 1 (V.int .u8)) r] := by
 intro q N hM a0 a1 a2 r h
 rcases q with _ | q
 ·cases h
 obtain ⟨M, rfl⟩ : ∃ M, N = M + 8 := ⟨N - 8, by omega⟩
 generalize hR : some [(Ow.enc 1 (V.int .u8)) r] = R
 rw [zh0, z9o, Option.bind_some, zhy]
 rw [zkt] at h
 replace h := ob h; obtain ⟨r1, h1, h⟩ := h
 replace h1 := zbml q (M + 7) (by omega) _ _ _ h1
 try simp only [Ow.enc, Sl.enc, kn, simprocAttr, qa, qb, qc, qd] at h1
 replace h := br h; rcases h with ⟨h2, h⟩ | ⟨h2, h⟩
 ·replace h := ob h; obtain ⟨r2, h3, h⟩ := h
  replace h3 := zbml q (M + 7) (by omega) _ _ _ h3
  try simp only [Ow.enc, Sl.enc, kn, simprocAttr, qa, qb, qc, qd] at h3
  cases h; subst hR; simp (maxDischargeDepth := 12) only [zboj, kn, simprocAttr, qa, qb, qc, qd, Ow.enc, zjr.enc, zjs.enc, Sl.enc, *]
 ·replace h := br h; rcases h with ⟨h4, h⟩ | ⟨h4, h⟩
  ·replace h := ob h; obtain ⟨r3, h5, h⟩ := h
   replace h5 := zbml q (M + 7) (by omega) _ _ _ h5
   try simp only [Ow.enc, Sl.enc, kn, simprocAttr, qa, qb, qc, qd] at h5
   cases h; subst hR; simp (maxDischargeDepth := 12) only [zboj, kn, simprocAttr, qa, qb, qc, qd, Ow.enc, zjr.enc, zjs.enc, Sl.enc, *]
  ·replace h := br h; rcases h with ⟨h6, h⟩ | ⟨h6, h⟩
   ·replace h := ob h; obtain ⟨r4, h7, h⟩ := h
    replace h7 := zbml q (M + 7) (by omega) _ _ _ h7
    try simp only [Ow.enc, Sl.enc, kn, simprocAttr, qa, qb, qc, qd] at h7
    cases h; subst hR; simp (maxDischargeDepth := 12) only [zboj, kn, simprocAttr, qa, qb, qc, qd, Ow.enc, zjr.enc, zjs.enc, Sl.enc, *]
   ·replace h := br h; rcases h with ⟨h8, h⟩ | ⟨h8, h⟩
    ·replace h := ob h; obtain ⟨r5, h9, h⟩ := h
     replace h9 := zbob q (M + 7) (by omega) _ _ _ h9
     try simp only [Ow.enc, zjr.enc, Sl.enc, kn, simprocAttr, qa, qb, qc, qd] at h9
     cases h; subst hR; simp (maxDischargeDepth := 12) only [zboj, kn, simprocAttr, qa, qb, qc, qd, Ow.enc, zjr.enc, zjs.enc, Sl.enc, *]
    ·replace h := ob h; obtain ⟨r6, h10, h⟩ := h
     replace h10 := zbn9 q (M + 7) (by omega) _ _ _ h10
     try simp only [Ow.enc, Sl.enc, kn, simprocAttr, qa, qb, qc, qd] at h10
     cases h; subst hR; simp (maxDischargeDepth := 12) only [zboj, kn, simprocAttr, qa, qb, qc, qd, Ow.enc, zjr.enc, zjs.enc, Sl.enc, *]
def zbol (q : Nat) : Prop := ∀ (M : Nat) (hM : 8 * q ≤ M) (j : Nat) (hj : q ≤ j) (v22 : Int) (v23 : Int) (h0_0 : Int) (h0_1 : Int) (h0_2 : Int) (h0_3 : Int) (h0_4 : Int) (h0_5 : Int) (h0_6 : Int) (h1z : Bool) (h1l : List Int) (h1x : Bool) (h2z : Bool) (h2l : List Int) (h2x : Bool) (r : (Ow Int) × Int) (_ : zku q v22 v23 h0_0 h0_1 h0_2 h0_3 h0_4 h0_5 h0_6 h1z h1l h1x h2z h2l h2x = some r) (R : Option (List V)) (_ : some [(Ow.enc 1 (V.int .u8)) r.1, (V.int .i64) r.2] = R) (fr : Fr) (H : Hp) (_ : canon 0 [3, 7, 21, 22, 23] fr H = ([(3, (.ptr 0 0)), (7, (.vw 1 0 0 h1l.length 1)), (21, (.vw 2 0 0 h2l.length 1)), (22, (.int .i64 v22)), (23, (.int .i64 v23))], [(.box [(.int .i64 h0_0), (.int .i64 h0_1), (.int .i64 h0_2), (.int .i64 h0_3), (.int .i64 h0_4), (.int .i64 h0_5), (.int .i64 h0_6)]), (.row 0 h1z 1 (List.map (V.int .u8) h1l) h1x), (.row 0 h2z 1 (List.map (V.int .i64) h2l) h2x)])), fin zwh (unw T (orc T (M + 7)) (M + 7) 0 [.blk 1, .code zwb] (iter 0 [3, 7, 21, 22, 23] (exec T (orc T (M + 7)) (M + 7) 0 zv8) j fr H)) = R
def zbom := And.intro @kk <| And.intro @zbe4 <| And.intro @zbcl <| And.intro @zbdi <| And.intro @zbgj <| And.intro @zbgo <| And.intro @zbe6 <| And.intro @zbe7 <| @zbe8
theorem zbon (q : Nat) (zbqp : zbol q) : zbol (q + 1) := by
 intro M hM j hj v22 v23 h0_0 h0_1 h0_2 h0_3 h0_4 h0_5 h0_6 h1z h1l h1x h2z h2l h2x r h R hR fr H hc
 obtain ⟨j, rfl⟩ : ∃ i, j = i + 1 := ⟨j - 1, by omega⟩
 rw [zhr, hc]; clear hc
 rw [zku] at h
 replace h := br h; rcases h with ⟨h1, h⟩ | ⟨h1, h⟩
 ·replace h := br h; rcases h with ⟨h2, h⟩ | ⟨h2, h⟩
  ·replace h := br h; rcases h with ⟨h3, h⟩ | ⟨h3, h⟩
   ·replace h := ob h; obtain ⟨e4, h4, h⟩ := h
    replace h := ob h; obtain ⟨r5, h5, h⟩ := h
    replace h5 := zbok q (M + 7) (by omega) _ _ _ _ h5
    try simp only [Ow.enc, zjr.enc, zjs.enc, Sl.enc, kn, simprocAttr, qa, qb, qc, qd] at h5
    replace h := zbqp M (by omega) j (by omega) _ _ _ _ _ _ _ _ _ _ _ _ _ _ _ _ h R hR
    simp (maxDischargeDepth := 12) only [zbom, kn, simprocAttr, qa, qb, qc, qd, Ow.enc, zjr.enc, zjs.enc, Sl.enc, *]
   ·cases h
  ·cases h
 ·cases h; subst hR; simp (maxDischargeDepth := 12) only [zbom, kn, simprocAttr, qa, qb, qc, qd, Ow.enc, zjr.enc, zjs.enc, Sl.enc, *]
theorem zboo : ∀ q, zbol q
 | 0 => by intro M hM j hj; intros; rename_i h _ _ _ _ _; cases h
 | q + 1 => by have i0 := zboo q; exact zbon q i0
theorem zbop : ∀ (q N : Nat), 8 * q ≤ N → ∀ (a0 : Int) (a1 : zjs), ∀ (r : (Ow Int) × Int), zkv q a0 a1 = some r → (orc T N).deep F.zkv [(V.int .i64) a0, zjs.enc a1] = some [(Ow.enc 1 (V.int .u8)) r.1, (V.int .i64) r.2] := by
 intro q N hM a0 a1 r h
 rcases q with _ | q
 ·cases h
 obtain ⟨M, rfl⟩ : ∃ M, N = M + 8 := ⟨N - 8, by omega⟩
 have zbqp := (zboo q)
 generalize hR : some [(Ow.enc 1 (V.int .u8)) r.1, (V.int .i64) r.2] = R
 rw [zh0, z9d, Option.bind_some, zhy]
 rw [zkv] at h
 replace h := ob h; obtain ⟨r1, h1, h⟩ := h
 replace h1 := zboi q (M + 7) (by omega) _ _ h1
 try simp only [Ow.enc, kn, simprocAttr, qa, qb, qc, qd] at h1
 replace h := bb h; rcases h with ⟨h2', h2, h⟩ | ⟨h2', h2, h⟩
 ·cases h; subst hR; simp (maxDischargeDepth := 12) only [zbom, kn, simprocAttr, qa, qb, qc, qd, Ow.enc, zjr.enc, zjs.enc, Sl.enc, *]
 ·replace h := ob h; obtain ⟨r2, h3, h⟩ := h
  replace h3 := zbnv q (M + 7) (by omega) _ _ h3
  try simp only [Ow.enc, zjr.enc, zjs.enc, kn, simprocAttr, qa, qb, qc, qd] at h3
  replace h := bb h; rcases h with ⟨h4', h4, h⟩ | ⟨h4', h4, h⟩
  ·replace h := ob h; obtain ⟨r3, h5, h⟩ := h
   replace h5 := zbml q (M + 7) (by omega) _ _ _ h5
   try simp only [Ow.enc, Sl.enc, kn, simprocAttr, qa, qb, qc, qd] at h5
   replace h := zbqp M (by omega) (M + 7) (by omega) _ _ _ _ _ _ _ _ _ _ _ _ _ _ _ _ h R hR
   simp (maxDischargeDepth := 12) only [zbom, kn, simprocAttr, qa, qb, qc, qd, Ow.enc, zjr.enc, zjs.enc, Sl.enc, *]
  ·cases h; subst hR; simp (maxDischargeDepth := 12) only [zbom, kn, simprocAttr, qa, qb, qc, qd, Ow.enc, zjr.enc, zjs.enc, Sl.enc, *]
def zboq (q : Nat) : Prop := ∀ (M : Nat) (hM : 8 * q ≤ M) (j : Nat) (hj : q ≤ j) (v0 : Int) (v20z : Bool) (v20l : List zjs) (v21 : Int) (v22 : Int) (h0z : Bool) (h0l : List Int) (h0x : Bool) (r : (Ow Int)) (_ : zkw q v0 v20z v20l v21 v22 h0z h0l h0x = some r) (R : Option (List V)) (_ : some [(Ow.enc 1 (V.int .u8)) r] = R) (fr : Fr) (H : Hp) (_ : canon 0 [0, 7, 20, 21, 22] fr H = ([(0, (.int .i64 v0)), (7, (.vw 0 0 0 h0l.length 1)), (20, (.sl v20z (List.map zjs.enc v20l))), (21, (.int .i64 v21)), (22, (.int .i64 v22))], [(.row 0 h0z 1 (List.map (V.int .u8) h0l) h0x)])), fin zst (unw T (orc T (M + 7)) (M + 7) 0 [.blk 0, .code zso] (iter 0 [0, 7, 20, 21, 22] (exec T (orc T (M + 7)) (M + 7) 0 zsl) j fr H)) = R
def zbor := And.intro @kk <| And.intro @zbdm <| And.intro @zbcl <| And.intro @zbe0 <| And.intro @zbe5 <| And.intro @zbdo <| And.intro @zbdp <| @zbdq
theorem zbos (q : Nat) (zbqq : zboq q) : zboq (q + 1) := by
 intro M hM j hj v0 v20z v20l v21 v22 h0z h0l h0x r h R hR fr H hc
 obtain ⟨j, rfl⟩ : ∃ i, j = i + 1 := ⟨j - 1, by omega⟩
 rw [zhr, hc]; clear hc
 rw [zkw] at h
 replace h := br h; rcases h with ⟨h1, h⟩ | ⟨h1, h⟩
 ·replace h := br h; rcases h with ⟨h2, h⟩ | ⟨h2, h⟩
  ·replace h := ob h; obtain ⟨e2, h3, h⟩ := h
   replace h := ob h; obtain ⟨r3, h4, h⟩ := h
   replace h4 := zbop q (M + 7) (by omega) _ _ _ h4
   try simp only [Ow.enc, zjr.enc, zjs.enc, kn, simprocAttr, qa, qb, qc, qd] at h4
   replace h := ob h; obtain ⟨r4, h5, h⟩ := h
   replace h5 := zbml q (M + 7) (by omega) _ _ _ h5
   try simp only [Ow.enc, Sl.enc, kn, simprocAttr, qa, qb, qc, qd] at h5
   replace h := br h; rcases h with ⟨h6, h⟩ | ⟨h6, h⟩
   ·try simp only [kn, simprocAttr, qa, qb, qc, qd] at h6
    replace h := zbqq M (by omega) j (by omega) _ _ _ _ _ _ _ _ _ h R hR
    simp (maxDischargeDepth := 12) only [zbor, kn, simprocAttr, qa, qb, qc, qd, Ow.enc, zjr.enc, zjs.enc, Sl.enc, *]
   ·try simp only [kn, simprocAttr, qa, qb, qc, qd] at h6
    cases h
  ·cases h
 ·cases h; subst hR; simp (maxDischargeDepth := 12) only [zbor, kn, simprocAttr, qa, qb, qc, qd, Ow.enc, zjr.enc, zjs.enc, Sl.enc, *]
theorem zbot : ∀ q, zboq q
 | 0 => by intro M hM j hj; intros; rename_i h _ _ _ _ _; cases h
 | q + 1 => by have i0 := zbot q; exact zbos q i0
theorem zbou : ∀ (q N : Nat), 8 * q ≤ N → ∀ (a0 : Int) (a1 : (Sl zjs)), ∀ (r : (Ow Int)), zkx q a0 a1 = some r → (orc T N).deep F.zkx [(V.int .i64) a0, (Sl.enc zjs.enc) a1] = some [(Ow.enc 1 (V.int .u8)) r] := by
 intro q N hM a0 a1 r h
 rcases q with _ | q
 ·cases h
 obtain ⟨M, rfl⟩ : ∃ M, N = M + 8 := ⟨N - 8, by omega⟩
 have zbqq := (zbot q)
 generalize hR : some [(Ow.enc 1 (V.int .u8)) r] = R
 rw [zh0, z81, Option.bind_some, zhy]
 rw [zkx] at h
 replace h := br h; rcases h with ⟨h1, h⟩ | ⟨h1, h⟩
 ·replace h := ob h; obtain ⟨r1, h2, h⟩ := h
  replace h2 := zbog q (M + 7) (by omega) _ _ h2
  try simp only [Ow.enc, zjr.enc, zjs.enc, Sl.enc, kn, simprocAttr, qa, qb, qc, qd] at h2
  cases h; subst hR; simp (maxDischargeDepth := 12) only [zbor, kn, simprocAttr, qa, qb, qc, qd, Ow.enc, zjr.enc, zjs.enc, Sl.enc, *]
 ·replace h := zbqq M (by omega) (M + 7) (by omega) _ _ _ _ _ _ _ _ _ h R hR
  simp (maxDischargeDepth := 12) only [zbor, kn, simprocAttr, qa, qb, qc, qd, Ow.enc, zjr.enc, zjs.enc, Sl.enc, *]
def zbov (q : Nat) : Prop := ∀ (M : Nat) (hM : 8 * q ≤ M) (j : Nat) (hj : q ≤ j) (v0 : Int) (v1z : Bool) (v1l : List zjs) (h0z : Bool) (h0l : List (Sl Int)) (r : (Ow (Sl Int))) (_ : zky q v0 v1z v1l h0z h0l = some r) (R : Option (List V)) (_ : some [(Ow.enc 1 (Sl.enc (V.int .u8))) r] = R) (fr : Fr) (H : Hp) (_ : canon 0 [0, 1, 5] fr H = ([(0, (.int .i64 v0)), (1, (.sl v1z (List.map zjs.enc v1l))), (5, (.vw 0 0 0 h0l.length 1))], [(.row 0 h0z 1 (List.map (Sl.enc (V.int .u8)) h0l) true)])), fin zpb (unw T (orc T (M + 7)) (M + 7) 0 [.blk 0, .code zo7] (iter 0 [0, 1, 5] (exec T (orc T (M + 7)) (M + 7) 0 zo5) j fr H)) = R
def zbow := And.intro @kk <| And.intro @zbbv <| And.intro @zbcg <| And.intro @zbdn <| And.intro @zbbx <| And.intro @zbby <| @zbbz
theorem zbox (q : Nat) (zbqr : zbov q) : zbov (q + 1) := by
 intro M hM j hj v0 v1z v1l h0z h0l r h R hR fr H hc
 obtain ⟨j, rfl⟩ : ∃ i, j = i + 1 := ⟨j - 1, by omega⟩
 rw [zhr, hc]; clear hc
 rw [zky] at h
 replace h := br h; rcases h with ⟨h1, h⟩ | ⟨h1, h⟩
 ·replace h := br h; rcases h with ⟨h2, h⟩ | ⟨h2, h⟩
  ·replace h := br h; rcases h with ⟨h3, h⟩ | ⟨h3, h⟩
   ·replace h := br h; rcases h with ⟨h4, h⟩ | ⟨h4, h⟩
    ·replace h := ob h; obtain ⟨r1, h5, h⟩ := h
     replace h5 := zbou q (M + 7) (by omega) _ _ _ h5
     try simp only [Ow.enc, zjr.enc, zjs.enc, Sl.enc, kn, simprocAttr, qa, qb, qc, qd] at h5
     replace h := ob h; obtain ⟨r2, h6, h⟩ := h
     replace h6 := zbnn q (M + 7) (by omega) _ _ h6
     try simp only [Ow.enc, Sl.enc, kn, simprocAttr, qa, qb, qc, qd] at h6
     replace h := br h; rcases h with ⟨h7, h⟩ | ⟨h7, h⟩
     ·try simp only [kn, simprocAttr, qa, qb, qc, qd] at h7
      replace h := br h; rcases h with ⟨h8, h⟩ | ⟨h8, h⟩
      ·replace h := zbqr M (by omega) j (by omega) _ _ _ _ _ _ h R hR
       simp (maxDischargeDepth := 12) only [zbow, kn, simprocAttr, qa, qb, qc, qd, Ow.enc, zjr.enc, zjs.enc, Sl.enc, *]
      ·cases h
     ·try simp only [kn, simprocAttr, qa, qb, qc, qd] at h7
      cases h
    ·cases h
   ·cases h
  ·cases h
 ·cases h; subst hR; simp (maxDischargeDepth := 12) only [zbow, kn, simprocAttr, qa, qb, qc, qd, Ow.enc, zjr.enc, zjs.enc, Sl.enc, *]
theorem zboy : ∀ q, zbov q
 | 0 => by intro M hM j hj; intros; rename_i h _ _ _ _ _; cases h
 | q + 1 => by have i0 := zboy q; exact zbox q i0
theorem zboz : ∀ (q N : Nat), 8 * q ≤ N → ∀ (a0 : Int) (a1 : (Sl zjs)), ∀ (r : (Ow (Sl Int))), zkz q a0 a1 = some r → (orc T N).deep F.zkz [(V.int .i64) a0, (Sl.enc zjs.enc) a1] = some [(Ow.enc 1 (Sl.enc (V.int .u8))) r] := by
 intro q N hM a0 a1 r h
 rcases q with _ | q
 ·cases h
 obtain ⟨M, rfl⟩ : ∃ M, N = M + 8 := ⟨N - 8, by omega⟩
 have zbqr := (zboy q)
 generalize hR : some [(Ow.enc 1 (Sl.enc (V.int .u8))) r] = R
 rw [zh0, z8o, Option.bind_some, zhy]
 rw [zkz] at h
 replace h := zbqr M (by omega) (M + 7) (by omega) _ _ _ _ _ _ h R hR
 simp (maxDischargeDepth := 12) only [zbow, kn, simprocAttr, qa, qb, qc, qd, Ow.enc, zjr.enc, zjs.enc, Sl.enc, *]
def zbo0 (q : Nat) : Prop := ∀ (M : Nat) (hM : 8 * q ≤ M) (j : Nat) (hj : q ≤ j) (v14z : Bool) (v14l : List (Sl Int)) (v15 : Int) (v16 : Int) (h0z : Bool) (h0l : List Int) (h0x : Bool) (r : (Ow Int)) (_ : zk0 q v14z v14l v15 v16 h0z h0l h0x = some r) (R : Option (List V)) (_ : some [(Ow.enc 1 (V.int .u8)) r] = R) (fr : Fr) (H : Hp) (_ : canon 0 [3, 14, 15, 16] fr H = ([(3, (.vw 0 0 0 h0l.length 1)), (14, (.sl v14z (List.map (Sl.enc (V.int .u8)) v14l))), (15, (.int .i64 v15)), (16, (.int .i64 v16))], [(.row 0 h0z 1 (List.map (V.int .u8) h0l) h0x)])), fin zqc (unw T (orc T (M + 7)) (M + 7) 0 [.blk 0, .code zp8] (iter 0 [3, 14, 15, 16] (exec T (orc T (M + 7)) (M + 7) 0 zp5) j fr H)) = R
def zbo1 := And.intro @kk <| And.intro @zbb5 <| And.intro @zbcg <| And.intro @zbcl <| And.intro @zbb7 <| And.intro @zbb8 <| @zbb9
theorem zbo2 (q : Nat) (zbqs : zbo0 q) : zbo0 (q + 1) := by
 intro M hM j hj v14z v14l v15 v16 h0z h0l h0x r h R hR fr H hc
 obtain ⟨j, rfl⟩ : ∃ i, j = i + 1 := ⟨j - 1, by omega⟩
 rw [zhr, hc]; clear hc
 rw [zk0] at h
 replace h := br h; rcases h with ⟨h1, h⟩ | ⟨h1, h⟩
 ·replace h := br h; rcases h with ⟨h2, h⟩ | ⟨h2, h⟩
  ·replace h := ob h; obtain ⟨e2, h3, h⟩ := h
   replace h := ob h; obtain ⟨r3, h4, h⟩ := h
   replace h4 := zbml q (M + 7) (by omega) _ _ _ h4
   try simp only [Ow.enc, Sl.enc, kn, simprocAttr, qa, qb, qc, qd] at h4
   replace h := zbqs M (by omega) j (by omega) _ _ _ _ _ _ _ _ h R hR
   simp (maxDischargeDepth := 12) only [zbo1, kn, simprocAttr, qa, qb, qc, qd, Ow.enc, Sl.enc, *]
  ·cases h
 ·replace h := ob h; obtain ⟨r4, h5, h⟩ := h
  replace h5 := zbnn q (M + 7) (by omega) _ _ h5
  try simp only [Ow.enc, Sl.enc, kn, simprocAttr, qa, qb, qc, qd] at h5
  cases h; subst hR; simp (maxDischargeDepth := 12) only [zbo1, kn, simprocAttr, qa, qb, qc, qd, Ow.enc, Sl.enc, *]
theorem zbo3 : ∀ q, zbo0 q
 | 0 => by intro M hM j hj; intros; rename_i h _ _ _ _ _; cases h
 | q + 1 => by have i0 := zbo3 q; exact zbo2 q i0
theorem zbo4 : ∀ (q N : Nat), 8 * q ≤ N → ∀ (a0 : (Sl (Sl Int))), ∀ (r : (Ow Int)), zk1 q a0 = some r → (orc T N).deep F.zk1 [(Sl.enc (Sl.enc (V.int .u8))) a0] = some [(Ow.enc 1 (V.int .u8)) r] := by
 intro q N hM a0 r h
 rcases q with _ | q
 ·cases h
 obtain ⟨M, rfl⟩ : ∃ M, N = M + 8 := ⟨N - 8, by omega⟩
 have zbqs := (zbo3 q)
 generalize hR : some [(Ow.enc 1 (V.int .u8)) r] = R
 rw [zh0, z8q, Option.bind_some, zhy]
 rw [zk1] at h
 replace h := ob h; obtain ⟨r1, h1, h⟩ := h
 replace h1 := zbml q (M + 7) (by omega) _ _ _ h1
 try simp only [Ow.enc, Sl.enc, kn, simprocAttr, qa, qb, qc, qd] at h1
 replace h := br h; rcases h with ⟨h2, h⟩ | ⟨h2, h⟩
 ·try simp only [kn, simprocAttr, qa, qb, qc, qd] at h2
  replace h := br h; rcases h with ⟨h3, h⟩ | ⟨h3, h⟩
  ·try simp only [kn, simprocAttr, qa, qb, qc, qd] at h3
   replace h := zbqs M (by omega) (M + 7) (by omega) _ _ _ _ _ _ _ _ h R hR
   simp (maxDischargeDepth := 12) only [zbo1, kn, simprocAttr, qa, qb, qc, qd, Ow.enc, Sl.enc, *]
  ·try simp only [kn, simprocAttr, qa, qb, qc, qd] at h3
   cases h
 ·try simp only [kn, simprocAttr, qa, qb, qc, qd] at h2
  cases h
def zbo5 := And.intro @kk <| And.intro @zbar <| And.intro @zbax <| And.intro @zbbr <| And.intro @zbbw <| And.intro @zbb1 <| And.intro @zbb6 <| And.intro @zbat <| And.intro @zbau <| @zbav
theorem zbo6 : ∀ (q N : Nat), 8 * q ≤ N → ∀ (a0 : Int) (a1 : zjt), ∀ (r : (Ow Int) × Int), zk2 q a0 a1 = some r → (orc T N).deep F.zk2 [(V.int .i64) a0, zjt.enc a1] = some [(Ow.enc 1 (V.int .u8)) r.1, (V.int .i64) r.2] := by
 intro q N hM a0 a1 r h
 rcases q with _ | q
 ·cases h
 obtain ⟨M, rfl⟩ : ∃ M, N = M + 8 := ⟨N - 8, by omega⟩
 generalize hR : some [(Ow.enc 1 (V.int .u8)) r.1, (V.int .i64) r.2] = R
 rw [zh0, z8g, Option.bind_some, zhy]
 rw [zk2] at h
 replace h := ob h; obtain ⟨r1, h1, h⟩ := h
 replace h1 := zbnp q (M + 7) (by omega) _ _ _ _ h1
 try simp only [Ow.enc, kn, simprocAttr, qa, qb, qc, qd] at h1
 replace h := br h; rcases h with ⟨h2, h⟩ | ⟨h2, h⟩
 ·replace h := ob h; obtain ⟨r2, h3, h⟩ := h
  replace h3 := zbn0 q (M + 7) (by omega) _ _ _ h3
  try simp only [Ow.enc, zjr.enc, zjs.enc, Sl.enc, kn, simprocAttr, qa, qb, qc, qd] at h3
  replace h := bb h; rcases h with ⟨h4', h4, h⟩ | ⟨h4', h4, h⟩
  ·replace h := ob h; obtain ⟨r3, h5, h⟩ := h
   replace h5 := zboz q (M + 7) (by omega) _ _ _ h5
   try simp only [Ow.enc, zjr.enc, zjs.enc, Sl.enc, kn, simprocAttr, qa, qb, qc, qd] at h5
   replace h := br h; rcases h with ⟨h6, h⟩ | ⟨h6, h⟩
   ·try simp only [kn, simprocAttr, qa, qb, qc, qd] at h6
    replace h := ob h; obtain ⟨r4, h7, h⟩ := h
    replace h7 := zbnj q (M + 7) (by omega) _ _ h7
    try simp only [Ow.enc, Sl.enc, kn, simprocAttr, qa, qb, qc, qd] at h7
    replace h := ob h; obtain ⟨r5, h8, h⟩ := h
    replace h8 := zbo4 q (M + 7) (by omega) _ _ h8
    try simp only [Ow.enc, Sl.enc, kn, simprocAttr, qa, qb, qc, qd] at h8
    replace h := br h; rcases h with ⟨h9, h⟩ | ⟨h9, h⟩
    ·try simp only [kn, simprocAttr, qa, qb, qc, qd] at h9
     cases h; subst hR; simp (maxDischargeDepth := 12) only [zbo5, kn, simprocAttr, qa, qb, qc, qd, Ow.enc, zjr.enc, zjs.enc, zjt.enc, Sl.enc, *]
    ·try simp only [kn, simprocAttr, qa, qb, qc, qd] at h9
     cases h
   ·try simp only [kn, simprocAttr, qa, qb, qc, qd] at h6
    cases h
  ·cases h; subst hR; simp (maxDischargeDepth := 12) only [zbo5, kn, simprocAttr, qa, qb, qc, qd, Ow.enc, zjr.enc, zjs.enc, zjt.enc, Sl.enc, *]
 ·cases h; subst hR; simp (maxDischargeDepth := 12) only [zbo5, kn, simprocAttr, qa, qb, qc, qd, Ow.enc, zjr.enc, zjs.enc, zjt.enc, Sl.enc, *]
def zbo7 := And.intro @kk <| And.intro @zbam <| And.intro @zbas <| And.intro @zbao <| And.intro @zbap <| @zbaq
theorem zbo8 : ∀ (q N : Nat), 8 * q ≤ N → ∀ (r : Bool), zk3 q = some r → (orc T N).deep F.zk3 [] = some [V.bool r] := by
 intro q N hM r h
 rcases q with _ | q
 ·cases h
 obtain ⟨M, rfl⟩ : ∃ M, N = M + 8 := ⟨N - 8, by omega⟩
 generalize hR : some [V.bool r] = R
 rw [zh0, z8f, Option.bind_some, zhy]
 rw [zk3] at h
 replace h := ob h; obtain ⟨r1, h1, h⟩ := h
 replace h1 := zbo6 q (M + 7) (by omega) _ _ _ h1
 try simp only [Ow.enc, zjr.enc, zjs.enc, zjt.enc, Sl.enc, kn, simprocAttr, qa, qb, qc, qd] at h1
 replace h := br h; rcases h with ⟨h2, h⟩ | ⟨h2, h⟩
 ·replace h := br h; rcases h with ⟨h3, h⟩ | ⟨h3, h⟩
  ·replace h := br h; rcases h with ⟨h4, h⟩ | ⟨h4, h⟩
   ·replace h := bb h; rcases h with ⟨h5', h5, h⟩ | ⟨h5', h5, h⟩
    ·replace h := br h; rcases h with ⟨h6, h⟩ | ⟨h6, h⟩
     ·replace h := br h; rcases h with ⟨h7, h⟩ | ⟨h7, h⟩
      ·cases h; subst hR; simp (maxDischargeDepth := 12) only [zbo7, kn, simprocAttr, qa, qb, qc, qd, Ow.enc, zjr.enc, zjs.enc, zjt.enc, Sl.enc, *]
      ·cases h
     ·cases h; subst hR; simp (maxDischargeDepth := 12) only [zbo7, kn, simprocAttr, qa, qb, qc, qd, Ow.enc, zjr.enc, zjs.enc, zjt.enc, Sl.enc, *]
    ·replace h := br h; rcases h with ⟨h8, h⟩ | ⟨h8, h⟩
     ·try simp only [kn, simprocAttr, qa, qb, qc, qd] at h8
      replace h := br h; rcases h with ⟨h9, h⟩ | ⟨h9, h⟩
      ·cases h; subst hR; simp (maxDischargeDepth := 12) only [zbo7, kn, simprocAttr, qa, qb, qc, qd, Ow.enc, zjr.enc, zjs.enc, zjt.enc, Sl.enc, *]
      ·cases h
     ·try simp only [kn, simprocAttr, qa, qb, qc, qd] at h8
      cases h; subst hR; simp (maxDischargeDepth := 12) only [zbo7, kn, simprocAttr, qa, qb, qc, qd, Ow.enc, zjr.enc, zjs.enc, zjt.enc, Sl.enc, *]
   ·cases h
  ·cases h; subst hR; simp (maxDischargeDepth := 12) only [zbo7, kn, simprocAttr, qa, qb, qc, qd, Ow.enc, zjr.enc, zjs.enc, zjt.enc, Sl.enc, *]
 ·cases h; subst hR; simp (maxDischargeDepth := 12) only [zbo7, kn, simprocAttr, qa, qb, qc, qd, Ow.enc, zjr.enc, zjs.enc, zjt.enc, Sl.enc, *]
def zbo9 := And.intro @kk <| And.intro @zba1 <| And.intro @zbbr <| And.intro @zbbw <| And.intro @zbb1 <| And.intro @zbcb <| And.intro @zba3 <| And.intro @zba4 <| @zba5
theorem zbpa : ∀ (q N : Nat), 8 * q ≤ N → ∀ (a0 : Int) (a1 : (Sl zjs)), ∀ (r : (Ow Int) × Int), zk4 q a0 a1 = some r → (orc T N).deep F.zk4 [(V.int .i64) a0, (Sl.enc zjs.enc) a1] = some [(Ow.enc 1 (V.int .u8)) r.1, (V.int .i64) r.2] := by
 intro q N hM a0 a1 r h
 rcases q with _ | q
 ·cases h
 obtain ⟨M, rfl⟩ : ∃ M, N = M + 8 := ⟨N - 8, by omega⟩
 generalize hR : some [(Ow.enc 1 (V.int .u8)) r.1, (V.int .i64) r.2] = R
 rw [zh0, z8i, Option.bind_some, zhy]
 rw [zk4] at h
 replace h := ob h; obtain ⟨r1, h1, h⟩ := h
 replace h1 := zbme q (M + 7) (by omega) _ _ h1
 replace h := bb h; rcases h with ⟨h2', h2, h⟩ | ⟨h2', h2, h⟩
 ·replace h := br h; rcases h with ⟨h3, h⟩ | ⟨h3, h⟩
  ·replace h := ob h; obtain ⟨e2, h4, h⟩ := h
   replace h := ob h; obtain ⟨r3, h5, h⟩ := h
   replace h5 := zbn0 q (M + 7) (by omega) _ _ _ h5
   try simp only [Ow.enc, zjr.enc, zjs.enc, Sl.enc, kn, simprocAttr, qa, qb, qc, qd] at h5
   replace h := bb h; rcases h with ⟨h6', h6, h⟩ | ⟨h6', h6, h⟩
   ·replace h := ob h; obtain ⟨r4, h7, h⟩ := h
    replace h7 := zboz q (M + 7) (by omega) _ _ _ h7
    try simp only [Ow.enc, zjr.enc, zjs.enc, Sl.enc, kn, simprocAttr, qa, qb, qc, qd] at h7
    replace h := ob h; obtain ⟨r5, h8, h⟩ := h
    replace h8 := zbnj q (M + 7) (by omega) _ _ h8
    try simp only [Ow.enc, Sl.enc, kn, simprocAttr, qa, qb, qc, qd] at h8
    cases h; subst hR; simp (maxDischargeDepth := 12) only [zbo9, kn, simprocAttr, qa, qb, qc, qd, Ow.enc, zjr.enc, zjs.enc, Sl.enc, *]
   ·cases h; subst hR; simp (maxDischargeDepth := 12) only [zbo9, kn, simprocAttr, qa, qb, qc, qd, Ow.enc, zjr.enc, zjs.enc, Sl.enc, *]
  ·replace h := ob h; obtain ⟨r6, h9, h⟩ := h
   replace h9 := zboz q (M + 7) (by omega) _ _ _ h9
   try simp only [Ow.enc, zjr.enc, zjs.enc, Sl.enc, kn, simprocAttr, qa, qb, qc, qd] at h9
   replace h := ob h; obtain ⟨r7, h10, h⟩ := h
   replace h10 := zbnj q (M + 7) (by omega) _ _ h10
   try simp only [Ow.enc, Sl.enc, kn, simprocAttr, qa, qb, qc, qd] at h10
   cases h; subst hR; simp (maxDischargeDepth := 12) only [zbo9, kn, simprocAttr, qa, qb, qc, qd, Ow.enc, zjr.enc, zjs.enc, Sl.enc, *]
 ·cases h; subst hR; simp (maxDischargeDepth := 12) only [zbo9, kn, simprocAttr, qa, qb, qc, qd, Ow.enc, zjr.enc, zjs.enc, Sl.enc, *]
def zbpb := And.intro @kk <| And.intro @zbij <| And.intro @zbil <| And.intro @zbim <| @zbin
theorem zbpc : ∀ (q N : Nat), 8 * q ≤ N → ∀ (a0 : Int), ∀ (r : Bool), zk5 q a0 = some r → (orc T N).deep F.zk5 [(V.int .u8) a0] = some [V.bool r] := by
 intro q N hM a0 r h
 rcases q with _ | q
 ·cases h
 obtain ⟨M, rfl⟩ : ∃ M, N = M + 8 := ⟨N - 8, by omega⟩
 generalize hR : some [V.bool r] = R
 rw [zh0, z92, Option.bind_some, zhy]
 rw [zk5] at h
 cases h; subst hR; simp (maxDischargeDepth := 12) only [zbpb, kn, simprocAttr, qa, qb, qc, qd, Ow.enc, Sl.enc, *]
def zbpd (q : Nat) : Prop := ∀ (M : Nat) (hM : 8 * q ≤ M) (j : Nat) (hj : q ≤ j) (v0z : Bool) (v0l : List Int) (v7 : Int) (v8 : Int) (r : Int) (_ : zk6 q v0z v0l v7 v8 = some r) (R : Option (List V × Hp)) (_ : (some ([(.int .i64 r)], []) : Option (List V × Hp)) = R) (fr : Fr) (H : Hp) (_ : canon 0 [0, 1, 7, 8] fr H = ([(0, (.sl v0z (List.map (V.int .u8) v0l))), (1, (.fn F.zk5 [])), (7, (.int .i64 v7)), (8, (.int .i64 v8))], [])), finI 0 false [.tmp 4] (unw T (orc T (M + 5)) (M + 5) 0 [.blk 0, .code z44] (iter 0 [0, 1, 7, 8] (exec T (orc T (M + 5)) (M + 5) 0 z41) j fr H)) = R
def zbpe := And.intro @kk <| And.intro @zbi3 <| @zbik
theorem zbpf (q : Nat) (zbqt : zbpd q) : zbpd (q + 1) := by
 intro M hM j hj v0z v0l v7 v8 r h R hR fr H hc
 obtain ⟨j, rfl⟩ : ∃ i, j = i + 1 := ⟨j - 1, by omega⟩
 rw [zhr, hc]; clear hc
 rw [zk6] at h
 replace h := br h; rcases h with ⟨h1, h⟩ | ⟨h1, h⟩
 ·replace h := br h; rcases h with ⟨h2, h⟩ | ⟨h2, h⟩
  ·replace h := ob h; obtain ⟨e1, h3, h⟩ := h
   replace h := ob h; obtain ⟨r2, h4, h⟩ := h
   replace h4 := zbpc q (M + 5) (by omega) _ _ h4
   replace h := bb h; rcases h with ⟨h5', h5, h⟩ | ⟨h5', h5, h⟩
   ·cases h; subst hR; simp (maxDischargeDepth := 12) only [zbpe, kn, simprocAttr, qa, qb, qc, qd, Ow.enc, Sl.enc, *]
   ·replace h := zbqt M (by omega) j (by omega) _ _ _ _ _ h R hR
    simp (maxDischargeDepth := 12) only [zbpe, kn, simprocAttr, qa, qb, qc, qd, Ow.enc, Sl.enc, *]
  ·cases h
 ·cases h; subst hR; simp (maxDischargeDepth := 12) only [zbpe, kn, simprocAttr, qa, qb, qc, qd, Ow.enc, Sl.enc, *]
theorem zbpg : ∀ q, zbpd q
 | 0 => by intro M hM j hj; intros; rename_i h _ _ _ _ _; cases h
 | q + 1 => by have i0 := zbpg q; exact zbpf q i0
theorem zbph : ∀ (q M : Nat), 8 * q ≤ M → ∀ (v0z : Bool), ∀ (v0l : List Int), ∀ (r : Int), zk7 q v0z v0l = some r → (orc T (M + 6)).inl F.zm5 [(.sl v0z (List.map (V.int .u8) v0l)), (.fn F.zk5 [])] [] = (some ([(.int .i64 r)], []) : Option (List V × Hp)) := by
 intro q M hM v0z v0l r h
 rcases q with _ | q
 ·cases h
 have zbqt := (zbpg q)
 generalize hR : (some ([(.int .i64 r)], []) : Option (List V × Hp)) = R
 rw [zbi5 (n := M + 5)]
 rw [zk7] at h
 replace h := zbqt M (by omega) (M + 5) (by omega) _ _ _ _ _ h R hR
 simp (maxDischargeDepth := 12) only [zbpe, kn, simprocAttr, qa, qb, qc, qd, Ow.enc, Sl.enc, *]
def zbpi := And.intro @kk <| And.intro @zbg7 <| And.intro @zbig <| And.intro @zbi4 <| And.intro @zbih <| And.intro @zbii <| And.intro @zbg9 <| And.intro @zbha <| @zbhb
theorem zbpj : ∀ (q N : Nat), 8 * q ≤ N → ∀ (a0 : (Sl Int)), ∀ (r : Bool), zk8 q a0 = some r → (orc T N).deep F.zk8 [(Sl.enc (V.int .u8)) a0] = some [V.bool r] := by
 intro q N hM a0 r h
 rcases q with _ | q
 ·cases h
 obtain ⟨M, rfl⟩ : ∃ M, N = M + 8 := ⟨N - 8, by omega⟩
 generalize hR : some [V.bool r] = R
 rw [zh0, z9s, Option.bind_some, zhy]
 rw [zk8] at h
 replace h := br h; rcases h with ⟨h1, h⟩ | ⟨h1, h⟩
 ·replace h := ob h; obtain ⟨r1, h2, h⟩ := h
  replace h2 := zbph q M (by omega) _ _ _ h2
  try simp only [Ow.enc, Sl.enc, kn, simprocAttr, qa, qb, qc, qd] at h2
  cases h; subst hR; simp (maxDischargeDepth := 12) only [zbpi, kn, simprocAttr, qa, qb, qc, qd, Ow.enc, Sl.enc, *]
 ·cases h; subst hR; simp (maxDischargeDepth := 12) only [zbpi, kn, simprocAttr, qa, qb, qc, qd, Ow.enc, Sl.enc, *]
def zbpk (q : Nat) : Prop := ∀ (M : Nat) (hM : 8 * q ≤ M) (j : Nat) (hj : q ≤ j) (v0z : Bool) (v0l : List Int) (v4 : Int) (v9 : Int) (v10 : Int) (r : Int × Int) (_ : zk9 q v0z v0l v4 v9 v10 = some r) (R : Option (List V)) (_ : some [(V.int .u64) r.1, (V.int .i64) r.2] = R) (fr : Fr) (H : Hp) (_ : canon 0 [0, 4, 9, 10] fr H = ([(0, (.sl v0z (List.map (V.int .u8) v0l))), (4, (.int .u64 v4)), (9, (.int .i64 v9)), (10, (.int .i64 v10))], [])), fin z07 (unw T (orc T (M + 7)) (M + 7) 0 [.blk 0, .code z03] (iter 0 [0, 4, 9, 10] (exec T (orc T (M + 7)) (M + 7) 0 z00) j fr H)) = R
def zbpl := And.intro @kk <| And.intro @zbhm <| And.intro @zbho <| And.intro @zbhp <| @zbhq
theorem zbpm (q : Nat) (zbqu : zbpk q) : zbpk (q + 1) := by
 intro M hM j hj v0z v0l v4 v9 v10 r h R hR fr H hc
 obtain ⟨j, rfl⟩ : ∃ i, j = i + 1 := ⟨j - 1, by omega⟩
 rw [zhr, hc]; clear hc
 rw [zk9] at h
 replace h := br h; rcases h with ⟨h1, h⟩ | ⟨h1, h⟩
 ·replace h := br h; rcases h with ⟨h2, h⟩ | ⟨h2, h⟩
  ·replace h := ob h; obtain ⟨e1, h3, h⟩ := h
   replace h := br h; rcases h with ⟨h4, h⟩ | ⟨h4, h⟩
   ·cases h
   ·replace h := br h; rcases h with ⟨h5, h⟩ | ⟨h5, h⟩
    ·replace h := br h; rcases h with ⟨h6, h⟩ | ⟨h6, h⟩
     ·cases h; subst hR; simp (maxDischargeDepth := 12) only [zbpl, kn, simprocAttr, qa, qb, qc, qd, Ow.enc, Sl.enc, *]
     ·replace h := br h; rcases h with ⟨h7, h⟩ | ⟨h7, h⟩
      ·replace h := br h; rcases h with ⟨h8, h⟩ | ⟨h8, h⟩
       ·cases h; subst hR; simp (maxDischargeDepth := 12) only [zbpl, kn, simprocAttr, qa, qb, qc, qd, Ow.enc, Sl.enc, *]
       ·replace h := br h; rcases h with ⟨h9, h⟩ | ⟨h9, h⟩
        ·cases h; subst hR; simp (maxDischargeDepth := 12) only [zbpl, kn, simprocAttr, qa, qb, qc, qd, Ow.enc, Sl.enc, *]
        ·replace h := zbqu M (by omega) j (by omega) _ _ _ _ _ _ h R hR
         simp (maxDischargeDepth := 12) only [zbpl, kn, simprocAttr, qa, qb, qc, qd, Ow.enc, Sl.enc, *]
      ·replace h := br h; rcases h with ⟨h10, h⟩ | ⟨h10, h⟩
       ·cases h; subst hR; simp (maxDischargeDepth := 12) only [zbpl, kn, simprocAttr, qa, qb, qc, qd, Ow.enc, Sl.enc, *]
       ·replace h := zbqu M (by omega) j (by omega) _ _ _ _ _ _ h R hR
        simp (maxDischargeDepth := 12) only [zbpl, kn, simprocAttr, qa, qb, qc, qd, Ow.enc, Sl.enc, *]
    ·replace h := br h; rcases h with ⟨h11, h⟩ | ⟨h11, h⟩
     ·replace h := br h; rcases h with ⟨h12, h⟩ | ⟨h12, h⟩
      ·cases h; subst hR; simp (maxDischargeDepth := 12) only [zbpl, kn, simprocAttr, qa, qb, qc, qd, Ow.enc, Sl.enc, *]
      ·replace h := br h; rcases h with ⟨h13, h⟩ | ⟨h13, h⟩
       ·cases h; subst hR; simp (maxDischargeDepth := 12) only [zbpl, kn, simprocAttr, qa, qb, qc, qd, Ow.enc, Sl.enc, *]
       ·replace h := zbqu M (by omega) j (by omega) _ _ _ _ _ _ h R hR
        simp (maxDischargeDepth := 12) only [zbpl, kn, simprocAttr, qa, qb, qc, qd, Ow.enc, Sl.enc, *]
     ·replace h := br h; rcases h with ⟨h14, h⟩ | ⟨h14, h⟩
      ·cases h; subst hR; simp (maxDischargeDepth := 12) only [zbpl, kn, simprocAttr, qa, qb, qc, qd, Ow.enc, Sl.enc, *]
      ·replace h := zbqu M (by omega) j (by omega) _ _ _ _ _ _ h R hR
       simp (maxDischargeDepth := 12) only [zbpl, kn, simprocAttr, qa, qb, qc, qd, Ow.enc, Sl.enc, *]
  ·cases h
 ·cases h; subst hR; simp (maxDischargeDepth := 12) only [zbpl, kn, simprocAttr, qa, qb, qc, qd, Ow.enc, Sl.enc, *]
theorem zbpn : ∀ q, zbpk q
 | 0 => by intro M hM j hj; intros; rename_i h _ _ _ _ _; cases h
 | q + 1 => by have i0 := zbpn q; exact zbpm q i0
theorem zbpo : ∀ (q N : Nat), 8 * q ≤ N → ∀ (a0 : (Sl Int)), ∀ (r : Int × Int), zla q a0 = some r → (orc T N).deep F.zla [(Sl.enc (V.int .u8)) a0] = some [(V.int .u64) r.1, (V.int .i64) r.2] := by
 intro q N hM a0 r h
 rcases q with _ | q
 ·cases h
 obtain ⟨M, rfl⟩ : ∃ M, N = M + 8 := ⟨N - 8, by omega⟩
 have zbqu := (zbpn q)
 generalize hR : some [(V.int .u64) r.1, (V.int .i64) r.2] = R
 rw [zh0, z9v, Option.bind_some, zhy]
 rw [zla] at h
 replace h := zbqu M (by omega) (M + 7) (by omega) _ _ _ _ _ _ h R hR
 simp (maxDischargeDepth := 12) only [zbpl, kn, simprocAttr, qa, qb, qc, qd, Ow.enc, Sl.enc, *]
def zbpp := And.intro @kk <| And.intro @zbfj <| And.intro @zbhn <| And.intro @zbfl <| And.intro @zbfm <| @zbfn
theorem zbpq : ∀ (q N : Nat), 8 * q ≤ N → ∀ (a0 : (Sl Int)), ∀ (r : Int × Int), zlb q a0 = some r → (orc T N).deep F.zlb [(Sl.enc (V.int .u8)) a0] = some [(V.int .i64) r.1, (V.int .i64) r.2] := by
 intro q N hM a0 r h
 rcases q with _ | q
 ·cases h
 obtain ⟨M, rfl⟩ : ∃ M, N = M + 8 := ⟨N - 8, by omega⟩
 generalize hR : some [(V.int .i64) r.1, (V.int .i64) r.2] = R
 rw [zh0, z9g, Option.bind_some, zhy]
 rw [zlb] at h
 replace h := ob h; obtain ⟨r1, h1, h⟩ := h
 replace h1 := zbpo q (M + 7) (by omega) _ _ h1
 try simp only [Ow.enc, Sl.enc, kn, simprocAttr, qa, qb, qc, qd] at h1
 replace h := br h; rcases h with ⟨h2, h⟩ | ⟨h2, h⟩
 ·cases h; subst hR; simp (maxDischargeDepth := 12) only [zbpp, kn, simprocAttr, qa, qb, qc, qd, Ow.enc, Sl.enc, *]
 ·cases h; subst hR; simp (maxDischargeDepth := 12) only [zbpp, kn, simprocAttr, qa, qb, qc, qd, Ow.enc, Sl.enc, *]
def zbpr (q : Nat) : Prop := ∀ (M : Nat) (hM : 8 * q ≤ M) (j : Nat) (hj : q ≤ j) (v0z : Bool) (v0l : List Int) (v1z : Bool) (v1l : List Int) (v12 : Int) (v13 : Int) (r : Bool) (_ : zlc q v0z v0l v1z v1l v12 v13 = some r) (R : Option (List V)) (_ : some [V.bool r] = R) (fr : Fr) (H : Hp) (_ : canon 0 [0, 1, 12, 13] fr H = ([(0, (.sl v0z (List.map (V.int .u8) v0l))), (1, (.sl v1z (List.map (V.int .u8) v1l))), (12, (.int .i64 v12)), (13, (.int .i64 v13))], [])), fin z0g (unw T (orc T (M + 7)) (M + 7) 0 [.blk 0, .code z0c] (iter 0 [0, 1, 12, 13] (exec T (orc T (M + 7)) (M + 7) 0 zz9) j fr H)) = R
def zbps := And.intro @kk <| And.intro @zbhc <| And.intro @zbhe <| And.intro @zbhf <| @zbhg
theorem zbpt (q : Nat) (zbqv : zbpr q) : zbpr (q + 1) := by
 intro M hM j hj v0z v0l v1z v1l v12 v13 r h R hR fr H hc
 obtain ⟨j, rfl⟩ : ∃ i, j = i + 1 := ⟨j - 1, by omega⟩
 rw [zhr, hc]; clear hc
 rw [zlc] at h
 replace h := br h; rcases h with ⟨h1, h⟩ | ⟨h1, h⟩
 ·replace h := br h; rcases h with ⟨h2, h⟩ | ⟨h2, h⟩
  ·replace h := ob h; obtain ⟨e1, h3, h⟩ := h
   replace h := ob h; obtain ⟨e2, h4, h⟩ := h
   replace h := br h; rcases h with ⟨h5, h⟩ | ⟨h5, h⟩
   ·replace h := zbqv M (by omega) j (by omega) _ _ _ _ _ _ _ h R hR
    simp (maxDischargeDepth := 12) only [zbps, kn, simprocAttr, qa, qb, qc, qd, Ow.enc, Sl.enc, *]
   ·cases h; subst hR; simp (maxDischargeDepth := 12) only [zbps, kn, simprocAttr, qa, qb, qc, qd, Ow.enc, Sl.enc, *]
  ·cases h
 ·cases h; subst hR; simp (maxDischargeDepth := 12) only [zbps, kn, simprocAttr, qa, qb, qc, qd, Ow.enc, Sl.enc, *]
theorem zbpu : ∀ q, zbpr q
 | 0 => by intro M hM j hj; intros; rename_i h _ _ _ _ _; cases h
 | q + 1 => by have i0 := zbpu q; exact zbpt q i0
theorem zbpv : ∀ (q N : Nat), 8 * q ≤ N → ∀ (a0 : (Sl Int)) (a1 : (Sl Int)), ∀ (r : Bool), zld q a0 a1 = some r → (orc T N).deep F.zld [(Sl.enc (V.int .u8)) a0, (Sl.enc (V.int .u8)) a1] = some [V.bool r] := by
 intro q N hM a0 a1 r h
 rcases q with _ | q
 ·cases h
 obtain ⟨M, rfl⟩ : ∃ M, N = M + 8 := ⟨N - 8, by omega⟩
 have zbqv := (zbpu q)
 generalize hR : some [V.bool r] = R
 rw [zh0, z9t, Option.bind_some, zhy]
 rw [zld] at h
 replace h := br h; rcases h with ⟨h1, h⟩ | ⟨h1, h⟩
 ·replace h := zbqv M (by omega) (M + 7) (by omega) _ _ _ _ _ _ _ h R hR
  simp (maxDischargeDepth := 12) only [zbps, kn, simprocAttr, qa, qb, qc, qd, Ow.enc, Sl.enc, *]
 ·cases h; subst hR; simp (maxDischargeDepth := 12) only [zbps, kn, simprocAttr, qa, qb, qc, qd, Ow.enc, Sl.enc, *]
def zbpw := And.intro @kk <| And.intro @zbhh <| And.intro @zbhj <| And.intro @zbhk <| @zbhl
theorem zbpx : ∀ (q N : Nat), 8 * q ≤ N → ∀ (a0 : (Sl Int)), ∀ (r : (Ow Int)), zle q a0 = some r → (orc T N).deep F.zle [(Sl.enc (V.int .u8)) a0] = some [(Ow.enc 1 (V.int .u8)) r] := by
 intro q N hM a0 r h
 rcases q with _ | q
 ·cases h
 obtain ⟨M, rfl⟩ : ∃ M, N = M + 8 := ⟨N - 8, by omega⟩
 generalize hR : some [(Ow.enc 1 (V.int .u8)) r] = R
 rw [zh0, z9u, Option.bind_some, zhy]
 rw [zle] at h
 replace h := bb h; rcases h with ⟨h1', h1, h⟩ | ⟨h1', h1, h⟩
 ·cases h; subst hR; simp (maxDischargeDepth := 12) only [zbpw, kn, simprocAttr, qa, qb, qc, qd, Ow.enc, Sl.enc, *]
 ·replace h := br h; rcases h with ⟨h2, h⟩ | ⟨h2, h⟩
  ·cases h; subst hR; simp (maxDischargeDepth := 12) only [zbpw, kn, simprocAttr, qa, qb, qc, qd, Ow.enc, Sl.enc, *]
  ·cases h
def zbpy := And.intro @kk <| And.intro @zbfe <| And.intro @zbfa <| And.intro @zbfk <| And.intro @zbg8 <| And.intro @zbhd <| And.intro @zbhi <| And.intro @zbfg <| And.intro @zbfh <| @zbfi
theorem zbpz : ∀ (q N : Nat), 8 * q ≤ N → ∀ (a0 : (Sl Int)), ∀ (r : (Ow Int) × Int × Int), zlf q a0 = some r → (orc T N).deep F.zlf [(Sl.enc (V.int .u8)) a0] = some [(Ow.enc 1 (V.int .u8)) r.1, (V.int .i64) r.2.1, (V.int .i64) r.2.2] := by
 intro q N hM a0 r h
 rcases q with _ | q
 ·cases h
 obtain ⟨M, rfl⟩ : ∃ M, N = M + 8 := ⟨N - 8, by omega⟩
 generalize hR : some [(Ow.enc 1 (V.int .u8)) r.1, (V.int .i64) r.2.1, (V.int .i64) r.2.2] = R
 rw [zh0, z9f, Option.bind_some, zhy]
 rw [zlf] at h
 replace h := ob h; obtain ⟨r1, h1, h⟩ := h
 replace h1 := zbpj q (M + 7) (by omega) _ _ h1
 try simp only [Ow.enc, Sl.enc, kn, simprocAttr, qa, qb, qc, qd] at h1
 replace h := bb h; rcases h with ⟨h2', h2, h⟩ | ⟨h2', h2, h⟩
 ·cases h; subst hR; simp (maxDischargeDepth := 12) only [zbpy, kn, simprocAttr, qa, qb, qc, qd, Ow.enc, Sl.enc, *]
 ·replace h := ob h; obtain ⟨r2, h3, h⟩ := h
  replace h3 := zbpq q (M + 7) (by omega) _ _ h3
  try simp only [Ow.enc, Sl.enc, kn, simprocAttr, qa, qb, qc, qd] at h3
  replace h := br h; rcases h with ⟨h4, h⟩ | ⟨h4, h⟩
  ·cases h; subst hR; simp (maxDischargeDepth := 12) only [zbpy, kn, simprocAttr, qa, qb, qc, qd, Ow.enc, Sl.enc, *]
  ·replace h := br h; rcases h with ⟨h5, h⟩ | ⟨h5, h⟩
   ·cases h; subst hR; simp (maxDischargeDepth := 12) only [zbpy, kn, simprocAttr, qa, qb, qc, qd, Ow.enc, Sl.enc, *]
   ·replace h := br h; rcases h with ⟨h6, h⟩ | ⟨h6, h⟩
    ·try simp only [kn, simprocAttr, qa, qb, qc, qd] at h6
     cases h; subst hR; simp (maxDischargeDepth := 12) only [zbpy, kn, simprocAttr, qa, qb, qc, qd, Ow.enc, Sl.enc, *]
    ·try simp only [kn, simprocAttr, qa, qb, qc, qd] at h6
     replace h := br h; rcases h with ⟨h7, h⟩ | ⟨h7, h⟩
     ·replace h := br h; rcases h with ⟨h8, h⟩ | ⟨h8, h⟩
      ·replace h := br h; rcases h with ⟨h9, h⟩ | ⟨h9, h⟩
       ·replace h := br h; rcases h with ⟨h10, h⟩ | ⟨h10, h⟩
        ·try simp only [kn, simprocAttr, qa, qb, qc, qd] at h10
         replace h := br h; rcases h with ⟨h11, h⟩ | ⟨h11, h⟩
         ·try simp only [kn, simprocAttr, qa, qb, qc, qd] at h11
          replace h := br h; rcases h with ⟨h12, h⟩ | ⟨h12, h⟩
          ·try simp only [kn, simprocAttr, qa, qb, qc, qd] at h12
           replace h := br h; rcases h with ⟨h13, h⟩ | ⟨h13, h⟩
           ·try simp only [kn, simprocAttr, qa, qb, qc, qd] at h13
            replace h := br h; rcases h with ⟨h14, h⟩ | ⟨h14, h⟩
            ·try simp only [kn, simprocAttr, qa, qb, qc, qd] at h14
             replace h := br h; rcases h with ⟨h15, h⟩ | ⟨h15, h⟩
             ·try simp only [kn, simprocAttr, qa, qb, qc, qd] at h15
              replace h := ob h; obtain ⟨r3, h16, h⟩ := h
              replace h16 := zbm8 q (M + 7) (by omega) _ _ _ h16
              try simp only [Ow.enc, Sl.enc, kn, simprocAttr, qa, qb, qc, qd] at h16
              replace h := ob h; obtain ⟨r4, h17, h⟩ := h
              replace h17 := zbpv q (M + 7) (by omega) _ _ _ h17
              try simp only [Ow.enc, Sl.enc, kn, simprocAttr, qa, qb, qc, qd] at h17
              replace h := bb h; rcases h with ⟨h18', h18, h⟩ | ⟨h18', h18, h⟩
              ·replace h := ob h; obtain ⟨r5, h19, h⟩ := h
               replace h19 := zbpx q (M + 7) (by omega) _ _ h19
               try simp only [Ow.enc, Sl.enc, kn, simprocAttr, qa, qb, qc, qd] at h19
               cases h; subst hR; simp (maxDischargeDepth := 12) only [zbpy, kn, simprocAttr, qa, qb, qc, qd, Ow.enc, Sl.enc, *]
              ·cases h; subst hR; simp (maxDischargeDepth := 12) only [zbpy, kn, simprocAttr, qa, qb, qc, qd, Ow.enc, Sl.enc, *]
             ·try simp only [kn, simprocAttr, qa, qb, qc, qd] at h15
              cases h
            ·try simp only [kn, simprocAttr, qa, qb, qc, qd] at h14
             cases h
           ·try simp only [kn, simprocAttr, qa, qb, qc, qd] at h13
            cases h
          ·try simp only [kn, simprocAttr, qa, qb, qc, qd] at h12
           cases h
         ·try simp only [kn, simprocAttr, qa, qb, qc, qd] at h11
          cases h
        ·try simp only [kn, simprocAttr, qa, qb, qc, qd] at h10
         cases h
       ·cases h
      ·cases h
     ·cases h
def zbp0 (q : Nat) : Prop := ∀ (M : Nat) (hM : 8 * q ≤ M) (j : Nat) (hj : q ≤ j) (v0z : Bool) (v0l : List Int) (v3 : Int) (h0z : Bool) (h0l : List (Sl Int)) (r : (Ow (Sl Int)) × Int × Int) (_ : zlg q v0z v0l v3 h0z h0l = some r) (R : Option (List V)) (_ : some [(Ow.enc 1 (Sl.enc (V.int .u8))) r.1, (V.int .i64) r.2.1, (V.int .i64) r.2.2] = R) (fr : Fr) (H : Hp) (_ : canon 0 [0, 2, 3] fr H = ([(0, (.sl v0z (List.map (V.int .u8) v0l))), (2, (.vw 0 0 0 h0l.length 1)), (3, (.int .i64 v3))], [(.row 0 h0z 1 (List.map (Sl.enc (V.int .u8)) h0l) true)])), fin zte (unw T (orc T (M + 7)) (M + 7) 0 [.blk 0, .code ztb] (iter 0 [0, 2, 3] (exec T (orc T (M + 7)) (M + 7) 0 zs9) j fr H)) = R
def zbp1 := And.intro @kk <| And.intro @zbd4 <| And.intro @zbff <| And.intro @zbd6 <| And.intro @zbd7 <| @zbd8
theorem zbp2 (q : Nat) (zbqw : zbp0 q) : zbp0 (q + 1) := by
 intro M hM j hj v0z v0l v3 h0z h0l r h R hR fr H hc
 obtain ⟨j, rfl⟩ : ∃ i, j = i + 1 := ⟨j - 1, by omega⟩
 rw [zhr, hc]; clear hc
 rw [zlg] at h
 replace h := br h; rcases h with ⟨h1, h⟩ | ⟨h1, h⟩
 ·replace h := br h; rcases h with ⟨h2, h⟩ | ⟨h2, h⟩
  ·replace h := br h; rcases h with ⟨h3, h⟩ | ⟨h3, h⟩
   ·replace h := ob h; obtain ⟨r1, h4, h⟩ := h
    replace h4 := zbpz q (M + 7) (by omega) _ _ h4
    try simp only [Ow.enc, Sl.enc, kn, simprocAttr, qa, qb, qc, qd] at h4
    replace h := br h; rcases h with ⟨h5, h⟩ | ⟨h5, h⟩
    ·replace h := br h; rcases h with ⟨h6, h⟩ | ⟨h6, h⟩
     ·try simp only [kn, simprocAttr, qa, qb, qc, qd] at h6
      replace h := zbqw M (by omega) j (by omega) _ _ _ _ _ _ h R hR
      simp (maxDischargeDepth := 12) only [zbp1, kn, simprocAttr, qa, qb, qc, qd, Ow.enc, Sl.enc, *]
     ·try simp only [kn, simprocAttr, qa, qb, qc, qd] at h6
      cases h
    ·cases h; subst hR; simp (maxDischargeDepth := 12) only [zbp1, kn, simprocAttr, qa, qb, qc, qd, Ow.enc, Sl.enc, *]
   ·cases h
  ·cases h
 ·cases h; subst hR; simp (maxDischargeDepth := 12) only [zbp1, kn, simprocAttr, qa, qb, qc, qd, Ow.enc, Sl.enc, *]
theorem zbp3 : ∀ q, zbp0 q
 | 0 => by intro M hM j hj; intros; rename_i h _ _ _ _ _; cases h
 | q + 1 => by have i0 := zbp3 q; exact zbp2 q i0
theorem zbp4 : ∀ (q N : Nat), 8 * q ≤ N → ∀ (a0 : (Sl Int)), ∀ (r : (Ow (Sl Int)) × Int × Int), zlh q a0 = some r → (orc T N).deep F.zlh [(Sl.enc (V.int .u8)) a0] = some [(Ow.enc 1 (Sl.enc (V.int .u8))) r.1, (V.int .i64) r.2.1, (V.int .i64) r.2.2] := by
 intro q N hM a0 r h
 rcases q with _ | q
 ·cases h
 obtain ⟨M, rfl⟩ : ∃ M, N = M + 8 := ⟨N - 8, by omega⟩
 have zbqw := (zbp3 q)
 generalize hR : some [(Ow.enc 1 (Sl.enc (V.int .u8))) r.1, (V.int .i64) r.2.1, (V.int .i64) r.2.2] = R
 rw [zh0, z85, Option.bind_some, zhy]
 rw [zlh] at h
 replace h := zbqw M (by omega) (M + 7) (by omega) _ _ _ _ _ _ h R hR
 simp (maxDischargeDepth := 12) only [zbp1, kn, simprocAttr, qa, qb, qc, qd, Ow.enc, Sl.enc, *]
def zbp5 := And.intro @kk <| And.intro @zbcp <| And.intro @zbd5 <| And.intro @zbcr <| And.intro @zbcs <| @zbct
theorem zbp6 : ∀ (q N : Nat), 8 * q ≤ N → ∀ (a0 : (Sl Int)), ∀ (r : (Ow (Sl Int)) × Int), zli q a0 = some r → (orc T N).deep F.zli [(Sl.enc (V.int .u8)) a0] = some [(Ow.enc 1 (Sl.enc (V.int .u8))) r.1, (V.int .i64) r.2] := by
 intro q N hM a0 r h
 rcases q with _ | q
 ·cases h
 obtain ⟨M, rfl⟩ : ∃ M, N = M + 8 := ⟨N - 8, by omega⟩
 generalize hR : some [(Ow.enc 1 (Sl.enc (V.int .u8))) r.1, (V.int .i64) r.2] = R
 rw [zh0, z8u, Option.bind_some, zhy]
 rw [zli] at h
 replace h := ob h; obtain ⟨r1, h1, h⟩ := h
 replace h1 := zbp4 q (M + 7) (by omega) _ _ h1
 try simp only [Ow.enc, Sl.enc, kn, simprocAttr, qa, qb, qc, qd] at h1
 cases h; subst hR; simp (maxDischargeDepth := 12) only [zbp5, kn, simprocAttr, qa, qb, qc, qd, Ow.enc, Sl.enc, *]
def zbp7 := And.intro @kk <| And.intro @zbi6 <| And.intro @zbi8 <| And.intro @zbi9 <| @zbja
theorem zbp8 : ∀ (q N : Nat), 8 * q ≤ N → ∀ (a0 : Int), ∀ (r : Int), zlj q a0 = some r → (orc T N).deep F.zlj [(V.int .u64) a0] = some [(V.int .i64) r] := by
 intro q N hM a0 r h
 rcases q with _ | q
 ·cases h
 obtain ⟨M, rfl⟩ : ∃ M, N = M + 8 := ⟨N - 8, by omega⟩
 generalize hR : some [(V.int .i64) r] = R
 rw [zh0, z97, Option.bind_some, zhy]
 rw [zlj] at h
 cases h; subst hR; simp (maxDischargeDepth := 12) only [zbp7, kn, simprocAttr, qa, qb, qc, qd, Ow.enc, Sl.enc, *]
def zbp9 := And.intro @kk <| And.intro @zbio <| And.intro @zbhn <| And.intro @zbi7 <| And.intro @zbiq <| And.intro @zbir <| @zbis
theorem zbqa : ∀ (q N : Nat), 8 * q ≤ N → ∀ (a0 : (Sl Int)), ∀ (r : Int × Int), zlk q a0 = some r → (orc T N).deep F.zlk [(Sl.enc (V.int .u8)) a0] = some [(V.int .i64) r.1, (V.int .i64) r.2] := by
 intro q N hM a0 r h
 rcases q with _ | q
 ·cases h
 obtain ⟨M, rfl⟩ : ∃ M, N = M + 8 := ⟨N - 8, by omega⟩
 generalize hR : some [(V.int .i64) r.1, (V.int .i64) r.2] = R
 rw [zh0, z93, Option.bind_some, zhy]
 rw [zlk] at h
 replace h := ob h; obtain ⟨r1, h1, h⟩ := h
 replace h1 := zbpo q (M + 7) (by omega) _ _ h1
 try simp only [Ow.enc, Sl.enc, kn, simprocAttr, qa, qb, qc, qd] at h1
 replace h := br h; rcases h with ⟨h2, h⟩ | ⟨h2, h⟩
 ·cases h; subst hR; simp (maxDischargeDepth := 12) only [zbp9, kn, simprocAttr, qa, qb, qc, qd, Ow.enc, Sl.enc, *]
 ·replace h := ob h; obtain ⟨r2, h3, h⟩ := h
  replace h3 := zbp8 q (M + 7) (by omega) _ _ h3
  cases h; subst hR; simp (maxDischargeDepth := 12) only [zbp9, kn, simprocAttr, qa, qb, qc, qd, Ow.enc, Sl.enc, *]
def zbqb := And.intro @kk <| And.intro @zbit <| And.intro @zbjb <| And.intro @zbj1 <| And.intro @zbj4 <| And.intro @zbj7 <| And.intro @zbev <| And.intro @zbfk <| And.intro @zbip <| And.intro @zbjc <| And.intro @zbjd <| And.intro @zbj2 <| And.intro @zbj3 <| And.intro @zbj5 <| And.intro @zbj6 <| And.intro @zbj8 <| And.intro @zbj9 <| And.intro @zbiv <| And.intro @zbiw <| @zbix
theorem zbqc : ∀ (q N : Nat), 8 * q ≤ N → ∀ (a0 : (Sl Int)), ∀ (r : zjr × Int), zll q a0 = some r → (orc T N).deep F.zll [(Sl.enc (V.int .u8)) a0] = some [zjr.enc r.1, (V.int .i64) r.2] := by
 intro q N hM a0 r h
 rcases q with _ | q
 ·cases h
 obtain ⟨M, rfl⟩ : ∃ M, N = M + 8 := ⟨N - 8, by omega⟩
 generalize hR : some [zjr.enc r.1, (V.int .i64) r.2] = R
 rw [zh0, z94, Option.bind_some, zhy]
 rw [zll] at h
 replace h := ob h; obtain ⟨r1, h1, h⟩ := h
 replace h1 := zbpq q (M + 6) (by omega) _ _ h1
 try simp only [Ow.enc, Sl.enc, kn, simprocAttr, qa, qb, qc, qd] at h1
 replace h := br h; rcases h with ⟨h2, h⟩ | ⟨h2, h⟩
 ·replace h := br h; rcases h with ⟨h3, h⟩ | ⟨h3, h⟩
  ·replace h := ob h; obtain ⟨r2, h4, h⟩ := h
   replace h4 := zbqa q (M + 6) (by omega) _ _ h4
   try simp only [Ow.enc, Sl.enc, kn, simprocAttr, qa, qb, qc, qd] at h4
   replace h := br h; rcases h with ⟨h5, h⟩ | ⟨h5, h⟩
   ·replace h := br h; rcases h with ⟨h6, h⟩ | ⟨h6, h⟩
    ·replace h := br h; rcases h with ⟨h7, h⟩ | ⟨h7, h⟩
     ·try simp only [kn, simprocAttr, qa, qb, qc, qd] at h7
      replace h := ob h; obtain ⟨r3, h8, h⟩ := h
      replace h8 := zbqa q (M + 6) (by omega) _ _ h8
      try simp only [Ow.enc, Sl.enc, kn, simprocAttr, qa, qb, qc, qd] at h8
      replace h := br h; rcases h with ⟨h9, h⟩ | ⟨h9, h⟩
      ·replace h := br h; rcases h with ⟨h10, h⟩ | ⟨h10, h⟩
       ·replace h := br h; rcases h with ⟨h11, h⟩ | ⟨h11, h⟩
        ·try simp only [kn, simprocAttr, qa, qb, qc, qd] at h11
         replace h := br h; rcases h with ⟨h12, h⟩ | ⟨h12, h⟩
         ·replace h := ob h; obtain ⟨r4, h13, h⟩ := h
          replace h13 := zbnt q (M + 7) (by omega) _ _ h13
          try simp only [Ow.enc, zjr.enc, kn, simprocAttr, qa, qb, qc, qd] at h13
          replace h := bb h; rcases h with ⟨h14', h14, h⟩ | ⟨h14', h14, h⟩
          ·cases h; subst hR; simp (maxDischargeDepth := 12) only [zbqb, kn, simprocAttr, qa, qb, qc, qd, Ow.enc, zjr.enc, Sl.enc, *]
          ·cases h; subst hR; simp (maxDischargeDepth := 12) only [zbqb, kn, simprocAttr, qa, qb, qc, qd, Ow.enc, zjr.enc, Sl.enc, *]
         ·cases h; subst hR; simp (maxDischargeDepth := 12) only [zbqb, kn, simprocAttr, qa, qb, qc, qd, Ow.enc, zjr.enc, Sl.enc, *]
        ·try simp only [kn, simprocAttr, qa, qb, qc, qd] at h11
         cases h
       ·cases h
      ·replace h := br h; rcases h with ⟨h15, h⟩ | ⟨h15, h⟩
       ·replace h := br h; rcases h with ⟨h16, h⟩ | ⟨h16, h⟩
        ·try simp only [kn, simprocAttr, qa, qb, qc, qd] at h16
         cases h; subst hR; simp (maxDischargeDepth := 12) only [zbqb, kn, simprocAttr, qa, qb, qc, qd, Ow.enc, zjr.enc, Sl.enc, *]
        ·try simp only [kn, simprocAttr, qa, qb, qc, qd] at h16
         cases h
       ·cases h
     ·try simp only [kn, simprocAttr, qa, qb, qc, qd] at h7
      cases h
    ·cases h
   ·replace h := br h; rcases h with ⟨h17, h⟩ | ⟨h17, h⟩
    ·replace h := br h; rcases h with ⟨h18, h⟩ | ⟨h18, h⟩
     ·try simp only [kn, simprocAttr, qa, qb, qc, qd] at h18
      replace h := ob h; obtain ⟨r5, h19, h⟩ := h
      replace h19 := zbqa q (M + 6) (by omega) _ _ h19
      try simp only [Ow.enc, Sl.enc, kn, simprocAttr, qa, qb, qc, qd] at h19
      replace h := br h; rcases h with ⟨h20, h⟩ | ⟨h20, h⟩
      ·replace h := br h; rcases h with ⟨h21, h⟩ | ⟨h21, h⟩
       ·try simp only [kn, simprocAttr, qa, qb, qc, qd] at h21
        cases h; subst hR; simp (maxDischargeDepth := 12) only [zbqb, kn, simprocAttr, qa, qb, qc, qd, Ow.enc, zjr.enc, Sl.enc, *]
       ·try simp only [kn, simprocAttr, qa, qb, qc, qd] at h21
        cases h
      ·cases h
     ·try simp only [kn, simprocAttr, qa, qb, qc, qd] at h18
      cases h
    ·cases h
  ·cases h
 ·cases h
end Go.Dvm.C
