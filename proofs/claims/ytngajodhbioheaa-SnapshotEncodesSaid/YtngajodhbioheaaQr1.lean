/- The machine comes to these answers: part 2. -/
import Derived.Test.YtngajodhbioheaaQl0
import Derived.Test.YtngajodhbioheaaQr0
set_option linter.all false
set_option maxRecDepth 100000
set_option maxHeartbeats 4000000
namespace Go.Dvm.C
open Go Go.Dvm Go.Dvm.I
def zbq2 (q : Nat) : Prop := ∀ (M : Nat) (hM : 8 * q ≤ M) (j : Nat) (hj : q ≤ j) (v0z : Bool) (v0l : List (Sl Int)) (v3 : Int) (v9z : Bool) (v9l : List (Sl Int)) (v10 v11 : Int) (r : (Ow Int)) (_ : zln q v0z v0l v3 v9z v9l v10 v11 = some r) (R : Option (List V)) (_ : some [(Ow.enc 1 (V.int .u8)) r] = R) (fr : Fr) (H : Hp) (_ : canon 0 [0, 3, 9, 10, 11] fr H = ([(0, (.sl v0z (List.map (Sl.enc (V.int .u8)) v0l))), (3, (.int .i64 v3)), (9, (.sl v9z (List.map (Sl.enc (V.int .u8)) v9l))), (10, (.int .i64 v10)), (11, (.int .i64 v11))], [])), fin zxy (unw T (orc T (M + 7)) (M + 7) 0 [.blk 0, .code zxu] (iter 0 [0, 3, 9, 10, 11] (exec T (orc T (M + 7)) (M + 7) 0 zxd) j fr H)) = R
def zbq3 (q : Nat) : Prop := ∀ (M : Nat) (hM : 8 * q ≤ M) (j : Nat) (hj : q ≤ j) (v6len : Nat) (v25z : Bool) (v25l : List (Sl Int)) (v26 v27 : Int) (h0z : Bool) (h0l : List Int) (r : (Ow Int)) (_ : zlk q v6len v25z v25l v26 v27 h0z h0l = some r) (R : Option (List V)) (_ : some [(Ow.enc 1 (V.int .u8)) r] = R) (fr : Fr) (H : Hp) (_ : canon 0 [6, 25, 26, 27] fr H = ([(6, (.vw 0 0 0 v6len 0)), (25, (.sl v25z (List.map (Sl.enc (V.int .u8)) v25l))), (26, (.int .i64 v26)), (27, (.int .i64 v27))], [(.row 0 h0z 1 (List.map (V.int .u8) h0l) true)])), fin zxy (unw T (orc T (M + 7)) (M + 7) 0 [.blk 2, .code zxs] (iter 0 [6, 25, 26, 27] (exec T (orc T (M + 7)) (M + 7) 0 zxp) j fr H)) = R
def zbq4 (q : Nat) : Prop := ∀ (M : Nat) (hM : 8 * q ≤ M) (j : Nat) (hj : q ≤ j) (v25z : Bool) (v25l : List (Sl Int)) (v26 : Int) (r : (Ow Int)) (_ : zlm q v25z v25l v26 = some r) (R : Option (List V)) (_ : some [(Ow.enc 1 (V.int .u8)) r] = R) (fr : Fr) (H : Hp) (_ : canon 0 [6, 25, 26, 27] fr H = ([(6, (.sl true [])), (25, (.sl v25z (List.map (Sl.enc (V.int .u8)) v25l))), (26, (.int .i64 v26)), (27, (.int .i64 0))], [])), fin zxy (unw T (orc T (M + 7)) (M + 7) 0 [.blk 2, .code zxs] (iter 0 [6, 25, 26, 27] (exec T (orc T (M + 7)) (M + 7) 0 zxp) j fr H)) = R
def zbq5 (q : Nat) : Prop := ∀ (M : Nat) (hM : 8 * q ≤ M) (j : Nat) (hj : q ≤ j) (v25z : Bool) (v25l : List (Sl Int)) (v26 v27 : Int) (h0z : Bool) (h0l : List Int) (r : (Ow Int)) (_ : zll q v25z v25l v26 v27 h0z h0l = some r) (R : Option (List V)) (_ : some [(Ow.enc 1 (V.int .u8)) r] = R) (fr : Fr) (H : Hp) (_ : canon 0 [6, 25, 26, 27] fr H = ([(6, (.vw 0 0 0 h0l.length 1)), (25, (.sl v25z (List.map (Sl.enc (V.int .u8)) v25l))), (26, (.int .i64 v26)), (27, (.int .i64 v27))], [(.row 0 h0z 1 (List.map (V.int .u8) h0l) true)])), fin zxy (unw T (orc T (M + 7)) (M + 7) 0 [.blk 2, .code zxs] (iter 0 [6, 25, 26, 27] (exec T (orc T (M + 7)) (M + 7) 0 zxp) j fr H)) = R
def zbq6 := And.intro @kk <| And.intro @ke <| And.intro @kn <| And.intro @zbhn <| And.intro @zbjk <| And.intro @zbjl <| And.intro @zbjm <| @zbhp
theorem zbq7 (q : Nat) (zbtn : zbq2 q) (zbto : zbq3 q) (zbtp : zbq4 q) : zbq2 (q + 1) := by
 intro M hM j hj v0z v0l v3 v9z v9l v10 v11 r h R hR fr H hc
 obtain ⟨j, rfl⟩ : ∃ i, j = i + 1 := ⟨j - 1, by omega⟩
 rw [zhj, hc]; clear hc
 rw [zln] at h
 replace h := br h; rcases h with ⟨h1, h⟩ | ⟨h1, h⟩
 ·replace h := bn h; obtain ⟨h2, h⟩ := h
  replace h := ob h; obtain ⟨e1, h3, h⟩ := h
  replace h := bm h; obtain ⟨h4, h⟩ := h
  replace h := zbtn M (by omega) j (by omega) _ _ _ _ _ _ _ _ h R hR
  simp only [zbq6, simprocAttr, *]
 ·replace h := bm h; obtain ⟨h5, h⟩ := h
  replace h := br h; rcases h with ⟨h6, h⟩ | ⟨h6, h⟩
  ·replace h := bn h; obtain ⟨h7, h⟩ := h
   replace h := bn h; obtain ⟨h8, h⟩ := h
   replace h := bm h; obtain ⟨h9, h⟩ := h
   replace h := zbto M (by omega) (M + 7) (by omega) _ _ _ _ _ _ _ _ h R hR
   simp only [zbq6, simprocAttr, *]
  ·replace h := zbtp M (by omega) (M + 7) (by omega) _ _ _ _ h R hR
   simp only [zbq6, simprocAttr, *]
theorem zbq8 (q : Nat) (zbto : zbq3 q) : zbq3 (q + 1) := by
 intro M hM j hj v6len v25z v25l v26 v27 h0z h0l r h R hR fr H hc
 obtain ⟨j, rfl⟩ : ∃ i, j = i + 1 := ⟨j - 1, by omega⟩
 rw [zhj, hc]; clear hc
 rw [zlk] at h
 replace h := br h; rcases h with ⟨h1, h⟩ | ⟨h1, h⟩
 ·replace h := bn h; obtain ⟨h2, h⟩ := h
  replace h := ob h; obtain ⟨e2, h3, h⟩ := h
  replace h := bn h; obtain ⟨h4, h⟩ := h
  replace h := zbto M (by omega) j (by omega) _ _ _ _ _ _ _ _ h R hR
  simp only [zbq6, simprocAttr, *]
 ·cases h; subst hR; simp only [zbq6, simprocAttr, *]
theorem zbq9 (q : Nat) (zbtq : zbq5 q) : zbq4 (q + 1) := by
 intro M hM j hj v25z v25l v26 r h R hR fr H hc
 obtain ⟨j, rfl⟩ : ∃ i, j = i + 1 := ⟨j - 1, by omega⟩
 rw [zhj, hc]; clear hc
 rw [zlm] at h
 replace h := br h; rcases h with ⟨h1, h⟩ | ⟨h1, h⟩
 ·replace h := ob h; obtain ⟨e3, h2, h⟩ := h
  replace h := bn h; obtain ⟨h3, h⟩ := h
  replace h := zbtq M (by omega) j (by omega) _ _ _ _ _ _ _ h R hR
  simp only [zbq6, simprocAttr, *]
 ·cases h; subst hR; simp only [zbq6, simprocAttr, *]
theorem zbra (q : Nat) (zbtq : zbq5 q) : zbq5 (q + 1) := by
 intro M hM j hj v25z v25l v26 v27 h0z h0l r h R hR fr H hc
 obtain ⟨j, rfl⟩ : ∃ i, j = i + 1 := ⟨j - 1, by omega⟩
 rw [zhj, hc]; clear hc
 rw [zll] at h
 replace h := br h; rcases h with ⟨h1, h⟩ | ⟨h1, h⟩
 ·replace h := bn h; obtain ⟨h2, h⟩ := h
  replace h := ob h; obtain ⟨e4, h3, h⟩ := h
  replace h := bn h; obtain ⟨h4, h⟩ := h
  replace h := zbtq M (by omega) j (by omega) _ _ _ _ _ _ _ h R hR
  simp only [zbq6, simprocAttr, *]
 ·cases h; subst hR; simp only [zbq6, simprocAttr, *]
theorem zbrb : ∀ q, zbq2 q ∧ zbq3 q ∧ zbq4 q ∧ zbq5 q
 | 0 => by refine ⟨?_, ?_, ?_, ?_⟩ <;> (intro M hM j hj; intros; rename_i h _ _ _ _ _; cases h)
 | q + 1 => by have ⟨i0, i1, i2, i3⟩ := zbrb q; exact ⟨zbq7 q i0 i1 i2, zbq8 q i1, zbq9 q i3, zbra q i3⟩
theorem zbrc : ∀ (q N : Nat), 8 * q ≤ N → ∀ (a0 : (Sl (Sl Int))), ∀ (r : (Ow Int)), zlo q a0 = some r → (orc T N).deep F.zlo [(Sl.enc (Sl.enc (V.int .u8))) a0] = some [(Ow.enc 1 (V.int .u8)) r] := by
 intro q N hM a0 r h
 rcases q with _ | q
 ·cases h
 obtain ⟨M, rfl⟩ : ∃ M, N = M + 8 := ⟨N - 8, by omega⟩
 have zbtn := (zbrb q).1
 generalize hR : some [(Ow.enc 1 (V.int .u8)) r] = R
 rw [zhs, zbc9, y5, zhq]
 rw [zlo] at h
 replace h := zbtn M (by omega) (M + 7) (by omega) _ _ _ _ _ _ _ _ h R hR
 simp only [zbq6, simprocAttr, *]
def zbrd := And.intro @kk <| And.intro @ke <| And.intro @kn <| And.intro @zbfw <| And.intro @zbg0 <| And.intro @zbho <| And.intro @zbil <| @zbfy
theorem zbre : ∀ (q N : Nat), 8 * q ≤ N → ∀ (a0 : (Sl Int)), ∀ (r : (Ow Int) × Int), zlp q a0 = some r → (orc T N).deep F.zlp [(Sl.enc (V.int .u8)) a0] = some [(Ow.enc 1 (V.int .u8)) r.1, (V.int .i64) r.2] := by
 intro q N hM a0 r h
 rcases q with _ | q
 ·cases h
 obtain ⟨M, rfl⟩ : ∃ M, N = M + 8 := ⟨N - 8, by omega⟩
 generalize hR : some [(Ow.enc 1 (V.int .u8)) r.1, (V.int .i64) r.2] = R
 rw [zhs, zbco, y5, zhq]
 rw [zlp] at h
 replace h := br h; rcases h with ⟨h1, h⟩ | ⟨h1, h⟩
 ·cases h; subst hR; simp only [zbrd, simprocAttr, *]
 ·replace h := ob h; obtain ⟨r1, h2, h⟩ := h
  replace h2 := zbqf q (M + 7) (by omega) _ _ _ h2
  try simp only [kf, simprocAttr] at h2
  replace h := ob h; obtain ⟨r2, h3, h⟩ := h
  replace h3 := zbp8 q (M + 7) (by omega) _ _ _ h3
  try simp only [kf, simprocAttr] at h3
  replace h := ob h; obtain ⟨r3, h4, h⟩ := h
  replace h4 := zbrc q (M + 7) (by omega) _ _ h4
  try simp only [kf, simprocAttr] at h4
  cases h; subst hR; simp only [zbrd, simprocAttr, *]
def zbrf := And.intro @kk <| And.intro @ke <| And.intro @kn <| And.intro @zbj5 <| @zbj7
theorem zbrg : ∀ (q N : Nat), 8 * q ≤ N → ∀ (a0 : zji), ∀ (r : Int), zlq q a0 = some r → (orc T N).deep F.zlq [zji.enc a0] = some [(V.int .i64) r] := by
 intro q N hM a0 r h
 rcases q with _ | q
 ·cases h
 obtain ⟨M, rfl⟩ : ∃ M, N = M + 8 := ⟨N - 8, by omega⟩
 generalize hR : some [(V.int .i64) r] = R
 rw [zhs, zbd3, y5, zhq]
 rw [zlq] at h
 replace h := bb h; rcases h with ⟨h1', h1, h⟩ | ⟨h1', h1, h⟩
 ·cases h; subst hR; simp only [zbrf, simprocAttr, *]
 ·cases h; subst hR; simp only [zbrf, simprocAttr, *]
def zbrh (q : Nat) : Prop := ∀ (M : Nat) (hM : 8 * q ≤ M) (j : Nat) (hj : q ≤ j) (v21z : Bool) (v21l : List Int) (v22 v23 : Int) (h0z : Bool) (h0l : List Int) (h0x : Bool) (r : (Ow Int) × Int) (_ : zlr q v21z v21l v22 v23 h0z h0l h0x = some r) (R : Option (List V)) (_ : some [(Ow.enc 1 (V.int .u8)) r.1, (V.int .i64) r.2] = R) (fr : Fr) (H : Hp) (_ : canon 0 [4, 21, 22, 23] fr H = ([(4, (.vw 0 0 0 h0l.length 1)), (21, (.sl v21z (List.map (V.int .i64) v21l))), (22, (.int .i64 v22)), (23, (.int .i64 v23))], [(.row 0 h0z 1 (List.map (V.int .u8) h0l) h0x)])), fin z4g (unw T (orc T (M + 7)) (M + 7) 0 [.blk 0, .code z4b] (iter 0 [4, 21, 22, 23] (exec T (orc T (M + 7)) (M + 7) 0 z38) j fr H)) = R
def zbri := And.intro @kk <| And.intro @ke <| And.intro @kn <| And.intro @zbi2 <| And.intro @zbff <| And.intro @zbfu <| And.intro @zbg0 <| And.intro @zbj6 <| @zbi4
theorem zbrj (q : Nat) (zbtr : zbrh q) : zbrh (q + 1) := by
 intro M hM j hj v21z v21l v22 v23 h0z h0l h0x r h R hR fr H hc
 obtain ⟨j, rfl⟩ : ∃ i, j = i + 1 := ⟨j - 1, by omega⟩
 rw [zhj, hc]; clear hc
 rw [zlr] at h
 replace h := br h; rcases h with ⟨h1, h⟩ | ⟨h1, h⟩
 ·replace h := bn h; obtain ⟨h2, h⟩ := h
  replace h := ob h; obtain ⟨e6, h3, h⟩ := h
  replace h := ob h; obtain ⟨r7, h4, h⟩ := h
  replace h4 := zbqj q (M + 7) (by omega) _ _ _ h4
  try simp only [kf, simprocAttr] at h4
  replace h := zbtr M (by omega) j (by omega) _ _ _ _ _ _ _ _ h R hR
  simp only [zbri, simprocAttr, *]
 ·cases h; subst hR; simp only [zbri, simprocAttr, *]
theorem zbrk : ∀ q, zbrh q
 | 0 => by intro M hM j hj; intros; rename_i h _ _ _ _ _; cases h
 | q + 1 => by have i0 := zbrk q; exact zbrj q i0
theorem zbrl : ∀ (q N : Nat), 8 * q ≤ N → ∀ (a0 : zji), ∀ (r : (Ow Int) × Int), zls q a0 = some r → (orc T N).deep F.zls [zji.enc a0] = some [(Ow.enc 1 (V.int .u8)) r.1, (V.int .i64) r.2] := by
 intro q N hM a0 r h
 rcases q with _ | q
 ·cases h
 obtain ⟨M, rfl⟩ : ∃ M, N = M + 8 := ⟨N - 8, by omega⟩
 have zbtr := (zbrk q)
 generalize hR : some [(Ow.enc 1 (V.int .u8)) r.1, (V.int .i64) r.2] = R
 rw [zhs, zbdq, y5, zhq]
 rw [zls] at h
 replace h := ob h; obtain ⟨r1, h1, h⟩ := h
 replace h1 := zbms q (M + 7) (by omega) _ _ h1
 try simp only [kf, simprocAttr] at h1
 replace h := bb h; rcases h with ⟨h2', h2, h⟩ | ⟨h2', h2, h⟩
 ·replace h := ob h; obtain ⟨r2, h3, h⟩ := h
  replace h3 := zbqf q (M + 7) (by omega) _ _ _ h3
  try simp only [kf, simprocAttr] at h3
  replace h := ob h; obtain ⟨r3, h4, h⟩ := h
  replace h4 := zbrg q (M + 7) (by omega) _ _ h4
  try simp only [kf, simprocAttr] at h4
  replace h := ob h; obtain ⟨r4, h5, h⟩ := h
  replace h5 := zbqf q (M + 7) (by omega) _ _ _ h5
  try simp only [kf, simprocAttr] at h5
  replace h := ob h; obtain ⟨r5, h6, h⟩ := h
  replace h6 := zbqf q (M + 7) (by omega) _ _ _ h6
  try simp only [kf, simprocAttr] at h6
  replace h := zbtr M (by omega) (M + 7) (by omega) _ _ _ _ _ _ _ _ h R hR
  simp only [zbri, simprocAttr, *]
 ·cases h; subst hR; simp only [zbri, simprocAttr, *]
def zbrm (q : Nat) : Prop := ∀ (M : Nat) (hM : 8 * q ≤ M) (j : Nat) (hj : q ≤ j) (v24z : Bool) (v24l : List zjj) (v25 v26 : Int) (h0z : Bool) (h0l : List Int) (h0x : Bool) (r : (Ow Int)) (_ : zlt q v24z v24l v25 v26 h0z h0l h0x = some r) (R : Option (List V)) (_ : some [(Ow.enc 1 (V.int .u8)) r] = R) (fr : Fr) (H : Hp) (_ : canon 0 [5, 24, 25, 26] fr H = ([(5, (.vw 0 0 0 h0l.length 1)), (24, (.sl v24z (List.map zjj.enc v24l))), (25, (.int .i64 v25)), (26, (.int .i64 v26))], [(.row 0 h0z 1 (List.map (V.int .u8) h0l) h0x)])), fin zvh (unw T (orc T (M + 7)) (M + 7) 0 [.blk 0, .code zvc] (iter 0 [5, 24, 25, 26] (exec T (orc T (M + 7)) (M + 7) 0 zu9) j fr H)) = R
def zbrn := And.intro @kk <| And.intro @ke <| And.intro @kn <| And.intro @zbgw <| And.intro @zbfu <| And.intro @zbg0 <| And.intro @zbi3 <| @zbgy
theorem zbro (q : Nat) (zbts : zbrm q) : zbrm (q + 1) := by
 intro M hM j hj v24z v24l v25 v26 h0z h0l h0x r h R hR fr H hc
 obtain ⟨j, rfl⟩ : ∃ i, j = i + 1 := ⟨j - 1, by omega⟩
 rw [zhj, hc]; clear hc
 rw [zlt] at h
 replace h := br h; rcases h with ⟨h1, h⟩ | ⟨h1, h⟩
 ·replace h := bn h; obtain ⟨h2, h⟩ := h
  replace h := ob h; obtain ⟨e4, h3, h⟩ := h
  replace h := ob h; obtain ⟨r5, h4, h⟩ := h
  replace h4 := zbqf q (M + 7) (by omega) _ _ _ h4
  try simp only [kf, simprocAttr] at h4
  replace h := ob h; obtain ⟨r6, h5, h⟩ := h
  replace h5 := zbqf q (M + 7) (by omega) _ _ _ h5
  try simp only [kf, simprocAttr] at h5
  replace h := ob h; obtain ⟨r7, h6, h⟩ := h
  replace h6 := zbqj q (M + 7) (by omega) _ _ _ h6
  try simp only [kf, simprocAttr] at h6
  replace h := zbts M (by omega) j (by omega) _ _ _ _ _ _ _ _ h R hR
  simp only [zbrn, simprocAttr, *]
 ·cases h; subst hR; simp only [zbrn, simprocAttr, *]
theorem zbrp : ∀ q, zbrm q
 | 0 => by intro M hM j hj; intros; rename_i h _ _ _ _ _; cases h
 | q + 1 => by have i0 := zbrp q; exact zbro q i0
theorem zbrq : ∀ (q N : Nat), 8 * q ≤ N → ∀ (a0 : zjk), ∀ (r : (Ow Int)), zlu q a0 = some r → (orc T N).deep F.zlu [zjk.enc a0] = some [(Ow.enc 1 (V.int .u8)) r] := by
 intro q N hM a0 r h
 rcases q with _ | q
 ·cases h
 obtain ⟨M, rfl⟩ : ∃ M, N = M + 8 := ⟨N - 8, by omega⟩
 have zbts := (zbrp q)
 generalize hR : some [(Ow.enc 1 (V.int .u8)) r] = R
 rw [zhs, zbc0, y5, zhq]
 rw [zlu] at h
 replace h := ob h; obtain ⟨r1, h1, h⟩ := h
 replace h1 := zbrl q (M + 7) (by omega) _ _ h1
 try simp only [kf, simprocAttr] at h1
 replace h := ob h; obtain ⟨r2, h2, h⟩ := h
 replace h2 := zbqf q (M + 7) (by omega) _ _ _ h2
 try simp only [kf, simprocAttr] at h2
 replace h := bn h; obtain ⟨h3, h⟩ := h
 replace h := ob h; obtain ⟨r3, h4, h⟩ := h
 replace h4 := zbqf q (M + 7) (by omega) _ _ _ h4
 try simp only [kf, simprocAttr] at h4
 replace h := zbts M (by omega) (M + 7) (by omega) _ _ _ _ _ _ _ _ h R hR
 simp only [zbrn, simprocAttr, *]
def zbrr := And.intro @kk <| And.intro @ke <| And.intro @kn <| And.intro @zbg2 <| And.intro @zbfx <| @zbg4
theorem zbrs : ∀ (q N : Nat), 8 * q ≤ N → ∀ (a0 : (Sl Int)), ∀ (r : (Ow Int)), zlv q a0 = some r → (orc T N).deep F.zlv [(Sl.enc (V.int .u8)) a0] = some [(Ow.enc 1 (V.int .u8)) r] := by
 intro q N hM a0 r h
 rcases q with _ | q
 ·cases h
 obtain ⟨M, rfl⟩ : ∃ M, N = M + 8 := ⟨N - 8, by omega⟩
 generalize hR : some [(Ow.enc 1 (V.int .u8)) r] = R
 rw [zhs, zbc2, y5, zhq]
 rw [zlv] at h
 replace h := ob h; obtain ⟨r1, h1, h⟩ := h
 replace h1 := zbre q (M + 7) (by omega) _ _ h1
 try simp only [kf, simprocAttr] at h1
 cases h; subst hR; simp only [zbrr, simprocAttr, *]
def zbrt (q : Nat) : Prop := ∀ (M : Nat) (hM : 8 * q ≤ M) (j : Nat) (hj : q ≤ j) (h0z : Bool) (h0l : List Int) (h0x h1z : Bool) (h1l : List Int) (h1x : Bool) (r : (Ow Int) × Int) (_ : zlx q h0z h0l h0x h1z h1l h1x = some r) (R : Option (List V)) (_ : some [(Ow.enc 1 (V.int .u8)) r.1, (V.int .i64) r.2] = R) (fr : Fr) (H : Hp) (_ : canon 0 [4, 6] fr H = ([(4, (.vw 0 0 0 h0l.length 1)), (6, (.vw 1 0 0 h1l.length 1))], [(.row 0 h0z 1 (List.map (V.int .u8) h0l) h0x), (.row 0 h1z 1 (List.map (V.int .u8) h1l) h1x)])), fin zos (unw T (orc T (M + 7)) (M + 7) 0 [.blk 0, .code zol] (iter 0 [4, 6] (exec T (orc T (M + 7)) (M + 7) 0 zoj) j fr H)) = R
def zbru (q : Nat) : Prop := ∀ (M : Nat) (hM : 8 * q ≤ M) (j : Nat) (hj : q ≤ j) (v4off v4len : Nat) (h0z : Bool) (h0l : List Int) (h1z : Bool) (h1l : List Int) (h1x : Bool) (r : (Ow Int) × Int) (_ : zlw q v4off v4len h0z h0l h1z h1l h1x = some r) (R : Option (List V)) (_ : some [(Ow.enc 1 (V.int .u8)) r.1, (V.int .i64) r.2] = R) (fr : Fr) (H : Hp) (_ : canon 0 [4, 6] fr H = ([(4, (.vw 0 0 v4off v4len 1)), (6, (.vw 1 0 0 h1l.length 1))], [(.row 0 h0z 1 (List.map (V.int .u8) h0l) false), (.row 0 h1z 1 (List.map (V.int .u8) h1l) h1x)])), fin zos (unw T (orc T (M + 7)) (M + 7) 0 [.blk 0, .code zol] (iter 0 [4, 6] (exec T (orc T (M + 7)) (M + 7) 0 zoj) j fr H)) = R
def zbrv := And.intro @kk <| And.intro @ke <| And.intro @kn <| And.intro @zbet <| And.intro @zbec <| And.intro @zbgx <| And.intro @zbg0 <| And.intro @zbg3 <| And.intro @zbg6 <| And.intro @zbg9 <| @zbev
theorem zbrw (q : Nat) (zbtt : zbru q) : zbrt (q + 1) := by
 intro M hM j hj h0z h0l h0x h1z h1l h1x r h R hR fr H hc
 obtain ⟨j, rfl⟩ : ∃ i, j = i + 1 := ⟨j - 1, by omega⟩
 rw [zhj, hc]; clear hc
 rw [zlx] at h
 replace h := br h; rcases h with ⟨h1, h⟩ | ⟨h1, h⟩
 ·replace h := bn h; obtain ⟨h2, h⟩ := h
  replace h := bn h; obtain ⟨h3, h⟩ := h
  replace h := bn h; obtain ⟨h4, h⟩ := h
  replace h := ob h; obtain ⟨r9, h5, h⟩ := h
  replace h5 := zbrs q (M + 7) (by omega) _ _ h5
  try simp only [kf, simprocAttr] at h5
  replace h := bn h; obtain ⟨h6, h⟩ := h
  replace h := zbtt M (by omega) j (by omega) _ _ _ _ _ _ _ _ h R hR
  simp only [zbrv, simprocAttr, *]
 ·cases h; subst hR; simp only [zbrv, simprocAttr, *]
theorem zbrx (q : Nat) (zbtt : zbru q) : zbru (q + 1) := by
 intro M hM j hj v4off v4len h0z h0l h1z h1l h1x r h R hR fr H hc
 obtain ⟨j, rfl⟩ : ∃ i, j = i + 1 := ⟨j - 1, by omega⟩
 rw [zhj, hc]; clear hc
 rw [zlw] at h
 replace h := br h; rcases h with ⟨h1, h⟩ | ⟨h1, h⟩
 ·replace h := bn h; obtain ⟨h2, h⟩ := h
  replace h := bn h; obtain ⟨h3, h⟩ := h
  replace h := bn h; obtain ⟨h4, h⟩ := h
  replace h := ob h; obtain ⟨r10, h5, h⟩ := h
  replace h5 := zbrs q (M + 7) (by omega) _ _ h5
  try simp only [kf, simprocAttr] at h5
  replace h := bn h; obtain ⟨h6, h⟩ := h
  replace h := bn h; obtain ⟨h7, h⟩ := h
  replace h := zbtt M (by omega) j (by omega) _ _ _ _ _ _ _ _ h R hR
  simp only [zbrv, simprocAttr, *]
 ·cases h; subst hR; simp only [zbrv, simprocAttr, *]
theorem zbry : ∀ q, zbrt q ∧ zbru q
 | 0 => by refine ⟨?_, ?_⟩ <;> (intro M hM j hj; intros; rename_i h _ _ _ _ _; cases h)
 | q + 1 => by have ⟨i0, i1⟩ := zbry q; exact ⟨zbrw q i1, zbrx q i1⟩
theorem zbrz : ∀ (q N : Nat), 8 * q ≤ N → ∀ (a0 : zjk), ∀ (r : (Ow Int) × Int), zly q a0 = some r → (orc T N).deep F.zly [zjk.enc a0] = some [(Ow.enc 1 (V.int .u8)) r.1, (V.int .i64) r.2] := by
 intro q N hM a0 r h
 rcases q with _ | q
 ·cases h
 obtain ⟨M, rfl⟩ : ∃ M, N = M + 8 := ⟨N - 8, by omega⟩
 have ih_snapshot_Encode_l0 := (zbry q).1
 generalize hR : some [(Ow.enc 1 (V.int .u8)) r.1, (V.int .i64) r.2] = R
 rw [zhs, zbcb, y5, zhq]
 rw [zly] at h
 replace h := ob h; obtain ⟨r1, h1, h⟩ := h
 replace h1 := zbm1 q (M + 7) (by omega) _ _ h1
 try simp only [kf, simprocAttr] at h1
 replace h := bb h; rcases h with ⟨h2', h2, h⟩ | ⟨h2', h2, h⟩
 ·replace h := ob h; obtain ⟨r2, h3, h⟩ := h
  replace h3 := zbrq q (M + 7) (by omega) _ _ h3
  try simp only [kf, simprocAttr] at h3
  replace h := ob h; obtain ⟨r3, h4, h⟩ := h
  replace h4 := zbqf q (M + 7) (by omega) _ _ _ h4
  try simp only [kf, simprocAttr] at h4
  replace h := ob h; obtain ⟨r4, h5, h⟩ := h
  replace h5 := zbqf q (M + 7) (by omega) _ _ _ h5
  try simp only [kf, simprocAttr] at h5
  replace h := ob h; obtain ⟨r5, h6, h⟩ := h
  replace h6 := zbqf q (M + 7) (by omega) _ _ _ h6
  try simp only [kf, simprocAttr] at h6
  replace h := ob h; obtain ⟨r6, h7, h⟩ := h
  replace h7 := zbpz q (M + 7) (by omega) _ _ h7
  try simp only [kf, simprocAttr] at h7
  replace h := ob h; obtain ⟨r7, h8, h⟩ := h
  replace h8 := zbp6 q (M + 7) (by omega) _ _ h8
  try simp only [kf, simprocAttr] at h8
  replace h := bn h; obtain ⟨h9, h⟩ := h
  replace h := ob h; obtain ⟨r8, h10, h⟩ := h
  replace h10 := zbrs q (M + 7) (by omega) _ _ h10
  try simp only [kf, simprocAttr] at h10
  replace h := ih_snapshot_Encode_l0 M (by omega) (M + 7) (by omega) _ _ _ _ _ _ _ h R hR
  simp only [zbrv, simprocAttr, *]
 ·cases h; subst hR; simp only [zbrv, simprocAttr, *]
def zbr0 := And.intro @kk <| And.intro @ke <| And.intro @kn <| And.intro @zbek <| And.intro @zbef <| And.intro @zbeu <| @zbem
theorem zbr1 : ∀ (q N : Nat), 8 * q ≤ N → ∀ (r : Bool), zlz q = some r → (orc T N).deep F.zlz [] = some [V.bool r] := by
 intro q N hM r h
 rcases q with _ | q
 ·cases h
 obtain ⟨M, rfl⟩ : ∃ M, N = M + 8 := ⟨N - 8, by omega⟩
 generalize hR : some [V.bool r] = R
 rw [zhs, zbb8, y5, zhq]
 rw [zlz] at h
 replace h := ob h; obtain ⟨r1, h1, h⟩ := h
 replace h1 := zbpl q (M + 7) (by omega) _ _ _ h1
 try simp only [kf, simprocAttr] at h1
 replace h := ob h; obtain ⟨r2, h2, h⟩ := h
 replace h2 := zbrz q (M + 7) (by omega) _ _ h2
 try simp only [kf, simprocAttr] at h2
 replace h := br h; rcases h with ⟨h3, h⟩ | ⟨h3, h⟩
 ·replace h := br h; rcases h with ⟨h4, h⟩ | ⟨h4, h⟩
  ·replace h := br h; rcases h with ⟨h5, h⟩ | ⟨h5, h⟩
   ·replace h := br h; rcases h with ⟨h6, h⟩ | ⟨h6, h⟩
    ·replace h := br h; rcases h with ⟨h7, h⟩ | ⟨h7, h⟩
     ·replace h := ob h; obtain ⟨e3, h8, h⟩ := h
      replace h := br h; rcases h with ⟨h9, h⟩ | ⟨h9, h⟩
      ·replace h := br h; rcases h with ⟨h10, h⟩ | ⟨h10, h⟩
       ·replace h := br h; rcases h with ⟨h11, h⟩ | ⟨h11, h⟩
        ·replace h := br h; rcases h with ⟨h12, h⟩ | ⟨h12, h⟩
         ·replace h := ob h; obtain ⟨e4, h13, h⟩ := h
          cases h; subst hR; simp only [zbr0, simprocAttr, *]
         ·cases h; subst hR; simp only [zbr0, simprocAttr, *]
        ·cases h; subst hR; simp only [zbr0, simprocAttr, *]
       ·cases h; subst hR; simp only [zbr0, simprocAttr, *]
      ·cases h; subst hR; simp only [zbr0, simprocAttr, *]
     ·cases h; subst hR; simp only [zbr0, simprocAttr, *]
    ·cases h; subst hR; simp only [zbr0, simprocAttr, *]
   ·cases h; subst hR; simp only [zbr0, simprocAttr, *]
  ·cases h; subst hR; simp only [zbr0, simprocAttr, *]
 ·cases h; subst hR; simp only [zbr0, simprocAttr, *]
def zbr2 (q : Nat) : Prop := ∀ (M : Nat) (hM : 8 * q ≤ M) (j : Nat) (hj : q ≤ j) (v5 h0_0 : Int) (h0_1z : Bool) (h0_1l : List Int) (h0_2 : Bool) (h0_3 h1_0 : Int) (h1_1z : Bool) (h1_1l : List Int) (h1_2 : Bool) (h1_3 : Int) (r : Bool) (_ : zl0 q v5 h0_0 h0_1z h0_1l h0_2 h0_3 h1_0 h1_1z h1_1l h1_2 h1_3 = some r) (R : Option (List V)) (_ : some [V.bool r] = R) (fr : Fr) (H : Hp) (_ : canon 0 [2, 3, 5] fr H = ([(2, (.ptr 0 0)), (3, (.ptr 1 0)), (5, (.int .i64 v5))], [(.box [(.int .i64 h0_0), (.sl h0_1z (List.map (V.int .i64) h0_1l)), (.bool h0_2), (.int .i64 h0_3)]), (.box [(.int .i64 h1_0), (.sl h1_1z (List.map (V.int .i64) h1_1l)), (.bool h1_2), (.int .i64 h1_3)])])), fin zsp (unw T (orc T (M + 7)) (M + 7) 0 [.blk 0, .code zsl] (iter 0 [2, 3, 5] (exec T (orc T (M + 7)) (M + 7) 0 zsi) j fr H)) = R
def zbr3 := And.intro @kk <| And.intro @ke <| And.intro @kn <| And.intro @zbfz <| @zbf1
theorem zbr4 (q : Nat) (zbtu : zbr2 q) : zbr2 (q + 1) := by
 intro M hM j hj v5 h0_0 h0_1z h0_1l h0_2 h0_3 h1_0 h1_1z h1_1l h1_2 h1_3 r h R hR fr H hc
 obtain ⟨j, rfl⟩ : ∃ i, j = i + 1 := ⟨j - 1, by omega⟩
 rw [zhj, hc]; clear hc
 rw [zl0] at h
 replace h := br h; rcases h with ⟨h1, h⟩ | ⟨h1, h⟩
 ·replace h := bn h; obtain ⟨h2, h⟩ := h
  replace h := ob h; obtain ⟨e1, h3, h⟩ := h
  replace h := ob h; obtain ⟨e2, h4, h⟩ := h
  replace h := br h; rcases h with ⟨h5, h⟩ | ⟨h5, h⟩
  ·replace h := zbtu M (by omega) j (by omega) _ _ _ _ _ _ _ _ _ _ _ _ h R hR
   simp only [zbr3, simprocAttr, *]
  ·cases h; subst hR; simp only [zbr3, simprocAttr, *]
 ·cases h; subst hR; simp only [zbr3, simprocAttr, *]
theorem zbr5 : ∀ q, zbr2 q
 | 0 => by intro M hM j hj; intros; rename_i h _ _ _ _ _; cases h
 | q + 1 => by have i0 := zbr5 q; exact zbr4 q i0
theorem zbr6 : ∀ (q N : Nat), 8 * q ≤ N → ∀ (a0 a1 : zji), ∀ (r : Bool), zl1 q a0 a1 = some r → (orc T N).deep F.zl1 [zji.enc a0, zji.enc a1] = some [V.bool r] := by
 intro q N hM a0 a1 r h
 rcases q with _ | q
 ·cases h
 obtain ⟨M, rfl⟩ : ∃ M, N = M + 8 := ⟨N - 8, by omega⟩
 have zbtu := (zbr5 q)
 generalize hR : some [V.bool r] = R
 rw [zhs, zbcp, y5, zhq]
 rw [zl1] at h
 replace h := br h; rcases h with ⟨h1, h⟩ | ⟨h1, h⟩
 ·replace h := bb h; rcases h with ⟨h2', h2, h⟩ | ⟨h2', h2, h⟩
  ·replace h := br h; rcases h with ⟨h3, h⟩ | ⟨h3, h⟩
   ·replace h := br h; rcases h with ⟨h4, h⟩ | ⟨h4, h⟩
    ·replace h := zbtu M (by omega) (M + 7) (by omega) _ _ _ _ _ _ _ _ _ _ _ _ h R hR
     simp only [zbr3, simprocAttr, *]
    ·cases h; subst hR; simp only [zbr3, simprocAttr, *]
   ·cases h; subst hR; simp only [zbr3, simprocAttr, *]
  ·cases h; subst hR; simp only [zbr3, simprocAttr, *]
 ·cases h; subst hR; simp only [zbr3, simprocAttr, *]
def zbr7 (q : Nat) : Prop := ∀ (M : Nat) (hM : 8 * q ≤ M) (j : Nat) (hj : q ≤ j) (v6 h0_0 h0_1 : Int) (h0_2z : Bool) (h0_2l : List Int) (h0_3 : Bool) (h0_4 : Int) (h0_5z : Bool) (h0_5l : List zjj) (h1_0 h1_1 : Int) (h1_2z : Bool) (h1_2l : List Int) (h1_3 : Bool) (h1_4 : Int) (h1_5z : Bool) (h1_5l : List zjj) (r : Bool) (_ : zl2 q v6 h0_0 h0_1 h0_2z h0_2l h0_3 h0_4 h0_5z h0_5l h1_0 h1_1 h1_2z h1_2l h1_3 h1_4 h1_5z h1_5l = some r) (R : Option (List V)) (_ : some [V.bool r] = R) (fr : Fr) (H : Hp) (_ : canon 0 [2, 3, 6] fr H = ([(2, (.ptr 0 0)), (3, (.ptr 1 0)), (6, (.int .i64 v6))], [(.box [(.int .i64 h0_0), (.int .i64 h0_1), (.sl h0_2z (List.map (V.int .i64) h0_2l)), (.bool h0_3), (.int .i64 h0_4), (.sl h0_5z (List.map zjj.enc h0_5l))]), (.box [(.int .i64 h1_0), (.int .i64 h1_1), (.sl h1_2z (List.map (V.int .i64) h1_2l)), (.bool h1_3), (.int .i64 h1_4), (.sl h1_5z (List.map zjj.enc h1_5l))])])), fin zn8 (unw T (orc T (M + 7)) (M + 7) 0 [.blk 0, .code zn3] (iter 0 [2, 3, 6] (exec T (orc T (M + 7)) (M + 7) 0 zn0) j fr H)) = R
def zbr8 := And.intro @kk <| And.intro @ke <| And.intro @kn <| And.intro @zben <| And.intro @zbf0 <| @zbep
theorem zbr9 (q : Nat) (zbtv : zbr7 q) : zbr7 (q + 1) := by
 intro M hM j hj v6 h0_0 h0_1 h0_2z h0_2l h0_3 h0_4 h0_5z h0_5l h1_0 h1_1 h1_2z h1_2l h1_3 h1_4 h1_5z h1_5l r h R hR fr H hc
 obtain ⟨j, rfl⟩ : ∃ i, j = i + 1 := ⟨j - 1, by omega⟩
 rw [zhj, hc]; clear hc
 rw [zl2] at h
 replace h := br h; rcases h with ⟨h1, h⟩ | ⟨h1, h⟩
 ·replace h := bn h; obtain ⟨h2, h⟩ := h
  replace h := ob h; obtain ⟨e2, h3, h⟩ := h
  replace h := ob h; obtain ⟨e3, h4, h⟩ := h
  replace h := br h; rcases h with ⟨h5, h⟩ | ⟨h5, h⟩
  ·replace h := br h; rcases h with ⟨h6, h⟩ | ⟨h6, h⟩
   ·replace h := br h; rcases h with ⟨h7, h⟩ | ⟨h7, h⟩
    ·replace h := zbtv M (by omega) j (by omega) _ _ _ _ _ _ _ _ _ _ _ _ _ _ _ _ _ _ h R hR
     simp only [zbr8, simprocAttr, *]
    ·cases h; subst hR; simp only [zbr8, simprocAttr, *]
   ·cases h; subst hR; simp only [zbr8, simprocAttr, *]
  ·cases h; subst hR; simp only [zbr8, simprocAttr, *]
 ·cases h; subst hR; simp only [zbr8, simprocAttr, *]
theorem zbsa : ∀ q, zbr7 q
 | 0 => by intro M hM j hj; intros; rename_i h _ _ _ _ _; cases h
 | q + 1 => by have i0 := zbsa q; exact zbr9 q i0
theorem zbsb : ∀ (q N : Nat), 8 * q ≤ N → ∀ (a0 a1 : zjk), ∀ (r : Bool), zl3 q a0 a1 = some r → (orc T N).deep F.zl3 [zjk.enc a0, zjk.enc a1] = some [V.bool r] := by
 intro q N hM a0 a1 r h
 rcases q with _ | q
 ·cases h
 obtain ⟨M, rfl⟩ : ∃ M, N = M + 8 := ⟨N - 8, by omega⟩
 have zbtv := (zbsa q)
 generalize hR : some [V.bool r] = R
 rw [zhs, zbb9, y5, zhq]
 rw [zl3] at h
 replace h := ob h; obtain ⟨r1, h1, h⟩ := h
 replace h1 := zbr6 q (M + 7) (by omega) _ _ _ h1
 try simp only [kf, simprocAttr] at h1
 replace h := bb h; rcases h with ⟨h2', h2, h⟩ | ⟨h2', h2, h⟩
 ·replace h := br h; rcases h with ⟨h3, h⟩ | ⟨h3, h⟩
  ·replace h := br h; rcases h with ⟨h4, h⟩ | ⟨h4, h⟩
   ·replace h := zbtv M (by omega) (M + 7) (by omega) _ _ _ _ _ _ _ _ _ _ _ _ _ _ _ _ _ _ h R hR
    simp only [zbr8, simprocAttr, *]
   ·cases h; subst hR; simp only [zbr8, simprocAttr, *]
  ·cases h; subst hR; simp only [zbr8, simprocAttr, *]
 ·cases h; subst hR; simp only [zbr8, simprocAttr, *]
def zbsc (q : Nat) : Prop := ∀ (M : Nat) (hM : 8 * q ≤ M) (j : Nat) (hj : q ≤ j) (v0 : Int) (h0z : Bool) (h0l : List Int) (r : (Ow Int)) (_ : zl4 q v0 h0z h0l = some r) (R : Option (List V)) (_ : some [(Ow.enc 1 (V.int .u8)) r] = R) (fr : Fr) (H : Hp) (_ : canon 0 [0, 3] fr H = ([(0, (.int .u64 v0)), (3, (.vw 0 0 0 h0l.length 1))], [(.row 0 h0z 1 (List.map (V.int .u8) h0l) true)])), fin z23 (unw T (orc T (M + 7)) (M + 7) 0 [.blk 0, .code z2z] (iter 0 [0, 3] (exec T (orc T (M + 7)) (M + 7) 0 z2x) j fr H)) = R
def zbsd := And.intro @kk <| And.intro @ke <| And.intro @kn <| And.intro @zbit <| @zbiv
theorem zbse (q : Nat) (zbtw : zbsc q) : zbsc (q + 1) := by
 intro M hM j hj v0 h0z h0l r h R hR fr H hc
 obtain ⟨j, rfl⟩ : ∃ i, j = i + 1 := ⟨j - 1, by omega⟩
 rw [zhj, hc]; clear hc
 rw [zl4] at h
 replace h := br h; rcases h with ⟨h1, h⟩ | ⟨h1, h⟩
 ·replace h := bn h; obtain ⟨h2, h⟩ := h
  replace h := zbtw M (by omega) j (by omega) _ _ _ _ h R hR
  simp only [zbsd, simprocAttr, *]
 ·replace h := bn h; obtain ⟨h3, h⟩ := h
  cases h; subst hR; simp only [zbsd, simprocAttr, *]
theorem zbsf : ∀ q, zbsc q
 | 0 => by intro M hM j hj; intros; rename_i h _ _ _ _ _; cases h
 | q + 1 => by have i0 := zbsf q; exact zbse q i0
theorem zbsg : ∀ (q N : Nat), 8 * q ≤ N → ∀ (a0 : Int), ∀ (r : (Ow Int)), zl5 q a0 = some r → (orc T N).deep F.zl5 [(V.int .u64) a0] = some [(Ow.enc 1 (V.int .u8)) r] := by
 intro q N hM a0 r h
 rcases q with _ | q
 ·cases h
 obtain ⟨M, rfl⟩ : ∃ M, N = M + 8 := ⟨N - 8, by omega⟩
 have zbtw := (zbsf q)
 generalize hR : some [(Ow.enc 1 (V.int .u8)) r] = R
 rw [zhs, zbdn, y5, zhq]
 rw [zl5] at h
 replace h := zbtw M (by omega) (M + 7) (by omega) _ _ _ _ h R hR
 simp only [zbsd, simprocAttr, *]
def zbsh := And.intro @kk <| And.intro @ke <| And.intro @kn <| And.intro @zbgk <| And.intro @zbiu <| @zbgm
theorem zbsi : ∀ (q N : Nat), 8 * q ≤ N → ∀ (a0 : (Sl Int)) (a1 : Int), ∀ (r : (Ow Int)), zl6 q a0 a1 = some r → (orc T N).deep F.zl6 [(Sl.enc (V.int .u8)) a0, (V.int .i64) a1] = some [(Ow.enc 1 (V.int .u8)) r] := by
 intro q N hM a0 a1 r h
 rcases q with _ | q
 ·cases h
 obtain ⟨M, rfl⟩ : ∃ M, N = M + 8 := ⟨N - 8, by omega⟩
 generalize hR : some [(Ow.enc 1 (V.int .u8)) r] = R
 rw [zhs, zbcw, y5, zhq]
 rw [zl6] at h
 replace h := bn h; obtain ⟨h1, h⟩ := h
 replace h := br h; rcases h with ⟨h2, h⟩ | ⟨h2, h⟩
 ·cases h; subst hR; simp only [zbsh, simprocAttr, *]
 ·replace h := br h; rcases h with ⟨h3, h⟩ | ⟨h3, h⟩
  ·cases h; subst hR; simp only [zbsh, simprocAttr, *]
  ·replace h := ob h; obtain ⟨r1, h4, h⟩ := h
   replace h4 := zbsg q (M + 7) (by omega) _ _ h4
   try simp only [kf, simprocAttr] at h4
   replace h := bn h; obtain ⟨h5, h⟩ := h
   cases h; subst hR; simp only [zbsh, simprocAttr, *]
def zbsj := And.intro @kk <| And.intro @ke <| And.intro @kn <| And.intro @zbiw <| @zbiy
theorem zbsk : ∀ (q N : Nat), 8 * q ≤ N → ∀ (a0 r : Int), zl7 q a0 = some r → (orc T N).deep F.zl7 [(V.int .i64) a0] = some [(V.int .u64) r] := by
 intro q N hM a0 r h
 rcases q with _ | q
 ·cases h
 obtain ⟨M, rfl⟩ : ∃ M, N = M + 8 := ⟨N - 8, by omega⟩
 generalize hR : some [(V.int .u64) r] = R
 rw [zhs, zbdo, y5, zhq]
 rw [zl7] at h
 replace h := br h; rcases h with ⟨h1, h⟩ | ⟨h1, h⟩
 ·cases h; subst hR; simp only [zbsj, simprocAttr, *]
 ·cases h; subst hR; simp only [zbsj, simprocAttr, *]
def zbsl := And.intro @kk <| And.intro @ke <| And.intro @kn <| And.intro @zbgn <| And.intro @zbiu <| And.intro @zbix <| @zbgp
theorem zbsm : ∀ (q N : Nat), 8 * q ≤ N → ∀ (a0 : (Sl Int)) (a1 : Int), ∀ (r : (Ow Int)), zl8 q a0 a1 = some r → (orc T N).deep F.zl8 [(Sl.enc (V.int .u8)) a0, (V.int .i64) a1] = some [(Ow.enc 1 (V.int .u8)) r] := by
 intro q N hM a0 a1 r h
 rcases q with _ | q
 ·cases h
 obtain ⟨M, rfl⟩ : ∃ M, N = M + 8 := ⟨N - 8, by omega⟩
 generalize hR : some [(Ow.enc 1 (V.int .u8)) r] = R
 rw [zhs, zbcx, y5, zhq]
 rw [zl8] at h
 replace h := bn h; obtain ⟨h1, h⟩ := h
 replace h := ob h; obtain ⟨r1, h2, h⟩ := h
 replace h2 := zbsk q (M + 7) (by omega) _ _ h2
 replace h := ob h; obtain ⟨r2, h3, h⟩ := h
 replace h3 := zbsg q (M + 7) (by omega) _ _ h3
 try simp only [kf, simprocAttr] at h3
 replace h := bn h; obtain ⟨h4, h⟩ := h
 cases h; subst hR; simp only [zbsl, simprocAttr, *]
def zbsn (q : Nat) : Prop := ∀ (M : Nat) (hM : 8 * q ≤ M) (j : Nat) (hj : q ≤ j) (v3 v4 r : Int) (_ : zl9 q v3 v4 = some r) (R : Option (List V)) (_ : some [(V.int .u32) r] = R) (fr : Fr) (H : Hp) (_ : canon 0 [3, 4] fr H = ([(3, (.int .u32 v3)), (4, (.int .i64 v4))], [])), fin zbaw (unw T (orc T (M + 7)) (M + 7) 0 [.blk 0, .code zbas] (iter 0 [3, 4] (exec T (orc T (M + 7)) (M + 7) 0 zbap) j fr H)) = R
def zbso := And.intro @kk <| And.intro @ke <| And.intro @kn <| And.intro @zbj2 <| @zbj4
theorem zbsp (q : Nat) (zbtx : zbsn q) : zbsn (q + 1) := by
 intro M hM j hj v3 v4 r h R hR fr H hc
 obtain ⟨j, rfl⟩ : ∃ i, j = i + 1 := ⟨j - 1, by omega⟩
 rw [zhj, hc]; clear hc
 rw [zl9] at h
 replace h := br h; rcases h with ⟨h1, h⟩ | ⟨h1, h⟩
 ·replace h := br h; rcases h with ⟨h2, h⟩ | ⟨h2, h⟩
  ·replace h := zbtx M (by omega) j (by omega) _ _ _ h R hR
   simp only [zbso, simprocAttr, *]
  ·replace h := zbtx M (by omega) j (by omega) _ _ _ h R hR
   simp only [zbso, simprocAttr, *]
 ·cases h; subst hR; simp only [zbso, simprocAttr, *]
theorem zbsq : ∀ q, zbsn q
 | 0 => by intro M hM j hj; intros; rename_i h _ _ _ _ _; cases h
 | q + 1 => by have i0 := zbsq q; exact zbsp q i0
theorem zbsr : ∀ (q N : Nat), 8 * q ≤ N → ∀ (a0 r : Int), zma q a0 = some r → (orc T N).deep F.zma [(V.int .u8) a0] = some [(V.int .u32) r] := by
 intro q N hM a0 r h
 rcases q with _ | q
 ·cases h
 obtain ⟨M, rfl⟩ : ∃ M, N = M + 8 := ⟨N - 8, by omega⟩
 have zbtx := (zbsq q)
 generalize hR : some [(V.int .u32) r] = R
 rw [zhs, zbd2, y5, zhq]
 rw [zma] at h
 replace h := zbtx M (by omega) (M + 7) (by omega) _ _ _ h R hR
 simp only [zbso, simprocAttr, *]
def zbss (q : Nat) : Prop := ∀ (M : Nat) (hM : 8 * q ≤ M) (j : Nat) (hj : q ≤ j) (v1z : Bool) (v1l : List Int) (v5 v6 r : Int) (_ : zmb q v1z v1l v5 v6 = some r) (R : Option (List V)) (_ : some [(V.int .u32) r] = R) (fr : Fr) (H : Hp) (_ : canon 0 [1, 5, 6] fr H = ([(1, (.sl v1z (List.map (V.int .u8) v1l))), (5, (.int .u32 v5)), (6, (.int .i64 v6))], [])), fin z3t (unw T (orc T (M + 7)) (M + 7) 0 [.blk 0, .code z3p] (iter 0 [1, 5, 6] (exec T (orc T (M + 7)) (M + 7) 0 z3m) j fr H)) = R
def zbst := And.intro @kk <| And.intro @ke <| And.intro @kn <| And.intro @zbiz <| And.intro @zbj3 <| @zbi1
theorem zbsu (q : Nat) (zbty : zbss q) : zbss (q + 1) := by
 intro M hM j hj v1z v1l v5 v6 r h R hR fr H hc
 obtain ⟨j, rfl⟩ : ∃ i, j = i + 1 := ⟨j - 1, by omega⟩
 rw [zhj, hc]; clear hc
 rw [zmb] at h
 replace h := br h; rcases h with ⟨h1, h⟩ | ⟨h1, h⟩
 ·replace h := bn h; obtain ⟨h2, h⟩ := h
  replace h := ob h; obtain ⟨e1, h3, h⟩ := h
  replace h := ob h; obtain ⟨r2, h4, h⟩ := h
  replace h4 := zbsr q (M + 7) (by omega) _ _ h4
  replace h := zbty M (by omega) j (by omega) _ _ _ _ _ h R hR
  simp only [zbst, simprocAttr, *]
 ·cases h; subst hR; simp only [zbst, simprocAttr, *]
theorem zbsv : ∀ q, zbss q
 | 0 => by intro M hM j hj; intros; rename_i h _ _ _ _ _; cases h
 | q + 1 => by have i0 := zbsv q; exact zbsu q i0
theorem zbsw : ∀ (q N : Nat), 8 * q ≤ N → ∀ (a0 : Int) (a1 : (Sl Int)), ∀ (r : Int), zmc q a0 a1 = some r → (orc T N).deep F.zmc [(V.int .u32) a0, (Sl.enc (V.int .u8)) a1] = some [(V.int .u32) r] := by
 intro q N hM a0 a1 r h
 rcases q with _ | q
 ·cases h
 obtain ⟨M, rfl⟩ : ∃ M, N = M + 8 := ⟨N - 8, by omega⟩
 have zbty := (zbsv q)
 generalize hR : some [(V.int .u32) r] = R
 rw [zhs, zbdp, y5, zhq]
 rw [zmc] at h
 replace h := zbty M (by omega) (M + 7) (by omega) _ _ _ _ _ h R hR
 simp only [zbst, simprocAttr, *]
def zbsx := And.intro @kk <| And.intro @ke <| And.intro @kn <| And.intro @zbhh <| And.intro @zbi0 <| @zbhj
theorem zbsy : ∀ (q N : Nat), 8 * q ≤ N → ∀ (a0 : (Sl Int)), ∀ (r : Int), zmd q a0 = some r → (orc T N).deep F.zmd [(Sl.enc (V.int .u8)) a0] = some [(V.int .u32) r] := by
 intro q N hM a0 r h
 rcases q with _ | q
 ·cases h
 obtain ⟨M, rfl⟩ : ∃ M, N = M + 8 := ⟨N - 8, by omega⟩
 generalize hR : some [(V.int .u32) r] = R
 rw [zhs, zbc7, y5, zhq]
 rw [zmd] at h
 replace h := ob h; obtain ⟨r1, h1, h⟩ := h
 replace h1 := zbsw q (M + 7) (by omega) _ _ _ h1
 try simp only [kf, simprocAttr] at h1
 cases h; subst hR; simp only [zbsx, simprocAttr, *]
def zbsz (q : Nat) : Prop := ∀ (M : Nat) (hM : 8 * q ≤ M) (j : Nat) (hj : q ≤ j) (v0 v1 v6 : Int) (h0z : Bool) (h0l : List Int) (r : (Ow Int)) (_ : zme q v0 v1 v6 h0z h0l = some r) (R : Option (List V)) (_ : some [(Ow.enc 1 (V.int .u8)) r] = R) (fr : Fr) (H : Hp) (_ : canon 0 [0, 1, 5, 6] fr H = ([(0, (.int .u64 v0)), (1, (.int .i64 v1)), (5, (.vw 0 0 0 h0l.length 1)), (6, (.int .i64 v6))], [(.row 0 h0z 1 (List.map (V.int .u8) h0l) true)])), fin zwh (unw T (orc T (M + 7)) (M + 7) 0 [.blk 0, .code zwd] (iter 0 [0, 1, 5, 6] (exec T (orc T (M + 7)) (M + 7) 0 zwa) j fr H)) = R
def zbs0 := And.intro @kk <| And.intro @ke <| And.intro @kn <| And.intro @zbhe <| @zbhg
theorem zbs1 (q : Nat) (zbtz : zbsz q) : zbsz (q + 1) := by
 intro M hM j hj v0 v1 v6 h0z h0l r h R hR fr H hc
 obtain ⟨j, rfl⟩ : ∃ i, j = i + 1 := ⟨j - 1, by omega⟩
 rw [zhj, hc]; clear hc
 rw [zme] at h
 replace h := br h; rcases h with ⟨h1, h⟩ | ⟨h1, h⟩
 ·replace h := bn h; obtain ⟨h2, h⟩ := h
  replace h := zbtz M (by omega) j (by omega) _ _ _ _ _ _ h R hR
  simp only [zbs0, simprocAttr, *]
 ·cases h; subst hR; simp only [zbs0, simprocAttr, *]
theorem zbs2 : ∀ q, zbsz q
 | 0 => by intro M hM j hj; intros; rename_i h _ _ _ _ _; cases h
 | q + 1 => by have i0 := zbs2 q; exact zbs1 q i0
theorem zbs3 : ∀ (q N : Nat), 8 * q ≤ N → ∀ (a0 a1 : Int), ∀ (r : (Ow Int)), zmf q a0 a1 = some r → (orc T N).deep F.zmf [(V.int .u64) a0, (V.int .i64) a1] = some [(Ow.enc 1 (V.int .u8)) r] := by
 intro q N hM a0 a1 r h
 rcases q with _ | q
 ·cases h
 obtain ⟨M, rfl⟩ : ∃ M, N = M + 8 := ⟨N - 8, by omega⟩
 have zbtz := (zbs2 q)
 generalize hR : some [(Ow.enc 1 (V.int .u8)) r] = R
 rw [zhs, zbc6, y5, zhq]
 rw [zmf] at h
 replace h := zbtz M (by omega) (M + 7) (by omega) _ _ _ _ _ _ h R hR
 simp only [zbs0, simprocAttr, *]
def zbs4 := And.intro @kk <| And.intro @ke <| And.intro @kn <| And.intro @zbgq <| And.intro @zbgl <| And.intro @zbhf <| And.intro @zbhi <| And.intro @zbi0 <| @zbgs
theorem zbs5 : ∀ (q N : Nat), 8 * q ≤ N → ∀ (a0 : (Sl Int)), ∀ (r : (Ow Int) × Int), zmg q a0 = some r → (orc T N).deep F.zmg [(Sl.enc (V.int .u8)) a0] = some [(Ow.enc 1 (V.int .u8)) r.1, (V.int .i64) r.2] := by
 intro q N hM a0 r h
 rcases q with _ | q
 ·cases h
 obtain ⟨M, rfl⟩ : ∃ M, N = M + 8 := ⟨N - 8, by omega⟩
 generalize hR : some [(Ow.enc 1 (V.int .u8)) r.1, (V.int .i64) r.2] = R
 rw [zhs, zbcy, y5, zhq]
 rw [zmg] at h
 replace h := br h; rcases h with ⟨h1, h⟩ | ⟨h1, h⟩
 ·cases h; subst hR; simp only [zbs4, simprocAttr, *]
 ·replace h := ob h; obtain ⟨r1, h2, h⟩ := h
  replace h2 := zbsi q (M + 7) (by omega) _ _ _ h2
  try simp only [kf, simprocAttr] at h2
  replace h := ob h; obtain ⟨r2, h3, h⟩ := h
  replace h3 := zbsy q (M + 7) (by omega) _ _ h3
  try simp only [kf, simprocAttr] at h3
  replace h := ob h; obtain ⟨r3, h4, h⟩ := h
  replace h4 := zbsw q (M + 7) (by omega) _ _ _ h4
  try simp only [kf, simprocAttr] at h4
  replace h := bn h; obtain ⟨h5, h⟩ := h
  replace h := bn h; obtain ⟨h6, h⟩ := h
  replace h := ob h; obtain ⟨r4, h7, h⟩ := h
  replace h7 := zbs3 q (M + 7) (by omega) _ _ _ h7
  try simp only [kf, simprocAttr] at h7
  replace h := bn h; obtain ⟨h8, h⟩ := h
  cases h; subst hR; simp only [zbs4, simprocAttr, *]
def zbs6 (q : Nat) : Prop := ∀ (M : Nat) (hM : 8 * q ≤ M) (j : Nat) (hj : q ≤ j) (v7 h0_0 : Int) (h0_1z : Bool) (h0_1l : List Int) (h0_2 : Bool) (h0_3 : Int) (h1z : Bool) (h1l : List Int) (h1x : Bool) (r : (Ow Int) × Int) (_ : zmh q v7 h0_0 h0_1z h0_1l h0_2 h0_3 h1z h1l h1x = some r) (R : Option (List V)) (_ : some [(Ow.enc 1 (V.int .u8)) r.1, (V.int .i64) r.2] = R) (fr : Fr) (H : Hp) (_ : canon 0 [1, 5, 7] fr H = ([(1, (.ptr 0 0)), (5, (.vw 1 0 0 h1l.length 1)), (7, (.int .i64 v7))], [(.box [(.int .i64 h0_0), (.sl h0_1z (List.map (V.int .i64) h0_1l)), (.bool h0_2), (.int .i64 h0_3)]), (.row 0 h1z 1 (List.map (V.int .u8) h1l) h1x)])), fin z6h (unw T (orc T (M + 7)) (M + 7) 0 [.blk 0, .code z57] (iter 0 [1, 5, 7] (exec T (orc T (M + 7)) (M + 7) 0 z54) j fr H)) = R
def zbs7 := And.intro @kk <| And.intro @ke <| And.intro @kn <| And.intro @zbjb <| And.intro @zbgl <| And.intro @zbgo <| And.intro @zbhl <| @zbjd
theorem zbs8 (q : Nat) (zbt0 : zbs6 q) : zbs6 (q + 1) := by
 intro M hM j hj v7 h0_0 h0_1z h0_1l h0_2 h0_3 h1z h1l h1x r h R hR fr H hc
 obtain ⟨j, rfl⟩ : ∃ i, j = i + 1 := ⟨j - 1, by omega⟩
 rw [zhj, hc]; clear hc
 rw [zmh] at h
 replace h := br h; rcases h with ⟨h1, h⟩ | ⟨h1, h⟩
 ·replace h := bn h; obtain ⟨h2, h⟩ := h
  replace h := ob h; obtain ⟨e7, h3, h⟩ := h
  replace h := ob h; obtain ⟨r8, h4, h⟩ := h
  replace h4 := zbsm q (M + 7) (by omega) _ _ _ h4
  try simp only [kf, simprocAttr] at h4
  replace h := zbt0 M (by omega) j (by omega) _ _ _ _ _ _ _ _ _ _ h R hR
  simp only [zbs7, simprocAttr, *]
 ·cases h; subst hR; simp only [zbs7, simprocAttr, *]
theorem zbs9 : ∀ q, zbs6 q
 | 0 => by intro M hM j hj; intros; rename_i h _ _ _ _ _; cases h
 | q + 1 => by have i0 := zbs9 q; exact zbs8 q i0
theorem zbta : ∀ (q N : Nat), 8 * q ≤ N → ∀ (a0 : zji), ∀ (r : (Ow Int) × Int), zmi q a0 = some r → (orc T N).deep F.zmi [zji.enc a0] = some [(Ow.enc 1 (V.int .u8)) r.1, (V.int .i64) r.2] := by
 intro q N hM a0 r h
 rcases q with _ | q
 ·cases h
 obtain ⟨M, rfl⟩ : ∃ M, N = M + 8 := ⟨N - 8, by omega⟩
 have zbt0 := (zbs9 q)
 generalize hR : some [(Ow.enc 1 (V.int .u8)) r.1, (V.int .i64) r.2] = R
 rw [zhs, zbdt, y5, zhq]
 rw [zmi] at h
 replace h := ob h; obtain ⟨r1, h1, h⟩ := h
 replace h1 := zboi q (M + 7) (by omega) _ _ h1
 try simp only [kf, simprocAttr] at h1
 replace h := bb h; rcases h with ⟨h2', h2, h⟩ | ⟨h2', h2, h⟩
 ·replace h := ob h; obtain ⟨r2, h3, h⟩ := h
  replace h3 := zbsi q (M + 7) (by omega) _ _ _ h3
  try simp only [kf, simprocAttr] at h3
  replace h := bb h; rcases h with ⟨h4', h4, h⟩ | ⟨h4', h4, h⟩
  ·replace h := ob h; obtain ⟨r3, h5, h⟩ := h
   replace h5 := zbsi q (M + 7) (by omega) _ _ _ h5
   try simp only [kf, simprocAttr] at h5
   replace h := ob h; obtain ⟨r4, h6, h⟩ := h
   replace h6 := zbsi q (M + 7) (by omega) _ _ _ h6
   try simp only [kf, simprocAttr] at h6
   replace h := zbt0 M (by omega) (M + 7) (by omega) _ _ _ _ _ _ _ _ _ _ h R hR
   simp only [zbs7, simprocAttr, *]
  ·replace h := ob h; obtain ⟨r5, h7, h⟩ := h
   replace h7 := zbsi q (M + 7) (by omega) _ _ _ h7
   try simp only [kf, simprocAttr] at h7
   replace h := ob h; obtain ⟨r6, h8, h⟩ := h
   replace h8 := zbsi q (M + 7) (by omega) _ _ _ h8
   try simp only [kf, simprocAttr] at h8
   replace h := zbt0 M (by omega) (M + 7) (by omega) _ _ _ _ _ _ _ _ _ _ h R hR
   simp only [zbs7, simprocAttr, *]
 ·cases h; subst hR; simp only [zbs7, simprocAttr, *]
def zbtb (q : Nat) : Prop := ∀ (M : Nat) (hM : 8 * q ≤ M) (j : Nat) (hj : q ≤ j) (v6 h0_0 h0_1 : Int) (h0_2z : Bool) (h0_2l : List Int) (h0_3 : Bool) (h0_4 : Int) (h0_5z : Bool) (h0_5l : List zjj) (h1z : Bool) (h1l : List Int) (h1x : Bool) (r : (Ow Int)) (_ : zmj q v6 h0_0 h0_1 h0_2z h0_2l h0_3 h0_4 h0_5z h0_5l h1z h1l h1x = some r) (R : Option (List V)) (_ : some [(Ow.enc 1 (V.int .u8)) r] = R) (fr : Fr) (H : Hp) (_ : canon 0 [1, 5, 6] fr H = ([(1, (.ptr 0 0)), (5, (.vw 1 0 0 h1l.length 1)), (6, (.int .i64 v6))], [(.box [(.int .i64 h0_0), (.int .i64 h0_1), (.sl h0_2z (List.map (V.int .i64) h0_2l)), (.bool h0_3), (.int .i64 h0_4), (.sl h0_5z (List.map zjj.enc h0_5l))]), (.row 0 h1z 1 (List.map (V.int .u8) h1l) h1x)])), fin zv7 (unw T (orc T (M + 7)) (M + 7) 0 [.blk 0, .code zv0] (iter 0 [1, 5, 6] (exec T (orc T (M + 7)) (M + 7) 0 zvx) j fr H)) = R
def zbtc := And.intro @kk <| And.intro @ke <| And.intro @kn <| And.intro @zbhb <| And.intro @zbgl <| And.intro @zbgo <| And.intro @zbjc <| @zbhd
theorem zbtd (q : Nat) (zbt1 : zbtb q) : zbtb (q + 1) := by
 intro M hM j hj v6 h0_0 h0_1 h0_2z h0_2l h0_3 h0_4 h0_5z h0_5l h1z h1l h1x r h R hR fr H hc
 obtain ⟨j, rfl⟩ : ∃ i, j = i + 1 := ⟨j - 1, by omega⟩
 rw [zhj, hc]; clear hc
 rw [zmj] at h
 replace h := br h; rcases h with ⟨h1, h⟩ | ⟨h1, h⟩
 ·replace h := bn h; obtain ⟨h2, h⟩ := h
  replace h := ob h; obtain ⟨e4, h3, h⟩ := h
  replace h := ob h; obtain ⟨r5, h4, h⟩ := h
  replace h4 := zbsi q (M + 7) (by omega) _ _ _ h4
  try simp only [kf, simprocAttr] at h4
  replace h := ob h; obtain ⟨r6, h5, h⟩ := h
  replace h5 := zbsi q (M + 7) (by omega) _ _ _ h5
  try simp only [kf, simprocAttr] at h5
  replace h := ob h; obtain ⟨r7, h6, h⟩ := h
  replace h6 := zbsm q (M + 7) (by omega) _ _ _ h6
  try simp only [kf, simprocAttr] at h6
  replace h := zbt1 M (by omega) j (by omega) _ _ _ _ _ _ _ _ _ _ _ _ _ h R hR
  simp only [zbtc, simprocAttr, *]
 ·cases h; subst hR; simp only [zbtc, simprocAttr, *]
theorem zbte : ∀ q, zbtb q
 | 0 => by intro M hM j hj; intros; rename_i h _ _ _ _ _; cases h
 | q + 1 => by have i0 := zbte q; exact zbtd q i0
theorem zbtf : ∀ (q N : Nat), 8 * q ≤ N → ∀ (a0 : zjk), ∀ (r : (Ow Int)), zmk q a0 = some r → (orc T N).deep F.zmk [zjk.enc a0] = some [(Ow.enc 1 (V.int .u8)) r] := by
 intro q N hM a0 r h
 rcases q with _ | q
 ·cases h
 obtain ⟨M, rfl⟩ : ∃ M, N = M + 8 := ⟨N - 8, by omega⟩
 have zbt1 := (zbte q)
 generalize hR : some [(Ow.enc 1 (V.int .u8)) r] = R
 rw [zhs, zbc5, y5, zhq]
 rw [zmk] at h
 replace h := ob h; obtain ⟨r1, h1, h⟩ := h
 replace h1 := zbta q (M + 7) (by omega) _ _ h1
 try simp only [kf, simprocAttr] at h1
 replace h := ob h; obtain ⟨r2, h2, h⟩ := h
 replace h2 := zbsi q (M + 7) (by omega) _ _ _ h2
 try simp only [kf, simprocAttr] at h2
 replace h := bn h; obtain ⟨h3, h⟩ := h
 replace h := ob h; obtain ⟨r3, h4, h⟩ := h
 replace h4 := zbsi q (M + 7) (by omega) _ _ _ h4
 try simp only [kf, simprocAttr] at h4
 replace h := zbt1 M (by omega) (M + 7) (by omega) _ _ _ _ _ _ _ _ _ _ _ _ _ h R hR
 simp only [zbtc, simprocAttr, *]
def zbtg (q : Nat) : Prop := ∀ (M : Nat) (hM : 8 * q ≤ M) (j : Nat) (hj : q ≤ j) (v9 : Int) (h0z : Bool) (h0l : List Int) (h0x h1z : Bool) (h1l : List Int) (h1x : Bool) (r : (Ow Int) × Int) (_ : zml q v9 h0z h0l h0x h1z h1l h1x = some r) (R : Option (List V)) (_ : some [(Ow.enc 1 (V.int .u8)) r.1, (V.int .i64) r.2] = R) (fr : Fr) (H : Hp) (_ : canon 0 [5, 7, 9] fr H = ([(5, (.vw 0 0 0 h0l.length 1)), (7, (.vw 1 0 0 h1l.length 1)), (9, (.int .i64 v9))], [(.row 0 h0z 1 (List.map (V.int .u8) h0l) h0x), (.row 0 h1z 1 (List.map (V.int .u8) h1l) h1x)])), fin zpo (unw T (orc T (M + 7)) (M + 7) 0 [.blk 0, .code zpd] (iter 0 [5, 7, 9] (exec T (orc T (M + 7)) (M + 7) 0 zpa) j fr H)) = R
def zbth := And.intro @kk <| And.intro @ke <| And.intro @kn <| And.intro @zbew <| And.intro @zbe0 <| And.intro @zbgl <| And.intro @zbgr <| And.intro @zbhc <| And.intro @zbhf <| And.intro @zbhi <| @zbey
theorem zbti (q : Nat) (zbt2 : zbtg q) : zbtg (q + 1) := by
 intro M hM j hj v9 h0z h0l h0x h1z h1l h1x r h R hR fr H hc
 obtain ⟨j, rfl⟩ : ∃ i, j = i + 1 := ⟨j - 1, by omega⟩
 rw [zhj, hc]; clear hc
 rw [zml] at h
 replace h := br h; rcases h with ⟨h1, h⟩ | ⟨h1, h⟩
 ·replace h := br h; rcases h with ⟨h2, h⟩ | ⟨h2, h⟩
  ·replace h := bn h; obtain ⟨h3, h⟩ := h
   replace h := bn h; obtain ⟨h4, h⟩ := h
   replace h := bb h; rcases h with ⟨h5', h5, h⟩ | ⟨h5', h5, h⟩
   ·replace h := ob h; obtain ⟨r9, h6, h⟩ := h
    replace h6 := zbs5 q (M + 7) (by omega) _ _ h6
    try simp only [kf, simprocAttr] at h6
    replace h := bn h; obtain ⟨h7, h⟩ := h
    replace h := zbt2 M (by omega) j (by omega) _ _ _ _ _ _ _ _ h R hR
    simp only [zbth, simprocAttr, *]
   ·replace h := ob h; obtain ⟨r10, h8, h⟩ := h
    replace h8 := zbs5 q (M + 7) (by omega) _ _ h8
    try simp only [kf, simprocAttr] at h8
    replace h := bn h; obtain ⟨h9, h⟩ := h
    replace h := zbt2 M (by omega) j (by omega) _ _ _ _ _ _ _ _ h R hR
    simp only [zbth, simprocAttr, *]
  ·replace h := bn h; obtain ⟨h10, h⟩ := h
   replace h := bn h; obtain ⟨h11, h⟩ := h
   replace h := bn h; obtain ⟨h12, h⟩ := h
   replace h := bb h; rcases h with ⟨h13', h13, h⟩ | ⟨h13', h13, h⟩
   ·replace h := ob h; obtain ⟨r11, h14, h⟩ := h
    replace h14 := zbs5 q (M + 7) (by omega) _ _ h14
    try simp only [kf, simprocAttr] at h14
    replace h := bn h; obtain ⟨h15, h⟩ := h
    replace h := zbt2 M (by omega) j (by omega) _ _ _ _ _ _ _ _ h R hR
    simp only [zbth, simprocAttr, *]
   ·replace h := ob h; obtain ⟨r12, h16, h⟩ := h
    replace h16 := zbs5 q (M + 7) (by omega) _ _ h16
    try simp only [kf, simprocAttr] at h16
    replace h := bn h; obtain ⟨h17, h⟩ := h
    replace h := zbt2 M (by omega) j (by omega) _ _ _ _ _ _ _ _ h R hR
    simp only [zbth, simprocAttr, *]
 ·cases h; subst hR; simp only [zbth, simprocAttr, *]
theorem zbtj : ∀ q, zbtg q
 | 0 => by intro M hM j hj; intros; rename_i h _ _ _ _ _; cases h
 | q + 1 => by have i0 := zbtj q; exact zbti q i0
theorem zbtk : ∀ (q N : Nat), 8 * q ≤ N → ∀ (a0 : zjk), ∀ (r : (Ow Int) × Int), zmm q a0 = some r → (orc T N).deep F.zmm [zjk.enc a0] = some [(Ow.enc 1 (V.int .u8)) r.1, (V.int .i64) r.2] := by
 intro q N hM a0 r h
 rcases q with _ | q
 ·cases h
 obtain ⟨M, rfl⟩ : ∃ M, N = M + 8 := ⟨N - 8, by omega⟩
 have zbt2 := (zbtj q)
 generalize hR : some [(Ow.enc 1 (V.int .u8)) r.1, (V.int .i64) r.2] = R
 rw [zhs, zbcc, y5, zhq]
 rw [zmm] at h
 replace h := ob h; obtain ⟨r1, h1, h⟩ := h
 replace h1 := zbop q (M + 7) (by omega) _ _ h1
 try simp only [kf, simprocAttr] at h1
 replace h := bb h; rcases h with ⟨h2', h2, h⟩ | ⟨h2', h2, h⟩
 ·replace h := ob h; obtain ⟨r2, h3, h⟩ := h
  replace h3 := zbtf q (M + 7) (by omega) _ _ h3
  try simp only [kf, simprocAttr] at h3
  replace h := ob h; obtain ⟨r3, h4, h⟩ := h
  replace h4 := zbsi q (M + 7) (by omega) _ _ _ h4
  try simp only [kf, simprocAttr] at h4
  replace h := ob h; obtain ⟨r4, h5, h⟩ := h
  replace h5 := zbsi q (M + 7) (by omega) _ _ _ h5
  try simp only [kf, simprocAttr] at h5
  replace h := ob h; obtain ⟨r5, h6, h⟩ := h
  replace h6 := zbsi q (M + 7) (by omega) _ _ _ h6
  try simp only [kf, simprocAttr] at h6
  replace h := ob h; obtain ⟨r6, h7, h⟩ := h
  replace h7 := zbsy q (M + 7) (by omega) _ _ h7
  try simp only [kf, simprocAttr] at h7
  replace h := ob h; obtain ⟨r7, h8, h⟩ := h
  replace h8 := zbs3 q (M + 7) (by omega) _ _ _ h8
  try simp only [kf, simprocAttr] at h8
  replace h := bn h; obtain ⟨h9, h⟩ := h
  replace h := ob h; obtain ⟨r8, h10, h⟩ := h
  replace h10 := zbs5 q (M + 7) (by omega) _ _ h10
  try simp only [kf, simprocAttr] at h10
  replace h := zbt2 M (by omega) (M + 7) (by omega) _ _ _ _ _ _ _ _ h R hR
  simp only [zbth, simprocAttr, *]
 ·cases h; subst hR; simp only [zbth, simprocAttr, *]
def zbtl := And.intro @kk <| And.intro @ke <| And.intro @kn <| And.intro @zbd5 <| And.intro @zbd9 <| And.intro @zbec <| And.intro @zbei <| And.intro @zbel <| And.intro @zbeo <| And.intro @zbeu <| And.intro @zbex <| And.intro @zbe0 <| @zbd7
theorem zbtm : ∀ (q N : Nat), 8 * q ≤ N → ∀ (a0 a1 : zjk), ∀ (r : Bool), zmn q a0 a1 = some r → (orc T N).deep F.zmn [zjk.enc a0, zjk.enc a1] = some [V.bool r] := by
 intro q N hM a0 a1 r h
 rcases q with _ | q
 ·cases h
 obtain ⟨M, rfl⟩ : ∃ M, N = M + 8 := ⟨N - 8, by omega⟩
 generalize hR : some [V.bool r] = R
 rw [zhs, zbb3, y5, zhq]
 rw [zmn] at h
 replace h := ob h; obtain ⟨r1, h1, h⟩ := h
 replace h1 := zbr1 q (M + 7) (by omega)  _ h1
 replace h := ob h; obtain ⟨r2, h2, h⟩ := h
 replace h2 := zbn6 q (M + 7) (by omega) _ _ h2
 try simp only [kf, simprocAttr] at h2
 replace h := ob h; obtain ⟨r3, h3, h⟩ := h
 replace h3 := zbn6 q (M + 7) (by omega) _ _ h3
 try simp only [kf, simprocAttr] at h3
 replace h := bb h; rcases h with ⟨h4', h4, h⟩ | ⟨h4', h4, h⟩
 ·replace h := bb h; rcases h with ⟨h5', h5, h⟩ | ⟨h5', h5, h⟩
  ·replace h := bb h; rcases h with ⟨h6', h6, h⟩ | ⟨h6', h6, h⟩
   ·replace h := ob h; obtain ⟨r4, h7, h⟩ := h
    replace h7 := zbrz q (M + 7) (by omega) _ _ h7
    try simp only [kf, simprocAttr] at h7
    replace h := ob h; obtain ⟨r5, h8, h⟩ := h
    replace h8 := zbtk q (M + 7) (by omega) _ _ h8
    try simp only [kf, simprocAttr] at h8
    replace h := br h; rcases h with ⟨h9, h⟩ | ⟨h9, h⟩
    ·replace h := br h; rcases h with ⟨h10, h⟩ | ⟨h10, h⟩
     ·replace h := ob h; obtain ⟨r6, h11, h⟩ := h
      replace h11 := zbm1 q (M + 7) (by omega) _ _ h11
      try simp only [kf, simprocAttr] at h11
      replace h := ob h; obtain ⟨r7, h12, h⟩ := h
      replace h12 := zbop q (M + 7) (by omega) _ _ h12
      try simp only [kf, simprocAttr] at h12
      replace h := bb h; rcases h with ⟨h13', h13, h⟩ | ⟨h13', h13, h⟩
      ·replace h := ob h; obtain ⟨r8, h14, h⟩ := h
       replace h14 := zbn2 q (M + 7) (by omega) _ _ _ h14
       try simp only [kf, simprocAttr] at h14
       replace h := ob h; obtain ⟨r9, h15, h⟩ := h
       replace h15 := zbsb q (M + 7) (by omega) _ _ _ h15
       try simp only [kf, simprocAttr] at h15
       replace h := bb h; rcases h with ⟨h16', h16, h⟩ | ⟨h16', h16, h⟩
       ·replace h := ob h; obtain ⟨r10, h17, h⟩ := h
        replace h17 := zbn2 q (M + 7) (by omega) _ _ _ h17
        try simp only [kf, simprocAttr] at h17
        cases h; subst hR; simp only [zbtl, simprocAttr, *]
       ·cases h; subst hR; simp only [zbtl, simprocAttr, *]
      ·cases h; subst hR; simp only [zbtl, simprocAttr, *]
     ·cases h; subst hR; simp only [zbtl, simprocAttr, *]
    ·cases h; subst hR; simp only [zbtl, simprocAttr, *]
   ·cases h; subst hR; simp only [zbtl, simprocAttr, *]
  ·cases h; subst hR; simp only [zbtl, simprocAttr, *]
 ·cases h; subst hR; simp only [zbtl, simprocAttr, *]
end Go.Dvm.C
