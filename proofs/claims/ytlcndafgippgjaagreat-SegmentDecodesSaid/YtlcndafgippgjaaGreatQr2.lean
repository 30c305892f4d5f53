/- The machine comes to these answers: part 3. -/
import Derived.Test.YtlcndafgippgjaaGreatQl0
import Derived.Test.YtlcndafgippgjaaGreatQr0
import Derived.Test.YtlcndafgippgjaaGreatQr1
set_option linter.all false
set_option maxRecDepth 100000
set_option maxHeartbeats 4000000
namespace Go.Dvm.C
open Go Go.Dvm Go.Dvm.I
def zced := And.intro @kk <| And.intro @ke <| And.intro @kn <| And.intro @zbzp <| And.intro @zbwh <| And.intro @zb0q <| @zbzr
theorem zcee : ∀ (q N : Nat), 8 * q ≤ N → ∀ (a0 : (Sl Int)) (a1 : Int), ∀ (r : (Ow Int)), zng q a0 a1 = some r → (orc T N).deep F.zng [(Sl.enc (V.int .u8)) a0, (V.int .i64) a1] = some [(Ow.enc 1 (V.int .u8)) r] := by
 intro q N hM a0 a1 r h
 rcases q with _ | q
 ·cases h
 obtain ⟨M, rfl⟩ : ∃ M, N = M + 8 := ⟨N - 8, by omega⟩
 generalize hR : some [(Ow.enc 1 (V.int .u8)) r] = R
 rw [zh4, zbro, y4, zh2]
 rw [zng] at h
 replace h := bn h; obtain ⟨h1, h⟩ := h
 replace h := ob h; obtain ⟨r1, h2, h⟩ := h
 replace h2 := zcdu q (M + 7) (by omega) _ _ h2
 replace h := ob h; obtain ⟨r2, h3, h⟩ := h
 replace h3 := zcdq q (M + 7) (by omega) _ _ h3
 try simp only [kf, simprocAttr] at h3
 replace h := bn h; obtain ⟨h4, h⟩ := h
 cases h; subst hR; simp only [zced, simprocAttr, *]
def zcef := And.intro @kk <| And.intro @ke <| And.intro @kn <| And.intro @zbzs <| And.intro @zbuz <| And.intro @zbzq <| And.intro @zbzw <| @zbzu
theorem zceg : ∀ (q N : Nat), 8 * q ≤ N → ∀ (a0 : (Sl Int)) (a1 : zjr), ∀ (r : (Ow Int) × Int), znh q a0 a1 = some r → (orc T N).deep F.znh [(Sl.enc (V.int .u8)) a0, zjr.enc a1] = some [(Ow.enc 1 (V.int .u8)) r.1, (V.int .i64) r.2] := by
 intro q N hM a0 a1 r h
 rcases q with _ | q
 ·cases h
 obtain ⟨M, rfl⟩ : ∃ M, N = M + 8 := ⟨N - 8, by omega⟩
 generalize hR : some [(Ow.enc 1 (V.int .u8)) r.1, (V.int .i64) r.2] = R
 rw [zh4, zbrp, y4, zh2]
 rw [znh] at h
 replace h := bn h; obtain ⟨h1, h⟩ := h
 replace h := ob h; obtain ⟨r1, h2, h⟩ := h
 replace h2 := zcco q (M + 7) (by omega) _ _ h2
 try simp only [kf, simprocAttr] at h2
 replace h := bb h; rcases h with ⟨h3', h3, h⟩ | ⟨h3', h3, h⟩
 ·replace h := ob h; obtain ⟨r2, h4, h⟩ := h
  replace h4 := zcds q (M + 7) (by omega) _ _ _ h4
  try simp only [kf, simprocAttr] at h4
  replace h := ob h; obtain ⟨r3, h5, h⟩ := h
  replace h5 := zcee q (M + 7) (by omega) _ _ _ h5
  try simp only [kf, simprocAttr] at h5
  replace h := ob h; obtain ⟨r4, h6, h⟩ := h
  replace h6 := zcee q (M + 7) (by omega) _ _ _ h6
  try simp only [kf, simprocAttr] at h6
  cases h; subst hR; simp only [zcef, simprocAttr, *]
 ·cases h; subst hR; simp only [zcef, simprocAttr, *]
def zceh (q : Nat) : Prop := ∀ (M : Nat) (hM : 8 * q ≤ M) (j : Nat) (hj : q ≤ j) (v0z : Bool) (v0l : List zjs) (v6 : Int) (h0z : Bool) (h0l : List Int) (h0x : Bool) (r : (Ow Int) × Int) (_ : zni q v0z v0l v6 h0z h0l h0x = some r) (R : Option (List V)) (_ : some [(Ow.enc 1 (V.int .u8)) r.1, (V.int .i64) r.2] = R) (fr : Fr) (H : Hp) (_ : canon 0 [0, 5, 6] fr H = ([(0, (.sl v0z (List.map zjs.enc v0l))), (5, (.vw 0 0 0 h0l.length 1)), (6, (.int .i64 v6))], [(.row 0 h0z 1 (List.map (V.int .u8) h0l) h0x)])), fin zba8 (unw T (orc T (M + 7)) (M + 7) 0 [.blk 0, .code zba1] (iter 0 [0, 5, 6] (exec T (orc T (M + 7)) (M + 7) 0 zbay) j fr H)) = R
def zcei := And.intro @kk <| And.intro @ke <| And.intro @kn <| And.intro @zbxs <| And.intro @zbuz <| And.intro @zbzk <| And.intro @zbzn <| And.intro @zbzq <| And.intro @zbzt <| @zbxu
theorem zcej (q : Nat) (zcgs : zceh q) : zceh (q + 1) := by
 intro M hM j hj v0z v0l v6 h0z h0l h0x r h R hR fr H hc
 obtain ⟨j, rfl⟩ : ∃ i, j = i + 1 := ⟨j - 1, by omega⟩
 rw [zhv, hc]; clear hc
 rw [zni] at h
 replace h := br h; rcases h with ⟨h1, h⟩ | ⟨h1, h⟩
 ·replace h := bn h; obtain ⟨h2, h⟩ := h
  replace h := ob h; obtain ⟨e5, h3, h⟩ := h
  replace h := ob h; obtain ⟨r6, h4, h⟩ := h
  replace h4 := zcds q (M + 7) (by omega) _ _ _ h4
  try simp only [kf, simprocAttr] at h4
  replace h := bn h; obtain ⟨h5, h⟩ := h
  replace h := ob h; obtain ⟨r7, h6, h⟩ := h
  replace h6 := zcde q (M + 7) (by omega) _ _ _ h6
  try simp only [kf, simprocAttr] at h6
  replace h := ob h; obtain ⟨r8, h7, h⟩ := h
  replace h7 := zcee q (M + 7) (by omega) _ _ _ h7
  try simp only [kf, simprocAttr] at h7
  replace h := ob h; obtain ⟨r9, h8, h⟩ := h
  replace h8 := zceg q (M + 7) (by omega) _ _ _ h8
  try simp only [kf, simprocAttr] at h8
  replace h := ob h; obtain ⟨r10, h9, h⟩ := h
  replace h9 := zcee q (M + 7) (by omega) _ _ _ h9
  try simp only [kf, simprocAttr] at h9
  replace h := zcgs M (by omega) j (by omega) _ _ _ _ _ _ _ h R hR
  simp only [zcei, simprocAttr, *]
 ·cases h; subst hR; simp only [zcei, simprocAttr, *]
theorem zcek : ∀ q, zceh q
 | 0 => by intro M hM j hj; intros; rename_i h _ _ _ _ _; cases h
 | q + 1 => by have i0 := zcek q; exact zcej q i0
theorem zcel : ∀ (q N : Nat), 8 * q ≤ N → ∀ (a0 : (Sl zjs)), ∀ (r : (Ow Int) × Int), znj q a0 = some r → (orc T N).deep F.znj [(Sl.enc zjs.enc) a0] = some [(Ow.enc 1 (V.int .u8)) r.1, (V.int .i64) r.2] := by
 intro q N hM a0 r h
 rcases q with _ | q
 ·cases h
 obtain ⟨M, rfl⟩ : ∃ M, N = M + 8 := ⟨N - 8, by omega⟩
 have zcgs := (zcek q)
 generalize hR : some [(Ow.enc 1 (V.int .u8)) r.1, (V.int .i64) r.2] = R
 rw [zh4, zbq1, y4, zh2]
 rw [znj] at h
 replace h := ob h; obtain ⟨r1, h1, h⟩ := h
 replace h1 := zcdl q (M + 7) (by omega) _ _ h1
 try simp only [kf, simprocAttr] at h1
 replace h := bb h; rcases h with ⟨h2', h2, h⟩ | ⟨h2', h2, h⟩
 ·replace h := ob h; obtain ⟨e2, h3, h⟩ := h
  replace h := ob h; obtain ⟨r3, h4, h⟩ := h
  replace h4 := zcds q (M + 7) (by omega) _ _ _ h4
  try simp only [kf, simprocAttr] at h4
  replace h := ob h; obtain ⟨r4, h5, h⟩ := h
  replace h5 := zcds q (M + 7) (by omega) _ _ _ h5
  try simp only [kf, simprocAttr] at h5
  replace h := zcgs M (by omega) (M + 7) (by omega) _ _ _ _ _ _ _ h R hR
  simp only [zcei, simprocAttr, *]
 ·cases h; subst hR; simp only [zcei, simprocAttr, *]
def zcem (q : Nat) : Prop := ∀ (M : Nat) (hM : 8 * q ≤ M) (j : Nat) (hj : q ≤ j) (v0z : Bool) (v0l : List Int) (v4 v6 v9 v10 : Int) (h0z : Bool) (h0l : List zjs) (r : (Ow zjs) × Int) (_ : znk q v0z v0l v4 v6 v9 v10 h0z h0l = some r) (R : Option (List V)) (_ : some [(Ow.enc 7 zjs.enc) r.1, (V.int .i64) r.2] = R) (fr : Fr) (H : Hp) (_ : canon 0 [0, 4, 6, 8, 9, 10] fr H = ([(0, (.sl v0z (List.map (V.int .u8) v0l))), (4, (.int .i64 v4)), (6, (.int .i64 v6)), (8, (.vw 0 0 0 h0l.length 1)), (9, (.int .i64 v9)), (10, (.int .i64 v10))], [(.row 0 h0z 7 (List.map zjs.enc h0l) true)])), fin z2j (unw T (orc T (M + 7)) (M + 7) 0 [.blk 0, .code z2b] (iter 0 [0, 4, 6, 8, 9, 10] (exec T (orc T (M + 7)) (M + 7) 0 z12) j fr H)) = R
def zcen := And.intro @kk <| And.intro @ke <| And.intro @kn <| And.intro @zbwa <| And.intro @zbv5 <| And.intro @zbxq <| And.intro @zbxt <| @zbwc
theorem zceo (q : Nat) (zcgt : zcem q) : zcem (q + 1) := by
 intro M hM j hj v0z v0l v4 v6 v9 v10 h0z h0l r h R hR fr H hc
 obtain ⟨j, rfl⟩ : ∃ i, j = i + 1 := ⟨j - 1, by omega⟩
 rw [zhv, hc]; clear hc
 rw [znk] at h
 replace h := br h; rcases h with ⟨h1, h⟩ | ⟨h1, h⟩
 ·replace h := bn h; obtain ⟨h2, h⟩ := h
  replace h := bn h; obtain ⟨h3, h⟩ := h
  replace h := ob h; obtain ⟨r3, h4, h⟩ := h
  replace h4 := zcdg q (M + 7) (by omega) _ _ _ h4
  try simp only [kf, simprocAttr] at h4
  replace h := br h; rcases h with ⟨h5, h⟩ | ⟨h5, h⟩
  ·cases h; subst hR; simp only [zcen, simprocAttr, *]
  ·replace h := bn h; obtain ⟨h6, h⟩ := h
   replace h := zcgt M (by omega) j (by omega) _ _ _ _ _ _ _ _ _ h R hR
   simp only [zcen, simprocAttr, *]
 ·replace h := ob h; obtain ⟨r4, h7, h⟩ := h
  replace h7 := zcel q (M + 7) (by omega) _ _ h7
  try simp only [kf, simprocAttr] at h7
  replace h := br h; rcases h with ⟨h8, h⟩ | ⟨h8, h⟩
  ·replace h := br h; rcases h with ⟨h9, h⟩ | ⟨h9, h⟩
   ·cases h; subst hR; simp only [zcen, simprocAttr, *]
   ·cases h; subst hR; simp only [zcen, simprocAttr, *]
  ·cases h; subst hR; simp only [zcen, simprocAttr, *]
theorem zcep : ∀ q, zcem q
 | 0 => by intro M hM j hj; intros; rename_i h _ _ _ _ _; cases h
 | q + 1 => by have i0 := zcep q; exact zceo q i0
theorem zceq : ∀ (q N : Nat), 8 * q ≤ N → ∀ (a0 : (Sl Int)), ∀ (r : (Ow zjs) × Int), znl q a0 = some r → (orc T N).deep F.znl [(Sl.enc (V.int .u8)) a0] = some [(Ow.enc 7 zjs.enc) r.1, (V.int .i64) r.2] := by
 intro q N hM a0 r h
 rcases q with _ | q
 ·cases h
 obtain ⟨M, rfl⟩ : ∃ M, N = M + 8 := ⟨N - 8, by omega⟩
 have zcgt := (zcep q)
 generalize hR : some [(Ow.enc 7 zjs.enc) r.1, (V.int .i64) r.2] = R
 rw [zh4, zbqj, y4, zh2]
 rw [znl] at h
 replace h := ob h; obtain ⟨r1, h1, h⟩ := h
 replace h1 := zcbo q (M + 7) (by omega) _ _ h1
 try simp only [kf, simprocAttr] at h1
 replace h := bn h; obtain ⟨h2, h⟩ := h
 replace h := bn h; obtain ⟨h3, h⟩ := h
 replace h := ob h; obtain ⟨r2, h4, h⟩ := h
 replace h4 := zcbo q (M + 7) (by omega) _ _ h4
 try simp only [kf, simprocAttr] at h4
 replace h := br h; rcases h with ⟨h5, h⟩ | ⟨h5, h⟩
 ·cases h; subst hR; simp only [zcen, simprocAttr, *]
 ·replace h := br h; rcases h with ⟨h6, h⟩ | ⟨h6, h⟩
  ·cases h; subst hR; simp only [zcen, simprocAttr, *]
  ·replace h := br h; rcases h with ⟨h7, h⟩ | ⟨h7, h⟩
   ·cases h; subst hR; simp only [zcen, simprocAttr, *]
   ·replace h := br h; rcases h with ⟨h8, h⟩ | ⟨h8, h⟩
    ·cases h; subst hR; simp only [zcen, simprocAttr, *]
    ·replace h := zcgt M (by omega) (M + 7) (by omega) _ _ _ _ _ _ _ _ _ h R hR
     simp only [zcen, simprocAttr, *]
def zcer := And.intro @kk <| And.intro @ke <| And.intro @kn <| And.intro @zbuv <| And.intro @zbv8 <| And.intro @zbwb <| And.intro @zbwe <| @zbux
theorem zces : ∀ (q N : Nat), 8 * q ≤ N → ∀ (a0 : Int) (a1 : (Sl Int)) (a2 : Int), ∀ (r : (Ow zjs) × Bool), znm q a0 a1 a2 = some r → (orc T N).deep F.znm [(V.int .i64) a0, (Sl.enc (V.int .u8)) a1, (V.int .i64) a2] = some [(Ow.enc 7 zjs.enc) r.1, V.bool r.2] := by
 intro q N hM a0 a1 a2 r h
 rcases q with _ | q
 ·cases h
 obtain ⟨M, rfl⟩ : ∃ M, N = M + 8 := ⟨N - 8, by omega⟩
 generalize hR : some [(Ow.enc 7 zjs.enc) r.1, V.bool r.2] = R
 rw [zh4, zbp2, y4, zh2]
 rw [znm] at h
 replace h := br h; rcases h with ⟨h1, h⟩ | ⟨h1, h⟩
 ·replace h := ob h; obtain ⟨r1, h2, h⟩ := h
  replace h2 := zcc4 q (M + 7) (by omega) _ _ _ h2
  try simp only [kf, simprocAttr] at h2
  replace h := bb h; rcases h with ⟨h3', h3, h⟩ | ⟨h3', h3, h⟩
  ·replace h := br h; rcases h with ⟨h4, h⟩ | ⟨h4, h⟩
   ·cases h; subst hR; simp only [zcer, simprocAttr, *]
   ·replace h := br h; rcases h with ⟨h5, h⟩ | ⟨h5, h⟩
    ·cases h; subst hR; simp only [zcer, simprocAttr, *]
    ·replace h := ob h; obtain ⟨r2, h6, h⟩ := h
     replace h6 := zcc9 q (M + 7) (by omega) _ _ _ h6
     try simp only [kf, simprocAttr] at h6
     cases h; subst hR; simp only [zcer, simprocAttr, *]
  ·cases h; subst hR; simp only [zcer, simprocAttr, *]
 ·replace h := ob h; obtain ⟨r3, h7, h⟩ := h
  replace h7 := zceq q (M + 7) (by omega) _ _ h7
  try simp only [kf, simprocAttr] at h7
  replace h := br h; rcases h with ⟨h8, h⟩ | ⟨h8, h⟩
  ·replace h := br h; rcases h with ⟨h9, h⟩ | ⟨h9, h⟩
   ·cases h; subst hR; simp only [zcer, simprocAttr, *]
   ·replace h := br h; rcases h with ⟨h10, h⟩ | ⟨h10, h⟩
    ·cases h; subst hR; simp only [zcer, simprocAttr, *]
    ·replace h := ob h; obtain ⟨r4, h11, h⟩ := h
     replace h11 := zcc9 q (M + 7) (by omega) _ _ _ h11
     try simp only [kf, simprocAttr] at h11
     cases h; subst hR; simp only [zcer, simprocAttr, *]
  ·cases h; subst hR; simp only [zcer, simprocAttr, *]
def zcet (q : Nat) : Prop := ∀ (M : Nat) (hM : 8 * q ≤ M) (j : Nat) (hj : q ≤ j) (v0z : Bool) (v0l : List (Sl Int)) (v6 h1_0 h1_1 : Int) (r : Int × zjt × Int × Int) (_ : zno q v0z v0l v6 h1_0 h1_1 = some r) (R : Option (List V)) (_ : some [(V.int .i64) r.1, zjt.enc r.2.1, (V.int .i64) r.2.2.1, (V.int .i64) r.2.2.2] = R) (fr : Fr) (H : Hp) (_ : canon 0 [0, 3, 6, 7, 9, 10] fr H = ([(0, (.sl v0z (List.map (Sl.enc (V.int .u8)) v0l))), (3, (.ptr 0 0)), (6, (.int .i64 v6)), (7, (.ptr 1 0)), (9, (.int .i64 16)), (10, (.int .i64 1))], [(.box [(.int .i64 0), (.int .i64 0), (.sl true [])]), (.box [(.int .i64 h1_0), (.int .i64 h1_1), (.sl true [])])])), fin zr1 (unw T (orc T (M + 7)) (M + 7) 0 [.blk 0, .code zrv] (iter 0 [0, 3, 6, 7, 9, 10] (exec T (orc T (M + 7)) (M + 7) 0 zrs) j fr H)) = R
def zceu (q : Nat) : Prop := ∀ (M : Nat) (hM : 8 * q ≤ M) (j : Nat) (hj : q ≤ j) (v0z : Bool) (v0l : List (Sl Int)) (v6 v9 v10 h1_0 h1_1 : Int) (h2z : Bool) (h2l : List zjs) (r : Int × zjt × Int × Int) (_ : znn q v0z v0l v6 v9 v10 h1_0 h1_1 h2z h2l = some r) (R : Option (List V)) (_ : some [(V.int .i64) r.1, zjt.enc r.2.1, (V.int .i64) r.2.2.1, (V.int .i64) r.2.2.2] = R) (fr : Fr) (H : Hp) (_ : canon 0 [0, 3, 6, 7, 9, 10] fr H = ([(0, (.sl v0z (List.map (Sl.enc (V.int .u8)) v0l))), (3, (.ptr 0 0)), (6, (.int .i64 v6)), (7, (.ptr 1 0)), (9, (.int .i64 v9)), (10, (.int .i64 v10))], [(.box [(.int .i64 0), (.int .i64 0), (.sl true [])]), (.box [(.int .i64 h1_0), (.int .i64 h1_1), (.vw 2 0 0 h2l.length 1)]), (.row 0 h2z 7 (List.map zjs.enc h2l) true)])), fin zr1 (unw T (orc T (M + 7)) (M + 7) 0 [.blk 0, .code zrv] (iter 0 [0, 3, 6, 7, 9, 10] (exec T (orc T (M + 7)) (M + 7) 0 zrs) j fr H)) = R
def zcev := And.intro @kk <| And.intro @ke <| And.intro @kn <| And.intro @zbtd <| And.intro @zbus <| And.intro @zbuw <| And.intro @zbv5 <| And.intro @zbut <| And.intro @zbuu <| @zbtf
theorem zcew (q : Nat) (zcgu : zceu q) : zcet (q + 1) := by
 intro M hM j hj v0z v0l v6 h1_0 h1_1 r h R hR fr H hc
 obtain ⟨j, rfl⟩ : ∃ i, j = i + 1 := ⟨j - 1, by omega⟩
 rw [zhv, hc]; clear hc
 rw [zno] at h
 replace h := br h; rcases h with ⟨h1, h⟩ | ⟨h1, h⟩
 ·replace h := ob h; obtain ⟨e6, h2, h⟩ := h
  replace h := ob h; obtain ⟨r7, h3, h⟩ := h
  replace h3 := zces q (M + 7) (by omega) _ _ _ _ h3
  try simp only [kf, simprocAttr] at h3
  replace h := bb h; rcases h with ⟨h4', h4, h⟩ | ⟨h4', h4, h⟩
  ·replace h := br h; rcases h with ⟨h5, h⟩ | ⟨h5, h⟩
   ·cases h; subst hR; simp only [zcev, simprocAttr, *]
   ·replace h := bn h; obtain ⟨h6, h⟩ := h
    replace h := zcgu M (by omega) j (by omega) _ _ _ _ _ _ _ _ _ _ h R hR
    simp only [zcev, simprocAttr, *]
  ·cases h; subst hR; simp only [zcev, simprocAttr, *]
 ·cases h; subst hR; simp only [zcev, simprocAttr, *]
theorem zcex (q : Nat) (zcgu : zceu q) : zceu (q + 1) := by
 intro M hM j hj v0z v0l v6 v9 v10 h1_0 h1_1 h2z h2l r h R hR fr H hc
 obtain ⟨j, rfl⟩ : ∃ i, j = i + 1 := ⟨j - 1, by omega⟩
 rw [zhv, hc]; clear hc
 rw [znn] at h
 replace h := br h; rcases h with ⟨h1, h⟩ | ⟨h1, h⟩
 ·replace h := bn h; obtain ⟨h2, h⟩ := h
  replace h := ob h; obtain ⟨e8, h3, h⟩ := h
  replace h := ob h; obtain ⟨r9, h4, h⟩ := h
  replace h4 := zces q (M + 7) (by omega) _ _ _ _ h4
  try simp only [kf, simprocAttr] at h4
  replace h := bb h; rcases h with ⟨h5', h5, h⟩ | ⟨h5', h5, h⟩
  ·replace h := br h; rcases h with ⟨h6, h⟩ | ⟨h6, h⟩
   ·cases h; subst hR; simp only [zcev, simprocAttr, *]
   ·replace h := br h; rcases h with ⟨h7, h⟩ | ⟨h7, h⟩
    ·cases h; subst hR; simp only [zcev, simprocAttr, *]
    ·replace h := bn h; obtain ⟨h8, h⟩ := h
     replace h := zcgu M (by omega) j (by omega) _ _ _ _ _ _ _ _ _ _ h R hR
     simp only [zcev, simprocAttr, *]
  ·cases h; subst hR; simp only [zcev, simprocAttr, *]
 ·cases h; subst hR; simp only [zcev, simprocAttr, *]
theorem zcey : ∀ q, zcet q ∧ zceu q
 | 0 => by refine ⟨?_, ?_⟩ <;> (intro M hM j hj; intros; rename_i h _ _ _ _ _; cases h)
 | q + 1 => by have ⟨i0, i1⟩ := zcey q; exact ⟨zcew q i1, zcex q i1⟩
theorem zcez : ∀ (q N : Nat), 8 * q ≤ N → ∀ (a0 : (Sl (Sl Int))), ∀ (r : Int × zjt × Int × Int), znp q a0 = some r → (orc T N).deep F.znp [(Sl.enc (Sl.enc (V.int .u8))) a0] = some [(V.int .i64) r.1, zjt.enc r.2.1, (V.int .i64) r.2.2.1, (V.int .i64) r.2.2.2] := by
 intro q N hM a0 r h
 rcases q with _ | q
 ·cases h
 obtain ⟨M, rfl⟩ : ∃ M, N = M + 8 := ⟨N - 8, by omega⟩
 have ih_ferrymanref08_Walk_l0 := (zcey q).1
 generalize hR : some [(V.int .i64) r.1, zjt.enc r.2.1, (V.int .i64) r.2.2.1, (V.int .i64) r.2.2.2] = R
 rw [zh4, zbpk, y4, zh2]
 rw [znp] at h
 replace h := ob h; obtain ⟨e1, h1, h⟩ := h
 replace h := br h; rcases h with ⟨h2, h⟩ | ⟨h2, h⟩
 ·cases h; subst hR; simp only [zcev, simprocAttr, *]
 ·replace h := ob h; obtain ⟨e2, h3, h⟩ := h
  replace h := br h; rcases h with ⟨h4, h⟩ | ⟨h4, h⟩
  ·replace h := bn h; obtain ⟨h5, h⟩ := h
   replace h := ob h; obtain ⟨r3, h6, h⟩ := h
   replace h6 := zcbo q (M + 6) (by omega) _ _ h6
   try simp only [kf, simprocAttr] at h6
   replace h := bn h; obtain ⟨h7, h⟩ := h
   replace h := bn h; obtain ⟨h8, h⟩ := h
   replace h := ob h; obtain ⟨r4, h9, h⟩ := h
   replace h9 := zcbo q (M + 6) (by omega) _ _ h9
   try simp only [kf, simprocAttr] at h9
   replace h := bn h; obtain ⟨h10, h⟩ := h
   replace h := bn h; obtain ⟨h11, h⟩ := h
   replace h := ob h; obtain ⟨r5, h12, h⟩ := h
   replace h12 := zcbo q (M + 6) (by omega) _ _ h12
   try simp only [kf, simprocAttr] at h12
   replace h := br h; rcases h with ⟨h13, h⟩ | ⟨h13, h⟩
   ·cases h; subst hR; simp only [zcev, simprocAttr, *]
   ·replace h := br h; rcases h with ⟨h14, h⟩ | ⟨h14, h⟩
    ·cases h; subst hR; simp only [zcev, simprocAttr, *]
    ·replace h := br h; rcases h with ⟨h15, h⟩ | ⟨h15, h⟩
     ·cases h; subst hR; simp only [zcev, simprocAttr, *]
     ·replace h := br h; rcases h with ⟨h16, h⟩ | ⟨h16, h⟩
      ·replace h := br h; rcases h with ⟨h17, h⟩ | ⟨h17, h⟩
       ·cases h; subst hR; simp only [zcev, simprocAttr, *]
       ·replace h := br h; rcases h with ⟨h18, h⟩ | ⟨h18, h⟩
        ·cases h; subst hR; simp only [zcev, simprocAttr, *]
        ·replace h := br h; rcases h with ⟨h19, h⟩ | ⟨h19, h⟩
         ·cases h; subst hR; simp only [zcev, simprocAttr, *]
         ·replace h := ih_ferrymanref08_Walk_l0 M (by omega) (M + 7) (by omega) _ _ _ _ _ _ h R hR
          simp only [zcev, simprocAttr, *]
      ·cases h; subst hR; simp only [zcev, simprocAttr, *]
  ·cases h; subst hR; simp only [zcev, simprocAttr, *]
def zce0 (q : Nat) : Prop := ∀ (M : Nat) (hM : 8 * q ≤ M) (j : Nat) (hj : q ≤ j) (v0 v1 v6 : Int) (h0z : Bool) (h0l : List Int) (r : (Ow Int)) (_ : znq q v0 v1 v6 h0z h0l = some r) (R : Option (List V)) (_ : some [(Ow.enc 1 (V.int .u8)) r] = R) (fr : Fr) (H : Hp) (_ : canon 0 [0, 1, 5, 6] fr H = ([(0, (.int .u64 v0)), (1, (.int .i64 v1)), (5, (.vw 0 0 0 h0l.length 1)), (6, (.int .i64 v6))], [(.row 0 h0z 1 (List.map (V.int .u8) h0l) true)])), fin z01 (unw T (orc T (M + 7)) (M + 7) 0 [.blk 0, .code z0x] (iter 0 [0, 1, 5, 6] (exec T (orc T (M + 7)) (M + 7) 0 z0u) j fr H)) = R
def zce1 := And.intro @kk <| And.intro @ke <| And.intro @kn <| And.intro @zbv1 <| @zbv3
theorem zce2 (q : Nat) (zcgv : zce0 q) : zce0 (q + 1) := by
 intro M hM j hj v0 v1 v6 h0z h0l r h R hR fr H hc
 obtain ⟨j, rfl⟩ : ∃ i, j = i + 1 := ⟨j - 1, by omega⟩
 rw [zhv, hc]; clear hc
 rw [znq] at h
 replace h := br h; rcases h with ⟨h1, h⟩ | ⟨h1, h⟩
 ·replace h := bn h; obtain ⟨h2, h⟩ := h
  replace h := zcgv M (by omega) j (by omega) _ _ _ _ _ _ h R hR
  simp only [zce1, simprocAttr, *]
 ·cases h; subst hR; simp only [zce1, simprocAttr, *]
theorem zce3 : ∀ q, zce0 q
 | 0 => by intro M hM j hj; intros; rename_i h _ _ _ _ _; cases h
 | q + 1 => by have i0 := zce3 q; exact zce2 q i0
theorem zce4 : ∀ (q N : Nat), 8 * q ≤ N → ∀ (a0 a1 : Int), ∀ (r : (Ow Int)), znr q a0 a1 = some r → (orc T N).deep F.znr [(V.int .u64) a0, (V.int .i64) a1] = some [(Ow.enc 1 (V.int .u8)) r] := by
 intro q N hM a0 a1 r h
 rcases q with _ | q
 ·cases h
 obtain ⟨M, rfl⟩ : ∃ M, N = M + 8 := ⟨N - 8, by omega⟩
 have zcgv := (zce3 q)
 generalize hR : some [(Ow.enc 1 (V.int .u8)) r] = R
 rw [zh4, zbqg, y4, zh2]
 rw [znr] at h
 replace h := zcgv M (by omega) (M + 7) (by omega) _ _ _ _ _ _ h R hR
 simp only [zce1, simprocAttr, *]
def zce5 := And.intro @kk <| And.intro @ke <| And.intro @kn <| And.intro @zbup <| And.intro @zbuz <| And.intro @zbvw <| And.intro @zbvz <| And.intro @zbv2 <| @zbur
theorem zce6 : ∀ (q N : Nat), 8 * q ≤ N → ∀ (a0 : (Sl Int)), ∀ (r : (Ow Int) × Int), zns q a0 = some r → (orc T N).deep F.zns [(Sl.enc (V.int .u8)) a0] = some [(Ow.enc 1 (V.int .u8)) r.1, (V.int .i64) r.2] := by
 intro q N hM a0 r h
 rcases q with _ | q
 ·cases h
 obtain ⟨M, rfl⟩ : ∃ M, N = M + 8 := ⟨N - 8, by omega⟩
 generalize hR : some [(Ow.enc 1 (V.int .u8)) r.1, (V.int .i64) r.2] = R
 rw [zh4, zbp0, y4, zh2]
 rw [zns] at h
 replace h := br h; rcases h with ⟨h1, h⟩ | ⟨h1, h⟩
 ·cases h; subst hR; simp only [zce5, simprocAttr, *]
 ·replace h := ob h; obtain ⟨r1, h2, h⟩ := h
  replace h2 := zcds q (M + 7) (by omega) _ _ _ h2
  try simp only [kf, simprocAttr] at h2
  replace h := ob h; obtain ⟨r2, h3, h⟩ := h
  replace h3 := zcb0 q (M + 7) (by omega) _ _ h3
  try simp only [kf, simprocAttr] at h3
  replace h := ob h; obtain ⟨r3, h4, h⟩ := h
  replace h4 := zcby q (M + 7) (by omega) _ _ _ h4
  try simp only [kf, simprocAttr] at h4
  replace h := bn h; obtain ⟨h5, h⟩ := h
  replace h := bn h; obtain ⟨h6, h⟩ := h
  replace h := ob h; obtain ⟨r4, h7, h⟩ := h
  replace h7 := zce4 q (M + 7) (by omega) _ _ _ h7
  try simp only [kf, simprocAttr] at h7
  replace h := bn h; obtain ⟨h8, h⟩ := h
  cases h; subst hR; simp only [zce5, simprocAttr, *]
def zce7 (q : Nat) : Prop := ∀ (M : Nat) (hM : 8 * q ≤ M) (j : Nat) (hj : q ≤ j) (v0z : Bool) (v0l : List (Sl Int)) (v4 : Int) (h0z : Bool) (h0l : List (Sl Int)) (r : (Ow (Sl Int))) (_ : znt q v0z v0l v4 h0z h0l = some r) (R : Option (List V)) (_ : some [(Ow.enc 1 (Sl.enc (V.int .u8))) r] = R) (fr : Fr) (H : Hp) (_ : canon 0 [0, 3, 4] fr H = ([(0, (.sl v0z (List.map (Sl.enc (V.int .u8)) v0l))), (3, (.vw 0 0 0 h0l.length 1)), (4, (.int .i64 v4))], [(.row 0 h0z 1 (List.map (Sl.enc (V.int .u8)) h0l) true)])), fin zq3 (unw T (orc T (M + 7)) (M + 7) 0 [.blk 0, .code zqz] (iter 0 [0, 3, 4] (exec T (orc T (M + 7)) (M + 7) 0 zqw) j fr H)) = R
def zce8 := And.intro @kk <| And.intro @ke <| And.intro @kn <| And.intro @zbs7 <| And.intro @zbuq <| @zbs9
theorem zce9 (q : Nat) (zcgw : zce7 q) : zce7 (q + 1) := by
 intro M hM j hj v0z v0l v4 h0z h0l r h R hR fr H hc
 obtain ⟨j, rfl⟩ : ∃ i, j = i + 1 := ⟨j - 1, by omega⟩
 rw [zhv, hc]; clear hc
 rw [znt] at h
 replace h := br h; rcases h with ⟨h1, h⟩ | ⟨h1, h⟩
 ·replace h := bn h; obtain ⟨h2, h⟩ := h
  replace h := ob h; obtain ⟨e1, h3, h⟩ := h
  replace h := ob h; obtain ⟨r2, h4, h⟩ := h
  replace h4 := zce6 q (M + 7) (by omega) _ _ h4
  try simp only [kf, simprocAttr] at h4
  replace h := bn h; obtain ⟨h5, h⟩ := h
  replace h := zcgw M (by omega) j (by omega) _ _ _ _ _ _ h R hR
  simp only [zce8, simprocAttr, *]
 ·cases h; subst hR; simp only [zce8, simprocAttr, *]
theorem zcfa : ∀ q, zce7 q
 | 0 => by intro M hM j hj; intros; rename_i h _ _ _ _ _; cases h
 | q + 1 => by have i0 := zcfa q; exact zce9 q i0
theorem zcfb : ∀ (q N : Nat), 8 * q ≤ N → ∀ (a0 : (Sl (Sl Int))), ∀ (r : (Ow (Sl Int))), znu q a0 = some r → (orc T N).deep F.znu [(Sl.enc (Sl.enc (V.int .u8))) a0] = some [(Ow.enc 1 (Sl.enc (V.int .u8))) r] := by
 intro q N hM a0 r h
 rcases q with _ | q
 ·cases h
 obtain ⟨M, rfl⟩ : ∃ M, N = M + 8 := ⟨N - 8, by omega⟩
 have zcgw := (zcfa q)
 generalize hR : some [(Ow.enc 1 (Sl.enc (V.int .u8))) r] = R
 rw [zh4, zbpi, y4, zh2]
 rw [znu] at h
 replace h := zcgw M (by omega) (M + 7) (by omega) _ _ _ _ _ _ h R hR
 simp only [zce8, simprocAttr, *]
def zcfc (q : Nat) : Prop := ∀ (M : Nat) (hM : 8 * q ≤ M) (j : Nat) (hj : q ≤ j) (v1z : Bool) (v1l : List (Sl Int)) (v6 v7 : Int) (h0z : Bool) (h0l : List Int) (h0x : Bool) (r : (Ow Int)) (_ : znv q v1z v1l v6 v7 h0z h0l h0x = some r) (R : Option (List V)) (_ : some [(Ow.enc 1 (V.int .u8)) r] = R) (fr : Fr) (H : Hp) (_ : canon 0 [1, 5, 6, 7] fr H = ([(1, (.sl v1z (List.map (Sl.enc (V.int .u8)) v1l))), (5, (.vw 0 0 0 h0l.length 1)), (6, (.int .i64 v6)), (7, (.int .i64 v7))], [(.row 0 h0z 1 (List.map (V.int .u8) h0l) h0x)])), fin zsd (unw T (orc T (M + 7)) (M + 7) 0 [.blk 0, .code zr8] (iter 0 [1, 5, 6, 7] (exec T (orc T (M + 7)) (M + 7) 0 zr5) j fr H)) = R
def zcfd := And.intro @kk <| And.intro @ke <| And.intro @kn <| And.intro @zbtg <| And.intro @zbuz <| @zbti
theorem zcfe (q : Nat) (zcgx : zcfc q) : zcfc (q + 1) := by
 intro M hM j hj v1z v1l v6 v7 h0z h0l h0x r h R hR fr H hc
 obtain ⟨j, rfl⟩ : ∃ i, j = i + 1 := ⟨j - 1, by omega⟩
 rw [zhv, hc]; clear hc
 rw [znv] at h
 replace h := br h; rcases h with ⟨h1, h⟩ | ⟨h1, h⟩
 ·replace h := ob h; obtain ⟨r2, h2, h⟩ := h
  replace h2 := zcds q (M + 7) (by omega) _ _ _ h2
  try simp only [kf, simprocAttr] at h2
  replace h := bn h; obtain ⟨h3, h⟩ := h
  replace h := ob h; obtain ⟨e3, h4, h⟩ := h
  replace h := zcgx M (by omega) j (by omega) _ _ _ _ _ _ _ _ h R hR
  simp only [zcfd, simprocAttr, *]
 ·cases h; subst hR; simp only [zcfd, simprocAttr, *]
theorem zcff : ∀ q, zcfc q
 | 0 => by intro M hM j hj; intros; rename_i h _ _ _ _ _; cases h
 | q + 1 => by have i0 := zcff q; exact zcfe q i0
theorem zcfg : ∀ (q N : Nat), 8 * q ≤ N → ∀ (a0 : (Sl Int)) (a1 : (Sl (Sl Int))), ∀ (r : (Ow Int)), znw q a0 a1 = some r → (orc T N).deep F.znw [(Sl.enc (V.int .u8)) a0, (Sl.enc (Sl.enc (V.int .u8))) a1] = some [(Ow.enc 1 (V.int .u8)) r] := by
 intro q N hM a0 a1 r h
 rcases q with _ | q
 ·cases h
 obtain ⟨M, rfl⟩ : ∃ M, N = M + 8 := ⟨N - 8, by omega⟩
 have zcgx := (zcff q)
 generalize hR : some [(Ow.enc 1 (V.int .u8)) r] = R
 rw [zh4, zbpl, y4, zh2]
 rw [znw] at h
 replace h := ob h; obtain ⟨r1, h1, h⟩ := h
 replace h1 := zcds q (M + 7) (by omega) _ _ _ h1
 try simp only [kf, simprocAttr] at h1
 replace h := zcgx M (by omega) (M + 7) (by omega) _ _ _ _ _ _ _ _ h R hR
 simp only [zcfd, simprocAttr, *]
def zcfh := And.intro @kk <| And.intro @ke <| And.intro @kn <| And.intro @zbsm <| And.intro @zbs5 <| And.intro @zbs8 <| And.intro @zbte <| And.intro @zbth <| @zbso
theorem zcfi : ∀ (q N : Nat), 8 * q ≤ N → ∀ (a0 : (Sl Int)), ∀ (r : zjt × Int), znx q a0 = some r → (orc T N).deep F.znx [(Sl.enc (V.int .u8)) a0] = some [zjt.enc r.1, (V.int .i64) r.2] := by
 intro q N hM a0 r h
 rcases q with _ | q
 ·cases h
 obtain ⟨M, rfl⟩ : ∃ M, N = M + 8 := ⟨N - 8, by omega⟩
 generalize hR : some [zjt.enc r.1, (V.int .i64) r.2] = R
 rw [zh4, zbpb, y4, zh2]
 rw [znx] at h
 replace h := ob h; obtain ⟨r1, h1, h⟩ := h
 replace h1 := zcce q (M + 7) (by omega) _ _ h1
 try simp only [kf, simprocAttr] at h1
 replace h := br h; rcases h with ⟨h2, h⟩ | ⟨h2, h⟩
 ·replace h := br h; rcases h with ⟨h3, h⟩ | ⟨h3, h⟩
  ·cases h; subst hR; simp only [zcfh, simprocAttr, *]
  ·replace h := bn h; obtain ⟨h4, h⟩ := h
   replace h := bn h; obtain ⟨h5, h⟩ := h
   replace h := bb h; rcases h with ⟨h6', h6, h⟩ | ⟨h6', h6, h⟩
   ·replace h := ob h; obtain ⟨r2, h7, h⟩ := h
    replace h7 := zcez q (M + 7) (by omega) _ _ h7
    try simp only [kf, simprocAttr] at h7
    replace h := br h; rcases h with ⟨h8, h⟩ | ⟨h8, h⟩
    ·replace h := ob h; obtain ⟨r3, h9, h⟩ := h
     replace h9 := zcfb q (M + 7) (by omega) _ _ h9
     try simp only [kf, simprocAttr] at h9
     replace h := bn h; obtain ⟨h10, h⟩ := h
     replace h := ob h; obtain ⟨e4, h11, h⟩ := h
     replace h := bn h; obtain ⟨h12, h⟩ := h
     replace h := ob h; obtain ⟨r5, h13, h⟩ := h
     replace h13 := zcfg q (M + 7) (by omega) _ _ _ h13
     try simp only [kf, simprocAttr] at h13
     replace h := bn h; obtain ⟨h14, h⟩ := h
     replace h := ob h; obtain ⟨e6, h15, h⟩ := h
     replace h := br h; rcases h with ⟨h16, h⟩ | ⟨h16, h⟩
     ·cases h; subst hR; simp only [zcfh, simprocAttr, *]
     ·cases h; subst hR; simp only [zcfh, simprocAttr, *]
    ·cases h; subst hR; simp only [zcfh, simprocAttr, *]
   ·replace h := ob h; obtain ⟨r7, h17, h⟩ := h
    replace h17 := zcez q (M + 7) (by omega) _ _ h17
    try simp only [kf, simprocAttr] at h17
    replace h := br h; rcases h with ⟨h18, h⟩ | ⟨h18, h⟩
    ·replace h := ob h; obtain ⟨r8, h19, h⟩ := h
     replace h19 := zcfb q (M + 7) (by omega) _ _ h19
     try simp only [kf, simprocAttr] at h19
     replace h := bn h; obtain ⟨h20, h⟩ := h
     replace h := ob h; obtain ⟨e9, h21, h⟩ := h
     replace h := bn h; obtain ⟨h22, h⟩ := h
     replace h := ob h; obtain ⟨r10, h23, h⟩ := h
     replace h23 := zcfg q (M + 7) (by omega) _ _ _ h23
     try simp only [kf, simprocAttr] at h23
     replace h := bn h; obtain ⟨h24, h⟩ := h
     replace h := ob h; obtain ⟨e11, h25, h⟩ := h
     replace h := br h; rcases h with ⟨h26, h⟩ | ⟨h26, h⟩
     ·cases h; subst hR; simp only [zcfh, simprocAttr, *]
     ·cases h; subst hR; simp only [zcfh, simprocAttr, *]
    ·cases h; subst hR; simp only [zcfh, simprocAttr, *]
 ·cases h; subst hR; simp only [zcfh, simprocAttr, *]
def zcfj (q : Nat) : Prop := ∀ (M : Nat) (hM : 8 * q ≤ M) (j : Nat) (hj : q ≤ j) (v0z : Bool) (v0l : List (Sl Int)) (v4 : Int) (h0z : Bool) (h0l : List Int) (r : (Ow Int)) (_ : zny q v0z v0l v4 h0z h0l = some r) (R : Option (List V)) (_ : some [(Ow.enc 1 (V.int .u8)) r] = R) (fr : Fr) (H : Hp) (_ : canon 0 [0, 3, 4] fr H = ([(0, (.sl v0z (List.map (Sl.enc (V.int .u8)) v0l))), (3, (.vw 0 0 0 h0l.length 1)), (4, (.int .i64 v4))], [(.row 0 h0z 1 (List.map (V.int .u8) h0l) true)])), fin zrb (unw T (orc T (M + 7)) (M + 7) 0 [.blk 0, .code zq7] (iter 0 [0, 3, 4] (exec T (orc T (M + 7)) (M + 7) 0 zq4) j fr H)) = R
def zcfk := And.intro @kk <| And.intro @ke <| And.intro @kn <| And.intro @zbta <| @zbtc
theorem zcfl (q : Nat) (zcgy : zcfj q) : zcfj (q + 1) := by
 intro M hM j hj v0z v0l v4 h0z h0l r h R hR fr H hc
 obtain ⟨j, rfl⟩ : ∃ i, j = i + 1 := ⟨j - 1, by omega⟩
 rw [zhv, hc]; clear hc
 rw [zny] at h
 replace h := br h; rcases h with ⟨h1, h⟩ | ⟨h1, h⟩
 ·replace h := bn h; obtain ⟨h2, h⟩ := h
  replace h := ob h; obtain ⟨e1, h3, h⟩ := h
  replace h := bn h; obtain ⟨h4, h⟩ := h
  replace h := zcgy M (by omega) j (by omega) _ _ _ _ _ _ h R hR
  simp only [zcfk, simprocAttr, *]
 ·cases h; subst hR; simp only [zcfk, simprocAttr, *]
theorem zcfm : ∀ q, zcfj q
 | 0 => by intro M hM j hj; intros; rename_i h _ _ _ _ _; cases h
 | q + 1 => by have i0 := zcfm q; exact zcfl q i0
theorem zcfn : ∀ (q N : Nat), 8 * q ≤ N → ∀ (a0 : (Sl (Sl Int))), ∀ (r : (Ow Int)), znz q a0 = some r → (orc T N).deep F.znz [(Sl.enc (Sl.enc (V.int .u8))) a0] = some [(Ow.enc 1 (V.int .u8)) r] := by
 intro q N hM a0 r h
 rcases q with _ | q
 ·cases h
 obtain ⟨M, rfl⟩ : ∃ M, N = M + 8 := ⟨N - 8, by omega⟩
 have zcgy := (zcfm q)
 generalize hR : some [(Ow.enc 1 (V.int .u8)) r] = R
 rw [zh4, zbpj, y4, zh2]
 rw [znz] at h
 replace h := zcgy M (by omega) (M + 7) (by omega) _ _ _ _ _ _ h R hR
 simp only [zcfk, simprocAttr, *]
def zcfo := And.intro @kk <| And.intro @ke <| And.intro @kn <| And.intro @zbsj <| And.intro @zbs2 <| @zbsl
theorem zcfp : ∀ (q N : Nat), 8 * q ≤ N → ∀ (a0 : (Sl Int)), ∀ (r : zjt × Int), zn0 q a0 = some r → (orc T N).deep F.zn0 [(Sl.enc (V.int .u8)) a0] = some [zjt.enc r.1, (V.int .i64) r.2] := by
 intro q N hM a0 r h
 rcases q with _ | q
 ·cases h
 obtain ⟨M, rfl⟩ : ∃ M, N = M + 8 := ⟨N - 8, by omega⟩
 generalize hR : some [zjt.enc r.1, (V.int .i64) r.2] = R
 rw [zh4, zbpa, y4, zh2]
 rw [zn0] at h
 replace h := ob h; obtain ⟨r1, h1, h⟩ := h
 replace h1 := zcbc q (M + 7) (by omega) _ _ h1
 try simp only [kf, simprocAttr] at h1
 cases h; subst hR; simp only [zcfo, simprocAttr, *]
def zcfq := And.intro @kk <| And.intro @ke <| And.intro @kn <| And.intro @zbtj <| And.intro @zbu2 <| @zbtl
theorem zcfr : ∀ (q N : Nat), 8 * q ≤ N → ∀ (a0 : (Sl Int)), ∀ (r : (Ow (Sl Int)) × Int), zn1 q a0 = some r → (orc T N).deep F.zn1 [(Sl.enc (V.int .u8)) a0] = some [(Ow.enc 1 (Sl.enc (V.int .u8))) r.1, (V.int .i64) r.2] := by
 intro q N hM a0 r h
 rcases q with _ | q
 ·cases h
 obtain ⟨M, rfl⟩ : ∃ M, N = M + 8 := ⟨N - 8, by omega⟩
 generalize hR : some [(Ow.enc 1 (Sl.enc (V.int .u8))) r.1, (V.int .i64) r.2] = R
 rw [zh4, zbpm, y4, zh2]
 rw [zn1] at h
 replace h := ob h; obtain ⟨r1, h1, h⟩ := h
 replace h1 := zb8m q (M + 7) (by omega) _ _ h1
 try simp only [kf, simprocAttr] at h1
 cases h; subst hR; simp only [zcfq, simprocAttr, *]
def zcfs := And.intro @kk <| And.intro @ke <| And.intro @kn <| And.intro @zbtp <| And.intro @zbvb <| @zbtr
theorem zcft : ∀ (q N : Nat), 8 * q ≤ N → ∀ (a0 r : Int), zn2 q a0 = some r → (orc T N).deep F.zn2 [(V.int .i64) a0] = some [(V.int .i64) r] := by
 intro q N hM a0 r h
 rcases q with _ | q
 ·cases h
 obtain ⟨M, rfl⟩ : ∃ M, N = M + 8 := ⟨N - 8, by omega⟩
 generalize hR : some [(V.int .i64) r] = R
 rw [zh4, zbpo, y4, zh2]
 rw [zn2] at h
 replace h := br h; rcases h with ⟨h1, h⟩ | ⟨h1, h⟩
 ·cases h; subst hR; simp only [zcfs, simprocAttr, *]
 ·replace h := br h; rcases h with ⟨h2, h⟩ | ⟨h2, h⟩
  ·cases h; subst hR; simp only [zcfs, simprocAttr, *]
  ·replace h := ob h; obtain ⟨r1, h3, h⟩ := h
   replace h3 := zb45 q (M + 7) (by omega) _ _ _ h3
   try simp only [kf, simprocAttr] at h3
   cases h; subst hR; simp only [zcfs, simprocAttr, *]
def zcfu (q : Nat) : Prop := ∀ (M : Nat) (hM : 8 * q ≤ M) (j : Nat) (hj : q ≤ j) (w1 : Nat) (v1z : Bool) (v1l : List Int) (v19 : Int) (h1z : Bool) (h1l : List (Sl Int)) (h1x : Bool) (h3_0 h3_1 h3_2 : Int) (r : Int × Int × Int × Int × Bool) (_ : zn3 q v1z v1l v19 h1z h1l h1x h3_0 h3_1 h3_2 = some r) (R : Option (List V × Hp)) (_ : (some ([(.int .i64 r.1)], [(.box [(.int .i64 0), (.int .i64 0), (.sl true [])]), (.row w1 h1z 1 (List.map (Sl.enc (V.int .u8)) h1l) h1x), (.box [(.int .i64 r.2.1), (.int .i64 r.2.2.1), (.int .i64 r.2.2.2.1), (.sl true []), (.bool r.2.2.2.2)])]) : Option (List V × Hp)) = R) (fr : Fr) (H : Hp) (_ : canon 3 [0, 1, 5, 19] fr H = ([(0, (.ptr 2 0)), (1, (.sl v1z (List.map (V.int .u8) v1l))), (5, (.ptr 3 0)), (19, (.int .i64 v19))], [(.box [(.int .i64 0), (.int .i64 0), (.sl true [])]), (.row w1 h1z 1 (List.map (Sl.enc (V.int .u8)) h1l) h1x), (.box [(.int .i64 0), (.int .i64 0), (.int .i64 0), (.sl true []), (.bool false)]), (.box [(.int .i64 h3_0), (.int .i64 h3_1), (.int .i64 h3_2)])])), finI 3 false [.tmp 4] (unw T (orc T (M + 5)) (M + 5) 3 [.blk 0, .code zya] (iter 3 [0, 1, 5, 19] (exec T (orc T (M + 5)) (M + 5) 3 zxv) j fr H)) = R
def zcfv := And.intro @kk <| And.intro @ke <| And.intro @kn <| And.intro @zbu4 <| And.intro @zbvh <| @zbwn
theorem zcfw (q : Nat) (zcgz : zcfu q) : zcfu (q + 1) := by
 intro M hM j hj w1 v1z v1l v19 h1z h1l h1x h3_0 h3_1 h3_2 r h R hR fr H hc
 obtain ⟨j, rfl⟩ : ∃ i, j = i + 1 := ⟨j - 1, by omega⟩
 rw [zhv, hc]; clear hc
 rw [zn3] at h
 replace h := br h; rcases h with ⟨h1, h⟩ | ⟨h1, h⟩
 ·replace h := ob h; obtain ⟨r2, h2, h⟩ := h
  replace h2 := zb78 q (M + 5) (by omega) _ _ h2
  try simp only [kf, simprocAttr] at h2
  replace h := bn h; obtain ⟨h3, h⟩ := h
  replace h := bn h; obtain ⟨h4, h⟩ := h
  replace h := bc h; rcases h with ⟨h5, h⟩ | ⟨h5, h⟩
  ·replace h := br h; rcases h with ⟨h6, h⟩ | ⟨h6, h⟩
   ·cases h; subst hR; simp only [zcfv, simprocAttr, *]
   ·replace h := bn h; obtain ⟨h7, h⟩ := h
    replace h := bn h; obtain ⟨h8, h⟩ := h
    replace h := zcgz M (by omega) j (by omega) w1 _ _ _ _ _ _ _ _ _ _ h R hR
    simp only [zcfv, simprocAttr, *]
  ·replace h := bc h; rcases h with ⟨h9, h⟩ | ⟨h9, h⟩
   ·replace h := br h; rcases h with ⟨h10, h⟩ | ⟨h10, h⟩
    ·cases h; subst hR; simp only [zcfv, simprocAttr, *]
    ·replace h := bn h; obtain ⟨h11, h⟩ := h
     replace h := bn h; obtain ⟨h12, h⟩ := h
     replace h := zcgz M (by omega) j (by omega) w1 _ _ _ _ _ _ _ _ _ _ h R hR
     simp only [zcfv, simprocAttr, *]
   ·replace h := bc h; rcases h with ⟨h13, h⟩ | ⟨h13, h⟩
    ·replace h := br h; rcases h with ⟨h14, h⟩ | ⟨h14, h⟩
     ·cases h; subst hR; simp only [zcfv, simprocAttr, *]
     ·replace h := bn h; obtain ⟨h15, h⟩ := h
      replace h := bn h; obtain ⟨h16, h⟩ := h
      replace h := zcgz M (by omega) j (by omega) w1 _ _ _ _ _ _ _ _ _ _ h R hR
      simp only [zcfv, simprocAttr, *]
    ·cases h
 ·replace h := br h; rcases h with ⟨h17, h⟩ | ⟨h17, h⟩
  ·cases h; subst hR; simp only [zcfv, simprocAttr, *]
  ·replace h := ob h; obtain ⟨r3, h18, h⟩ := h
   replace h18 := zb4y q (M + 5) (by omega) _ _ h18
   replace h := bb h; rcases h with ⟨h19', h19, h⟩ | ⟨h19', h19, h⟩
   ·replace h := br h; rcases h with ⟨h20, h⟩ | ⟨h20, h⟩
    ·cases h; subst hR; simp only [zcfv, simprocAttr, *]
    ·cases h; subst hR; simp only [zcfv, simprocAttr, *]
   ·cases h; subst hR; simp only [zcfv, simprocAttr, *]
theorem zcfx : ∀ q, zcfu q
 | 0 => by intro M hM j hj; intros; rename_i h _ _ _ _ _; cases h
 | q + 1 => by have i0 := zcfx q; exact zcfw q i0
theorem zcfy : ∀ (q M : Nat), 8 * q ≤ M → ∀ (w1 : Nat), ∀ (v1z : Bool), ∀ (v1l : List Int), ∀ (h1z : Bool), ∀ (h1l : List (Sl Int)), ∀ (h1x : Bool), ∀ (r : Int × Int × Int × Int × Bool), zn4 q v1z v1l h1z h1l h1x = some r → (orc T (M + 6)).inl F.zok [(.ptr 2 0), (.sl v1z (List.map (V.int .u8) v1l))] [(.box [(.int .i64 0), (.int .i64 0), (.sl true [])]), (.row w1 h1z 1 (List.map (Sl.enc (V.int .u8)) h1l) h1x), (.box [(.int .i64 0), (.int .i64 0), (.int .i64 0), (.sl true []), (.bool false)])] = (some ([(.int .i64 r.1)], [(.box [(.int .i64 0), (.int .i64 0), (.sl true [])]), (.row w1 h1z 1 (List.map (Sl.enc (V.int .u8)) h1l) h1x), (.box [(.int .i64 r.2.1), (.int .i64 r.2.2.1), (.int .i64 r.2.2.2.1), (.sl true []), (.bool r.2.2.2.2)])]) : Option (List V × Hp)) := by
 intro q M hM w1 v1z v1l h1z h1l h1x r h
 rcases q with _ | q
 ·cases h
 have zcgz := (zcfx q)
 generalize hR : (some ([(.int .i64 r.1)], [(.box [(.int .i64 0), (.int .i64 0), (.sl true [])]), (.row w1 h1z 1 (List.map (Sl.enc (V.int .u8)) h1l) h1x), (.box [(.int .i64 r.2.1), (.int .i64 r.2.2.1), (.int .i64 r.2.2.2.1), (.sl true []), (.bool r.2.2.2.2)])]) : Option (List V × Hp)) = R
 rw [zbu6 (n := M + 5)]
 rw [zn4] at h
 replace h := br h; rcases h with ⟨h1, h⟩ | ⟨h1, h⟩
 ·cases h; subst hR; simp only [zcfv, simprocAttr, *]
 ·replace h := ob h; obtain ⟨e1, h2, h⟩ := h
  replace h := br h; rcases h with ⟨h3, h⟩ | ⟨h3, h⟩
  ·replace h := bn h; obtain ⟨h4, h⟩ := h
   replace h := zcgz M (by omega) (M + 5) (by omega) w1 _ _ _ _ _ _ _ _ _ _ h R hR
   simp only [zcfv, simprocAttr, *]
  ·cases h; subst hR; simp only [zcfv, simprocAttr, *]
def zcfz (q : Nat) : Prop := ∀ (M : Nat) (hM : 8 * q ≤ M) (j : Nat) (hj : q ≤ j) (w1 v19len : Nat) (v20 : Int) (h1z : Bool) (h1l : List (Sl Int)) (h1x : Bool) (h2_0 h2_1 h2_2 : Int) (h2_4 : Bool) (r : Nat × Int × Int × Int × Int × Int × Bool × Int × Int × Int × Int × Int × Nat × Bool × Bool × (List zjs)) (_ : zn6 q v19len v20 h1z h1l h1x h2_0 h2_1 h2_2 h2_4 = some r) (R : Option (List V × Hp)) (_ : (if r.1 = 0 then (some ([(.int .i64 r.2.1), (.int .i64 r.2.2.1)], [(.box [(.int .i64 0), (.int .i64 0), (.sl true [])]), (.row w1 h1z 1 (List.map (Sl.enc (V.int .u8)) h1l) h1x), (.box [(.int .i64 r.2.2.2.1), (.int .i64 r.2.2.2.2.1), (.int .i64 r.2.2.2.2.2.1), (.sl true []), (.bool r.2.2.2.2.2.2.1)])]) : Option (List V × Hp)) else (some ([(.int .i64 r.2.2.2.2.2.2.2.1), (.int .i64 r.2.2.2.2.2.2.2.2.1)], [(.box [(.int .i64 0), (.int .i64 0), (.sl true [])]), (.row w1 h1z 1 (List.map (Sl.enc (V.int .u8)) h1l) h1x), (.box [(.int .i64 r.2.2.2.2.2.2.2.2.2.1), (.int .i64 r.2.2.2.2.2.2.2.2.2.2.1), (.int .i64 r.2.2.2.2.2.2.2.2.2.2.2.1), (.vw 3 0 0 r.2.2.2.2.2.2.2.2.2.2.2.2.1 1), (.bool r.2.2.2.2.2.2.2.2.2.2.2.2.2.1)]), (.row 0 r.2.2.2.2.2.2.2.2.2.2.2.2.2.2.1 7 (List.map zjs.enc r.2.2.2.2.2.2.2.2.2.2.2.2.2.2.2) true)]) : Option (List V × Hp))) = R) (fr : Fr) (H : Hp) (_ : canon 3 [0, 1, 19, 20, 21] fr H = ([(0, (.ptr 2 0)), (1, (.vw 1 w1 0 h1l.length 1)), (19, (.vw 1 w1 1 v19len 1)), (20, (.int .i64 v20)), (21, (.int .i64 0))], [(.box [(.int .i64 0), (.int .i64 0), (.sl true [])]), (.row w1 h1z 1 (List.map (Sl.enc (V.int .u8)) h1l) h1x), (.box [(.int .i64 h2_0), (.int .i64 h2_1), (.int .i64 h2_2), (.sl true []), (.bool h2_4)])])), finI 3 false [.tmp 4, .tmp 5] (unw T (orc T (M + 6)) (M + 6) 3 [.blk 0, .code zst] (iter 3 [0, 1, 19, 20, 21] (exec T (orc T (M + 6)) (M + 6) 3 zsq) j fr H)) = R
def zcf0 (q : Nat) : Prop := ∀ (M : Nat) (hM : 8 * q ≤ M) (j : Nat) (hj : q ≤ j) (w1 v19len : Nat) (v20 v21 : Int) (h1z : Bool) (h1l : List (Sl Int)) (h1x : Bool) (h2_0 h2_1 h2_2 : Int) (h2_4 h3z : Bool) (h3l : List zjs) (r : Nat × Int × Int × Int × Int × Int × Bool × Int × Int × Int × Int × Int × Nat × Bool × Bool × (List zjs)) (_ : zn5 q v19len v20 v21 h1z h1l h1x h2_0 h2_1 h2_2 h2_4 h3z h3l = some r) (R : Option (List V × Hp)) (_ : (if r.1 = 0 then (some ([(.int .i64 r.2.1), (.int .i64 r.2.2.1)], [(.box [(.int .i64 0), (.int .i64 0), (.sl true [])]), (.row w1 h1z 1 (List.map (Sl.enc (V.int .u8)) h1l) h1x), (.box [(.int .i64 r.2.2.2.1), (.int .i64 r.2.2.2.2.1), (.int .i64 r.2.2.2.2.2.1), (.sl true []), (.bool r.2.2.2.2.2.2.1)])]) : Option (List V × Hp)) else (some ([(.int .i64 r.2.2.2.2.2.2.2.1), (.int .i64 r.2.2.2.2.2.2.2.2.1)], [(.box [(.int .i64 0), (.int .i64 0), (.sl true [])]), (.row w1 h1z 1 (List.map (Sl.enc (V.int .u8)) h1l) h1x), (.box [(.int .i64 r.2.2.2.2.2.2.2.2.2.1), (.int .i64 r.2.2.2.2.2.2.2.2.2.2.1), (.int .i64 r.2.2.2.2.2.2.2.2.2.2.2.1), (.vw 3 0 0 r.2.2.2.2.2.2.2.2.2.2.2.2.1 1), (.bool r.2.2.2.2.2.2.2.2.2.2.2.2.2.1)]), (.row 0 r.2.2.2.2.2.2.2.2.2.2.2.2.2.2.1 7 (List.map zjs.enc r.2.2.2.2.2.2.2.2.2.2.2.2.2.2.2) true)]) : Option (List V × Hp))) = R) (fr : Fr) (H : Hp) (_ : canon 3 [0, 1, 19, 20, 21] fr H = ([(0, (.ptr 2 0)), (1, (.vw 1 w1 0 h1l.length 1)), (19, (.vw 1 w1 1 v19len 1)), (20, (.int .i64 v20)), (21, (.int .i64 v21))], [(.box [(.int .i64 0), (.int .i64 0), (.sl true [])]), (.row w1 h1z 1 (List.map (Sl.enc (V.int .u8)) h1l) h1x), (.box [(.int .i64 h2_0), (.int .i64 h2_1), (.int .i64 h2_2), (.vw 3 0 0 h3l.length 1), (.bool h2_4)]), (.row 0 h3z 7 (List.map zjs.enc h3l) true)])), finI 3 false [.tmp 4, .tmp 5] (unw T (orc T (M + 6)) (M + 6) 3 [.blk 0, .code zst] (iter 3 [0, 1, 19, 20, 21] (exec T (orc T (M + 6)) (M + 6) 3 zsq) j fr H)) = R
def zcf1 := And.intro @kk <| And.intro @ke <| And.intro @kn <| And.intro @zbtm <| And.intro @zbu7 <| And.intro @zbt2 <| And.intro @zbu5 <| And.intro @zbwq <| And.intro @zbwt <| And.intro @zbu8 <| @zbu9
theorem zcf2 (q : Nat) (zcg0 : zcf0 q) : zcfz (q + 1) := by
 intro M hM j hj w1 v19len v20 h1z h1l h1x h2_0 h2_1 h2_2 h2_4 r h R hR fr H hc
 obtain ⟨j, rfl⟩ : ∃ i, j = i + 1 := ⟨j - 1, by omega⟩
 rw [zhv, hc]; clear hc
 rw [zn6] at h
 replace h := br h; rcases h with ⟨h1, h⟩ | ⟨h1, h⟩
 ·replace h := bn h; obtain ⟨h2, h⟩ := h
  replace h := ob h; obtain ⟨e3, h3, h⟩ := h
  replace h := br h; rcases h with ⟨h4, h⟩ | ⟨h4, h⟩
  ·replace h := ob h; obtain ⟨r4, h5, h⟩ := h
   replace h5 := zb86 q (M + 5) (by omega) _ _ h5
   try simp only [kf, simprocAttr] at h5
   replace h := br h; rcases h with ⟨h6, h⟩ | ⟨h6, h⟩
   ·replace h := bb h; rcases h with ⟨h7', h7, h⟩ | ⟨h7', h7, h⟩
    ·replace h := br h; rcases h with ⟨h8, h⟩ | ⟨h8, h⟩
     ·cases h; subst hR; simp only [zcf1, simprocAttr, *]
     ·replace h := br h; rcases h with ⟨h9, h⟩ | ⟨h9, h⟩
      ·cases h; subst hR; simp only [zcf1, simprocAttr, *]
      ·replace h := ob h; obtain ⟨r5, h10, h⟩ := h
       replace h10 := zb6k q (M + 5) (by omega) _ _ _ h10
       try simp only [kf, simprocAttr] at h10
       replace h := bb h; rcases h with ⟨h11', h11, h⟩ | ⟨h11', h11, h⟩
       ·replace h := br h; rcases h with ⟨h12, h⟩ | ⟨h12, h⟩
        ·cases h; subst hR; simp only [zcf1, simprocAttr, *]
        ·replace h := bn h; obtain ⟨h13, h⟩ := h
         replace h := zcg0 M (by omega) j (by omega) w1 _ _ _ _ _ _ _ _ _ _ _ _ _ h R hR
         simp only [zcf1, simprocAttr, *]
       ·cases h; subst hR; simp only [zcf1, simprocAttr, *]
    ·cases h; subst hR; simp only [zcf1, simprocAttr, *]
   ·cases h; subst hR; simp only [zcf1, simprocAttr, *]
  ·replace h := ob h; obtain ⟨r6, h14, h⟩ := h
   replace h14 := zcah q (M + 5) (by omega) _ _ _ h14
   try simp only [kf, simprocAttr] at h14
   replace h := bb h; rcases h with ⟨h15', h15, h⟩ | ⟨h15', h15, h⟩
   ·replace h := bb h; rcases h with ⟨h16', h16, h⟩ | ⟨h16', h16, h⟩
    ·replace h := br h; rcases h with ⟨h17, h⟩ | ⟨h17, h⟩
     ·cases h; subst hR; simp only [zcf1, simprocAttr, *]
     ·replace h := br h; rcases h with ⟨h18, h⟩ | ⟨h18, h⟩
      ·cases h; subst hR; simp only [zcf1, simprocAttr, *]
      ·replace h := ob h; obtain ⟨r7, h19, h⟩ := h
       replace h19 := zb6k q (M + 5) (by omega) _ _ _ h19
       try simp only [kf, simprocAttr] at h19
       replace h := bb h; rcases h with ⟨h20', h20, h⟩ | ⟨h20', h20, h⟩
       ·replace h := br h; rcases h with ⟨h21, h⟩ | ⟨h21, h⟩
        ·cases h; subst hR; simp only [zcf1, simprocAttr, *]
        ·replace h := bn h; obtain ⟨h22, h⟩ := h
         replace h := zcg0 M (by omega) j (by omega) w1 _ _ _ _ _ _ _ _ _ _ _ _ _ h R hR
         simp only [zcf1, simprocAttr, *]
       ·cases h; subst hR; simp only [zcf1, simprocAttr, *]
    ·cases h; subst hR; simp only [zcf1, simprocAttr, *]
   ·cases h; subst hR; simp only [zcf1, simprocAttr, *]
 ·cases h; subst hR; simp only [zcf1, simprocAttr, *]
theorem zcf3 (q : Nat) (zcg0 : zcf0 q) : zcf0 (q + 1) := by
 intro M hM j hj w1 v19len v20 v21 h1z h1l h1x h2_0 h2_1 h2_2 h2_4 h3z h3l r h R hR fr H hc
 obtain ⟨j, rfl⟩ : ∃ i, j = i + 1 := ⟨j - 1, by omega⟩
 rw [zhv, hc]; clear hc
 rw [zn5] at h
 replace h := br h; rcases h with ⟨h1, h⟩ | ⟨h1, h⟩
 ·replace h := bn h; obtain ⟨h2, h⟩ := h
  replace h := bn h; obtain ⟨h3, h⟩ := h
  replace h := ob h; obtain ⟨e8, h4, h⟩ := h
  replace h := br h; rcases h with ⟨h5, h⟩ | ⟨h5, h⟩
  ·replace h := ob h; obtain ⟨r9, h6, h⟩ := h
   replace h6 := zb86 q (M + 5) (by omega) _ _ h6
   try simp only [kf, simprocAttr] at h6
   replace h := br h; rcases h with ⟨h7, h⟩ | ⟨h7, h⟩
   ·replace h := bb h; rcases h with ⟨h8', h8, h⟩ | ⟨h8', h8, h⟩
    ·replace h := br h; rcases h with ⟨h9, h⟩ | ⟨h9, h⟩
     ·cases h; subst hR; simp only [zcf1, simprocAttr, *]
     ·replace h := br h; rcases h with ⟨h10, h⟩ | ⟨h10, h⟩
      ·cases h; subst hR; simp only [zcf1, simprocAttr, *]
      ·replace h := ob h; obtain ⟨r10, h11, h⟩ := h
       replace h11 := zb6k q (M + 5) (by omega) _ _ _ h11
       try simp only [kf, simprocAttr] at h11
       replace h := bb h; rcases h with ⟨h12', h12, h⟩ | ⟨h12', h12, h⟩
       ·replace h := br h; rcases h with ⟨h13, h⟩ | ⟨h13, h⟩
        ·cases h; subst hR; simp only [zcf1, simprocAttr, *]
        ·replace h := bn h; obtain ⟨h14, h⟩ := h
         replace h := zcg0 M (by omega) j (by omega) w1 _ _ _ _ _ _ _ _ _ _ _ _ _ h R hR
         simp only [zcf1, simprocAttr, *]
       ·cases h; subst hR; simp only [zcf1, simprocAttr, *]
    ·cases h; subst hR; simp only [zcf1, simprocAttr, *]
   ·cases h; subst hR; simp only [zcf1, simprocAttr, *]
  ·replace h := ob h; obtain ⟨r11, h15, h⟩ := h
   replace h15 := zcah q (M + 5) (by omega) _ _ _ h15
   try simp only [kf, simprocAttr] at h15
   replace h := bb h; rcases h with ⟨h16', h16, h⟩ | ⟨h16', h16, h⟩
   ·replace h := bb h; rcases h with ⟨h17', h17, h⟩ | ⟨h17', h17, h⟩
    ·replace h := br h; rcases h with ⟨h18, h⟩ | ⟨h18, h⟩
     ·cases h; subst hR; simp only [zcf1, simprocAttr, *]
     ·replace h := br h; rcases h with ⟨h19, h⟩ | ⟨h19, h⟩
      ·cases h; subst hR; simp only [zcf1, simprocAttr, *]
      ·replace h := ob h; obtain ⟨r12, h20, h⟩ := h
       replace h20 := zb6k q (M + 5) (by omega) _ _ _ h20
       try simp only [kf, simprocAttr] at h20
       replace h := bb h; rcases h with ⟨h21', h21, h⟩ | ⟨h21', h21, h⟩
       ·replace h := br h; rcases h with ⟨h22, h⟩ | ⟨h22, h⟩
        ·cases h; subst hR; simp only [zcf1, simprocAttr, *]
        ·replace h := bn h; obtain ⟨h23, h⟩ := h
         replace h := zcg0 M (by omega) j (by omega) w1 _ _ _ _ _ _ _ _ _ _ _ _ _ h R hR
         simp only [zcf1, simprocAttr, *]
       ·cases h; subst hR; simp only [zcf1, simprocAttr, *]
    ·cases h; subst hR; simp only [zcf1, simprocAttr, *]
   ·cases h; subst hR; simp only [zcf1, simprocAttr, *]
 ·cases h; subst hR; simp only [zcf1, simprocAttr, *]
theorem zcf4 : ∀ q, zcfz q ∧ zcf0 q
 | 0 => by refine ⟨?_, ?_⟩ <;> (intro M hM j hj; intros; rename_i h _ _ _ _ _; cases h)
 | q + 1 => by have ⟨i0, i1⟩ := zcf4 q; exact ⟨zcf2 q i1, zcf3 q i1⟩
theorem zcf5 : ∀ (q M : Nat), 8 * q ≤ M → ∀ (w1 : Nat), ∀ (h1z : Bool), ∀ (h1l : List (Sl Int)), ∀ (h1x : Bool), ∀ (r : Nat × Int × Int × Int × Int × Int × Bool × Int × Int × Int × Int × Int × Nat × Bool × Bool × (List zjs)), zn7 q h1z h1l h1x = some r → (orc T (M + 7)).inl F.zoi [(.ptr 2 0), (.vw 1 w1 0 h1l.length 1)] [(.box [(.int .i64 0), (.int .i64 0), (.sl true [])]), (.row w1 h1z 1 (List.map (Sl.enc (V.int .u8)) h1l) h1x), (.box [(.int .i64 0), (.int .i64 0), (.int .i64 0), (.sl true []), (.bool false)])] = (if r.1 = 0 then (some ([(.int .i64 r.2.1), (.int .i64 r.2.2.1)], [(.box [(.int .i64 0), (.int .i64 0), (.sl true [])]), (.row w1 h1z 1 (List.map (Sl.enc (V.int .u8)) h1l) h1x), (.box [(.int .i64 r.2.2.2.1), (.int .i64 r.2.2.2.2.1), (.int .i64 r.2.2.2.2.2.1), (.sl true []), (.bool r.2.2.2.2.2.2.1)])]) : Option (List V × Hp)) else (some ([(.int .i64 r.2.2.2.2.2.2.2.1), (.int .i64 r.2.2.2.2.2.2.2.2.1)], [(.box [(.int .i64 0), (.int .i64 0), (.sl true [])]), (.row w1 h1z 1 (List.map (Sl.enc (V.int .u8)) h1l) h1x), (.box [(.int .i64 r.2.2.2.2.2.2.2.2.2.1), (.int .i64 r.2.2.2.2.2.2.2.2.2.2.1), (.int .i64 r.2.2.2.2.2.2.2.2.2.2.2.1), (.vw 3 0 0 r.2.2.2.2.2.2.2.2.2.2.2.2.1 1), (.bool r.2.2.2.2.2.2.2.2.2.2.2.2.2.1)]), (.row 0 r.2.2.2.2.2.2.2.2.2.2.2.2.2.2.1 7 (List.map zjs.enc r.2.2.2.2.2.2.2.2.2.2.2.2.2.2.2) true)]) : Option (List V × Hp))) := by
 intro q M hM w1 h1z h1l h1x r h
 rcases q with _ | q
 ·cases h
 have ih_segment_Recover_s0_l0 := (zcf4 q).1
 generalize hR : (if r.1 = 0 then (some ([(.int .i64 r.2.1), (.int .i64 r.2.2.1)], [(.box [(.int .i64 0), (.int .i64 0), (.sl true [])]), (.row w1 h1z 1 (List.map (Sl.enc (V.int .u8)) h1l) h1x), (.box [(.int .i64 r.2.2.2.1), (.int .i64 r.2.2.2.2.1), (.int .i64 r.2.2.2.2.2.1), (.sl true []), (.bool r.2.2.2.2.2.2.1)])]) : Option (List V × Hp)) else (some ([(.int .i64 r.2.2.2.2.2.2.2.1), (.int .i64 r.2.2.2.2.2.2.2.2.1)], [(.box [(.int .i64 0), (.int .i64 0), (.sl true [])]), (.row w1 h1z 1 (List.map (Sl.enc (V.int .u8)) h1l) h1x), (.box [(.int .i64 r.2.2.2.2.2.2.2.2.2.1), (.int .i64 r.2.2.2.2.2.2.2.2.2.2.1), (.int .i64 r.2.2.2.2.2.2.2.2.2.2.2.1), (.vw 3 0 0 r.2.2.2.2.2.2.2.2.2.2.2.2.1 1), (.bool r.2.2.2.2.2.2.2.2.2.2.2.2.2.1)]), (.row 0 r.2.2.2.2.2.2.2.2.2.2.2.2.2.2.1 7 (List.map zjs.enc r.2.2.2.2.2.2.2.2.2.2.2.2.2.2.2) true)]) : Option (List V × Hp))) = R
 rw [zbto (n := M + 6)]
 rw [zn7] at h
 replace h := bn h; obtain ⟨h1, h⟩ := h
 replace h := ob h; obtain ⟨e1, h2, h⟩ := h
 replace h := ob h; obtain ⟨r2, h3, h⟩ := h
 replace h3 := zcfy q M (by omega) w1 _ _ _ _ _ _ h3
 try simp only [kf, simprocAttr] at h3
 replace h := br h; rcases h with ⟨h4, h⟩ | ⟨h4, h⟩
 ·replace h := bn h; obtain ⟨h5, h⟩ := h
  replace h := ih_segment_Recover_s0_l0 M (by omega) (M + 6) (by omega) w1 _ _ _ _ _ _ _ _ _ _ h R hR
  simp only [zcf1, simprocAttr, *]
 ·cases h; subst hR; simp only [zcf1, simprocAttr, *]
def zcf6 (q : Nat) : Prop := ∀ (M : Nat) (hM : 8 * q ≤ M) (j : Nat) (hj : q ≤ j) (v10 : Int) (v32len : Nat) (v33 v34 h1_0 h1_1 h1_2 : Int) (h1_4 h2z : Bool) (h2l : List (Sl Int)) (h2x : Bool) (r : zjt × Int × Bool) (_ : zn8 q v10 v32len v33 v34 h1_0 h1_1 h1_2 h1_4 h2z h2l h2x = some r) (R : Option (List V)) (_ : some [zjt.enc r.1, (V.int .i64) r.2.1, V.bool r.2.2] = R) (fr : Fr) (H : Hp) (_ : canon 0 [2, 7, 10, 32, 33, 34] fr H = ([(2, (.ptr 0 0)), (7, (.ptr 1 0)), (10, (.int .i64 v10)), (32, (.vw 2 0 0 v32len 1)), (33, (.int .i64 v33)), (34, (.int .i64 v34))], [(.box [(.int .i64 0), (.int .i64 0), (.sl true [])]), (.box [(.int .i64 h1_0), (.int .i64 h1_1), (.int .i64 h1_2), (.sl true []), (.bool h1_4)]), (.row 0 h2z 1 (List.map (Sl.enc (V.int .u8)) h2l) h2x)])), fin zpp (unw T (orc T (M + 7)) (M + 7) 0 [.blk 0, .code zpg] (iter 0 [2, 7, 10, 32, 33, 34] (exec T (orc T (M + 7)) (M + 7) 0 zpd) j fr H)) = R
def zcf7 (q : Nat) : Prop := ∀ (M : Nat) (hM : 8 * q ≤ M) (j : Nat) (hj : q ≤ j) (v10 : Int) (v32len : Nat) (v33 v34 h1_0 h1_1 h1_2 : Int) (h1_4 h2z : Bool) (h2l : List (Sl Int)) (h2x : Bool) (r : zjt × Int × Bool) (_ : zn9 q v10 v32len v33 v34 h1_0 h1_1 h1_2 h1_4 h2z h2l h2x = some r) (R : Option (List V)) (_ : some [zjt.enc r.1, (V.int .i64) r.2.1, V.bool r.2.2] = R) (fr : Fr) (H : Hp) (_ : canon 0 [2, 7, 10, 32, 33, 34] fr H = ([(2, (.ptr 0 0)), (7, (.ptr 1 0)), (10, (.int .i64 v10)), (32, (.vw 2 0 0 v32len 0)), (33, (.int .i64 v33)), (34, (.int .i64 v34))], [(.box [(.int .i64 0), (.int .i64 0), (.sl true [])]), (.box [(.int .i64 h1_0), (.int .i64 h1_1), (.int .i64 h1_2), (.sl true []), (.bool h1_4)]), (.row 0 h2z 1 (List.map (Sl.enc (V.int .u8)) h2l) h2x)])), fin zpp (unw T (orc T (M + 7)) (M + 7) 0 [.blk 0, .code zpg] (iter 0 [2, 7, 10, 32, 33, 34] (exec T (orc T (M + 7)) (M + 7) 0 zpd) j fr H)) = R
def zcf8 (q : Nat) : Prop := ∀ (M : Nat) (hM : 8 * q ≤ M) (j : Nat) (hj : q ≤ j) (v10 : Int) (v32len : Nat) (v33 v34 h1_0 h1_1 h1_2 : Int) (h1_3len : Nat) (h1_4 h2z : Bool) (h2l : List (Sl Int)) (h2x h3z : Bool) (h3l : List zjs) (r : zjt × Int × Bool) (_ : zoa q v10 v32len v33 v34 h1_0 h1_1 h1_2 h1_3len h1_4 h2z h2l h2x h3z h3l = some r) (R : Option (List V)) (_ : some [zjt.enc r.1, (V.int .i64) r.2.1, V.bool r.2.2] = R) (fr : Fr) (H : Hp) (_ : canon 0 [2, 7, 10, 32, 33, 34] fr H = ([(2, (.ptr 0 0)), (7, (.ptr 1 0)), (10, (.int .i64 v10)), (32, (.vw 2 0 0 v32len 1)), (33, (.int .i64 v33)), (34, (.int .i64 v34))], [(.box [(.int .i64 0), (.int .i64 0), (.sl true [])]), (.box [(.int .i64 h1_0), (.int .i64 h1_1), (.int .i64 h1_2), (.vw 3 0 0 h1_3len 1), (.bool h1_4)]), (.row 0 h2z 1 (List.map (Sl.enc (V.int .u8)) h2l) h2x), (.row 0 h3z 7 (List.map zjs.enc h3l) true)])), fin zpp (unw T (orc T (M + 7)) (M + 7) 0 [.blk 0, .code zpg] (iter 0 [2, 7, 10, 32, 33, 34] (exec T (orc T (M + 7)) (M + 7) 0 zpd) j fr H)) = R
def zcf9 (q : Nat) : Prop := ∀ (M : Nat) (hM : 8 * q ≤ M) (j : Nat) (hj : q ≤ j) (v10 : Int) (v32len : Nat) (v33 v34 h1_0 h1_1 h1_2 : Int) (h1_3len : Nat) (h1_4 h2z : Bool) (h2l : List (Sl Int)) (h2x h3z : Bool) (h3l : List zjs) (r : zjt × Int × Bool) (_ : zob q v10 v32len v33 v34 h1_0 h1_1 h1_2 h1_3len h1_4 h2z h2l h2x h3z h3l = some r) (R : Option (List V)) (_ : some [zjt.enc r.1, (V.int .i64) r.2.1, V.bool r.2.2] = R) (fr : Fr) (H : Hp) (_ : canon 0 [2, 7, 10, 32, 33, 34] fr H = ([(2, (.ptr 0 0)), (7, (.ptr 1 0)), (10, (.int .i64 v10)), (32, (.vw 2 0 0 v32len 0)), (33, (.int .i64 v33)), (34, (.int .i64 v34))], [(.box [(.int .i64 0), (.int .i64 0), (.sl true [])]), (.box [(.int .i64 h1_0), (.int .i64 h1_1), (.int .i64 h1_2), (.vw 3 0 0 h1_3len 1), (.bool h1_4)]), (.row 0 h2z 1 (List.map (Sl.enc (V.int .u8)) h2l) h2x), (.row 0 h3z 7 (List.map zjs.enc h3l) true)])), fin zpp (unw T (orc T (M + 7)) (M + 7) 0 [.blk 0, .code zpg] (iter 0 [2, 7, 10, 32, 33, 34] (exec T (orc T (M + 7)) (M + 7) 0 zpd) j fr H)) = R
def zcga := And.intro @kk <| And.intro @ke <| And.intro @kn <| And.intro @zbsp <| And.intro @zbtk <| And.intro @zbtn <| And.intro @zbtq <| @zbsr
theorem zcgb (q : Nat) (zcg1 : zcf6 q) : zcf6 (q + 1) := by
 intro M hM j hj v10 v32len v33 v34 h1_0 h1_1 h1_2 h1_4 h2z h2l h2x r h R hR fr H hc
 obtain ⟨j, rfl⟩ : ∃ i, j = i + 1 := ⟨j - 1, by omega⟩
 rw [zhv, hc]; clear hc
 rw [zn8] at h
 replace h := br h; rcases h with ⟨h1, h⟩ | ⟨h1, h⟩
 ·replace h := bn h; obtain ⟨h2, h⟩ := h
  replace h := bn h; obtain ⟨h3, h⟩ := h
  replace h := ob h; obtain ⟨e3, h4, h⟩ := h
  replace h := ob h; obtain ⟨r4, h5, h⟩ := h
  replace h5 := zcft q (M + 7) (by omega) _ _ h5
  replace h := zcg1 M (by omega) j (by omega) _ _ _ _ _ _ _ _ _ _ _ _ h R hR
  simp only [zcga, simprocAttr, *]
 ·cases h; subst hR; simp only [zcga, simprocAttr, *]
theorem zcgc (q : Nat) (zcg2 : zcf7 q) : zcf7 (q + 1) := by
 intro M hM j hj v10 v32len v33 v34 h1_0 h1_1 h1_2 h1_4 h2z h2l h2x r h R hR fr H hc
 obtain ⟨j, rfl⟩ : ∃ i, j = i + 1 := ⟨j - 1, by omega⟩
 rw [zhv, hc]; clear hc
 rw [zn9] at h
 replace h := br h; rcases h with ⟨h1, h⟩ | ⟨h1, h⟩
 ·replace h := bn h; obtain ⟨h2, h⟩ := h
  replace h := bn h; obtain ⟨h3, h⟩ := h
  replace h := ob h; obtain ⟨e5, h4, h⟩ := h
  replace h := ob h; obtain ⟨r6, h5, h⟩ := h
  replace h5 := zcft q (M + 7) (by omega) _ _ h5
  replace h := zcg2 M (by omega) j (by omega) _ _ _ _ _ _ _ _ _ _ _ _ h R hR
  simp only [zcga, simprocAttr, *]
 ·cases h; subst hR; simp only [zcga, simprocAttr, *]
theorem zcgd (q : Nat) (zcg3 : zcf8 q) : zcf8 (q + 1) := by
 intro M hM j hj v10 v32len v33 v34 h1_0 h1_1 h1_2 h1_3len h1_4 h2z h2l h2x h3z h3l r h R hR fr H hc
 obtain ⟨j, rfl⟩ : ∃ i, j = i + 1 := ⟨j - 1, by omega⟩
 rw [zhv, hc]; clear hc
 rw [zoa] at h
 replace h := br h; rcases h with ⟨h1, h⟩ | ⟨h1, h⟩
 ·replace h := bn h; obtain ⟨h2, h⟩ := h
  replace h := bn h; obtain ⟨h3, h⟩ := h
  replace h := ob h; obtain ⟨e7, h4, h⟩ := h
  replace h := ob h; obtain ⟨r8, h5, h⟩ := h
  replace h5 := zcft q (M + 7) (by omega) _ _ h5
  replace h := zcg3 M (by omega) j (by omega) _ _ _ _ _ _ _ _ _ _ _ _ _ _ _ h R hR
  simp only [zcga, simprocAttr, *]
 ·cases h; subst hR; simp only [zcga, simprocAttr, *]
theorem zcge (q : Nat) (zcg4 : zcf9 q) : zcf9 (q + 1) := by
 intro M hM j hj v10 v32len v33 v34 h1_0 h1_1 h1_2 h1_3len h1_4 h2z h2l h2x h3z h3l r h R hR fr H hc
 obtain ⟨j, rfl⟩ : ∃ i, j = i + 1 := ⟨j - 1, by omega⟩
 rw [zhv, hc]; clear hc
 rw [zob] at h
 replace h := br h; rcases h with ⟨h1, h⟩ | ⟨h1, h⟩
 ·replace h := bn h; obtain ⟨h2, h⟩ := h
  replace h := bn h; obtain ⟨h3, h⟩ := h
  replace h := ob h; obtain ⟨e9, h4, h⟩ := h
  replace h := ob h; obtain ⟨r10, h5, h⟩ := h
  replace h5 := zcft q (M + 7) (by omega) _ _ h5
  replace h := zcg4 M (by omega) j (by omega) _ _ _ _ _ _ _ _ _ _ _ _ _ _ _ h R hR
  simp only [zcga, simprocAttr, *]
 ·cases h; subst hR; simp only [zcga, simprocAttr, *]
theorem zcgf : ∀ q, zcf6 q ∧ zcf7 q ∧ zcf8 q ∧ zcf9 q
 | 0 => by refine ⟨?_, ?_, ?_, ?_⟩ <;> (intro M hM j hj; intros; rename_i h _ _ _ _ _; cases h)
 | q + 1 => by have ⟨i0, i1, i2, i3⟩ := zcgf q; exact ⟨zcgb q i0, zcgc q i1, zcgd q i2, zcge q i3⟩
theorem zcgg : ∀ (q N : Nat), 8 * q ≤ N → ∀ (a0 : (Sl Int)), ∀ (r : zjt × Int × Bool), zoc q a0 = some r → (orc T N).deep F.zoc [(Sl.enc (V.int .u8)) a0] = some [zjt.enc r.1, (V.int .i64) r.2.1, V.bool r.2.2] := by
 intro q N hM a0 r h
 rcases q with _ | q
 ·cases h
 obtain ⟨M, rfl⟩ : ∃ M, N = M + 8 := ⟨N - 8, by omega⟩
 have zcg1 := (zcgf q).1
 have zcg2 := (zcgf q).2.1
 have zcg3 := (zcgf q).2.2.1
 have zcg4 := (zcgf q).2.2.2
 generalize hR : some [zjt.enc r.1, (V.int .i64) r.2.1, V.bool r.2.2] = R
 rw [zh4, zbpc, y4, zh2]
 rw [zoc] at h
 replace h := ob h; obtain ⟨r1, h1, h⟩ := h
 replace h1 := zcfr q (M + 7) (by omega) _ _ h1
 try simp only [kf, simprocAttr] at h1
 replace h := br h; rcases h with ⟨h2, h⟩ | ⟨h2, h⟩
 ·cases h; subst hR; simp only [zcga, simprocAttr, *]
 ·replace h := ob h; obtain ⟨r2, h3, h⟩ := h
  replace h3 := zcf5 q M (by omega) 0 _ _ _ _ h3
  try simp only [kf, simprocAttr] at h3
  replace h := br h; rcases h with ⟨h4, h⟩ | ⟨h4, h⟩
  ·replace h := br h; rcases h with ⟨h5, h⟩ | ⟨h5, h⟩
   ·cases h; subst hR; simp only [zcga, simprocAttr, *]
   ·replace h := bn h; obtain ⟨h6, h⟩ := h
    replace h := bn h; obtain ⟨h7, h⟩ := h
    replace h := bb h; rcases h with ⟨h8', h8, h⟩ | ⟨h8', h8, h⟩
    ·replace h := zcg1 M (by omega) (M + 7) (by omega) _ _ _ _ _ _ _ _ _ _ _ _ h R hR
     simp only [zcga, simprocAttr, *]
    ·replace h := zcg2 M (by omega) (M + 7) (by omega) _ _ _ _ _ _ _ _ _ _ _ _ h R hR
     simp only [zcga, simprocAttr, *]
  ·replace h := br h; rcases h with ⟨h9, h⟩ | ⟨h9, h⟩
   ·cases h; subst hR; simp only [zcga, simprocAttr, *]
   ·replace h := bn h; obtain ⟨h10, h⟩ := h
    replace h := bn h; obtain ⟨h11, h⟩ := h
    replace h := bb h; rcases h with ⟨h12', h12, h⟩ | ⟨h12', h12, h⟩
    ·replace h := zcg3 M (by omega) (M + 7) (by omega) _ _ _ _ _ _ _ _ _ _ _ _ _ _ _ h R hR
     simp only [zcga, simprocAttr, *]
    ·replace h := zcg4 M (by omega) (M + 7) (by omega) _ _ _ _ _ _ _ _ _ _ _ _ _ _ _ h R hR
     simp only [zcga, simprocAttr, *]
def zcgh := And.intro @kk <| And.intro @ke <| And.intro @kn <| And.intro @zbss <| And.intro @zbs8 <| And.intro @zbtb <| And.intro @zbte <| And.intro @zbtt <| @zbsu
theorem zcgi : ∀ (q N : Nat), 8 * q ≤ N → ∀ (a0 : (Sl Int)), ∀ (r : zjt × Int × Bool), zod q a0 = some r → (orc T N).deep F.zod [(Sl.enc (V.int .u8)) a0] = some [zjt.enc r.1, (V.int .i64) r.2.1, V.bool r.2.2] := by
 intro q N hM a0 r h
 rcases q with _ | q
 ·cases h
 obtain ⟨M, rfl⟩ : ∃ M, N = M + 8 := ⟨N - 8, by omega⟩
 generalize hR : some [zjt.enc r.1, (V.int .i64) r.2.1, V.bool r.2.2] = R
 rw [zh4, zbpd, y4, zh2]
 rw [zod] at h
 replace h := ob h; obtain ⟨r1, h1, h⟩ := h
 replace h1 := zccc q (M + 7) (by omega) _ _ h1
 try simp only [kf, simprocAttr] at h1
 replace h := br h; rcases h with ⟨h2, h⟩ | ⟨h2, h⟩
 ·cases h; subst hR; simp only [zcgh, simprocAttr, *]
 ·replace h := ob h; obtain ⟨r2, h3, h⟩ := h
  replace h3 := zcez q (M + 7) (by omega) _ _ h3
  try simp only [kf, simprocAttr] at h3
  replace h := br h; rcases h with ⟨h4, h⟩ | ⟨h4, h⟩
  ·cases h; subst hR; simp only [zcgh, simprocAttr, *]
  ·replace h := bn h; obtain ⟨h5, h⟩ := h
   replace h := bn h; obtain ⟨h6, h⟩ := h
   replace h := bb h; rcases h with ⟨h7', h7, h⟩ | ⟨h7', h7, h⟩
   ·replace h := ob h; obtain ⟨r3, h8, h⟩ := h
    replace h8 := zcfb q (M + 7) (by omega) _ _ h8
    try simp only [kf, simprocAttr] at h8
    replace h := ob h; obtain ⟨r4, h9, h⟩ := h
    replace h9 := zcfn q (M + 7) (by omega) _ _ h9
    try simp only [kf, simprocAttr] at h9
    cases h; subst hR; simp only [zcgh, simprocAttr, *]
   ·replace h := ob h; obtain ⟨r5, h10, h⟩ := h
    replace h10 := zcfb q (M + 7) (by omega) _ _ h10
    try simp only [kf, simprocAttr] at h10
    replace h := ob h; obtain ⟨r6, h11, h⟩ := h
    replace h11 := zcfn q (M + 7) (by omega) _ _ h11
    try simp only [kf, simprocAttr] at h11
    cases h; subst hR; simp only [zcgh, simprocAttr, *]
def zcgj (q : Nat) : Prop := ∀ (M : Nat) (hM : 8 * q ≤ M) (j : Nat) (hj : q ≤ j) (v0z : Bool) (v0l : List zjs) (v1z : Bool) (v1l : List zjs) (v5 : Int) (r : Bool) (_ : zoe q v0z v0l v1z v1l v5 = some r) (R : Option (List V)) (_ : some [V.bool r] = R) (fr : Fr) (H : Hp) (_ : canon 0 [0, 1, 5] fr H = ([(0, (.sl v0z (List.map zjs.enc v0l))), (1, (.sl v1z (List.map zjs.enc v1l))), (5, (.int .i64 v5))], [])), fin ztp (unw T (orc T (M + 7)) (M + 7) 0 [.blk 0, .code ztl] (iter 0 [0, 1, 5] (exec T (orc T (M + 7)) (M + 7) 0 zti) j fr H)) = R
def zcgk := And.intro @kk <| And.intro @ke <| And.intro @kn <| And.intro @zbtv <| @zbtx
theorem zcgl (q : Nat) (zcg5 : zcgj q) : zcgj (q + 1) := by
 intro M hM j hj v0z v0l v1z v1l v5 r h R hR fr H hc
 obtain ⟨j, rfl⟩ : ∃ i, j = i + 1 := ⟨j - 1, by omega⟩
 rw [zhv, hc]; clear hc
 rw [zoe] at h
 replace h := br h; rcases h with ⟨h1, h⟩ | ⟨h1, h⟩
 ·replace h := bn h; obtain ⟨h2, h⟩ := h
  replace h := ob h; obtain ⟨e1, h3, h⟩ := h
  replace h := ob h; obtain ⟨e2, h4, h⟩ := h
  replace h := br h; rcases h with ⟨h5, h⟩ | ⟨h5, h⟩
  ·replace h := br h; rcases h with ⟨h6, h⟩ | ⟨h6, h⟩
   ·replace h := br h; rcases h with ⟨h7, h⟩ | ⟨h7, h⟩
    ·replace h := br h; rcases h with ⟨h8, h⟩ | ⟨h8, h⟩
     ·replace h := br h; rcases h with ⟨h9, h⟩ | ⟨h9, h⟩
      ·replace h := br h; rcases h with ⟨h10, h⟩ | ⟨h10, h⟩
       ·replace h := br h; rcases h with ⟨h11, h⟩ | ⟨h11, h⟩
        ·replace h := zcg5 M (by omega) j (by omega) _ _ _ _ _ _ h R hR
         simp only [zcgk, simprocAttr, *]
        ·cases h; subst hR; simp only [zcgk, simprocAttr, *]
       ·cases h; subst hR; simp only [zcgk, simprocAttr, *]
      ·cases h; subst hR; simp only [zcgk, simprocAttr, *]
     ·cases h; subst hR; simp only [zcgk, simprocAttr, *]
    ·cases h; subst hR; simp only [zcgk, simprocAttr, *]
   ·cases h; subst hR; simp only [zcgk, simprocAttr, *]
  ·cases h; subst hR; simp only [zcgk, simprocAttr, *]
 ·cases h; subst hR; simp only [zcgk, simprocAttr, *]
theorem zcgm : ∀ q, zcgj q
 | 0 => by intro M hM j hj; intros; rename_i h _ _ _ _ _; cases h
 | q + 1 => by have i0 := zcgm q; exact zcgl q i0
theorem zcgn : ∀ (q N : Nat), 8 * q ≤ N → ∀ (a0 a1 : (Sl zjs)), ∀ (r : Bool), zof q a0 a1 = some r → (orc T N).deep F.zof [(Sl.enc zjs.enc) a0, (Sl.enc zjs.enc) a1] = some [V.bool r] := by
 intro q N hM a0 a1 r h
 rcases q with _ | q
 ·cases h
 obtain ⟨M, rfl⟩ : ∃ M, N = M + 8 := ⟨N - 8, by omega⟩
 have zcg5 := (zcgm q)
 generalize hR : some [V.bool r] = R
 rw [zh4, zbpq, y4, zh2]
 rw [zof] at h
 replace h := br h; rcases h with ⟨h1, h⟩ | ⟨h1, h⟩
 ·replace h := zcg5 M (by omega) (M + 7) (by omega) _ _ _ _ _ _ h R hR
  simp only [zcgk, simprocAttr, *]
 ·cases h; subst hR; simp only [zcgk, simprocAttr, *]
def zcgo := And.intro @kk <| And.intro @ke <| And.intro @kn <| And.intro @zbsv <| And.intro @zbtw <| @zbsx
theorem zcgp : ∀ (q N : Nat), 8 * q ≤ N → ∀ (a0 a1 : zjt), ∀ (r : Bool), zog q a0 a1 = some r → (orc T N).deep F.zog [zjt.enc a0, zjt.enc a1] = some [V.bool r] := by
 intro q N hM a0 a1 r h
 rcases q with _ | q
 ·cases h
 obtain ⟨M, rfl⟩ : ∃ M, N = M + 8 := ⟨N - 8, by omega⟩
 generalize hR : some [V.bool r] = R
 rw [zh4, zbpe, y4, zh2]
 rw [zog] at h
 replace h := ob h; obtain ⟨r1, h1, h⟩ := h
 replace h1 := zcgn q (M + 7) (by omega) _ _ _ h1
 try simp only [kf, simprocAttr] at h1
 replace h := bb h; rcases h with ⟨h2', h2, h⟩ | ⟨h2', h2, h⟩
 ·replace h := br h; rcases h with ⟨h3, h⟩ | ⟨h3, h⟩
  ·cases h; subst hR; simp only [zcgo, simprocAttr, *]
  ·cases h; subst hR; simp only [zcgo, simprocAttr, *]
 ·cases h; subst hR; simp only [zcgo, simprocAttr, *]
def zcgq := And.intro @kk <| And.intro @ke <| And.intro @kn <| And.intro @zbsd <| And.intro @zbsh <| And.intro @zbsk <| And.intro @zbsn <| And.intro @zbsq <| And.intro @zbst <| And.intro @zbsw <| @zbsf
theorem zcgr : ∀ (q N : Nat), 8 * q ≤ N → ∀ (a0 : (Sl Int)), ∀ (r : Bool), zoh q a0 = some r → (orc T N).deep F.zoh [(Sl.enc (V.int .u8)) a0] = some [V.bool r] := by
 intro q N hM a0 r h
 rcases q with _ | q
 ·cases h
 obtain ⟨M, rfl⟩ : ∃ M, N = M + 8 := ⟨N - 8, by omega⟩
 generalize hR : some [V.bool r] = R
 rw [zh4, zbo8, y4, zh2]
 rw [zoh] at h
 replace h := ob h; obtain ⟨r1, h1, h⟩ := h
 replace h1 := zb7s q (M + 7) (by omega)  _ h1
 replace h := br h; rcases h with ⟨h2, h⟩ | ⟨h2, h⟩
 ·cases h; subst hR; simp only [zcgq, simprocAttr, *]
 ·replace h := ob h; obtain ⟨r2, h3, h⟩ := h
  replace h3 := zcfp q (M + 7) (by omega) _ _ h3
  try simp only [kf, simprocAttr] at h3
  replace h := ob h; obtain ⟨r3, h4, h⟩ := h
  replace h4 := zcfi q (M + 7) (by omega) _ _ h4
  try simp only [kf, simprocAttr] at h4
  replace h := ob h; obtain ⟨r4, h5, h⟩ := h
  replace h5 := zcgg q (M + 7) (by omega) _ _ h5
  try simp only [kf, simprocAttr] at h5
  replace h := ob h; obtain ⟨r5, h6, h⟩ := h
  replace h6 := zcgi q (M + 7) (by omega) _ _ h6
  try simp only [kf, simprocAttr] at h6
  replace h := ob h; obtain ⟨r6, h7, h⟩ := h
  replace h7 := zcgp q (M + 7) (by omega) _ _ _ h7
  try simp only [kf, simprocAttr] at h7
  replace h := ob h; obtain ⟨r7, h8, h⟩ := h
  replace h8 := zcgp q (M + 7) (by omega) _ _ _ h8
  try simp only [kf, simprocAttr] at h8
  replace h := bb h; rcases h with ⟨h9', h9, h⟩ | ⟨h9', h9, h⟩
  ·replace h := bb h; rcases h with ⟨h10', h10, h⟩ | ⟨h10', h10, h⟩
   ·replace h := br h; rcases h with ⟨h11, h⟩ | ⟨h11, h⟩
    ·replace h := bb h; rcases h with ⟨h12', h12, h⟩ | ⟨h12', h12, h⟩
     ·replace h := br h; rcases h with ⟨h13, h⟩ | ⟨h13, h⟩
      ·cases h; subst hR; simp only [zcgq, simprocAttr, *]
      ·cases h; subst hR; simp only [zcgq, simprocAttr, *]
     ·cases h; subst hR; simp only [zcgq, simprocAttr, *]
    ·cases h; subst hR; simp only [zcgq, simprocAttr, *]
   ·cases h; subst hR; simp only [zcgq, simprocAttr, *]
  ·cases h; subst hR; simp only [zcgq, simprocAttr, *]
end Go.Dvm.C
