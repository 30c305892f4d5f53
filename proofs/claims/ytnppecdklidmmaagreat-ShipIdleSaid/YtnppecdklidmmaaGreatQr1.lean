/- The machine comes to these answers: part 2. -/
import Derived.Test.YtnppecdklidmmaaGreatQl0
import Derived.Test.YtnppecdklidmmaaGreatQr0
set_option linter.all false
set_option maxRecDepth 100000
set_option maxHeartbeats 4000000
namespace Go.Dvm.C
open Go Go.Dvm Go.Dvm.I
def zccd (q : Nat) : Prop := ∀ M, 8 * q ≤ M → ∀ j, q ≤ j → ∀ (v0z : Bool) (v0l : List zko) (v1 : Int) (v7z : Bool) (v7l : List zko) (v8 v9 : Int) (r : Bool), znh q v0z v0l v1 v7z v7l v8 v9 = some r → LS T (M + 7) 0 [0, 1, 7, 8, 9] [.blk 0, .code (.seq (.reg z9f) .ret)] z9e j (fin z9i) (some [V.bool r]) [(0, (.sl v0z (List.map zko.enc v0l))), (1, (.int .i64 v1)), (7, (.sl v7z (List.map zko.enc v7l))), (8, (.int .i64 v8)), (9, (.int .i64 v9))] []
def zcce := And.intro @kk <| And.intro @ke <| And.intro @kn <| And.intro @zbyh <| And.intro @zbtg <| @zbyj
theorem zccf (q : Nat) (zce6 : zccd q) : zccd (q + 1) := by
 intro M hM j hj v0z v0l v1 v7z v7l v8 v9 r h R hR fr H hc
 obtain ⟨j, rfl⟩ : ∃ i, j = i + 1 := ⟨j - 1, by omega⟩
 rw [zhy, hc]; clear hc
 rw [znh] at h
 repeat' (first | (cases h; done) | (replace h := bb h; rcases h with ⟨_, _, h⟩ | ⟨_, _, h⟩) | (replace h := bn h; obtain ⟨_, h⟩ := h) | (replace h := br h; rcases h with ⟨_, h⟩ | ⟨_, h⟩) | (replace h := ob h; obtain ⟨_, g, h⟩ := h; first | (replace g := zb5w q (M + 7) (by omega) _ _ g; try simp only [kf, simprocAttr] at g) | skip))
 all_goals (first | (cases h; subst hR; simp only [zcce, simprocAttr, *]) | (replace h := zce6 M (by omega) j (by omega) _ _ _ _ _ _ _ _ h R hR; simp only [zcce, simprocAttr, *]))
theorem zccg : ∀ q, zccd q
 | 0 => by intro M hM j hj; intros; rename_i h; cases h
 | q + 1 => by have i0 := zccg q; exact zccf q i0
theorem zcch : ∀ (q N : Nat), 8 * q ≤ N → ∀ (a0 : (Sl zko)) (a1 : Int), ∀ (r : Bool), zni q a0 a1 = some r → (orc T N).deep F.zni [(Sl.enc zko.enc) a0, (V.int .i64) a1] = some [V.bool r] := by
 intro q N hM a0 a1 r h
 rcases q with _ | q
 ·cases h
 obtain ⟨M, rfl⟩ : ∃ M, N = M + 8 := ⟨N - 8, by omega⟩
 have zce6 := (zccg q)
 refine byR fun R hR => ?_
 rw [zh8, zbro, y4, zh6 z9i rfl]
 rw [zni] at h
 replace h := zce6 M (by omega) (M + 7) (by omega) _ _ _ _ _ _ _ _ h R hR
 simp only [zcce, simprocAttr, *]
def zcci := And.intro @kk <| And.intro @ke <| And.intro @kn <| And.intro @zb0g <| @zb0i
theorem zccj : ∀ (q N : Nat), 8 * q ≤ N → ∀ (a0 : Int), ∀ (r : (Ow Int)), znj q a0 = some r → (orc T N).deep F.znj [(V.int .i64) a0] = some [(Ow.enc 1 (V.int .i64)) r] := by
 intro q N hM a0 r h
 rcases q with _ | q
 ·cases h
 obtain ⟨M, rfl⟩ : ∃ M, N = M + 8 := ⟨N - 8, by omega⟩
 refine byR fun R hR => ?_
 rw [zh8, zbsg, y4, zh6 zbk3 rfl]
 rw [znj] at h
 replace h := br h; rcases h with ⟨h1, h⟩ | ⟨h1, h⟩
 ·cases h; subst hR; simp only [zcci, simprocAttr, *]
 ·replace h := br h; rcases h with ⟨h2, h⟩ | ⟨h2, h⟩
  ·cases h; subst hR; simp only [zcci, simprocAttr, *]
  ·replace h := bn h; obtain ⟨h3, h⟩ := h
   replace h := bn h; obtain ⟨h4, h⟩ := h
   replace h := bc h; rcases h with ⟨h5, h⟩ | ⟨h5, h⟩
   ·cases h; subst hR; simp only [zcci, simprocAttr, *]
   ·replace h := bc h; rcases h with ⟨h6, h⟩ | ⟨h6, h⟩
    ·cases h; subst hR; simp only [zcci, simprocAttr, *]
    ·replace h := bc h; rcases h with ⟨h7, h⟩ | ⟨h7, h⟩
     ·cases h; subst hR; simp only [zcci, simprocAttr, *]
     ·replace h := bc h; rcases h with ⟨h8, h⟩ | ⟨h8, h⟩
      ·cases h; subst hR; simp only [zcci, simprocAttr, *]
      ·cases h
def zcck (q : Nat) : Prop := ∀ M, 8 * q ≤ M → ∀ j, q ≤ j → ∀ (v0z : Bool) (v0l : List Int) (v1 v7 v8 r : Int), znk q v0z v0l v1 v7 v8 = some r → LS T (M + 7) 0 [0, 1, 7, 8] [.blk 0, .code (.seq (.reg zbn1) .ret)] zbn0 j (fin zbn4) (some [(V.int .i64) r]) [(0, (.sl v0z (List.map (V.int .i64) v0l))), (1, (.int .i64 v1)), (7, (.int .i64 v7)), (8, (.int .i64 v8))] []
def zccl := And.intro @kk <| And.intro @ke <| And.intro @kn <| And.intro @zb04 <| @zb06
theorem zccm (q : Nat) (zce7 : zcck q) : zcck (q + 1) := by
 intro M hM j hj v0z v0l v1 v7 v8 r h R hR fr H hc
 obtain ⟨j, rfl⟩ : ∃ i, j = i + 1 := ⟨j - 1, by omega⟩
 rw [zhy, hc]; clear hc
 rw [znk] at h
 replace h := br h; rcases h with ⟨h1, h⟩ | ⟨h1, h⟩
 ·replace h := bn h; obtain ⟨h2, h⟩ := h
  replace h := ob h; obtain ⟨e1, h3, h⟩ := h
  replace h := br h; rcases h with ⟨h4, h⟩ | ⟨h4, h⟩
  ·cases h; subst hR; simp only [zccl, simprocAttr, *]
  ·replace h := zce7 M (by omega) j (by omega) _ _ _ _ _ _ h R hR
   simp only [zccl, simprocAttr, *]
 ·cases h; subst hR; simp only [zccl, simprocAttr, *]
theorem zccn : ∀ q, zcck q
 | 0 => by intro M hM j hj; intros; rename_i h; cases h
 | q + 1 => by have i0 := zccn q; exact zccm q i0
theorem zcco : ∀ (q N : Nat), 8 * q ≤ N → ∀ (a0 : (Sl Int)) (a1 : Int), ∀ (r : Int), znl q a0 a1 = some r → (orc T N).deep F.znl [(Sl.enc (V.int .i64)) a0, (V.int .i64) a1] = some [(V.int .i64) r] := by
 intro q N hM a0 a1 r h
 rcases q with _ | q
 ·cases h
 obtain ⟨M, rfl⟩ : ∃ M, N = M + 8 := ⟨N - 8, by omega⟩
 have zce7 := (zccn q)
 refine byR fun R hR => ?_
 rw [zh8, zbso, y4, zh6 zbn4 rfl]
 rw [znl] at h
 replace h := zce7 M (by omega) (M + 7) (by omega) _ _ _ _ _ _ h R hR
 simp only [zccl, simprocAttr, *]
def zccp := And.intro @kk <| And.intro @ke <| And.intro @kn <| And.intro @zb1a <| And.intro @zbwf <| @zb1c
theorem zccq : ∀ (q N : Nat), 8 * q ≤ N → ∀ (a0 : (Sl Int)), ∀ (r : Int), znm q a0 = some r → (orc T N).deep F.znm [(Sl.enc (V.int .u8)) a0] = some [(V.int .i64) r] := by
 intro q N hM a0 r h
 rcases q with _ | q
 ·cases h
 obtain ⟨M, rfl⟩ : ∃ M, N = M + 8 := ⟨N - 8, by omega⟩
 refine byR fun R hR => ?_
 rw [zh8, zbsq, y4, zh6 zbou rfl]
 rw [znm] at h
 replace h := ob h; obtain ⟨r1, h1, h⟩ := h
 replace h1 := zb9r q (M + 7) (by omega) _ _ h1
 try simp only [kf, simprocAttr] at h1
 replace h := br h; rcases h with ⟨h2, h⟩ | ⟨h2, h⟩
 ·cases h; subst hR; simp only [zccp, simprocAttr, *]
 ·replace h := br h; rcases h with ⟨h3, h⟩ | ⟨h3, h⟩
  ·cases h; subst hR; simp only [zccp, simprocAttr, *]
  ·cases h; subst hR; simp only [zccp, simprocAttr, *]
def zccr (q : Nat) : Prop := ∀ M, 8 * q ≤ M → ∀ j, q ≤ j → ∀ (v0 : Int) (v1z : Bool) (v1l : List Int) (v7 h0_0 h0_1 h0_2 h0_3 h0_4 h0_5 h0_6 : Int) (h1z : Bool) (h1l : List Int) (h1x : Bool) (r : zko × Int), znn q v0 v1z v1l v7 h0_0 h0_1 h0_2 h0_3 h0_4 h0_5 h0_6 h1z h1l h1x = some r → LS T (M + 7) 0 [0, 1, 4, 6, 7] [.blk 0, .code (.seq (.blk 3 (.seq (.reg zbnj) zbnn)) (.seq (.reg zbno) .ret))] zbni j (fin zbnr) (some [zko.enc r.1, (V.int .i64) r.2]) [(0, (.int .i64 v0)), (1, (.sl v1z (List.map (V.int .u8) v1l))), (4, (.ptr 0 0)), (6, (.vw 1 0 0 h1l.length 1)), (7, (.int .i64 v7))] [(.box [(.int .i64 h0_0), (.int .i64 h0_1), (.int .i64 h0_2), (.int .i64 h0_3), (.int .i64 h0_4), (.int .i64 h0_5), (.int .i64 h0_6)]), (.row 0 h1z 1 (List.map (V.int .i64) h1l) h1x)]
def zccs := And.intro @kk <| And.intro @ke <| And.intro @kn <| And.intro @zb01 <| And.intro @zb07 <| And.intro @zbtg <| And.intro @zbtv <| And.intro @zbwf <| And.intro @zbw0 <| And.intro @zbx3 <| And.intro @zb0h <| And.intro @zb0w <| And.intro @zb05 <| And.intro @zb1b <| And.intro @zb08 <| And.intro @zb09 <| @zb03
theorem zcct (q : Nat) (zce8 : zccr q) : zccr (q + 1) := by
 intro M hM j hj v0 v1z v1l v7 h0_0 h0_1 h0_2 h0_3 h0_4 h0_5 h0_6 h1z h1l h1x r h R hR fr H hc
 obtain ⟨j, rfl⟩ : ∃ i, j = i + 1 := ⟨j - 1, by omega⟩
 rw [zhy, hc]; clear hc
 rw [znn] at h
 replace h := br h; rcases h with ⟨h1, h⟩ | ⟨h1, h⟩
 ·replace h := ob h; obtain ⟨r3, h2, h⟩ := h
  replace h2 := zb9r q (M + 7) (by omega) _ _ h2
  try simp only [kf, simprocAttr] at h2
  replace h := br h; rcases h with ⟨h3, h⟩ | ⟨h3, h⟩
  ·cases h; subst hR; simp only [zccs, simprocAttr, *]
  ·replace h := br h; rcases h with ⟨h4, h⟩ | ⟨h4, h⟩
   ·cases h; subst hR; simp only [zccs, simprocAttr, *]
   ·replace h := bn h; obtain ⟨h5, h⟩ := h
    replace h := bn h; obtain ⟨h6, h⟩ := h
    replace h := ob h; obtain ⟨r4, h7, h⟩ := h
    replace h7 := zcco q (M + 7) (by omega) _ _ _ h7
    try simp only [kf, simprocAttr] at h7
    replace h := br h; rcases h with ⟨h8, h⟩ | ⟨h8, h⟩
    ·replace h := ob h; obtain ⟨r5, h9, h⟩ := h
     replace h9 := zb6g q (M + 7) (by omega) _ _ _ _ h9
     try simp only [kf, simprocAttr] at h9
     replace h := br h; rcases h with ⟨h10, h⟩ | ⟨h10, h⟩
     ·replace h := ob h; obtain ⟨r6, h11, h⟩ := h
      replace h11 := zb9r q (M + 6) (by omega) _ _ h11
      try simp only [kf, simprocAttr] at h11
      replace h := br h; rcases h with ⟨h12, h⟩ | ⟨h12, h⟩
      ·cases h; subst hR; simp only [zccs, simprocAttr, *]
      ·replace h := bn h; obtain ⟨h13, h⟩ := h
       replace h := bn h; obtain ⟨h14, h⟩ := h
       replace h := zce8 M (by omega) j (by omega) _ _ _ _ _ _ _ _ _ _ _ _ _ _ _ h R hR
       simp only [zccs, simprocAttr, *]
     ·replace h := br h; rcases h with ⟨h15, h⟩ | ⟨h15, h⟩
      ·replace h := ob h; obtain ⟨r7, h16, h⟩ := h
       replace h16 := zb9r q (M + 6) (by omega) _ _ h16
       try simp only [kf, simprocAttr] at h16
       replace h := br h; rcases h with ⟨h17, h⟩ | ⟨h17, h⟩
       ·cases h; subst hR; simp only [zccs, simprocAttr, *]
       ·replace h := bn h; obtain ⟨h18, h⟩ := h
        replace h := bn h; obtain ⟨h19, h⟩ := h
        replace h := zce8 M (by omega) j (by omega) _ _ _ _ _ _ _ _ _ _ _ _ _ _ _ h R hR
        simp only [zccs, simprocAttr, *]
      ·replace h := br h; rcases h with ⟨h20, h⟩ | ⟨h20, h⟩
       ·replace h := ob h; obtain ⟨r8, h21, h⟩ := h
        replace h21 := zb9r q (M + 6) (by omega) _ _ h21
        try simp only [kf, simprocAttr] at h21
        replace h := br h; rcases h with ⟨h22, h⟩ | ⟨h22, h⟩
        ·cases h; subst hR; simp only [zccs, simprocAttr, *]
        ·replace h := bn h; obtain ⟨h23, h⟩ := h
         replace h := bn h; obtain ⟨h24, h⟩ := h
         replace h := zce8 M (by omega) j (by omega) _ _ _ _ _ _ _ _ _ _ _ _ _ _ _ h R hR
         simp only [zccs, simprocAttr, *]
       ·replace h := br h; rcases h with ⟨h25, h⟩ | ⟨h25, h⟩
        ·replace h := ob h; obtain ⟨r9, h26, h⟩ := h
         replace h26 := zcax q (M + 6) (by omega) _ _ h26
         try simp only [kf, simprocAttr] at h26
         replace h := br h; rcases h with ⟨h27, h⟩ | ⟨h27, h⟩
         ·cases h; subst hR; simp only [zccs, simprocAttr, *]
         ·replace h := bn h; obtain ⟨h28, h⟩ := h
          replace h := bn h; obtain ⟨h29, h⟩ := h
          replace h := zce8 M (by omega) j (by omega) _ _ _ _ _ _ _ _ _ _ _ _ _ _ _ h R hR
          simp only [zccs, simprocAttr, *]
        ·replace h := br h; rcases h with ⟨h30, h⟩ | ⟨h30, h⟩
         ·replace h := ob h; obtain ⟨r10, h31, h⟩ := h
          replace h31 := zb94 q (M + 6) (by omega) _ _ h31
          try simp only [kf, simprocAttr] at h31
          replace h := br h; rcases h with ⟨h32, h⟩ | ⟨h32, h⟩
          ·cases h; subst hR; simp only [zccs, simprocAttr, *]
          ·replace h := bn h; obtain ⟨h33, h⟩ := h
           replace h := bn h; obtain ⟨h34, h⟩ := h
           replace h := zce8 M (by omega) j (by omega) _ _ _ _ _ _ _ _ _ _ _ _ _ _ _ h R hR
           simp only [zccs, simprocAttr, *]
         ·cases h; subst hR; simp only [zccs, simprocAttr, *]
    ·replace h := br h; rcases h with ⟨h35, h⟩ | ⟨h35, h⟩
     ·cases h; subst hR; simp only [zccs, simprocAttr, *]
     ·replace h := br h; rcases h with ⟨h36, h⟩ | ⟨h36, h⟩
      ·cases h; subst hR; simp only [zccs, simprocAttr, *]
      ·replace h := ob h; obtain ⟨r11, h37, h⟩ := h
       replace h37 := zccq q (M + 7) (by omega) _ _ h37
       try simp only [kf, simprocAttr] at h37
       replace h := br h; rcases h with ⟨h38, h⟩ | ⟨h38, h⟩
       ·cases h; subst hR; simp only [zccs, simprocAttr, *]
       ·replace h := bn h; obtain ⟨h39, h⟩ := h
        replace h := bn h; obtain ⟨h40, h⟩ := h
        replace h := zce8 M (by omega) j (by omega) _ _ _ _ _ _ _ _ _ _ _ _ _ _ _ h R hR
        simp only [zccs, simprocAttr, *]
 ·replace h := br h; rcases h with ⟨h41, h⟩ | ⟨h41, h⟩
  ·cases h; subst hR; simp only [zccs, simprocAttr, *]
  ·replace h := ob h; obtain ⟨r12, h42, h⟩ := h
   replace h42 := zb5w q (M + 7) (by omega) _ _ h42
   try simp only [kf, simprocAttr] at h42
   replace h := bb h; rcases h with ⟨h43', h43, h⟩ | ⟨h43', h43, h⟩
   ·cases h; subst hR; simp only [zccs, simprocAttr, *]
   ·cases h; subst hR; simp only [zccs, simprocAttr, *]
theorem zccu : ∀ q, zccr q
 | 0 => by intro M hM j hj; intros; rename_i h; cases h
 | q + 1 => by have i0 := zccu q; exact zcct q i0
theorem zccv : ∀ (q N : Nat), 8 * q ≤ N → ∀ (a0 : Int) (a1 : (Sl Int)), ∀ (r : zko × Int), zno q a0 a1 = some r → (orc T N).deep F.zno [(V.int .i64) a0, (Sl.enc (V.int .u8)) a1] = some [zko.enc r.1, (V.int .i64) r.2] := by
 intro q N hM a0 a1 r h
 rcases q with _ | q
 ·cases h
 obtain ⟨M, rfl⟩ : ∃ M, N = M + 8 := ⟨N - 8, by omega⟩
 have zce8 := (zccu q)
 refine byR fun R hR => ?_
 rw [zh8, zbsn, y4, zh6 zbnr rfl]
 rw [zno] at h
 replace h := ob h; obtain ⟨r1, h1, h⟩ := h
 replace h1 := zccj q (M + 7) (by omega) _ _ h1
 try simp only [kf, simprocAttr] at h1
 replace h := ob h; obtain ⟨r2, h2, h⟩ := h
 replace h2 := zb6e q (M + 7) (by omega) _ _ h2
 try simp only [kf, simprocAttr] at h2
 replace h := zce8 M (by omega) (M + 7) (by omega) _ _ _ _ _ _ _ _ _ _ _ _ _ _ _ h R hR
 simp only [zccs, simprocAttr, *]
def zccw := And.intro @kk <| And.intro @ke <| And.intro @kn <| And.intro @zb0y <| And.intro @zbwf <| And.intro @zb0h <| And.intro @zb02 <| @zb00
theorem zccx : ∀ (q N : Nat), 8 * q ≤ N → ∀ (a0 : (Sl Int)), ∀ (r : zko × Int), znp q a0 = some r → (orc T N).deep F.znp [(Sl.enc (V.int .u8)) a0] = some [zko.enc r.1, (V.int .i64) r.2] := by
 intro q N hM a0 r h
 rcases q with _ | q
 ·cases h
 obtain ⟨M, rfl⟩ : ∃ M, N = M + 8 := ⟨N - 8, by omega⟩
 refine byR fun R hR => ?_
 rw [zh8, zbsm, y4, zh6 zbmu rfl]
 rw [znp] at h
 repeat' (first | (cases h; done) | (replace h := bb h; rcases h with ⟨_, _, h⟩ | ⟨_, _, h⟩) | (replace h := bn h; obtain ⟨_, h⟩ := h) | (replace h := br h; rcases h with ⟨_, h⟩ | ⟨_, h⟩) | (replace h := ob h; obtain ⟨_, g, h⟩ := h; first | (replace g := zb9r q (M + 7) (by omega) _ _ g; try simp only [kf, simprocAttr] at g) | (replace g := zccj q (M + 7) (by omega) _ _ g; try simp only [kf, simprocAttr] at g) | (replace g := zccv q (M + 7) (by omega) _ _ _ g; try simp only [kf, simprocAttr] at g) | skip))
 all_goals (cases h; subst hR; simp only [zccw, simprocAttr, *])
def zccy (q : Nat) : Prop := ∀ M, 8 * q ≤ M → ∀ j, q ≤ j → ∀ (v0 : Int) (v1z : Bool) (v1l : List Int) (h0z : Bool) (h0l : List zko) (r : (Ow zko) × Bool), znq q v0 v1z v1l h0z h0l = some r → LS T (M + 7) 0 [0, 1, 6] [.blk 0, .code (.seq (.reg zblh) .ret)] zblg j (fin zblk) (some [(Ow.enc 7 zko.enc) r.1, V.bool r.2]) [(0, (.int .i64 v0)), (1, (.sl v1z (List.map (V.int .u8) v1l))), (6, (.vw 0 0 0 h0l.length 1))] [(.row 0 h0z 7 (List.map zko.enc h0l) true)]
def zccz := And.intro @kk <| And.intro @ke <| And.intro @kn <| And.intro @zb0j <| And.intro @zbwf <| And.intro @zb0z <| @zb0l
theorem zcc0 (q : Nat) (zce9 : zccy q) : zccy (q + 1) := by
 intro M hM j hj v0 v1z v1l h0z h0l r h R hR fr H hc
 obtain ⟨j, rfl⟩ : ∃ i, j = i + 1 := ⟨j - 1, by omega⟩
 rw [zhy, hc]; clear hc
 rw [znq] at h
 repeat' (first | (cases h; done) | (replace h := bn h; obtain ⟨_, h⟩ := h) | (replace h := br h; rcases h with ⟨_, h⟩ | ⟨_, h⟩) | (replace h := ob h; obtain ⟨_, g, h⟩ := h; first | (replace g := zb9r q (M + 7) (by omega) _ _ g; try simp only [kf, simprocAttr] at g) | (replace g := zccx q (M + 7) (by omega) _ _ g; try simp only [kf, simprocAttr] at g) | skip))
 all_goals (first | (cases h; subst hR; simp only [zccz, simprocAttr, *]) | (replace h := zce9 M (by omega) j (by omega) _ _ _ _ _ _ h R hR; simp only [zccz, simprocAttr, *]))
theorem zcc1 : ∀ q, zccy q
 | 0 => by intro M hM j hj; intros; rename_i h; cases h
 | q + 1 => by have i0 := zcc1 q; exact zcc0 q i0
theorem zcc2 : ∀ (q N : Nat), 8 * q ≤ N → ∀ (a0 : Int) (a1 : (Sl Int)), ∀ (r : (Ow zko) × Bool), znr q a0 a1 = some r → (orc T N).deep F.znr [(V.int .i64) a0, (Sl.enc (V.int .u8)) a1] = some [(Ow.enc 7 zko.enc) r.1, V.bool r.2] := by
 intro q N hM a0 a1 r h
 rcases q with _ | q
 ·cases h
 obtain ⟨M, rfl⟩ : ∃ M, N = M + 8 := ⟨N - 8, by omega⟩
 have zce9 := (zcc1 q)
 refine byR fun R hR => ?_
 rw [zh8, zbsh, y4, zh6 zblk rfl]
 rw [znr] at h
 replace h := zce9 M (by omega) (M + 7) (by omega) _ _ _ _ _ _ h R hR
 simp only [zccz, simprocAttr, *]
def zcc3 := And.intro @kk <| And.intro @ke <| And.intro @kn <| And.intro @zbye <| And.intro @zbt1 <| @zbyg
theorem zcc4 : ∀ (q N : Nat), 8 * q ≤ N → ∀ (a0 : (Sl Int)), ∀ (r : (Ow Int)), zns q a0 = some r → (orc T N).deep F.zns [(Sl.enc (V.int .u8)) a0] = some [(Ow.enc 1 (V.int .u8)) r] := by
 intro q N hM a0 r h
 rcases q with _ | q
 ·cases h
 obtain ⟨M, rfl⟩ : ∃ M, N = M + 8 := ⟨N - 8, by omega⟩
 refine byR fun R hR => ?_
 rw [zh8, zbrd, y4, zh6 z7u rfl]
 rw [zns] at h
 replace h := ob h; obtain ⟨r1, h1, h⟩ := h
 replace h1 := zb9b q (M + 7) (by omega) _ _ h1
 try simp only [kf, simprocAttr] at h1
 cases h; subst hR; simp only [zcc3, simprocAttr, *]
def zcc5 (q : Nat) : Prop := ∀ M, 8 * q ≤ M → ∀ j, q ≤ j → ∀ (v6z : Bool) (v6l : List (Sl Int)) (v7 v8 : Int) (h0z : Bool) (h0l : List (Sl Int)) (r : (Ow (Sl Int))), znt q v6z v6l v7 v8 h0z h0l = some r → LS T (M + 7) 0 [3, 6, 7, 8] [.blk 0, .code (.seq (.reg zbfr) .ret)] zbfq j (fin zbfu) (some [(Ow.enc 1 (Sl.enc (V.int .u8))) r]) [(3, (.vw 0 0 0 h0l.length 1)), (6, (.sl v6z (List.map (Sl.enc (V.int .u8)) v6l))), (7, (.int .i64 v7)), (8, (.int .i64 v8))] [(.row 0 h0z 1 (List.map (Sl.enc (V.int .u8)) h0l) true)]
def zcc6 := And.intro @kk <| And.intro @ke <| And.intro @kn <| And.intro @zbzj <| And.intro @zbyf <| @zbzl
theorem zcc7 (q : Nat) (zcfa : zcc5 q) : zcc5 (q + 1) := by
 intro M hM j hj v6z v6l v7 v8 h0z h0l r h R hR fr H hc
 obtain ⟨j, rfl⟩ : ∃ i, j = i + 1 := ⟨j - 1, by omega⟩
 rw [zhy, hc]; clear hc
 rw [znt] at h
 replace h := br h; rcases h with ⟨h1, h⟩ | ⟨h1, h⟩
 ·replace h := bn h; obtain ⟨h2, h⟩ := h
  replace h := ob h; obtain ⟨e1, h3, h⟩ := h
  replace h := ob h; obtain ⟨r2, h4, h⟩ := h
  replace h4 := zcc4 q (M + 7) (by omega) _ _ h4
  try simp only [kf, simprocAttr] at h4
  replace h := bn h; obtain ⟨h5, h⟩ := h
  replace h := zcfa M (by omega) j (by omega) _ _ _ _ _ _ _ h R hR
  simp only [zcc6, simprocAttr, *]
 ·cases h; subst hR; simp only [zcc6, simprocAttr, *]
theorem zcc8 : ∀ q, zcc5 q
 | 0 => by intro M hM j hj; intros; rename_i h; cases h
 | q + 1 => by have i0 := zcc8 q; exact zcc7 q i0
theorem zcc9 : ∀ (q N : Nat), 8 * q ≤ N → ∀ (a0 : (Sl (Sl Int))), ∀ (r : (Ow (Sl Int))), znu q a0 = some r → (orc T N).deep F.znu [(Sl.enc (Sl.enc (V.int .u8))) a0] = some [(Ow.enc 1 (Sl.enc (V.int .u8))) r] := by
 intro q N hM a0 r h
 rcases q with _ | q
 ·cases h
 obtain ⟨M, rfl⟩ : ∃ M, N = M + 8 := ⟨N - 8, by omega⟩
 have zcfa := (zcc8 q)
 refine byR fun R hR => ?_
 rw [zh8, zbr5, y4, zh6 zbfu rfl]
 rw [znu] at h
 replace h := zcfa M (by omega) (M + 7) (by omega) _ _ _ _ _ _ _ h R hR
 simp only [zcc6, simprocAttr, *]
def zcda (q : Nat) : Prop := ∀ M, 8 * q ≤ M → ∀ j, q ≤ j → ∀ (v14z : Bool) (v14l : List (Sl Int)) (v15 v16 : Int) (h0z : Bool) (h0l : List Int) (h0x : Bool) (r : (Ow Int)), znv q v14z v14l v15 v16 h0z h0l h0x = some r → LS T (M + 7) 0 [3, 14, 15, 16] [.blk 0, .code (.seq (.reg z92) .ret)] z91 j (fin z95) (some [(Ow.enc 1 (V.int .u8)) r]) [(3, (.vw 0 0 0 h0l.length 1)), (14, (.sl v14z (List.map (Sl.enc (V.int .u8)) v14l))), (15, (.int .i64 v15)), (16, (.int .i64 v16))] [(.row 0 h0z 1 (List.map (V.int .u8) h0l) h0x)]
def zcdb := And.intro @kk <| And.intro @ke <| And.intro @kn <| And.intro @zbyk <| And.intro @zbvx <| And.intro @zbyf <| @zbym
theorem zcdc (q : Nat) (zcfb : zcda q) : zcda (q + 1) := by
 intro M hM j hj v14z v14l v15 v16 h0z h0l h0x r h R hR fr H hc
 obtain ⟨j, rfl⟩ : ∃ i, j = i + 1 := ⟨j - 1, by omega⟩
 rw [zhy, hc]; clear hc
 rw [znv] at h
 replace h := br h; rcases h with ⟨h1, h⟩ | ⟨h1, h⟩
 ·replace h := bn h; obtain ⟨h2, h⟩ := h
  replace h := ob h; obtain ⟨e2, h3, h⟩ := h
  replace h := ob h; obtain ⟨r3, h4, h⟩ := h
  replace h4 := zb77 q (M + 7) (by omega) _ _ _ h4
  try simp only [kf, simprocAttr] at h4
  replace h := zcfb M (by omega) j (by omega) _ _ _ _ _ _ _ _ h R hR
  simp only [zcdb, simprocAttr, *]
 ·replace h := ob h; obtain ⟨r4, h5, h⟩ := h
  replace h5 := zcc4 q (M + 7) (by omega) _ _ h5
  try simp only [kf, simprocAttr] at h5
  cases h; subst hR; simp only [zcdb, simprocAttr, *]
theorem zcdd : ∀ q, zcda q
 | 0 => by intro M hM j hj; intros; rename_i h; cases h
 | q + 1 => by have i0 := zcdd q; exact zcdc q i0
theorem zcde : ∀ (q N : Nat), 8 * q ≤ N → ∀ (a0 : (Sl (Sl Int))), ∀ (r : (Ow Int)), znw q a0 = some r → (orc T N).deep F.znw [(Sl.enc (Sl.enc (V.int .u8))) a0] = some [(Ow.enc 1 (V.int .u8)) r] := by
 intro q N hM a0 r h
 rcases q with _ | q
 ·cases h
 obtain ⟨M, rfl⟩ : ∃ M, N = M + 8 := ⟨N - 8, by omega⟩
 have zcfb := (zcdd q)
 refine byR fun R hR => ?_
 rw [zh8, zbrq, y4, zh6 z95 rfl]
 rw [znw] at h
 replace h := ob h; obtain ⟨r1, h1, h⟩ := h
 replace h1 := zb77 q (M + 7) (by omega) _ _ _ h1
 try simp only [kf, simprocAttr] at h1
 replace h := bn h; obtain ⟨h2, h⟩ := h
 replace h := bn h; obtain ⟨h3, h⟩ := h
 replace h := zcfb M (by omega) (M + 7) (by omega) _ _ _ _ _ _ _ _ h R hR
 simp only [zcdb, simprocAttr, *]
def zcdf (q : Nat) : Prop := ∀ M, 8 * q ≤ M → ∀ j, q ≤ j → ∀ (w1 : Nat) (v1z : Bool) (v1l : List Int) (v19 : Int) (h1z : Bool) (h1l : List (Sl Int)) (h1x : Bool) (h3_0 h3_1 h3_2 : Int) (r : Int × Int × Int × Int × Bool), znx q v1z v1l v19 h1z h1l h1x h3_0 h3_1 h3_2 = some r → LS T (M + 5) 3 [0, 1, 5, 19] [.blk 0, .code zbjd] zbi3 j (finI 3 false [.tmp 4]) ((some ([(.int .i64 r.1)], [(.box [(.int .i64 0), (.int .i64 0), (.sl true [])]), (.row w1 h1z 1 (List.map (Sl.enc (V.int .u8)) h1l) h1x), (.box [(.int .i64 r.2.1), (.int .i64 r.2.2.1), (.int .i64 r.2.2.2.1), (.sl true []), (.bool r.2.2.2.2)])]) : Option (List V × Hp))) [(0, (.ptr 2 0)), (1, (.sl v1z (List.map (V.int .u8) v1l))), (5, (.ptr 3 0)), (19, (.int .i64 v19))] [(.box [(.int .i64 0), (.int .i64 0), (.sl true [])]), (.row w1 h1z 1 (List.map (Sl.enc (V.int .u8)) h1l) h1x), (.box [(.int .i64 0), (.int .i64 0), (.int .i64 0), (.sl true []), (.bool false)]), (.box [(.int .i64 h3_0), (.int .i64 h3_1), (.int .i64 h3_2)])]
def zcdg := And.intro @kk <| And.intro @ke <| And.intro @kn <| And.intro @zbz4 <| And.intro @zbwf <| @zbyc
theorem zcdh (q : Nat) (zcfc : zcdf q) : zcdf (q + 1) := by
 intro M hM j hj w1 v1z v1l v19 h1z h1l h1x h3_0 h3_1 h3_2 r h R hR fr H hc
 obtain ⟨j, rfl⟩ : ∃ i, j = i + 1 := ⟨j - 1, by omega⟩
 rw [zhy, hc]; clear hc
 rw [znx] at h
 replace h := br h; rcases h with ⟨h1, h⟩ | ⟨h1, h⟩
 ·replace h := ob h; obtain ⟨r2, h2, h⟩ := h
  replace h2 := zb9r q (M + 5) (by omega) _ _ h2
  try simp only [kf, simprocAttr] at h2
  replace h := bn h; obtain ⟨h3, h⟩ := h
  replace h := bn h; obtain ⟨h4, h⟩ := h
  replace h := bc h; rcases h with ⟨h5, h⟩ | ⟨h5, h⟩
  ·replace h := br h; rcases h with ⟨h6, h⟩ | ⟨h6, h⟩
   ·cases h; subst hR; simp only [zcdg, simprocAttr, *]
   ·replace h := bn h; obtain ⟨h7, h⟩ := h
    replace h := bn h; obtain ⟨h8, h⟩ := h
    replace h := zcfc M (by omega) j (by omega) w1 _ _ _ _ _ _ _ _ _ _ h R hR
    simp only [zcdg, simprocAttr, *]
  ·replace h := bc h; rcases h with ⟨h9, h⟩ | ⟨h9, h⟩
   ·replace h := br h; rcases h with ⟨h10, h⟩ | ⟨h10, h⟩
    ·cases h; subst hR; simp only [zcdg, simprocAttr, *]
    ·replace h := bn h; obtain ⟨h11, h⟩ := h
     replace h := bn h; obtain ⟨h12, h⟩ := h
     replace h := zcfc M (by omega) j (by omega) w1 _ _ _ _ _ _ _ _ _ _ h R hR
     simp only [zcdg, simprocAttr, *]
   ·replace h := bc h; rcases h with ⟨h13, h⟩ | ⟨h13, h⟩
    ·replace h := br h; rcases h with ⟨h14, h⟩ | ⟨h14, h⟩
     ·cases h; subst hR; simp only [zcdg, simprocAttr, *]
     ·replace h := bn h; obtain ⟨h15, h⟩ := h
      replace h := bn h; obtain ⟨h16, h⟩ := h
      replace h := zcfc M (by omega) j (by omega) w1 _ _ _ _ _ _ _ _ _ _ h R hR
      simp only [zcdg, simprocAttr, *]
    ·cases h
 ·replace h := br h; rcases h with ⟨h17, h⟩ | ⟨h17, h⟩
  ·cases h; subst hR; simp only [zcdg, simprocAttr, *]
  ·replace h := ob h; obtain ⟨r3, h18, h⟩ := h
   replace h18 := zcav q (M + 5) (by omega) _ _ h18
   replace h := bb h; rcases h with ⟨h19', h19, h⟩ | ⟨h19', h19, h⟩
   ·replace h := br h; rcases h with ⟨h20, h⟩ | ⟨h20, h⟩
    ·cases h; subst hR; simp only [zcdg, simprocAttr, *]
    ·cases h; subst hR; simp only [zcdg, simprocAttr, *]
   ·cases h; subst hR; simp only [zcdg, simprocAttr, *]
theorem zcdi : ∀ q, zcdf q
 | 0 => by intro M hM j hj; intros; rename_i h; cases h
 | q + 1 => by have i0 := zcdi q; exact zcdh q i0
theorem zcdj : ∀ (q M : Nat), 8 * q ≤ M → ∀ (w1 : Nat), ∀ (v1z : Bool), ∀ (v1l : List Int), ∀ (h1z : Bool), ∀ (h1l : List (Sl Int)), ∀ (h1x : Bool), ∀ (r : Int × Int × Int × Int × Bool), zny q v1z v1l h1z h1l h1x = some r → (orc T (M + 6)).inl F.zp4 [(.ptr 2 0), (.sl v1z (List.map (V.int .u8) v1l))] [(.box [(.int .i64 0), (.int .i64 0), (.sl true [])]), (.row w1 h1z 1 (List.map (Sl.enc (V.int .u8)) h1l) h1x), (.box [(.int .i64 0), (.int .i64 0), (.int .i64 0), (.sl true []), (.bool false)])] = (some ([(.int .i64 r.1)], [(.box [(.int .i64 0), (.int .i64 0), (.sl true [])]), (.row w1 h1z 1 (List.map (Sl.enc (V.int .u8)) h1l) h1x), (.box [(.int .i64 r.2.1), (.int .i64 r.2.2.1), (.int .i64 r.2.2.2.1), (.sl true []), (.bool r.2.2.2.2)])]) : Option (List V × Hp)) := by
 intro q M hM w1 v1z v1l h1z h1l h1x r h
 rcases q with _ | q
 ·cases h
 have zcfc := (zcdi q)
 refine byR fun R hR => ?_
 rw [zbz6 (n := M + 5)]
 rw [zny] at h
 replace h := br h; rcases h with ⟨h1, h⟩ | ⟨h1, h⟩
 ·cases h; subst hR; simp only [zcdg, simprocAttr, *]
 ·replace h := ob h; obtain ⟨e1, h2, h⟩ := h
  replace h := br h; rcases h with ⟨h3, h⟩ | ⟨h3, h⟩
  ·replace h := bn h; obtain ⟨h4, h⟩ := h
   replace h := zcfc M (by omega) (M + 5) (by omega) w1 _ _ _ _ _ _ _ _ _ _ h R hR
   simp only [zcdg, simprocAttr, *]
  ·cases h; subst hR; simp only [zcdg, simprocAttr, *]
def zcdk (q : Nat) : Prop := ∀ M, 8 * q ≤ M → ∀ j, q ≤ j → ∀ (w1 v1len v19len : Nat) (v20 : Int) (h1z : Bool) (h1l : List (Sl Int)) (h1x : Bool) (h2_0 h2_1 h2_2 : Int) (h2_4 : Bool) (r : Nat × Int × Int × Int × Int × Int × Bool × Int × Int × Int × Int × Int × Nat × Bool × Bool × (List zko)), zn0 q v1len v19len v20 h1z h1l h1x h2_0 h2_1 h2_2 h2_4 = some r → LS T (M + 6) 3 [0, 1, 19, 20, 21] [.blk 0, .code (.seq (.reg zbfd) .ret)] zbfc j (finI 3 false [.tmp 4, .tmp 5]) ((if r.1 = 0 then (some ([(.int .i64 r.2.1), (.int .i64 r.2.2.1)], [(.box [(.int .i64 0), (.int .i64 0), (.sl true [])]), (.row w1 h1z 1 (List.map (Sl.enc (V.int .u8)) h1l) h1x), (.box [(.int .i64 r.2.2.2.1), (.int .i64 r.2.2.2.2.1), (.int .i64 r.2.2.2.2.2.1), (.sl true []), (.bool r.2.2.2.2.2.2.1)])]) : Option (List V × Hp)) else (some ([(.int .i64 r.2.2.2.2.2.2.2.1), (.int .i64 r.2.2.2.2.2.2.2.2.1)], [(.box [(.int .i64 0), (.int .i64 0), (.sl true [])]), (.row w1 h1z 1 (List.map (Sl.enc (V.int .u8)) h1l) h1x), (.box [(.int .i64 r.2.2.2.2.2.2.2.2.2.1), (.int .i64 r.2.2.2.2.2.2.2.2.2.2.1), (.int .i64 r.2.2.2.2.2.2.2.2.2.2.2.1), (.vw 3 0 0 r.2.2.2.2.2.2.2.2.2.2.2.2.1 1), (.bool r.2.2.2.2.2.2.2.2.2.2.2.2.2.1)]), (.row 0 r.2.2.2.2.2.2.2.2.2.2.2.2.2.2.1 7 (List.map zko.enc r.2.2.2.2.2.2.2.2.2.2.2.2.2.2.2) true)]) : Option (List V × Hp)))) [(0, (.ptr 2 0)), (1, (.vw 1 w1 0 v1len 1)), (19, (.vw 1 w1 1 v19len 1)), (20, (.int .i64 v20)), (21, (.int .i64 0))] [(.box [(.int .i64 0), (.int .i64 0), (.sl true [])]), (.row w1 h1z 1 (List.map (Sl.enc (V.int .u8)) h1l) h1x), (.box [(.int .i64 h2_0), (.int .i64 h2_1), (.int .i64 h2_2), (.sl true []), (.bool h2_4)])]
def zcdl (q : Nat) : Prop := ∀ M, 8 * q ≤ M → ∀ j, q ≤ j → ∀ (w1 v1len v19len : Nat) (v20 v21 : Int) (h1z : Bool) (h1l : List (Sl Int)) (h1x : Bool) (h2_0 h2_1 h2_2 : Int) (h2_4 h3z : Bool) (h3l : List zko) (r : Nat × Int × Int × Int × Int × Int × Bool × Int × Int × Int × Int × Int × Nat × Bool × Bool × (List zko)), znz q v1len v19len v20 v21 h1z h1l h1x h2_0 h2_1 h2_2 h2_4 h3z h3l = some r → LS T (M + 6) 3 [0, 1, 19, 20, 21] [.blk 0, .code (.seq (.reg zbfd) .ret)] zbfc j (finI 3 false [.tmp 4, .tmp 5]) ((if r.1 = 0 then (some ([(.int .i64 r.2.1), (.int .i64 r.2.2.1)], [(.box [(.int .i64 0), (.int .i64 0), (.sl true [])]), (.row w1 h1z 1 (List.map (Sl.enc (V.int .u8)) h1l) h1x), (.box [(.int .i64 r.2.2.2.1), (.int .i64 r.2.2.2.2.1), (.int .i64 r.2.2.2.2.2.1), (.sl true []), (.bool r.2.2.2.2.2.2.1)])]) : Option (List V × Hp)) else (some ([(.int .i64 r.2.2.2.2.2.2.2.1), (.int .i64 r.2.2.2.2.2.2.2.2.1)], [(.box [(.int .i64 0), (.int .i64 0), (.sl true [])]), (.row w1 h1z 1 (List.map (Sl.enc (V.int .u8)) h1l) h1x), (.box [(.int .i64 r.2.2.2.2.2.2.2.2.2.1), (.int .i64 r.2.2.2.2.2.2.2.2.2.2.1), (.int .i64 r.2.2.2.2.2.2.2.2.2.2.2.1), (.vw 3 0 0 r.2.2.2.2.2.2.2.2.2.2.2.2.1 1), (.bool r.2.2.2.2.2.2.2.2.2.2.2.2.2.1)]), (.row 0 r.2.2.2.2.2.2.2.2.2.2.2.2.2.2.1 7 (List.map zko.enc r.2.2.2.2.2.2.2.2.2.2.2.2.2.2.2) true)]) : Option (List V × Hp)))) [(0, (.ptr 2 0)), (1, (.vw 1 w1 0 v1len 1)), (19, (.vw 1 w1 1 v19len 1)), (20, (.int .i64 v20)), (21, (.int .i64 v21))] [(.box [(.int .i64 0), (.int .i64 0), (.sl true [])]), (.row w1 h1z 1 (List.map (Sl.enc (V.int .u8)) h1l) h1x), (.box [(.int .i64 h2_0), (.int .i64 h2_1), (.int .i64 h2_2), (.vw 3 0 0 h3l.length 1), (.bool h2_4)]), (.row 0 h3z 7 (List.map zko.enc h3l) true)]
def zcdm := And.intro @kk <| And.intro @ke <| And.intro @kn <| And.intro @zbzg <| And.intro @zbz7 <| And.intro @zbyi <| And.intro @zbz2 <| And.intro @zbz5 <| And.intro @zb0k <| And.intro @zbz8 <| @zbz9
theorem zcdn (q : Nat) (zcfd : zcdl q) : zcdk (q + 1) := by
 intro M hM j hj w1 v1len v19len v20 h1z h1l h1x h2_0 h2_1 h2_2 h2_4 r h R hR fr H hc
 obtain ⟨j, rfl⟩ : ∃ i, j = i + 1 := ⟨j - 1, by omega⟩
 rw [zhy, hc]; clear hc
 rw [zn0] at h
 repeat' (first | (cases h; done) | (replace h := bb h; rcases h with ⟨_, _, h⟩ | ⟨_, _, h⟩) | (replace h := bn h; obtain ⟨_, h⟩ := h) | (replace h := br h; rcases h with ⟨_, h⟩ | ⟨_, h⟩) | (replace h := ob h; obtain ⟨_, g, h⟩ := h; first | (replace g := zcbl q (M + 5) (by omega) _ _ g; try simp only [kf, simprocAttr] at g) | (replace g := zcch q (M + 5) (by omega) _ _ _ g; try simp only [kf, simprocAttr] at g) | (replace g := zcc2 q (M + 5) (by omega) _ _ _ g; try simp only [kf, simprocAttr] at g) | skip))
 all_goals (first | (cases h; subst hR; simp only [zcdm, simprocAttr, *]) | (replace h := zcfd M (by omega) j (by omega) w1 _ _ _ _ _ _ _ _ _ _ _ _ _ _ h R hR; simp only [zcdm, simprocAttr, *]))
theorem zcdo (q : Nat) (zcfd : zcdl q) : zcdl (q + 1) := by
 intro M hM j hj w1 v1len v19len v20 v21 h1z h1l h1x h2_0 h2_1 h2_2 h2_4 h3z h3l r h R hR fr H hc
 obtain ⟨j, rfl⟩ : ∃ i, j = i + 1 := ⟨j - 1, by omega⟩
 rw [zhy, hc]; clear hc
 rw [znz] at h
 repeat' (first | (cases h; done) | (replace h := bb h; rcases h with ⟨_, _, h⟩ | ⟨_, _, h⟩) | (replace h := bn h; obtain ⟨_, h⟩ := h) | (replace h := br h; rcases h with ⟨_, h⟩ | ⟨_, h⟩) | (replace h := ob h; obtain ⟨_, g, h⟩ := h; first | (replace g := zcbl q (M + 5) (by omega) _ _ g; try simp only [kf, simprocAttr] at g) | (replace g := zcch q (M + 5) (by omega) _ _ _ g; try simp only [kf, simprocAttr] at g) | (replace g := zcc2 q (M + 5) (by omega) _ _ _ g; try simp only [kf, simprocAttr] at g) | skip))
 all_goals (first | (cases h; subst hR; simp only [zcdm, simprocAttr, *]) | (replace h := zcfd M (by omega) j (by omega) w1 _ _ _ _ _ _ _ _ _ _ _ _ _ _ h R hR; simp only [zcdm, simprocAttr, *]))
theorem zcdp : ∀ q, zcdk q ∧ zcdl q
 | 0 => by refine ⟨?_, ?_⟩ <;> (intro M hM j hj; intros; rename_i h; cases h)
 | q + 1 => by have ⟨i0, i1⟩ := zcdp q; exact ⟨zcdn q i1, zcdo q i1⟩
theorem zcdq : ∀ (q M : Nat), 8 * q ≤ M → ∀ (w1 v1len : Nat), ∀ (h1z : Bool), ∀ (h1l : List (Sl Int)), ∀ (h1x : Bool), ∀ (r : Nat × Int × Int × Int × Int × Int × Bool × Int × Int × Int × Int × Int × Nat × Bool × Bool × (List zko)), zn1 q v1len h1z h1l h1x = some r → (orc T (M + 7)).inl F.zp3 [(.ptr 2 0), (.vw 1 w1 0 v1len 1)] [(.box [(.int .i64 0), (.int .i64 0), (.sl true [])]), (.row w1 h1z 1 (List.map (Sl.enc (V.int .u8)) h1l) h1x), (.box [(.int .i64 0), (.int .i64 0), (.int .i64 0), (.sl true []), (.bool false)])] = (if r.1 = 0 then (some ([(.int .i64 r.2.1), (.int .i64 r.2.2.1)], [(.box [(.int .i64 0), (.int .i64 0), (.sl true [])]), (.row w1 h1z 1 (List.map (Sl.enc (V.int .u8)) h1l) h1x), (.box [(.int .i64 r.2.2.2.1), (.int .i64 r.2.2.2.2.1), (.int .i64 r.2.2.2.2.2.1), (.sl true []), (.bool r.2.2.2.2.2.2.1)])]) : Option (List V × Hp)) else (some ([(.int .i64 r.2.2.2.2.2.2.2.1), (.int .i64 r.2.2.2.2.2.2.2.2.1)], [(.box [(.int .i64 0), (.int .i64 0), (.sl true [])]), (.row w1 h1z 1 (List.map (Sl.enc (V.int .u8)) h1l) h1x), (.box [(.int .i64 r.2.2.2.2.2.2.2.2.2.1), (.int .i64 r.2.2.2.2.2.2.2.2.2.2.1), (.int .i64 r.2.2.2.2.2.2.2.2.2.2.2.1), (.vw 3 0 0 r.2.2.2.2.2.2.2.2.2.2.2.2.1 1), (.bool r.2.2.2.2.2.2.2.2.2.2.2.2.2.1)]), (.row 0 r.2.2.2.2.2.2.2.2.2.2.2.2.2.2.1 7 (List.map zko.enc r.2.2.2.2.2.2.2.2.2.2.2.2.2.2.2) true)]) : Option (List V × Hp))) := by
 intro q M hM w1 v1len h1z h1l h1x r h
 rcases q with _ | q
 ·cases h
 have ih_segment_decode_s0_l0 := (zcdp q).1
 refine byR fun R hR => ?_
 rw [zbzi (n := M + 6)]
 rw [zn1] at h
 replace h := bn h; obtain ⟨h1, h⟩ := h
 replace h := ob h; obtain ⟨e1, h2, h⟩ := h
 replace h := ob h; obtain ⟨r2, h3, h⟩ := h
 replace h3 := zcdj q M (by omega) w1 _ _ _ _ _ _ h3
 try simp only [kf, simprocAttr] at h3
 replace h := br h; rcases h with ⟨h4, h⟩ | ⟨h4, h⟩
 ·replace h := bn h; obtain ⟨h5, h⟩ := h
  replace h := ih_segment_decode_s0_l0 M (by omega) (M + 6) (by omega) w1 _ _ _ _ _ _ _ _ _ _ _ h R hR
  simp only [zcdm, simprocAttr, *]
 ·cases h; subst hR; simp only [zcdm, simprocAttr, *]
def zcdr (q : Nat) : Prop := ∀ M, 8 * q ≤ M → ∀ j, q ≤ j → ∀ (w1 : Nat) (v1z : Bool) (v1l : List Int) (v19 : Int) (h1z : Bool) (h1l : List (Sl Int)) (h1x : Bool) (h3_0 h3_1 h3_2 : Int) (r : Int × Int × Int × Int × Bool), zn2 q v1z v1l v19 h1z h1l h1x h3_0 h3_1 h3_2 = some r → LS T (M + 5) 3 [0, 1, 5, 19] [.blk 0, .code zbjd] zbi3 j (finI 3 false [.tmp 4]) ((some ([(.int .i64 r.1)], [(.box [(.int .i64 0), (.int .i64 0), (.sl true [])]), (.row w1 h1z 1 (List.map (Sl.enc (V.int .u8)) h1l) h1x), (.box [(.int .i64 r.2.1), (.int .i64 r.2.2.1), (.int .i64 r.2.2.2.1), (.sl true []), (.bool r.2.2.2.2)])]) : Option (List V × Hp))) [(0, (.ptr 2 0)), (1, (.sl v1z (List.map (V.int .u8) v1l))), (5, (.ptr 3 0)), (19, (.int .i64 v19))] [(.box [(.int .i64 0), (.int .i64 0), (.sl true [])]), (.row w1 h1z 1 (List.map (Sl.enc (V.int .u8)) h1l) h1x), (.box [(.int .i64 0), (.int .i64 0), (.int .i64 0), (.sl true []), (.bool false)]), (.box [(.int .i64 h3_0), (.int .i64 h3_1), (.int .i64 h3_2)])]
def zcds := And.intro @kk <| And.intro @ke <| And.intro @kn <| And.intro @zbz4 <| And.intro @zbwf <| @zbyc
theorem zcdt (q : Nat) (zcfe : zcdr q) : zcdr (q + 1) := by
 intro M hM j hj w1 v1z v1l v19 h1z h1l h1x h3_0 h3_1 h3_2 r h R hR fr H hc
 obtain ⟨j, rfl⟩ : ∃ i, j = i + 1 := ⟨j - 1, by omega⟩
 rw [zhy, hc]; clear hc
 rw [zn2] at h
 replace h := br h; rcases h with ⟨h1, h⟩ | ⟨h1, h⟩
 ·replace h := ob h; obtain ⟨r2, h2, h⟩ := h
  replace h2 := zb9r q (M + 5) (by omega) _ _ h2
  try simp only [kf, simprocAttr] at h2
  replace h := bn h; obtain ⟨h3, h⟩ := h
  replace h := bn h; obtain ⟨h4, h⟩ := h
  replace h := bc h; rcases h with ⟨h5, h⟩ | ⟨h5, h⟩
  ·replace h := br h; rcases h with ⟨h6, h⟩ | ⟨h6, h⟩
   ·cases h; subst hR; simp only [zcds, simprocAttr, *]
   ·replace h := bn h; obtain ⟨h7, h⟩ := h
    replace h := bn h; obtain ⟨h8, h⟩ := h
    replace h := zcfe M (by omega) j (by omega) w1 _ _ _ _ _ _ _ _ _ _ h R hR
    simp only [zcds, simprocAttr, *]
  ·replace h := bc h; rcases h with ⟨h9, h⟩ | ⟨h9, h⟩
   ·replace h := br h; rcases h with ⟨h10, h⟩ | ⟨h10, h⟩
    ·cases h; subst hR; simp only [zcds, simprocAttr, *]
    ·replace h := bn h; obtain ⟨h11, h⟩ := h
     replace h := bn h; obtain ⟨h12, h⟩ := h
     replace h := zcfe M (by omega) j (by omega) w1 _ _ _ _ _ _ _ _ _ _ h R hR
     simp only [zcds, simprocAttr, *]
   ·replace h := bc h; rcases h with ⟨h13, h⟩ | ⟨h13, h⟩
    ·replace h := br h; rcases h with ⟨h14, h⟩ | ⟨h14, h⟩
     ·cases h; subst hR; simp only [zcds, simprocAttr, *]
     ·replace h := bn h; obtain ⟨h15, h⟩ := h
      replace h := bn h; obtain ⟨h16, h⟩ := h
      replace h := zcfe M (by omega) j (by omega) w1 _ _ _ _ _ _ _ _ _ _ h R hR
      simp only [zcds, simprocAttr, *]
    ·cases h
 ·replace h := br h; rcases h with ⟨h17, h⟩ | ⟨h17, h⟩
  ·cases h; subst hR; simp only [zcds, simprocAttr, *]
  ·replace h := ob h; obtain ⟨r3, h18, h⟩ := h
   replace h18 := zcav q (M + 5) (by omega) _ _ h18
   replace h := bb h; rcases h with ⟨h19', h19, h⟩ | ⟨h19', h19, h⟩
   ·replace h := br h; rcases h with ⟨h20, h⟩ | ⟨h20, h⟩
    ·cases h; subst hR; simp only [zcds, simprocAttr, *]
    ·cases h; subst hR; simp only [zcds, simprocAttr, *]
   ·cases h; subst hR; simp only [zcds, simprocAttr, *]
theorem zcdu : ∀ q, zcdr q
 | 0 => by intro M hM j hj; intros; rename_i h; cases h
 | q + 1 => by have i0 := zcdu q; exact zcdt q i0
theorem zcdv : ∀ (q M : Nat), 8 * q ≤ M → ∀ (w1 : Nat), ∀ (v1z : Bool), ∀ (v1l : List Int), ∀ (h1z : Bool), ∀ (h1l : List (Sl Int)), ∀ (h1x : Bool), ∀ (r : Int × Int × Int × Int × Bool), zn3 q v1z v1l h1z h1l h1x = some r → (orc T (M + 6)).inl F.zp4 [(.ptr 2 0), (.sl v1z (List.map (V.int .u8) v1l))] [(.box [(.int .i64 0), (.int .i64 0), (.sl true [])]), (.row w1 h1z 1 (List.map (Sl.enc (V.int .u8)) h1l) h1x), (.box [(.int .i64 0), (.int .i64 0), (.int .i64 0), (.sl true []), (.bool false)])] = (some ([(.int .i64 r.1)], [(.box [(.int .i64 0), (.int .i64 0), (.sl true [])]), (.row w1 h1z 1 (List.map (Sl.enc (V.int .u8)) h1l) h1x), (.box [(.int .i64 r.2.1), (.int .i64 r.2.2.1), (.int .i64 r.2.2.2.1), (.sl true []), (.bool r.2.2.2.2)])]) : Option (List V × Hp)) := by
 intro q M hM w1 v1z v1l h1z h1l h1x r h
 rcases q with _ | q
 ·cases h
 have zcfe := (zcdu q)
 refine byR fun R hR => ?_
 rw [zbz6 (n := M + 5)]
 rw [zn3] at h
 replace h := br h; rcases h with ⟨h1, h⟩ | ⟨h1, h⟩
 ·cases h; subst hR; simp only [zcds, simprocAttr, *]
 ·replace h := ob h; obtain ⟨e1, h2, h⟩ := h
  replace h := br h; rcases h with ⟨h3, h⟩ | ⟨h3, h⟩
  ·replace h := bn h; obtain ⟨h4, h⟩ := h
   replace h := zcfe M (by omega) (M + 5) (by omega) w1 _ _ _ _ _ _ _ _ _ _ h R hR
   simp only [zcds, simprocAttr, *]
  ·cases h; subst hR; simp only [zcds, simprocAttr, *]
def zcdw (q : Nat) : Prop := ∀ M, 8 * q ≤ M → ∀ j, q ≤ j → ∀ (w1 v1len v19len : Nat) (v20 : Int) (h1z : Bool) (h1l : List (Sl Int)) (h1x : Bool) (h2_0 h2_1 h2_2 : Int) (h2_4 : Bool) (r : Nat × Int × Int × Int × Int × Int × Bool × Int × Int × Int × Int × Int × Nat × Bool × Bool × (List zko)), zn5 q v1len v19len v20 h1z h1l h1x h2_0 h2_1 h2_2 h2_4 = some r → LS T (M + 6) 3 [0, 1, 19, 20, 21] [.blk 0, .code (.seq (.reg zbfd) .ret)] zbfc j (finI 3 false [.tmp 4, .tmp 5]) ((if r.1 = 0 then (some ([(.int .i64 r.2.1), (.int .i64 r.2.2.1)], [(.box [(.int .i64 0), (.int .i64 0), (.sl true [])]), (.row w1 h1z 1 (List.map (Sl.enc (V.int .u8)) h1l) h1x), (.box [(.int .i64 r.2.2.2.1), (.int .i64 r.2.2.2.2.1), (.int .i64 r.2.2.2.2.2.1), (.sl true []), (.bool r.2.2.2.2.2.2.1)])]) : Option (List V × Hp)) else (some ([(.int .i64 r.2.2.2.2.2.2.2.1), (.int .i64 r.2.2.2.2.2.2.2.2.1)], [(.box [(.int .i64 0), (.int .i64 0), (.sl true [])]), (.row w1 h1z 1 (List.map (Sl.enc (V.int .u8)) h1l) h1x), (.box [(.int .i64 r.2.2.2.2.2.2.2.2.2.1), (.int .i64 r.2.2.2.2.2.2.2.2.2.2.1), (.int .i64 r.2.2.2.2.2.2.2.2.2.2.2.1), (.vw 3 0 0 r.2.2.2.2.2.2.2.2.2.2.2.2.1 1), (.bool r.2.2.2.2.2.2.2.2.2.2.2.2.2.1)]), (.row 0 r.2.2.2.2.2.2.2.2.2.2.2.2.2.2.1 7 (List.map zko.enc r.2.2.2.2.2.2.2.2.2.2.2.2.2.2.2) true)]) : Option (List V × Hp)))) [(0, (.ptr 2 0)), (1, (.vw 1 w1 0 v1len 0)), (19, (.vw 1 w1 1 v19len 0)), (20, (.int .i64 v20)), (21, (.int .i64 0))] [(.box [(.int .i64 0), (.int .i64 0), (.sl true [])]), (.row w1 h1z 1 (List.map (Sl.enc (V.int .u8)) h1l) h1x), (.box [(.int .i64 h2_0), (.int .i64 h2_1), (.int .i64 h2_2), (.sl true []), (.bool h2_4)])]
def zcdx (q : Nat) : Prop := ∀ M, 8 * q ≤ M → ∀ j, q ≤ j → ∀ (w1 v1len v19len : Nat) (v20 v21 : Int) (h1z : Bool) (h1l : List (Sl Int)) (h1x : Bool) (h2_0 h2_1 h2_2 : Int) (h2_4 h3z : Bool) (h3l : List zko) (r : Nat × Int × Int × Int × Int × Int × Bool × Int × Int × Int × Int × Int × Nat × Bool × Bool × (List zko)), zn4 q v1len v19len v20 v21 h1z h1l h1x h2_0 h2_1 h2_2 h2_4 h3z h3l = some r → LS T (M + 6) 3 [0, 1, 19, 20, 21] [.blk 0, .code (.seq (.reg zbfd) .ret)] zbfc j (finI 3 false [.tmp 4, .tmp 5]) ((if r.1 = 0 then (some ([(.int .i64 r.2.1), (.int .i64 r.2.2.1)], [(.box [(.int .i64 0), (.int .i64 0), (.sl true [])]), (.row w1 h1z 1 (List.map (Sl.enc (V.int .u8)) h1l) h1x), (.box [(.int .i64 r.2.2.2.1), (.int .i64 r.2.2.2.2.1), (.int .i64 r.2.2.2.2.2.1), (.sl true []), (.bool r.2.2.2.2.2.2.1)])]) : Option (List V × Hp)) else (some ([(.int .i64 r.2.2.2.2.2.2.2.1), (.int .i64 r.2.2.2.2.2.2.2.2.1)], [(.box [(.int .i64 0), (.int .i64 0), (.sl true [])]), (.row w1 h1z 1 (List.map (Sl.enc (V.int .u8)) h1l) h1x), (.box [(.int .i64 r.2.2.2.2.2.2.2.2.2.1), (.int .i64 r.2.2.2.2.2.2.2.2.2.2.1), (.int .i64 r.2.2.2.2.2.2.2.2.2.2.2.1), (.vw 3 0 0 r.2.2.2.2.2.2.2.2.2.2.2.2.1 1), (.bool r.2.2.2.2.2.2.2.2.2.2.2.2.2.1)]), (.row 0 r.2.2.2.2.2.2.2.2.2.2.2.2.2.2.1 7 (List.map zko.enc r.2.2.2.2.2.2.2.2.2.2.2.2.2.2.2) true)]) : Option (List V × Hp)))) [(0, (.ptr 2 0)), (1, (.vw 1 w1 0 v1len 0)), (19, (.vw 1 w1 1 v19len 0)), (20, (.int .i64 v20)), (21, (.int .i64 v21))] [(.box [(.int .i64 0), (.int .i64 0), (.sl true [])]), (.row w1 h1z 1 (List.map (Sl.enc (V.int .u8)) h1l) h1x), (.box [(.int .i64 h2_0), (.int .i64 h2_1), (.int .i64 h2_2), (.vw 3 0 0 h3l.length 1), (.bool h2_4)]), (.row 0 h3z 7 (List.map zko.enc h3l) true)]
def zcdy := And.intro @kk <| And.intro @ke <| And.intro @kn <| And.intro @zbzg <| And.intro @zbz7 <| And.intro @zbyi <| And.intro @zbz2 <| And.intro @zbz5 <| And.intro @zb0k <| And.intro @zbz8 <| @zbz9
theorem zcdz (q : Nat) (zcff : zcdx q) : zcdw (q + 1) := by
 intro M hM j hj w1 v1len v19len v20 h1z h1l h1x h2_0 h2_1 h2_2 h2_4 r h R hR fr H hc
 obtain ⟨j, rfl⟩ : ∃ i, j = i + 1 := ⟨j - 1, by omega⟩
 rw [zhy, hc]; clear hc
 rw [zn5] at h
 repeat' (first | (cases h; done) | (replace h := bb h; rcases h with ⟨_, _, h⟩ | ⟨_, _, h⟩) | (replace h := bn h; obtain ⟨_, h⟩ := h) | (replace h := br h; rcases h with ⟨_, h⟩ | ⟨_, h⟩) | (replace h := ob h; obtain ⟨_, g, h⟩ := h; first | (replace g := zcbl q (M + 5) (by omega) _ _ g; try simp only [kf, simprocAttr] at g) | (replace g := zcch q (M + 5) (by omega) _ _ _ g; try simp only [kf, simprocAttr] at g) | (replace g := zcc2 q (M + 5) (by omega) _ _ _ g; try simp only [kf, simprocAttr] at g) | skip))
 all_goals (first | (cases h; subst hR; simp only [zcdy, simprocAttr, *]) | (replace h := zcff M (by omega) j (by omega) w1 _ _ _ _ _ _ _ _ _ _ _ _ _ _ h R hR; simp only [zcdy, simprocAttr, *]))
theorem zcd0 (q : Nat) (zcff : zcdx q) : zcdx (q + 1) := by
 intro M hM j hj w1 v1len v19len v20 v21 h1z h1l h1x h2_0 h2_1 h2_2 h2_4 h3z h3l r h R hR fr H hc
 obtain ⟨j, rfl⟩ : ∃ i, j = i + 1 := ⟨j - 1, by omega⟩
 rw [zhy, hc]; clear hc
 rw [zn4] at h
 repeat' (first | (cases h; done) | (replace h := bb h; rcases h with ⟨_, _, h⟩ | ⟨_, _, h⟩) | (replace h := bn h; obtain ⟨_, h⟩ := h) | (replace h := br h; rcases h with ⟨_, h⟩ | ⟨_, h⟩) | (replace h := ob h; obtain ⟨_, g, h⟩ := h; first | (replace g := zcbl q (M + 5) (by omega) _ _ g; try simp only [kf, simprocAttr] at g) | (replace g := zcch q (M + 5) (by omega) _ _ _ g; try simp only [kf, simprocAttr] at g) | (replace g := zcc2 q (M + 5) (by omega) _ _ _ g; try simp only [kf, simprocAttr] at g) | skip))
 all_goals (first | (cases h; subst hR; simp only [zcdy, simprocAttr, *]) | (replace h := zcff M (by omega) j (by omega) w1 _ _ _ _ _ _ _ _ _ _ _ _ _ _ h R hR; simp only [zcdy, simprocAttr, *]))
theorem zcd1 : ∀ q, zcdw q ∧ zcdx q
 | 0 => by refine ⟨?_, ?_⟩ <;> (intro M hM j hj; intros; rename_i h; cases h)
 | q + 1 => by have ⟨i0, i1⟩ := zcd1 q; exact ⟨zcdz q i1, zcd0 q i1⟩
theorem zcd2 : ∀ (q M : Nat), 8 * q ≤ M → ∀ (w1 v1len : Nat), ∀ (h1z : Bool), ∀ (h1l : List (Sl Int)), ∀ (h1x : Bool), ∀ (r : Nat × Int × Int × Int × Int × Int × Bool × Int × Int × Int × Int × Int × Nat × Bool × Bool × (List zko)), zn6 q v1len h1z h1l h1x = some r → (orc T (M + 7)).inl F.zp3 [(.ptr 2 0), (.vw 1 w1 0 v1len 0)] [(.box [(.int .i64 0), (.int .i64 0), (.sl true [])]), (.row w1 h1z 1 (List.map (Sl.enc (V.int .u8)) h1l) h1x), (.box [(.int .i64 0), (.int .i64 0), (.int .i64 0), (.sl true []), (.bool false)])] = (if r.1 = 0 then (some ([(.int .i64 r.2.1), (.int .i64 r.2.2.1)], [(.box [(.int .i64 0), (.int .i64 0), (.sl true [])]), (.row w1 h1z 1 (List.map (Sl.enc (V.int .u8)) h1l) h1x), (.box [(.int .i64 r.2.2.2.1), (.int .i64 r.2.2.2.2.1), (.int .i64 r.2.2.2.2.2.1), (.sl true []), (.bool r.2.2.2.2.2.2.1)])]) : Option (List V × Hp)) else (some ([(.int .i64 r.2.2.2.2.2.2.2.1), (.int .i64 r.2.2.2.2.2.2.2.2.1)], [(.box [(.int .i64 0), (.int .i64 0), (.sl true [])]), (.row w1 h1z 1 (List.map (Sl.enc (V.int .u8)) h1l) h1x), (.box [(.int .i64 r.2.2.2.2.2.2.2.2.2.1), (.int .i64 r.2.2.2.2.2.2.2.2.2.2.1), (.int .i64 r.2.2.2.2.2.2.2.2.2.2.2.1), (.vw 3 0 0 r.2.2.2.2.2.2.2.2.2.2.2.2.1 1), (.bool r.2.2.2.2.2.2.2.2.2.2.2.2.2.1)]), (.row 0 r.2.2.2.2.2.2.2.2.2.2.2.2.2.2.1 7 (List.map zko.enc r.2.2.2.2.2.2.2.2.2.2.2.2.2.2.2) true)]) : Option (List V × Hp))) := by
 intro q M hM w1 v1len h1z h1l h1x r h
 rcases q with _ | q
 ·cases h
 have ih_segment_decode_s1_l0 := (zcd1 q).1
 refine byR fun R hR => ?_
 rw [zbzi (n := M + 6)]
 rw [zn6] at h
 replace h := bn h; obtain ⟨h1, h⟩ := h
 replace h := ob h; obtain ⟨e1, h2, h⟩ := h
 replace h := ob h; obtain ⟨r2, h3, h⟩ := h
 replace h3 := zcdv q M (by omega) w1 _ _ _ _ _ _ h3
 try simp only [kf, simprocAttr] at h3
 replace h := br h; rcases h with ⟨h4, h⟩ | ⟨h4, h⟩
 ·replace h := bn h; obtain ⟨h5, h⟩ := h
  replace h := ih_segment_decode_s1_l0 M (by omega) (M + 6) (by omega) w1 _ _ _ _ _ _ _ _ _ _ _ h R hR
  simp only [zcdy, simprocAttr, *]
 ·cases h; subst hR; simp only [zcdy, simprocAttr, *]
def zcd3 := And.intro @kk <| And.intro @ke <| And.intro @kn <| And.intro @zbyn <| And.intro @zbyf <| And.intro @zbyl <| And.intro @zbyr <| And.intro @zbzh <| And.intro @zbzk <| And.intro @zbzn <| @zbyp
theorem zcd4 : ∀ (q N : Nat), 8 * q ≤ N → ∀ (a0 : (Sl Int)), ∀ (r : zkq × (Ow (Sl Int)) × Int), zn7 q a0 = some r → (orc T N).deep F.zn7 [(Sl.enc (V.int .u8)) a0] = some [zkq.enc r.1, (Ow.enc 1 (Sl.enc (V.int .u8))) r.2.1, (V.int .i64) r.2.2] := by
 intro q N hM a0 r h
 rcases q with _ | q
 ·cases h
 obtain ⟨M, rfl⟩ : ∃ M, N = M + 8 := ⟨N - 8, by omega⟩
 refine byR fun R hR => ?_
 rw [zh8, zbrr, y4, zh6 zbaq rfl]
 rw [zn7] at h
 repeat' (first | (cases h; done) | (replace h := bb h; rcases h with ⟨_, _, h⟩ | ⟨_, _, h⟩) | (replace h := bn h; obtain ⟨_, h⟩ := h) | (replace h := br h; rcases h with ⟨_, h⟩ | ⟨_, h⟩) | (replace h := ob h; obtain ⟨_, g, h⟩ := h; first | (replace g := zcat q (M + 7) (by omega) _ _ g; try simp only [kf, simprocAttr] at g) | (replace g := zcdq q M (by omega) 0 _ _ _ _ _ g; try simp only [kf, simprocAttr] at g) | (replace g := zcc9 q (M + 7) (by omega) _ _ g; try simp only [kf, simprocAttr] at g) | (replace g := zcde q (M + 7) (by omega) _ _ g; try simp only [kf, simprocAttr] at g) | (replace g := zcc4 q (M + 7) (by omega) _ _ g; try simp only [kf, simprocAttr] at g) | (replace g := zcbg q (M + 7) (by omega) _ _ _ g; try simp only [kf, simprocAttr] at g) | (replace g := zcd2 q M (by omega) 0 _ _ _ _ _ g; try simp only [kf, simprocAttr] at g) | skip))
 all_goals (cases h; subst hR; simp only [zcd3, simprocAttr, *])
def zcd5 := And.intro @kk <| And.intro @ke <| And.intro @kn <| And.intro @zbwt <| And.intro @zbyo <| @zbwv
theorem zcd6 : ∀ (q N : Nat), 8 * q ≤ N → ∀ (a0 : (Sl Int)), ∀ (r : zkq × Int), zn8 q a0 = some r → (orc T N).deep F.zn8 [(Sl.enc (V.int .u8)) a0] = some [zkq.enc r.1, (V.int .i64) r.2] := by
 intro q N hM a0 r h
 rcases q with _ | q
 ·cases h
 obtain ⟨M, rfl⟩ : ∃ M, N = M + 8 := ⟨N - 8, by omega⟩
 refine byR fun R hR => ?_
 rw [zh8, zbqp, y4, zh6 z02 rfl]
 rw [zn8] at h
 replace h := ob h; obtain ⟨r1, h1, h⟩ := h
 replace h1 := zcd4 q (M + 7) (by omega) _ _ h1
 try simp only [kf, simprocAttr] at h1
 cases h; subst hR; simp only [zcd5, simprocAttr, *]
def zcd7 (q : Nat) : Prop := ∀ M, 8 * q ≤ M → ∀ j, q ≤ j → ∀ (v0z : Bool) (v0l : List Int) (v3 v7 v8 r : Int), zn9 q v0z v0l v3 v7 v8 = some r → LS T (M + 7) 0 [0, 3, 7, 8] [.blk 0, .code (.seq (.reg zbgk) .ret)] zbgj j (fin zbgn) (some [(V.int .u64) r]) [(0, (.sl v0z (List.map (V.int .u8) v0l))), (3, (.int .u64 v3)), (7, (.int .i64 v7)), (8, (.int .i64 v8))] []
def zcd8 := And.intro @kk <| And.intro @ke <| And.intro @kn <| And.intro @zbzs <| @zbzu
theorem zcd9 (q : Nat) (zcfg : zcd7 q) : zcd7 (q + 1) := by
 intro M hM j hj v0z v0l v3 v7 v8 r h R hR fr H hc
 obtain ⟨j, rfl⟩ : ∃ i, j = i + 1 := ⟨j - 1, by omega⟩
 rw [zhy, hc]; clear hc
 rw [zn9] at h
 replace h := br h; rcases h with ⟨h1, h⟩ | ⟨h1, h⟩
 ·replace h := bn h; obtain ⟨h2, h⟩ := h
  replace h := ob h; obtain ⟨e1, h3, h⟩ := h
  replace h := bm h; obtain ⟨h4, h⟩ := h
  replace h := zcfg M (by omega) j (by omega) _ _ _ _ _ _ h R hR
  simp only [zcd8, simprocAttr, *]
 ·cases h; subst hR; simp only [zcd8, simprocAttr, *]
theorem zcea : ∀ q, zcd7 q
 | 0 => by intro M hM j hj; intros; rename_i h; cases h
 | q + 1 => by have i0 := zcea q; exact zcd9 q i0
theorem zceb : ∀ (q N : Nat), 8 * q ≤ N → ∀ (a0 : (Sl Int)), ∀ (r : Int), zoa q a0 = some r → (orc T N).deep F.zoa [(Sl.enc (V.int .u8)) a0] = some [(V.int .u64) r] := by
 intro q N hM a0 r h
 rcases q with _ | q
 ·cases h
 obtain ⟨M, rfl⟩ : ∃ M, N = M + 8 := ⟨N - 8, by omega⟩
 have zcfg := (zcea q)
 refine byR fun R hR => ?_
 rw [zh8, zbr8, y4, zh6 zbgn rfl]
 rw [zoa] at h
 replace h := zcfg M (by omega) (M + 7) (by omega) _ _ _ _ _ _ h R hR
 simp only [zcd8, simprocAttr, *]
def zcec := And.intro @kk <| And.intro @ke <| And.intro @kn <| And.intro @zbyt <| And.intro @zbwf <| And.intro @zbzt <| @zbyv
theorem zced : ∀ (q N : Nat), 8 * q ≤ N → ∀ (a0 : (Sl Int)), ∀ (r : zks × Int), zob q a0 = some r → (orc T N).deep F.zob [(Sl.enc (V.int .u8)) a0] = some [zks.enc r.1, (V.int .i64) r.2] := by
 intro q N hM a0 r h
 rcases q with _ | q
 ·cases h
 obtain ⟨M, rfl⟩ : ∃ M, N = M + 8 := ⟨N - 8, by omega⟩
 refine byR fun R hR => ?_
 rw [zh8, zbrt, y4, zh6 zbbn rfl]
 rw [zob] at h
 repeat' (first | (cases h; done) | (replace h := bn h; obtain ⟨_, h⟩ := h) | (replace h := br h; rcases h with ⟨_, h⟩ | ⟨_, h⟩) | (replace h := ob h; obtain ⟨_, g, h⟩ := h; first | (replace g := zb9r q (M + 7) (by omega) _ _ g; try simp only [kf, simprocAttr] at g) | (replace g := zceb q (M + 7) (by omega) _ _ g; try simp only [kf, simprocAttr] at g) | skip))
 all_goals (cases h; subst hR; simp only [zcec, simprocAttr, *])
def zcee (q : Nat) : Prop := ∀ M, 8 * q ≤ M → ∀ j, q ≤ j → ∀ (v0z : Bool) (v0l : List (Sl Int)) (v5z : Bool) (v5l : List (Sl Int)) (v6 v7 : Int) (r : Bool), zoc q v0z v0l v5z v5l v6 v7 = some r → LS T (M + 7) 0 [0, 5, 6, 7] [.blk 0, .code (.seq (.reg zbbx) .ret)] zbbw j (fin zbb0) (some [V.bool r]) [(0, (.sl v0z (List.map (Sl.enc (V.int .u8)) v0l))), (5, (.sl v5z (List.map (Sl.enc (V.int .u8)) v5l))), (6, (.int .i64 v6)), (7, (.int .i64 v7))] []
def zcef := And.intro @kk <| And.intro @ke <| And.intro @kn <| And.intro @zbyw <| @zbyy
theorem zceg (q : Nat) (zcfh : zcee q) : zcee (q + 1) := by
 intro M hM j hj v0z v0l v5z v5l v6 v7 r h R hR fr H hc
 obtain ⟨j, rfl⟩ : ∃ i, j = i + 1 := ⟨j - 1, by omega⟩
 rw [zhy, hc]; clear hc
 rw [zoc] at h
 repeat' (first | (cases h; done) | (replace h := bn h; obtain ⟨_, h⟩ := h) | (replace h := br h; rcases h with ⟨_, h⟩ | ⟨_, h⟩) | (replace h := ob h; obtain ⟨_, g, h⟩ := h))
 all_goals (first | (cases h; subst hR; simp only [zcef, simprocAttr, *]) | (replace h := zcfh M (by omega) j (by omega) _ _ _ _ _ _ _ h R hR; simp only [zcef, simprocAttr, *]))
theorem zceh : ∀ q, zcee q
 | 0 => by intro M hM j hj; intros; rename_i h; cases h
 | q + 1 => by have i0 := zceh q; exact zceg q i0
theorem zcei : ∀ (q N : Nat), 8 * q ≤ N → ∀ (a0 : (Sl (Sl Int))), ∀ (r : Bool), zod q a0 = some r → (orc T N).deep F.zod [(Sl.enc (Sl.enc (V.int .u8))) a0] = some [V.bool r] := by
 intro q N hM a0 r h
 rcases q with _ | q
 ·cases h
 obtain ⟨M, rfl⟩ : ∃ M, N = M + 8 := ⟨N - 8, by omega⟩
 have zcfh := (zceh q)
 refine byR fun R hR => ?_
 rw [zh8, zbru, y4, zh6 zbb0 rfl]
 rw [zod] at h
 replace h := zcfh M (by omega) (M + 7) (by omega) _ _ _ _ _ _ _ h R hR
 simp only [zcef, simprocAttr, *]
def zcej (q : Nat) : Prop := ∀ M, 8 * q ≤ M → ∀ j, q ≤ j → ∀ (v42 : Int) (h1_0z : Bool) (h1_0l : List Int) (h2_0 : Bool) (h3_0 : Int) (h3_2 : Bool) (h3_3 : Int) (r : zkk × Int), zof q v42 h1_0z h1_0l h2_0 h3_0 h3_2 h3_3 = some r → LS T (M + 7) 0 [2, 4, 5, 6, 10, 42, 43] [.blk 0, .code (.seq (.blk 2 (.seq (.reg zbg2) zbg6)) (.seq (.reg zbg7) .ret))] zbg1 j (fin zbhc) (some [zkk.enc r.1, (V.int .i64) r.2]) [(2, (.ptr 0 0)), (4, (.fn F.zp7 [(.ptr 1 0), (.ptr 2 0)])), (5, (.fn F.zp8 [(.ptr 2 0)])), (6, (.fn F.zp9 [(.ptr 1 0)])), (10, (.ptr 3 0)), (42, (.int .i64 v42)), (43, (.int .i64 0))] [(.box [(.int .i64 0), (.sl true []), (.bool false), (.int .i64 0)]), (.box [(.sl h1_0z (List.map (V.int .u8) h1_0l))]), (.box [(.bool h2_0)]), (.box [(.int .i64 h3_0), (.sl true []), (.bool h3_2), (.int .i64 h3_3)])]
def zcek (q : Nat) : Prop := ∀ M, 8 * q ≤ M → ∀ j, q ≤ j → ∀ (v42 v43 : Int) (h1_0z : Bool) (h1_0l : List Int) (h2_0 : Bool) (h3_0 : Int) (h3_2 : Bool) (h3_3 : Int) (h4l : List Int) (r : zkk × Int), zoe q v42 v43 h1_0z h1_0l h2_0 h3_0 h3_2 h3_3 h4l = some r → LS T (M + 7) 0 [2, 4, 5, 6, 10, 42, 43] [.blk 0, .code (.seq (.blk 2 (.seq (.reg zbg2) zbg6)) (.seq (.reg zbg7) .ret))] zbg1 j (fin zbhc) (some [zkk.enc r.1, (V.int .i64) r.2]) [(2, (.ptr 0 0)), (4, (.fn F.zp7 [(.ptr 1 0), (.ptr 2 0)])), (5, (.fn F.zp8 [(.ptr 2 0)])), (6, (.fn F.zp9 [(.ptr 1 0)])), (10, (.ptr 3 0)), (42, (.int .i64 v42)), (43, (.int .i64 v43))] [(.box [(.int .i64 0), (.sl true []), (.bool false), (.int .i64 0)]), (.box [(.sl h1_0z (List.map (V.int .u8) h1_0l))]), (.box [(.bool h2_0)]), (.box [(.int .i64 h3_0), (.vw 4 0 0 h4l.length 1), (.bool h3_2), (.int .i64 h3_3)]), (.row 0 false 1 (List.map (V.int .i64) h4l) true)]
def zcel := And.intro @kk <| And.intro @ke <| And.intro @kn <| And.intro @zbzv <| And.intro @zb0a <| And.intro @zb0m <| And.intro @zb0p <| And.intro @zb0s <| And.intro @zbtp <| And.intro @zbwf <| And.intro @zbx3 <| And.intro @zb0b <| And.intro @zb0c <| And.intro @zb0n <| And.intro @zb0o <| And.intro @zb0q <| And.intro @zb0r <| And.intro @zb0t <| And.intro @zb0u <| @zbzx
theorem zcem (q : Nat) (zcfi : zcek q) : zcej (q + 1) := by
 intro M hM j hj v42 h1_0z h1_0l h2_0 h3_0 h3_2 h3_3 r h R hR fr H hc
 obtain ⟨j, rfl⟩ : ∃ i, j = i + 1 := ⟨j - 1, by omega⟩
 rw [zhy, hc]; clear hc
 rw [zof] at h
 repeat' (first | (cases h; done) | (replace h := bb h; rcases h with ⟨_, _, h⟩ | ⟨_, _, h⟩) | (replace h := bn h; obtain ⟨_, h⟩ := h) | (replace h := br h; rcases h with ⟨_, h⟩ | ⟨_, h⟩) | (replace h := ob h; obtain ⟨_, g, h⟩ := h; first | (replace g := zb94 q (M + 6) (by omega) _ _ g; try simp only [kf, simprocAttr] at g) | (replace g := zb6a q (M + 7) (by omega) _ _ g; try simp only [kf, simprocAttr] at g) | skip))
 all_goals (first | (cases h; subst hR; simp only [zcel, simprocAttr, *]) | (replace h := zcfi M (by omega) j (by omega) _ _ _ _ _ _ _ _ _ _ h R hR; simp only [zcel, simprocAttr, *]))
theorem zcen (q : Nat) (zcfi : zcek q) : zcek (q + 1) := by
 intro M hM j hj v42 v43 h1_0z h1_0l h2_0 h3_0 h3_2 h3_3 h4l r h R hR fr H hc
 obtain ⟨j, rfl⟩ : ∃ i, j = i + 1 := ⟨j - 1, by omega⟩
 rw [zhy, hc]; clear hc
 rw [zoe] at h
 repeat' (first | (cases h; done) | (replace h := bb h; rcases h with ⟨_, _, h⟩ | ⟨_, _, h⟩) | (replace h := bn h; obtain ⟨_, h⟩ := h) | (replace h := br h; rcases h with ⟨_, h⟩ | ⟨_, h⟩) | (replace h := ob h; obtain ⟨_, g, h⟩ := h; first | (replace g := zb94 q (M + 6) (by omega) _ _ g; try simp only [kf, simprocAttr] at g) | (replace g := zb6a q (M + 7) (by omega) _ _ g; try simp only [kf, simprocAttr] at g) | skip))
 all_goals (first | (cases h; subst hR; simp only [zcel, simprocAttr, *]) | (replace h := zcfi M (by omega) j (by omega) _ _ _ _ _ _ _ _ _ _ h R hR; simp only [zcel, simprocAttr, *]))
theorem zceo : ∀ q, zcej q ∧ zcek q
 | 0 => by refine ⟨?_, ?_⟩ <;> (intro M hM j hj; intros; rename_i h; cases h)
 | q + 1 => by have ⟨i0, i1⟩ := zceo q; exact ⟨zcem q i1, zcen q i1⟩
theorem zcep : ∀ (q N : Nat), 8 * q ≤ N → ∀ (a0 : (Sl Int)), ∀ (r : zkk × Int), zog q a0 = some r → (orc T N).deep F.zog [(Sl.enc (V.int .u8)) a0] = some [zkk.enc r.1, (V.int .i64) r.2] := by
 intro q N hM a0 r h
 rcases q with _ | q
 ·cases h
 obtain ⟨M, rfl⟩ : ∃ M, N = M + 8 := ⟨N - 8, by omega⟩
 have ih_codec_DecodeState_l0 := (zceo q).1
 refine byR fun R hR => ?_
 rw [zh8, zbr9, y4, zh6 zbhc rfl]
 rw [zog] at h
 repeat' (first | (cases h; done) | (replace h := bn h; obtain ⟨_, h⟩ := h) | (replace h := br h; rcases h with ⟨_, h⟩ | ⟨_, h⟩) | (replace h := ob h; obtain ⟨_, g, h⟩ := h; first | (replace g := zb9r q (M + 6) (by omega) _ _ g; try simp only [kf, simprocAttr] at g) | skip))
 all_goals (first | (cases h; subst hR; simp only [zcel, simprocAttr, *]) | (replace h := ih_codec_DecodeState_l0 M (by omega) (M + 7) (by omega) _ _ _ _ _ _ _ _ h R hR; simp only [zcel, simprocAttr, *]))
def zceq := And.intro @kk <| And.intro @ke <| And.intro @kn <| And.intro @zbzy <| And.intro @zbwf <| And.intro @zbx3 <| @zbz0
theorem zcer : ∀ (q N : Nat), 8 * q ≤ N → ∀ (a0 : (Sl Int)), ∀ (r : zkl × Int), zoh q a0 = some r → (orc T N).deep F.zoh [(Sl.enc (V.int .u8)) a0] = some [zkl.enc r.1, (V.int .i64) r.2] := by
 intro q N hM a0 r h
 rcases q with _ | q
 ·cases h
 obtain ⟨M, rfl⟩ : ∃ M, N = M + 8 := ⟨N - 8, by omega⟩
 refine byR fun R hR => ?_
 rw [zh8, zbsa, y4, zh6 zbhq rfl]
 rw [zoh] at h
 repeat' (first | (cases h; done) | (replace h := bn h; obtain ⟨_, h⟩ := h) | (replace h := br h; rcases h with ⟨_, h⟩ | ⟨_, h⟩) | (replace h := ob h; obtain ⟨_, g, h⟩ := h; first | (replace g := zb9r q (M + 7) (by omega) _ _ g; try simp only [kf, simprocAttr] at g) | (replace g := zb94 q (M + 7) (by omega) _ _ g; try simp only [kf, simprocAttr] at g) | skip))
 all_goals (cases h; subst hR; simp only [zceq, simprocAttr, *])
def zces (q : Nat) : Prop := ∀ M, 8 * q ≤ M → ∀ j, q ≤ j → ∀ (v0z : Bool) (v0l : List Int) (v3 v62 h1_0 : Int) (h1_1z : Bool) (h1_1l : List Int) (h1_2 : Bool) (h1_3 : Int) (r : zkm × Int), zoj q v0z v0l v3 v62 h1_0 h1_1z h1_1l h1_2 h1_3 = some r → LS T (M + 7) 0 [0, 2, 3, 6, 62, 63] [.blk 0, .code zbcr] zbcm j (fin zbcx) (some [zkm.enc r.1, (V.int .i64) r.2]) [(0, (.sl v0z (List.map (V.int .u8) v0l))), (2, (.ptr 0 0)), (3, (.int .i64 v3)), (6, (.ptr 1 0)), (62, (.int .i64 v62)), (63, (.int .i64 0))] [(.box [(.int .i64 0), (.int .i64 0), (.sl true []), (.bool false), (.int .i64 0), (.sl true [])]), (.box [(.int .i64 h1_0), (.sl h1_1z (List.map (V.int .i64) h1_1l)), (.bool h1_2), (.int .i64 h1_3)])]
def zcet (q : Nat) : Prop := ∀ M, 8 * q ≤ M → ∀ j, q ≤ j → ∀ (v0z : Bool) (v0l : List Int) (v3 v62 v63 h1_0 : Int) (h1_1z : Bool) (h1_1l : List Int) (h1_2 : Bool) (h1_3 : Int) (h2l : List zkl) (r : zkm × Int), zoi q v0z v0l v3 v62 v63 h1_0 h1_1z h1_1l h1_2 h1_3 h2l = some r → LS T (M + 7) 0 [0, 2, 3, 6, 62, 63] [.blk 0, .code zbcr] zbcm j (fin zbcx) (some [zkm.enc r.1, (V.int .i64) r.2]) [(0, (.sl v0z (List.map (V.int .u8) v0l))), (2, (.ptr 0 0)), (3, (.int .i64 v3)), (6, (.ptr 1 0)), (62, (.int .i64 v62)), (63, (.int .i64 v63))] [(.box [(.int .i64 0), (.int .i64 0), (.sl true []), (.bool false), (.int .i64 0), (.vw 2 0 0 h2l.length 1)]), (.box [(.int .i64 h1_0), (.sl h1_1z (List.map (V.int .i64) h1_1l)), (.bool h1_2), (.int .i64 h1_3)]), (.row 0 false 3 (List.map zkl.enc h2l) true)]
def zceu := And.intro @kk <| And.intro @ke <| And.intro @kn <| And.intro @zbyz <| And.intro @zbwf <| And.intro @zbzw <| And.intro @zbzz <| @zby1
theorem zcev (q : Nat) (zcfj : zcet q) : zces (q + 1) := by
 intro M hM j hj v0z v0l v3 v62 h1_0 h1_1z h1_1l h1_2 h1_3 r h R hR fr H hc
 obtain ⟨j, rfl⟩ : ∃ i, j = i + 1 := ⟨j - 1, by omega⟩
 rw [zhy, hc]; clear hc
 rw [zoj] at h
 repeat' (first | (cases h; done) | (replace h := bn h; obtain ⟨_, h⟩ := h) | (replace h := br h; rcases h with ⟨_, h⟩ | ⟨_, h⟩) | (replace h := ob h; obtain ⟨_, g, h⟩ := h; first | (replace g := zcer q (M + 7) (by omega) _ _ g; try simp only [kf, simprocAttr] at g) | skip))
 all_goals (first | (cases h; subst hR; simp only [zceu, simprocAttr, *]) | (replace h := zcfj M (by omega) j (by omega) _ _ _ _ _ _ _ _ _ _ _ _ h R hR; simp only [zceu, simprocAttr, *]))
theorem zcew (q : Nat) (zcfj : zcet q) : zcet (q + 1) := by
 intro M hM j hj v0z v0l v3 v62 v63 h1_0 h1_1z h1_1l h1_2 h1_3 h2l r h R hR fr H hc
 obtain ⟨j, rfl⟩ : ∃ i, j = i + 1 := ⟨j - 1, by omega⟩
 rw [zhy, hc]; clear hc
 rw [zoi] at h
 repeat' (first | (cases h; done) | (replace h := bn h; obtain ⟨_, h⟩ := h) | (replace h := br h; rcases h with ⟨_, h⟩ | ⟨_, h⟩) | (replace h := ob h; obtain ⟨_, g, h⟩ := h; first | (replace g := zcer q (M + 7) (by omega) _ _ g; try simp only [kf, simprocAttr] at g) | skip))
 all_goals (first | (cases h; subst hR; simp only [zceu, simprocAttr, *]) | (replace h := zcfj M (by omega) j (by omega) _ _ _ _ _ _ _ _ _ _ _ _ h R hR; simp only [zceu, simprocAttr, *]))
theorem zcex : ∀ q, zces q ∧ zcet q
 | 0 => by refine ⟨?_, ?_⟩ <;> (intro M hM j hj; intros; rename_i h; cases h)
 | q + 1 => by have ⟨i0, i1⟩ := zcex q; exact ⟨zcev q i1, zcew q i1⟩
theorem zcey : ∀ (q N : Nat), 8 * q ≤ N → ∀ (a0 : (Sl Int)), ∀ (r : zkm × Int), zok q a0 = some r → (orc T N).deep F.zok [(Sl.enc (V.int .u8)) a0] = some [zkm.enc r.1, (V.int .i64) r.2] := by
 intro q N hM a0 r h
 rcases q with _ | q
 ·cases h
 obtain ⟨M, rfl⟩ : ∃ M, N = M + 8 := ⟨N - 8, by omega⟩
 have ih_snapshot_read_l0 := (zcex q).1
 refine byR fun R hR => ?_
 rw [zh8, zbrv, y4, zh6 zbcx rfl]
 rw [zok] at h
 repeat' (first | (cases h; done) | (replace h := bn h; obtain ⟨_, h⟩ := h) | (replace h := br h; rcases h with ⟨_, h⟩ | ⟨_, h⟩) | (replace h := ob h; obtain ⟨_, g, h⟩ := h; first | (replace g := zb9r q (M + 7) (by omega) _ _ g; try simp only [kf, simprocAttr] at g) | (replace g := zcep q (M + 7) (by omega) _ _ g; try simp only [kf, simprocAttr] at g) | skip))
 all_goals (first | (cases h; subst hR; simp only [zceu, simprocAttr, *]) | (replace h := ih_snapshot_read_l0 M (by omega) (M + 7) (by omega) _ _ _ _ _ _ _ _ _ _ h R hR; simp only [zceu, simprocAttr, *]))
def zcez := And.intro @kk <| And.intro @ke <| And.intro @kn <| And.intro @zbww <| And.intro @zbsy <| And.intro @zbv6 <| And.intro @zbxr <| And.intro @zbyr <| And.intro @zbyu <| And.intro @zbyx <| And.intro @zby0 <| @zbwy
theorem zce0 : ∀ (q N : Nat), 8 * q ≤ N → ∀ (a0 : (Sl Int)), ∀ (r : zkm × Int), zol q a0 = some r → (orc T N).deep F.zol [(Sl.enc (V.int .u8)) a0] = some [zkm.enc r.1, (V.int .i64) r.2] := by
 intro q N hM a0 r h
 rcases q with _ | q
 ·cases h
 obtain ⟨M, rfl⟩ : ∃ M, N = M + 8 := ⟨N - 8, by omega⟩
 refine byR fun R hR => ?_
 rw [zh8, zbqq, y4, zh6 z1z rfl]
 rw [zol] at h
 repeat' (first | (cases h; done) | (replace h := bb h; rcases h with ⟨_, _, h⟩ | ⟨_, _, h⟩) | (replace h := bn h; obtain ⟨_, h⟩ := h) | (replace h := br h; rcases h with ⟨_, h⟩ | ⟨_, h⟩) | (replace h := ob h; obtain ⟨_, g, h⟩ := h; first | (replace g := zcat q (M + 7) (by omega) _ _ g; try simp only [kf, simprocAttr] at g) | (replace g := zced q (M + 7) (by omega) _ _ g; try simp only [kf, simprocAttr] at g) | (replace g := zb89 q (M + 7) (by omega) _ _ g; try simp only [kf, simprocAttr] at g) | (replace g := zcei q (M + 7) (by omega) _ _ g; try simp only [kf, simprocAttr] at g) | (replace g := zb8p q (M + 7) (by omega) _ _ g; try simp only [kf, simprocAttr] at g) | (replace g := zcey q (M + 7) (by omega) _ _ g; try simp only [kf, simprocAttr] at g) | (replace g := zb70 q (M + 7) (by omega) _ _ g; try simp only [kf, simprocAttr] at g) | skip))
 all_goals (cases h; subst hR; simp only [zcez, simprocAttr, *])
def zce1 (q : Nat) : Prop := ∀ M, 8 * q ≤ M → ∀ j, q ≤ j → ∀ (v0 : Int) (v2z : Bool) (v2l : List zkr) (v12 h0_0 h0_1 h0_2 h0_3 : Int) (h0_4z : Bool) (h0_4l : List Int) (h1_0 h1_1 h1_2 h1_3 : Int) (h1_4z : Bool) (h1_4l : List Int) (h1_5 : Bool) (h1_6 : Int) (h1_7z : Bool) (h1_7l : List zkl) (r : Bool), zom q v0 v2z v2l v12 h0_0 h0_1 h0_2 h0_3 h0_4z h0_4l h1_0 h1_1 h1_2 h1_3 h1_4z h1_4l h1_5 h1_6 h1_7z h1_7l = some r → LS T (M + 7) 0 [0, 2, 7, 10, 12] [.blk 0, .code (.seq (.reg o_5_14) (.seq (.reg o_5_15) (.seq (.reg o_5_16) c_5_20)))] c_5_13 j (fin zqc) (some [V.bool r]) [(0, (.int .i64 v0)), (2, (.sl v2z (List.map zkr.enc v2l))), (7, (.ptr 0 0)), (10, (.ptr 1 0)), (12, (.int .i64 v12))] [(.box [(.int .i64 h0_0), (.int .i64 h0_1), (.int .i64 h0_2), (.int .i64 h0_3), (.sl h0_4z (List.map (V.int .u8) h0_4l))]), (.box [(.int .i64 h1_0), (.int .i64 h1_1), (.int .i64 h1_2), (.int .i64 h1_3), (.sl h1_4z (List.map (V.int .i64) h1_4l)), (.bool h1_5), (.int .i64 h1_6), (.sl h1_7z (List.map zkl.enc h1_7l))])]
def zce2 := And.intro @kk <| And.intro @ke <| And.intro @kn <| And.intro @zbsr <| And.intro @zbs6 <| And.intro @zbs9 <| And.intro @zbtc <| And.intro @zbuf <| And.intro @zbui <| And.intro @zbsv <| And.intro @zbs1 <| And.intro @zbs4 <| And.intro @zbtv <| And.intro @zbud <| And.intro @zbum <| And.intro @zbwu <| And.intro @zbwx <| And.intro @zbs7 <| And.intro @zbs8 <| And.intro @zbta <| And.intro @zbtb <| And.intro @zbtd <| And.intro @zbte <| And.intro @zbug <| And.intro @zbuh <| And.intro @zbuj <| And.intro @zbuk <| @zbst
theorem zce3 (q : Nat) (zcfk : zce1 q) : zce1 (q + 1) := by
 intro M hM j hj v0 v2z v2l v12 h0_0 h0_1 h0_2 h0_3 h0_4z h0_4l h1_0 h1_1 h1_2 h1_3 h1_4z h1_4l h1_5 h1_6 h1_7z h1_7l r h R hR fr H hc
 obtain ⟨j, rfl⟩ : ∃ i, j = i + 1 := ⟨j - 1, by omega⟩
 rw [zhy, hc]; clear hc
 rw [zom] at h
 repeat' (first | (cases h; done) | (replace h := bn h; obtain ⟨_, h⟩ := h) | (replace h := br h; rcases h with ⟨_, h⟩ | ⟨_, h⟩) | (replace h := ob h; obtain ⟨_, g, h⟩ := h; first | (replace g := zcd6 q (M + 5) (by omega) _ _ g; try simp only [kf, simprocAttr] at g) | (replace g := zb7r q (M + 5) (by omega) _ _ _ g; try simp only [kf, simprocAttr] at g) | (replace g := zce0 q (M + 5) (by omega) _ _ g; try simp only [kf, simprocAttr] at g) | (replace g := zb6e q (M + 6) (by omega) _ _ g; try simp only [kf, simprocAttr] at g) | (replace g := zb62 q (M + 6) (by omega) _ _ g; try simp only [kf, simprocAttr] at g) | (replace g := zcai q (M + 7) (by omega) _ _ _ g; try simp only [kf, simprocAttr] at g) | skip))
 all_goals (first | (cases h; subst hR; simp only [zce2, simprocAttr, beq_self_eq_true, *]) | (replace h := zcfk M (by omega) j (by omega) _ _ _ _ _ _ _ _ _ _ _ _ _ _ _ _ _ _ _ _ _ h R hR; simp only [zce2, simprocAttr, beq_self_eq_true, *]))
theorem zce4 : ∀ q, zce1 q
 | 0 => by intro M hM j hj; intros; rename_i h; cases h
 | q + 1 => by have i0 := zce4 q; exact zce3 q i0
theorem zce5 : ∀ (q N : Nat), 8 * q ≤ N → ∀ (a0 a1 : Int) (a2 : (Sl zkr)) (a3 : zkr), ∀ (r : Bool), zon q a0 a1 a2 a3 = some r → (orc T N).deep F.zon [(V.int .i64) a0, (V.int .i64) a1, (Sl.enc zkr.enc) a2, zkr.enc a3] = some [V.bool r] := by
 intro q N hM a0 a1 a2 a3 r h
 rcases q with _ | q
 ·cases h
 obtain ⟨M, rfl⟩ : ∃ M, N = M + 8 := ⟨N - 8, by omega⟩
 have zcfk := (zce4 q)
 refine byR fun R hR => ?_
 rw [zh8, zbov, y4, zh6 zqc rfl]
 rw [zon] at h
 repeat' (first | (cases h; done) | (replace h := bb h; rcases h with ⟨_, _, h⟩ | ⟨_, _, h⟩) | (replace h := br h; rcases h with ⟨_, h⟩ | ⟨_, h⟩) | (replace h := ob h; obtain ⟨_, g, h⟩ := h; first | (replace g := zcak q (M + 7) (by omega)  _ g; try simp only [kf, simprocAttr] at g) | (replace g := zcam q (M + 6) (by omega) _ _ g; try simp only [kf, simprocAttr] at g) | skip))
 all_goals (first | (cases h; subst hR; simp only [zce2, simprocAttr, beq_self_eq_true, *]) | (replace h := zcfk M (by omega) (M + 7) (by omega) _ _ _ _ _ _ _ _ _ _ _ _ _ _ _ _ _ _ _ _ _ h R hR; simp only [zce2, simprocAttr, beq_self_eq_true, *]))
end Go.Dvm.C
