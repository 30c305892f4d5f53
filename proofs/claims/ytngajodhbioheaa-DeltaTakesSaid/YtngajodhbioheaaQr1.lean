/- The machine comes to these answers: part 2. -/
import Derived.Test.YtngajodhbioheaaQl0
import Derived.Test.YtngajodhbioheaaQr0
set_option linter.all false
set_option maxRecDepth 100000
set_option maxHeartbeats 4000000
namespace Go.Dvm.C
open Go Go.Dvm Go.Dvm.I
def zbcg := And.intro @kk <| And.intro @ke <| And.intro @kn <| And.intro @z5l <| And.intro @z41 <| And.intro @z5y <| And.intro @z54 <| And.intro @z57 <| @z5n
theorem zbch : ∀ (q N : Nat), 8 * q ≤ N → ∀ (a0 : zjq) (a1 : zju), ∀ (r : zjq × Int), zln q a0 a1 = some r → (orc T N).deep F.zln [zjq.enc a0, zju.enc a1] = some [zjq.enc r.1, (V.int .i64) r.2] := by
 intro q N hM a0 a1 r h
 rcases q with _ | q
 ·cases h
 obtain ⟨M, rfl⟩ : ∃ M, N = M + 8 := ⟨N - 8, by omega⟩
 generalize hR : some [zjq.enc r.1, (V.int .i64) r.2] = R
 rw [zhy, z11, y6, zhw zxj rfl]
 rw [zln] at h
 replace h := br h; rcases h with ⟨h1, h⟩ | ⟨h1, h⟩
 ·replace h := ob h; obtain ⟨r1, h2, h⟩ := h
  replace h2 := zbbv q (M + 7) (by omega) _ _ _ h2
  try simp only [kf, simprocAttr] at h2
  cases h; subst hR; simp only [zbcg, simprocAttr, *]
 ·replace h := br h; rcases h with ⟨h3, h⟩ | ⟨h3, h⟩
  ·replace h := br h; rcases h with ⟨h4, h⟩ | ⟨h4, h⟩
   ·cases h; subst hR; simp only [zbcg, simprocAttr, *]
   ·replace h := br h; rcases h with ⟨h5, h⟩ | ⟨h5, h⟩
    ·cases h; subst hR; simp only [zbcg, simprocAttr, *]
    ·replace h := ob h; obtain ⟨r2, h6, h⟩ := h
     replace h6 := zbbo q (M + 7) (by omega) _ _ _ h6
     try simp only [kf, simprocAttr] at h6
     cases h; subst hR; simp only [zbcg, simprocAttr, *]
  ·replace h := br h; rcases h with ⟨h7, h⟩ | ⟨h7, h⟩
   ·replace h := br h; rcases h with ⟨h8, h⟩ | ⟨h8, h⟩
    ·cases h; subst hR; simp only [zbcg, simprocAttr, *]
    ·replace h := br h; rcases h with ⟨h9, h⟩ | ⟨h9, h⟩
     ·cases h; subst hR; simp only [zbcg, simprocAttr, *]
     ·replace h := br h; rcases h with ⟨h10, h⟩ | ⟨h10, h⟩
      ·cases h; subst hR; simp only [zbcg, simprocAttr, *]
      ·replace h := ob h; obtain ⟨r3, h11, h⟩ := h
       replace h11 := zbbo q (M + 7) (by omega) _ _ _ h11
       try simp only [kf, simprocAttr] at h11
       replace h := ob h; obtain ⟨r4, h12, h⟩ := h
       replace h12 := z73 q (M + 7) (by omega) _ _ h12
       replace h := ob h; obtain ⟨r5, h13, h⟩ := h
       replace h13 := z73 q (M + 7) (by omega) _ _ h13
       replace h := ob h; obtain ⟨r6, h14, h⟩ := h
       replace h14 := zbbr q (M + 7) (by omega) _ _ _ _ h14
       try simp only [kf, simprocAttr] at h14
       replace h := bb h; rcases h with ⟨h15', h15, h⟩ | ⟨h15', h15, h⟩
       ·cases h; subst hR; simp only [zbcg, simprocAttr, *]
       ·cases h; subst hR; simp only [zbcg, simprocAttr, *]
   ·cases h; subst hR; simp only [zbcg, simprocAttr, *]
def zbci := And.intro @kk <| And.intro @ke <| And.intro @kn <| And.intro @z3y <| And.intro @z3q <| And.intro @z5d <| And.intro @z5g <| And.intro @z5j <| And.intro @z5m <| @z30
theorem zbcj : ∀ (q N : Nat), 8 * q ≤ N → ∀ (a0 : zjq) (a1 : zju), ∀ (r : zjq × Int), zlo q a0 a1 = some r → (orc T N).deep F.zlo [zjq.enc a0, zju.enc a1] = some [zjq.enc r.1, (V.int .i64) r.2] := by
 intro q N hM a0 a1 r h
 rcases q with _ | q
 ·cases h
 obtain ⟨M, rfl⟩ : ∃ M, N = M + 8 := ⟨N - 8, by omega⟩
 generalize hR : some [zjq.enc r.1, (V.int .i64) r.2] = R
 rw [zhy, z1h, y6, zhw zqu rfl]
 rw [zlo] at h
 replace h := ob h; obtain ⟨r1, h1, h⟩ := h
 replace h1 := z8h q (M + 7) (by omega) _ _ h1
 try simp only [kf, simprocAttr] at h1
 replace h := bb h; rcases h with ⟨h2', h2, h⟩ | ⟨h2', h2, h⟩
 ·replace h := bb h; rcases h with ⟨h3', h3, h⟩ | ⟨h3', h3, h⟩
  ·cases h; subst hR; simp only [zbci, simprocAttr, *]
  ·replace h := br h; rcases h with ⟨h4, h⟩ | ⟨h4, h⟩
   ·replace h := br h; rcases h with ⟨h5, h⟩ | ⟨h5, h⟩
    ·replace h := br h; rcases h with ⟨h6, h⟩ | ⟨h6, h⟩
     ·cases h; subst hR; simp only [zbci, simprocAttr, *]
     ·cases h; subst hR; simp only [zbci, simprocAttr, *]
    ·cases h; subst hR; simp only [zbci, simprocAttr, *]
   ·replace h := br h; rcases h with ⟨h7, h⟩ | ⟨h7, h⟩
    ·replace h := ob h; obtain ⟨r2, h8, h⟩ := h
     replace h8 := zbbd q (M + 7) (by omega) _ _ _ h8
     try simp only [kf, simprocAttr] at h8
     cases h; subst hR; simp only [zbci, simprocAttr, *]
    ·replace h := br h; rcases h with ⟨h9, h⟩ | ⟨h9, h⟩
     ·replace h := ob h; obtain ⟨r3, h10, h⟩ := h
      replace h10 := zbbd q (M + 7) (by omega) _ _ _ h10
      try simp only [kf, simprocAttr] at h10
      cases h; subst hR; simp only [zbci, simprocAttr, *]
     ·replace h := br h; rcases h with ⟨h11, h⟩ | ⟨h11, h⟩
      ·replace h := ob h; obtain ⟨r4, h12, h⟩ := h
       replace h12 := zbbh q (M + 7) (by omega) _ _ _ h12
       try simp only [kf, simprocAttr] at h12
       cases h; subst hR; simp only [zbci, simprocAttr, *]
      ·replace h := br h; rcases h with ⟨h13, h⟩ | ⟨h13, h⟩
       ·replace h := ob h; obtain ⟨r5, h14, h⟩ := h
        replace h14 := zbbh q (M + 7) (by omega) _ _ _ h14
        try simp only [kf, simprocAttr] at h14
        cases h; subst hR; simp only [zbci, simprocAttr, *]
       ·replace h := br h; rcases h with ⟨h15, h⟩ | ⟨h15, h⟩
        ·replace h := ob h; obtain ⟨r6, h16, h⟩ := h
         replace h16 := zbbt q (M + 7) (by omega) _ _ _ h16
         try simp only [kf, simprocAttr] at h16
         cases h; subst hR; simp only [zbci, simprocAttr, *]
        ·replace h := ob h; obtain ⟨r7, h17, h⟩ := h
         replace h17 := zbch q (M + 7) (by omega) _ _ _ h17
         try simp only [kf, simprocAttr] at h17
         cases h; subst hR; simp only [zbci, simprocAttr, *]
 ·cases h; subst hR; simp only [zbci, simprocAttr, *]
def zbck (q : Nat) : Prop := ∀ (M : Nat) (hM : 8 * q ≤ M) (j : Nat) (hj : q ≤ j) (v8z : Bool) (v8l : List zjv) (v9 h0_0 h0_1 : Int) (h0_2z : Bool) (h0_2l : List Int) (h0_3 : Bool) (h0_4 : Int) (h0_5z : Bool) (h0_5l : List zjr) (r : zjs × Int) (_ : zlq q v8z v8l v9 h0_0 h0_1 h0_2z h0_2l h0_3 h0_4 h0_5z h0_5l = some r) (R : Option (List V)) (_ : some [zjs.enc r.1, (V.int .i64) r.2] = R) (fr : Fr) (H : Hp) (_ : canon 0 [2, 4, 8, 9, 10] fr H = ([(2, (.ptr 0 0)), (4, (.ptr 1 0)), (8, (.sl v8z (List.map zjv.enc v8l))), (9, (.int .i64 v9)), (10, (.int .i64 0))], [(.box [(.int .i64 h0_0), (.int .i64 h0_1), (.sl h0_2z (List.map (V.int .i64) h0_2l)), (.bool h0_3), (.int .i64 h0_4), (.sl h0_5z (List.map zjr.enc h0_5l))]), (.box [(.int .i64 0), (.int .i64 0), (.sl true []), (.bool false), (.int .i64 0), (.sl true [])])])), fin znq (unw T (orc T (M + 7)) (M + 7) 0 [.blk 0, .code znn] (iter 0 [2, 4, 8, 9, 10] (exec T (orc T (M + 7)) (M + 7) 0 znk) j fr H)) = R
def zbcl (q : Nat) : Prop := ∀ (M : Nat) (hM : 8 * q ≤ M) (j : Nat) (hj : q ≤ j) (v8z : Bool) (v8l : List zjv) (v9 v10 h0_0 h0_1 : Int) (h0_2z : Bool) (h0_2l : List Int) (h0_3 : Bool) (h0_4 : Int) (h2z : Bool) (h2l : List zjr) (h2x : Bool) (r : zjs × Int) (_ : zlp q v8z v8l v9 v10 h0_0 h0_1 h0_2z h0_2l h0_3 h0_4 h2z h2l h2x = some r) (R : Option (List V)) (_ : some [zjs.enc r.1, (V.int .i64) r.2] = R) (fr : Fr) (H : Hp) (_ : canon 0 [2, 4, 8, 9, 10] fr H = ([(2, (.ptr 0 0)), (4, (.ptr 1 0)), (8, (.sl v8z (List.map zjv.enc v8l))), (9, (.int .i64 v9)), (10, (.int .i64 v10))], [(.box [(.int .i64 h0_0), (.int .i64 h0_1), (.sl h0_2z (List.map (V.int .i64) h0_2l)), (.bool h0_3), (.int .i64 h0_4), (.vw 2 0 0 h2l.length 1)]), (.box [(.int .i64 0), (.int .i64 0), (.sl true []), (.bool false), (.int .i64 0), (.sl true [])]), (.row 0 h2z 3 (List.map zjr.enc h2l) h2x)])), fin znq (unw T (orc T (M + 7)) (M + 7) 0 [.blk 0, .code znn] (iter 0 [2, 4, 8, 9, 10] (exec T (orc T (M + 7)) (M + 7) 0 znk) j fr H)) = R
def zbcm := And.intro @kk <| And.intro @ke <| And.intro @kn <| And.intro @z2p <| And.intro @z2z <| And.intro @z3w <| And.intro @z3z <| @z2r
theorem zbcn (q : Nat) (zbct : zbcl q) : zbck (q + 1) := by
 intro M hM j hj v8z v8l v9 h0_0 h0_1 h0_2z h0_2l h0_3 h0_4 h0_5z h0_5l r h R hR fr H hc
 obtain ⟨j, rfl⟩ : ∃ i, j = i + 1 := ⟨j - 1, by omega⟩
 rw [zho, hc]; clear hc
 rw [zlq] at h
 replace h := br h; rcases h with ⟨h1, h⟩ | ⟨h1, h⟩
 ·replace h := ob h; obtain ⟨e1, h2, h⟩ := h
  replace h := br h; rcases h with ⟨h3, h⟩ | ⟨h3, h⟩
  ·replace h := ob h; obtain ⟨r2, h4, h⟩ := h
   replace h4 := zbbb q (M + 7) (by omega) _ _ h4
   try simp only [kf, simprocAttr] at h4
   replace h := bb h; rcases h with ⟨h5', h5, h⟩ | ⟨h5', h5, h⟩
   ·replace h := ob h; obtain ⟨r3, h6, h⟩ := h
    replace h6 := zbcj q (M + 7) (by omega) _ _ _ h6
    try simp only [kf, simprocAttr] at h6
    replace h := ob h; obtain ⟨r4, h7, h⟩ := h
    replace h7 := zbag q (M + 7) (by omega) _ _ _ h7
    try simp only [kf, simprocAttr] at h7
    replace h := zbct M (by omega) j (by omega) _ _ _ _ _ _ _ _ _ _ _ _ _ _ h R hR
    simp only [zbcm, simprocAttr, *]
   ·cases h; subst hR; simp only [zbcm, simprocAttr, *]
  ·cases h; subst hR; simp only [zbcm, simprocAttr, *]
 ·cases h; subst hR; simp only [zbcm, simprocAttr, *]
theorem zbco (q : Nat) (zbct : zbcl q) : zbcl (q + 1) := by
 intro M hM j hj v8z v8l v9 v10 h0_0 h0_1 h0_2z h0_2l h0_3 h0_4 h2z h2l h2x r h R hR fr H hc
 obtain ⟨j, rfl⟩ : ∃ i, j = i + 1 := ⟨j - 1, by omega⟩
 rw [zho, hc]; clear hc
 rw [zlp] at h
 replace h := br h; rcases h with ⟨h1, h⟩ | ⟨h1, h⟩
 ·replace h := bn h; obtain ⟨h2, h⟩ := h
  replace h := ob h; obtain ⟨e5, h3, h⟩ := h
  replace h := br h; rcases h with ⟨h4, h⟩ | ⟨h4, h⟩
  ·replace h := ob h; obtain ⟨r6, h5, h⟩ := h
   replace h5 := zbbb q (M + 7) (by omega) _ _ h5
   try simp only [kf, simprocAttr] at h5
   replace h := bb h; rcases h with ⟨h6', h6, h⟩ | ⟨h6', h6, h⟩
   ·replace h := ob h; obtain ⟨r7, h7, h⟩ := h
    replace h7 := zbcj q (M + 7) (by omega) _ _ _ h7
    try simp only [kf, simprocAttr] at h7
    replace h := ob h; obtain ⟨r8, h8, h⟩ := h
    replace h8 := zbag q (M + 7) (by omega) _ _ _ h8
    try simp only [kf, simprocAttr] at h8
    replace h := zbct M (by omega) j (by omega) _ _ _ _ _ _ _ _ _ _ _ _ _ _ h R hR
    simp only [zbcm, simprocAttr, *]
   ·cases h; subst hR; simp only [zbcm, simprocAttr, *]
  ·cases h; subst hR; simp only [zbcm, simprocAttr, *]
 ·cases h; subst hR; simp only [zbcm, simprocAttr, *]
theorem zbcp : ∀ q, zbck q ∧ zbcl q
 | 0 => by refine ⟨?_, ?_⟩ <;> (intro M hM j hj; intros; rename_i h _ _ _ _ _; cases h)
 | q + 1 => by have ⟨i0, i1⟩ := zbcp q; exact ⟨zbcn q i1, zbco q i1⟩
theorem zbcq : ∀ (q N : Nat), 8 * q ≤ N → ∀ (a0 : zjs) (a1 : (Sl zjv)), ∀ (r : zjs × Int), zlr q a0 a1 = some r → (orc T N).deep F.zlr [zjs.enc a0, (Sl.enc zjv.enc) a1] = some [zjs.enc r.1, (V.int .i64) r.2] := by
 intro q N hM a0 a1 r h
 rcases q with _ | q
 ·cases h
 obtain ⟨M, rfl⟩ : ∃ M, N = M + 8 := ⟨N - 8, by omega⟩
 have ih_snapshot_Take_l0 := (zbcp q).1
 generalize hR : some [zjs.enc r.1, (V.int .i64) r.2] = R
 rw [zhy, z02, y6, zhw znq rfl]
 rw [zlr] at h
 replace h := ih_snapshot_Take_l0 M (by omega) (M + 7) (by omega) _ _ _ _ _ _ _ _ _ _ _ _ h R hR
 simp only [zbcm, simprocAttr, *]
def zbcr := And.intro @kk <| And.intro @ke <| And.intro @kn <| And.intro @z2a <| And.intro @z2e <| And.intro @z2h <| And.intro @z2k <| And.intro @z2n <| And.intro @z2q <| And.intro @z2t <| And.intro @z2w <| @z2c
theorem zbcs : ∀ (q N : Nat), 8 * q ≤ N → ∀ (a0 : zjs) (a1 : (Sl zjv)), ∀ (r : Bool), zls q a0 a1 = some r → (orc T N).deep F.zls [zjs.enc a0, (Sl.enc zjv.enc) a1] = some [V.bool r] := by
 intro q N hM a0 a1 r h
 rcases q with _ | q
 ·cases h
 obtain ⟨M, rfl⟩ : ∃ M, N = M + 8 := ⟨N - 8, by omega⟩
 generalize hR : some [V.bool r] = R
 rw [zhy, z0x, y6, zhw zl4 rfl]
 rw [zls] at h
 replace h := ob h; obtain ⟨r1, h1, h⟩ := h
 replace h1 := zba3 q (M + 7) (by omega)  _ h1
 replace h := ob h; obtain ⟨r2, h2, h⟩ := h
 replace h2 := zba7 q (M + 7) (by omega) _ _ h2
 try simp only [kf, simprocAttr] at h2
 replace h := bb h; rcases h with ⟨h3', h3, h⟩ | ⟨h3', h3, h⟩
 ·replace h := bb h; rcases h with ⟨h4', h4, h⟩ | ⟨h4', h4, h⟩
  ·replace h := br h; rcases h with ⟨h5, h⟩ | ⟨h5, h⟩
   ·cases h; subst hR; simp only [zbcr, simprocAttr, *]
   ·replace h := ob h; obtain ⟨r3, h6, h⟩ := h
    replace h6 := z8q q (M + 7) (by omega) _ _ h6
    try simp only [kf, simprocAttr] at h6
    replace h := bb h; rcases h with ⟨h7', h7, h⟩ | ⟨h7', h7, h⟩
    ·replace h := ob h; obtain ⟨r4, h8, h⟩ := h
     replace h8 := zbcq q (M + 7) (by omega) _ _ _ h8
     try simp only [kf, simprocAttr] at h8
     replace h := br h; rcases h with ⟨h9, h⟩ | ⟨h9, h⟩
     ·replace h := ob h; obtain ⟨r5, h10, h⟩ := h
      replace h10 := z8q q (M + 7) (by omega) _ _ h10
      try simp only [kf, simprocAttr] at h10
      replace h := bb h; rcases h with ⟨h11', h11, h⟩ | ⟨h11', h11, h⟩
      ·replace h := ob h; obtain ⟨r6, h12, h⟩ := h
       replace h12 := z9l q (M + 7) (by omega) _ _ _ h12
       try simp only [kf, simprocAttr] at h12
       replace h := ob h; obtain ⟨r7, h13, h⟩ := h
       replace h13 := zban q (M + 7) (by omega) _ _ _ h13
       try simp only [kf, simprocAttr] at h13
       replace h := ob h; obtain ⟨r8, h14, h⟩ := h
       replace h14 := z9l q (M + 7) (by omega) _ _ _ h14
       try simp only [kf, simprocAttr] at h14
       replace h := ob h; obtain ⟨r9, h15, h⟩ := h
       replace h15 := zban q (M + 7) (by omega) _ _ _ h15
       try simp only [kf, simprocAttr] at h15
       replace h := br h; rcases h with ⟨h16, h⟩ | ⟨h16, h⟩
       ·replace h := br h; rcases h with ⟨h17, h⟩ | ⟨h17, h⟩
        ·replace h := br h; rcases h with ⟨h18, h⟩ | ⟨h18, h⟩
         ·replace h := br h; rcases h with ⟨h19, h⟩ | ⟨h19, h⟩
          ·replace h := ob h; obtain ⟨r10, h20, h⟩ := h
           replace h20 := zba1 q (M + 7) (by omega) _ _ _ h20
           try simp only [kf, simprocAttr] at h20
           replace h := bb h; rcases h with ⟨h21', h21, h⟩ | ⟨h21', h21, h⟩
           ·replace h := ob h; obtain ⟨r11, h22, h⟩ := h
            replace h22 := zba1 q (M + 7) (by omega) _ _ _ h22
            try simp only [kf, simprocAttr] at h22
            replace h := bb h; rcases h with ⟨h23', h23, h⟩ | ⟨h23', h23, h⟩
            ·replace h := br h; rcases h with ⟨h24, h⟩ | ⟨h24, h⟩
             ·cases h; subst hR; simp only [zbcr, simprocAttr, *]
             ·cases h; subst hR; simp only [zbcr, simprocAttr, *]
            ·cases h; subst hR; simp only [zbcr, simprocAttr, *]
           ·cases h; subst hR; simp only [zbcr, simprocAttr, *]
          ·cases h; subst hR; simp only [zbcr, simprocAttr, *]
         ·cases h; subst hR; simp only [zbcr, simprocAttr, *]
        ·cases h; subst hR; simp only [zbcr, simprocAttr, *]
       ·cases h; subst hR; simp only [zbcr, simprocAttr, *]
      ·cases h; subst hR; simp only [zbcr, simprocAttr, *]
     ·cases h; subst hR; simp only [zbcr, simprocAttr, *]
    ·cases h; subst hR; simp only [zbcr, simprocAttr, *]
  ·cases h; subst hR; simp only [zbcr, simprocAttr, *]
 ·cases h; subst hR; simp only [zbcr, simprocAttr, *]
end Go.Dvm.C
