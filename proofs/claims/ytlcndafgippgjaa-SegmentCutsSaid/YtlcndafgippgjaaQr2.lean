/- The machine comes to these answers: part 3. -/
import Derived.Test.YtlcndafgippgjaaQl0
import Derived.Test.YtlcndafgippgjaaQr0
import Derived.Test.YtlcndafgippgjaaQr1
set_option linter.all false
set_option maxRecDepth 100000
set_option maxHeartbeats 4000000
namespace Go.Dvm.C
open Go Go.Dvm Go.Dvm.I
def zbtm (q : Nat) : Prop := ∀ (M : Nat) (hM : 8 * q ≤ M) (j : Nat) (hj : q ≤ j) (w1 : Nat) (v1z : Bool) (v1l : List Int) (v19 : Int) (h1z : Bool) (h1l : List (Sl Int)) (h1x : Bool) (h3_0 : Int) (h3_1 : Int) (h3_2 : Int) (r : Int × Int × Int × Int × Bool) (_ : zmm q v1z v1l v19 h1z h1l h1x h3_0 h3_1 h3_2 = some r) (R : Option (List V × Hp)) (_ : (some ([(.int .i64 r.1)], [(.box [(.int .i64 0), (.int .i64 0), (.sl true [])]), (.row w1 h1z 1 (List.map (Sl.enc (V.int .u8)) h1l) h1x), (.box [(.int .i64 r.2.1), (.int .i64 r.2.2.1), (.int .i64 r.2.2.2.1), (.sl true []), (.bool r.2.2.2.2)])]) : Option (List V × Hp)) = R) (fr : Fr) (H : Hp) (_ : canon 3 [0, 1, 5, 19] fr H = ([(0, (.ptr 2 0)), (1, (.sl v1z (List.map (V.int .u8) v1l))), (5, (.ptr 3 0)), (19, (.int .i64 v19))], [(.box [(.int .i64 0), (.int .i64 0), (.sl true [])]), (.row w1 h1z 1 (List.map (Sl.enc (V.int .u8)) h1l) h1x), (.box [(.int .i64 0), (.int .i64 0), (.int .i64 0), (.sl true []), (.bool false)]), (.box [(.int .i64 h3_0), (.int .i64 h3_1), (.int .i64 h3_2)])])), finI 3 false [.tmp 4] (unw T (orc T (M + 5)) (M + 5) 3 [.blk 0, .code zt8] (iter 3 [0, 1, 5, 19] (exec T (orc T (M + 5)) (M + 5) 3 ztt) j fr H)) = R
def zbtn := And.intro @kk <| And.intro @zbd9 <| And.intro @zbcb <| @zbfk
theorem zbto (q : Nat) (zbuj : zbtm q) : zbtm (q + 1) := by
 intro M hM j hj w1 v1z v1l v19 h1z h1l h1x h3_0 h3_1 h3_2 r h R hR fr H hc
 obtain ⟨j, rfl⟩ : ∃ i, j = i + 1 := ⟨j - 1, by omega⟩
 rw [zhr, hc]; clear hc
 rw [zmm] at h
 replace h := br h; rcases h with ⟨h1, h⟩ | ⟨h1, h⟩
 ·replace h := ob h; obtain ⟨r2, h2, h⟩ := h
  replace h2 := zbpq q (M + 5) (by omega) _ _ h2
  try simp only [Ow.enc, Sl.enc, kn, simprocAttr, qa, qb, qc, qd] at h2
  replace h := br h; rcases h with ⟨h3, h⟩ | ⟨h3, h⟩
  ·replace h := br h; rcases h with ⟨h4, h⟩ | ⟨h4, h⟩
   ·replace h := bc h; rcases h with ⟨h5, h⟩ | ⟨h5, h⟩
    ·replace h := br h; rcases h with ⟨h6, h⟩ | ⟨h6, h⟩
     ·cases h; subst hR; simp (maxDischargeDepth := 12) only [zbtn, kn, simprocAttr, qa, qb, qc, qd, Ow.enc, Sl.enc, *]
     ·replace h := br h; rcases h with ⟨h7, h⟩ | ⟨h7, h⟩
      ·replace h := br h; rcases h with ⟨h8, h⟩ | ⟨h8, h⟩
       ·replace h := zbuj M (by omega) j (by omega) w1 _ _ _ _ _ _ _ _ _ _ h R hR
        simp (maxDischargeDepth := 12) only [zbtn, kn, simprocAttr, qa, qb, qc, qd, Ow.enc, Sl.enc, *]
       ·cases h
      ·cases h
    ·replace h := bc h; rcases h with ⟨h9, h⟩ | ⟨h9, h⟩
     ·replace h := br h; rcases h with ⟨h10, h⟩ | ⟨h10, h⟩
      ·cases h; subst hR; simp (maxDischargeDepth := 12) only [zbtn, kn, simprocAttr, qa, qb, qc, qd, Ow.enc, Sl.enc, *]
      ·replace h := br h; rcases h with ⟨h11, h⟩ | ⟨h11, h⟩
       ·replace h := br h; rcases h with ⟨h12, h⟩ | ⟨h12, h⟩
        ·replace h := zbuj M (by omega) j (by omega) w1 _ _ _ _ _ _ _ _ _ _ h R hR
         simp (maxDischargeDepth := 12) only [zbtn, kn, simprocAttr, qa, qb, qc, qd, Ow.enc, Sl.enc, *]
        ·cases h
       ·cases h
     ·replace h := bc h; rcases h with ⟨h13, h⟩ | ⟨h13, h⟩
      ·replace h := br h; rcases h with ⟨h14, h⟩ | ⟨h14, h⟩
       ·cases h; subst hR; simp (maxDischargeDepth := 12) only [zbtn, kn, simprocAttr, qa, qb, qc, qd, Ow.enc, Sl.enc, *]
       ·replace h := br h; rcases h with ⟨h15, h⟩ | ⟨h15, h⟩
        ·replace h := br h; rcases h with ⟨h16, h⟩ | ⟨h16, h⟩
         ·replace h := zbuj M (by omega) j (by omega) w1 _ _ _ _ _ _ _ _ _ _ h R hR
          simp (maxDischargeDepth := 12) only [zbtn, kn, simprocAttr, qa, qb, qc, qd, Ow.enc, Sl.enc, *]
         ·cases h
        ·cases h
      ·cases h
   ·cases h
  ·cases h
 ·replace h := br h; rcases h with ⟨h17, h⟩ | ⟨h17, h⟩
  ·cases h; subst hR; simp (maxDischargeDepth := 12) only [zbtn, kn, simprocAttr, qa, qb, qc, qd, Ow.enc, Sl.enc, *]
  ·replace h := ob h; obtain ⟨r3, h18, h⟩ := h
   replace h18 := zbme q (M + 5) (by omega) _ _ h18
   replace h := bb h; rcases h with ⟨h19', h19, h⟩ | ⟨h19', h19, h⟩
   ·replace h := br h; rcases h with ⟨h20, h⟩ | ⟨h20, h⟩
    ·cases h; subst hR; simp (maxDischargeDepth := 12) only [zbtn, kn, simprocAttr, qa, qb, qc, qd, Ow.enc, Sl.enc, *]
    ·cases h; subst hR; simp (maxDischargeDepth := 12) only [zbtn, kn, simprocAttr, qa, qb, qc, qd, Ow.enc, Sl.enc, *]
   ·cases h; subst hR; simp (maxDischargeDepth := 12) only [zbtn, kn, simprocAttr, qa, qb, qc, qd, Ow.enc, Sl.enc, *]
theorem zbtp : ∀ q, zbtm q
 | 0 => by intro M hM j hj; intros; rename_i h _ _ _ _ _; cases h
 | q + 1 => by have i0 := zbtp q; exact zbto q i0
theorem zbtq : ∀ (q M : Nat), 8 * q ≤ M → ∀ (w1 : Nat), ∀ (v1z : Bool), ∀ (v1l : List Int), ∀ (h1z : Bool), ∀ (h1l : List (Sl Int)), ∀ (h1x : Bool), ∀ (r : Int × Int × Int × Int × Bool), zmn q v1z v1l h1z h1l h1x = some r → (orc T (M + 6)).inl F.zm2 [(.ptr 2 0), (.sl v1z (List.map (V.int .u8) v1l))] [(.box [(.int .i64 0), (.int .i64 0), (.sl true [])]), (.row w1 h1z 1 (List.map (Sl.enc (V.int .u8)) h1l) h1x), (.box [(.int .i64 0), (.int .i64 0), (.int .i64 0), (.sl true []), (.bool false)])] = (some ([(.int .i64 r.1)], [(.box [(.int .i64 0), (.int .i64 0), (.sl true [])]), (.row w1 h1z 1 (List.map (Sl.enc (V.int .u8)) h1l) h1x), (.box [(.int .i64 r.2.1), (.int .i64 r.2.2.1), (.int .i64 r.2.2.2.1), (.sl true []), (.bool r.2.2.2.2)])]) : Option (List V × Hp)) := by
 intro q M hM w1 v1z v1l h1z h1l h1x r h
 rcases q with _ | q
 ·cases h
 have zbuj := (zbtp q)
 generalize hR : (some ([(.int .i64 r.1)], [(.box [(.int .i64 0), (.int .i64 0), (.sl true [])]), (.row w1 h1z 1 (List.map (Sl.enc (V.int .u8)) h1l) h1x), (.box [(.int .i64 r.2.1), (.int .i64 r.2.2.1), (.int .i64 r.2.2.2.1), (.sl true []), (.bool r.2.2.2.2)])]) : Option (List V × Hp)) = R
 rw [zbeb (n := M + 5)]
 rw [zmn] at h
 replace h := br h; rcases h with ⟨h1, h⟩ | ⟨h1, h⟩
 ·cases h; subst hR; simp (maxDischargeDepth := 12) only [zbtn, kn, simprocAttr, qa, qb, qc, qd, Ow.enc, Sl.enc, *]
 ·replace h := ob h; obtain ⟨e1, h2, h⟩ := h
  replace h := br h; rcases h with ⟨h3, h⟩ | ⟨h3, h⟩
  ·replace h := br h; rcases h with ⟨h4, h⟩ | ⟨h4, h⟩
   ·replace h := zbuj M (by omega) (M + 5) (by omega) w1 _ _ _ _ _ _ _ _ _ _ h R hR
    simp (maxDischargeDepth := 12) only [zbtn, kn, simprocAttr, qa, qb, qc, qd, Ow.enc, Sl.enc, *]
   ·cases h
  ·cases h; subst hR; simp (maxDischargeDepth := 12) only [zbtn, kn, simprocAttr, qa, qb, qc, qd, Ow.enc, Sl.enc, *]
def zbtr (q : Nat) : Prop := ∀ (M : Nat) (hM : 8 * q ≤ M) (j : Nat) (hj : q ≤ j) (w1 : Nat) (v1len : Nat) (v19len : Nat) (v20 : Int) (h1z : Bool) (h1l : List (Sl Int)) (h1x : Bool) (h2_0 : Int) (h2_1 : Int) (h2_2 : Int) (h2_4 : Bool) (r : Nat × Int × Int × Int × Int × Int × Bool × Int × Int × Int × Int × Int × Nat × Bool × Bool × (List zjs)) (_ : zmp q v1len v19len v20 h1z h1l h1x h2_0 h2_1 h2_2 h2_4 = some r) (R : Option (List V × Hp)) (_ : (if r.1 = 0 then (some ([(.int .i64 r.2.1), (.int .i64 r.2.2.1)], [(.box [(.int .i64 0), (.int .i64 0), (.sl true [])]), (.row w1 h1z 1 (List.map (Sl.enc (V.int .u8)) h1l) h1x), (.box [(.int .i64 r.2.2.2.1), (.int .i64 r.2.2.2.2.1), (.int .i64 r.2.2.2.2.2.1), (.sl true []), (.bool r.2.2.2.2.2.2.1)])]) : Option (List V × Hp)) else (some ([(.int .i64 r.2.2.2.2.2.2.2.1), (.int .i64 r.2.2.2.2.2.2.2.2.1)], [(.box [(.int .i64 0), (.int .i64 0), (.sl true [])]), (.row w1 h1z 1 (List.map (Sl.enc (V.int .u8)) h1l) h1x), (.box [(.int .i64 r.2.2.2.2.2.2.2.2.2.1), (.int .i64 r.2.2.2.2.2.2.2.2.2.2.1), (.int .i64 r.2.2.2.2.2.2.2.2.2.2.2.1), (.vw 3 0 0 r.2.2.2.2.2.2.2.2.2.2.2.2.1 1), (.bool r.2.2.2.2.2.2.2.2.2.2.2.2.2.1)]), (.row 0 r.2.2.2.2.2.2.2.2.2.2.2.2.2.2.1 7 (List.map zjs.enc r.2.2.2.2.2.2.2.2.2.2.2.2.2.2.2) true)]) : Option (List V × Hp))) = R) (fr : Fr) (H : Hp) (_ : canon 3 [0, 1, 19, 20, 21] fr H = ([(0, (.ptr 2 0)), (1, (.vw 1 w1 0 v1len 1)), (19, (.vw 1 w1 1 v19len 1)), (20, (.int .i64 v20)), (21, (.int .i64 0))], [(.box [(.int .i64 0), (.int .i64 0), (.sl true [])]), (.row w1 h1z 1 (List.map (Sl.enc (V.int .u8)) h1l) h1x), (.box [(.int .i64 h2_0), (.int .i64 h2_1), (.int .i64 h2_2), (.sl true []), (.bool h2_4)])])), finI 3 false [.tmp 4, .tmp 5] (unw T (orc T (M + 6)) (M + 6) 3 [.blk 0, .code zqy] (iter 3 [0, 1, 19, 20, 21] (exec T (orc T (M + 6)) (M + 6) 3 zqv) j fr H)) = R
def zbts (q : Nat) : Prop := ∀ (M : Nat) (hM : 8 * q ≤ M) (j : Nat) (hj : q ≤ j) (w1 : Nat) (v1len : Nat) (v19len : Nat) (v20 : Int) (v21 : Int) (h1z : Bool) (h1l : List (Sl Int)) (h1x : Bool) (h2_0 : Int) (h2_1 : Int) (h2_2 : Int) (h2_4 : Bool) (h3z : Bool) (h3l : List zjs) (r : Nat × Int × Int × Int × Int × Int × Bool × Int × Int × Int × Int × Int × Nat × Bool × Bool × (List zjs)) (_ : zmo q v1len v19len v20 v21 h1z h1l h1x h2_0 h2_1 h2_2 h2_4 h3z h3l = some r) (R : Option (List V × Hp)) (_ : (if r.1 = 0 then (some ([(.int .i64 r.2.1), (.int .i64 r.2.2.1)], [(.box [(.int .i64 0), (.int .i64 0), (.sl true [])]), (.row w1 h1z 1 (List.map (Sl.enc (V.int .u8)) h1l) h1x), (.box [(.int .i64 r.2.2.2.1), (.int .i64 r.2.2.2.2.1), (.int .i64 r.2.2.2.2.2.1), (.sl true []), (.bool r.2.2.2.2.2.2.1)])]) : Option (List V × Hp)) else (some ([(.int .i64 r.2.2.2.2.2.2.2.1), (.int .i64 r.2.2.2.2.2.2.2.2.1)], [(.box [(.int .i64 0), (.int .i64 0), (.sl true [])]), (.row w1 h1z 1 (List.map (Sl.enc (V.int .u8)) h1l) h1x), (.box [(.int .i64 r.2.2.2.2.2.2.2.2.2.1), (.int .i64 r.2.2.2.2.2.2.2.2.2.2.1), (.int .i64 r.2.2.2.2.2.2.2.2.2.2.2.1), (.vw 3 0 0 r.2.2.2.2.2.2.2.2.2.2.2.2.1 1), (.bool r.2.2.2.2.2.2.2.2.2.2.2.2.2.1)]), (.row 0 r.2.2.2.2.2.2.2.2.2.2.2.2.2.2.1 7 (List.map zjs.enc r.2.2.2.2.2.2.2.2.2.2.2.2.2.2.2) true)]) : Option (List V × Hp))) = R) (fr : Fr) (H : Hp) (_ : canon 3 [0, 1, 19, 20, 21] fr H = ([(0, (.ptr 2 0)), (1, (.vw 1 w1 0 v1len 1)), (19, (.vw 1 w1 1 v19len 1)), (20, (.int .i64 v20)), (21, (.int .i64 v21))], [(.box [(.int .i64 0), (.int .i64 0), (.sl true [])]), (.row w1 h1z 1 (List.map (Sl.enc (V.int .u8)) h1l) h1x), (.box [(.int .i64 h2_0), (.int .i64 h2_1), (.int .i64 h2_2), (.vw 3 0 0 h3l.length 1), (.bool h2_4)]), (.row 0 h3z 7 (List.map zjs.enc h3l) true)])), finI 3 false [.tmp 4, .tmp 5] (unw T (orc T (M + 6)) (M + 6) 3 [.blk 0, .code zqy] (iter 3 [0, 1, 19, 20, 21] (exec T (orc T (M + 6)) (M + 6) 3 zqv) j fr H)) = R
def zbtt := And.intro @kk <| And.intro @zbcu <| And.intro @zbec <| And.intro @zbbr <| And.intro @zbea <| And.intro @zbfp <| And.intro @zbfu <| And.intro @zbed <| @zbee
theorem zbtu (q : Nat) (zbuk : zbts q) : zbtr (q + 1) := by
 intro M hM j hj w1 v1len v19len v20 h1z h1l h1x h2_0 h2_1 h2_2 h2_4 r h R hR fr H hc
 obtain ⟨j, rfl⟩ : ∃ i, j = i + 1 := ⟨j - 1, by omega⟩
 rw [zhr, hc]; clear hc
 rw [zmp] at h
 replace h := br h; rcases h with ⟨h1, h⟩ | ⟨h1, h⟩
 ·replace h := br h; rcases h with ⟨h2, h⟩ | ⟨h2, h⟩
  ·replace h := ob h; obtain ⟨e3, h3, h⟩ := h
   replace h := br h; rcases h with ⟨h4, h⟩ | ⟨h4, h⟩
   ·replace h := ob h; obtain ⟨r4, h5, h⟩ := h
    replace h5 := zbq8 q (M + 5) (by omega) _ _ h5
    try simp only [Ow.enc, zjr.enc, zjs.enc, Sl.enc, kn, simprocAttr, qa, qb, qc, qd] at h5
    replace h := br h; rcases h with ⟨h6, h⟩ | ⟨h6, h⟩
    ·replace h := bb h; rcases h with ⟨h7', h7, h⟩ | ⟨h7', h7, h⟩
     ·replace h := br h; rcases h with ⟨h8, h⟩ | ⟨h8, h⟩
      ·cases h; subst hR; simp (maxDischargeDepth := 12) only [zbtt, kn, simprocAttr, qa, qb, qc, qd, Ow.enc, zjr.enc, zjs.enc, Sl.enc, *]
      ·replace h := br h; rcases h with ⟨h9, h⟩ | ⟨h9, h⟩
       ·cases h; subst hR; simp (maxDischargeDepth := 12) only [zbtt, kn, simprocAttr, qa, qb, qc, qd, Ow.enc, zjr.enc, zjs.enc, Sl.enc, *]
       ·replace h := ob h; obtain ⟨r5, h10, h⟩ := h
        replace h10 := zbn0 q (M + 5) (by omega) _ _ _ h10
        try simp only [Ow.enc, zjr.enc, zjs.enc, Sl.enc, kn, simprocAttr, qa, qb, qc, qd] at h10
        replace h := bb h; rcases h with ⟨h11', h11, h⟩ | ⟨h11', h11, h⟩
        ·replace h := br h; rcases h with ⟨h12, h⟩ | ⟨h12, h⟩
         ·try simp only [kn, simprocAttr, qa, qb, qc, qd] at h12
          cases h; subst hR; simp (maxDischargeDepth := 12) only [zbtt, kn, simprocAttr, qa, qb, qc, qd, Ow.enc, zjr.enc, zjs.enc, Sl.enc, *]
         ·try simp only [kn, simprocAttr, qa, qb, qc, qd] at h12
          replace h := br h; rcases h with ⟨h13, h⟩ | ⟨h13, h⟩
          ·replace h := zbuk M (by omega) j (by omega) w1 _ _ _ _ _ _ _ _ _ _ _ _ _ _ h R hR
           simp (maxDischargeDepth := 12) only [zbtt, kn, simprocAttr, qa, qb, qc, qd, Ow.enc, zjr.enc, zjs.enc, Sl.enc, *]
          ·cases h
        ·cases h; subst hR; simp (maxDischargeDepth := 12) only [zbtt, kn, simprocAttr, qa, qb, qc, qd, Ow.enc, zjr.enc, zjs.enc, Sl.enc, *]
     ·cases h; subst hR; simp (maxDischargeDepth := 12) only [zbtt, kn, simprocAttr, qa, qb, qc, qd, Ow.enc, zjr.enc, zjs.enc, Sl.enc, *]
    ·cases h; subst hR; simp (maxDischargeDepth := 12) only [zbtt, kn, simprocAttr, qa, qb, qc, qd, Ow.enc, zjr.enc, zjs.enc, Sl.enc, *]
   ·replace h := ob h; obtain ⟨r6, h14, h⟩ := h
    replace h14 := zbrv q (M + 5) (by omega) _ _ _ h14
    try simp only [Ow.enc, zjr.enc, zjs.enc, Sl.enc, kn, simprocAttr, qa, qb, qc, qd] at h14
    replace h := bb h; rcases h with ⟨h15', h15, h⟩ | ⟨h15', h15, h⟩
    ·replace h := bb h; rcases h with ⟨h16', h16, h⟩ | ⟨h16', h16, h⟩
     ·replace h := br h; rcases h with ⟨h17, h⟩ | ⟨h17, h⟩
      ·cases h; subst hR; simp (maxDischargeDepth := 12) only [zbtt, kn, simprocAttr, qa, qb, qc, qd, Ow.enc, zjr.enc, zjs.enc, Sl.enc, *]
      ·replace h := br h; rcases h with ⟨h18, h⟩ | ⟨h18, h⟩
       ·cases h; subst hR; simp (maxDischargeDepth := 12) only [zbtt, kn, simprocAttr, qa, qb, qc, qd, Ow.enc, zjr.enc, zjs.enc, Sl.enc, *]
       ·replace h := ob h; obtain ⟨r7, h19, h⟩ := h
        replace h19 := zbn0 q (M + 5) (by omega) _ _ _ h19
        try simp only [Ow.enc, zjr.enc, zjs.enc, Sl.enc, kn, simprocAttr, qa, qb, qc, qd] at h19
        replace h := bb h; rcases h with ⟨h20', h20, h⟩ | ⟨h20', h20, h⟩
        ·replace h := br h; rcases h with ⟨h21, h⟩ | ⟨h21, h⟩
         ·try simp only [kn, simprocAttr, qa, qb, qc, qd] at h21
          cases h; subst hR; simp (maxDischargeDepth := 12) only [zbtt, kn, simprocAttr, qa, qb, qc, qd, Ow.enc, zjr.enc, zjs.enc, Sl.enc, *]
         ·try simp only [kn, simprocAttr, qa, qb, qc, qd] at h21
          replace h := br h; rcases h with ⟨h22, h⟩ | ⟨h22, h⟩
          ·replace h := zbuk M (by omega) j (by omega) w1 _ _ _ _ _ _ _ _ _ _ _ _ _ _ h R hR
           simp (maxDischargeDepth := 12) only [zbtt, kn, simprocAttr, qa, qb, qc, qd, Ow.enc, zjr.enc, zjs.enc, Sl.enc, *]
          ·cases h
        ·cases h; subst hR; simp (maxDischargeDepth := 12) only [zbtt, kn, simprocAttr, qa, qb, qc, qd, Ow.enc, zjr.enc, zjs.enc, Sl.enc, *]
     ·cases h; subst hR; simp (maxDischargeDepth := 12) only [zbtt, kn, simprocAttr, qa, qb, qc, qd, Ow.enc, zjr.enc, zjs.enc, Sl.enc, *]
    ·cases h; subst hR; simp (maxDischargeDepth := 12) only [zbtt, kn, simprocAttr, qa, qb, qc, qd, Ow.enc, zjr.enc, zjs.enc, Sl.enc, *]
  ·cases h
 ·cases h; subst hR; simp (maxDischargeDepth := 12) only [zbtt, kn, simprocAttr, qa, qb, qc, qd, Ow.enc, zjr.enc, zjs.enc, Sl.enc, *]
theorem zbtv (q : Nat) (zbuk : zbts q) : zbts (q + 1) := by
 intro M hM j hj w1 v1len v19len v20 v21 h1z h1l h1x h2_0 h2_1 h2_2 h2_4 h3z h3l r h R hR fr H hc
 obtain ⟨j, rfl⟩ : ∃ i, j = i + 1 := ⟨j - 1, by omega⟩
 rw [zhr, hc]; clear hc
 rw [zmo] at h
 replace h := br h; rcases h with ⟨h1, h⟩ | ⟨h1, h⟩
 ·replace h := br h; rcases h with ⟨h2, h⟩ | ⟨h2, h⟩
  ·replace h := br h; rcases h with ⟨h3, h⟩ | ⟨h3, h⟩
   ·replace h := ob h; obtain ⟨e8, h4, h⟩ := h
    replace h := br h; rcases h with ⟨h5, h⟩ | ⟨h5, h⟩
    ·replace h := ob h; obtain ⟨r9, h6, h⟩ := h
     replace h6 := zbq8 q (M + 5) (by omega) _ _ h6
     try simp only [Ow.enc, zjr.enc, zjs.enc, Sl.enc, kn, simprocAttr, qa, qb, qc, qd] at h6
     replace h := br h; rcases h with ⟨h7, h⟩ | ⟨h7, h⟩
     ·replace h := bb h; rcases h with ⟨h8', h8, h⟩ | ⟨h8', h8, h⟩
      ·replace h := br h; rcases h with ⟨h9, h⟩ | ⟨h9, h⟩
       ·cases h; subst hR; simp (maxDischargeDepth := 12) only [zbtt, kn, simprocAttr, qa, qb, qc, qd, Ow.enc, zjr.enc, zjs.enc, Sl.enc, *]
       ·replace h := br h; rcases h with ⟨h10, h⟩ | ⟨h10, h⟩
        ·cases h; subst hR; simp (maxDischargeDepth := 12) only [zbtt, kn, simprocAttr, qa, qb, qc, qd, Ow.enc, zjr.enc, zjs.enc, Sl.enc, *]
        ·replace h := ob h; obtain ⟨r10, h11, h⟩ := h
         replace h11 := zbn0 q (M + 5) (by omega) _ _ _ h11
         try simp only [Ow.enc, zjr.enc, zjs.enc, Sl.enc, kn, simprocAttr, qa, qb, qc, qd] at h11
         replace h := bb h; rcases h with ⟨h12', h12, h⟩ | ⟨h12', h12, h⟩
         ·replace h := br h; rcases h with ⟨h13, h⟩ | ⟨h13, h⟩
          ·try simp only [kn, simprocAttr, qa, qb, qc, qd] at h13
           cases h; subst hR; simp (maxDischargeDepth := 12) only [zbtt, kn, simprocAttr, qa, qb, qc, qd, Ow.enc, zjr.enc, zjs.enc, Sl.enc, *]
          ·try simp only [kn, simprocAttr, qa, qb, qc, qd] at h13
           replace h := br h; rcases h with ⟨h14, h⟩ | ⟨h14, h⟩
           ·try simp only [kn, simprocAttr, qa, qb, qc, qd] at h14
            replace h := zbuk M (by omega) j (by omega) w1 _ _ _ _ _ _ _ _ _ _ _ _ _ _ h R hR
            simp (maxDischargeDepth := 12) only [zbtt, kn, simprocAttr, qa, qb, qc, qd, Ow.enc, zjr.enc, zjs.enc, Sl.enc, *]
           ·try simp only [kn, simprocAttr, qa, qb, qc, qd] at h14
            cases h
         ·cases h; subst hR; simp (maxDischargeDepth := 12) only [zbtt, kn, simprocAttr, qa, qb, qc, qd, Ow.enc, zjr.enc, zjs.enc, Sl.enc, *]
      ·cases h; subst hR; simp (maxDischargeDepth := 12) only [zbtt, kn, simprocAttr, qa, qb, qc, qd, Ow.enc, zjr.enc, zjs.enc, Sl.enc, *]
     ·cases h; subst hR; simp (maxDischargeDepth := 12) only [zbtt, kn, simprocAttr, qa, qb, qc, qd, Ow.enc, zjr.enc, zjs.enc, Sl.enc, *]
    ·replace h := ob h; obtain ⟨r11, h15, h⟩ := h
     replace h15 := zbrv q (M + 5) (by omega) _ _ _ h15
     try simp only [Ow.enc, zjr.enc, zjs.enc, Sl.enc, kn, simprocAttr, qa, qb, qc, qd] at h15
     replace h := bb h; rcases h with ⟨h16', h16, h⟩ | ⟨h16', h16, h⟩
     ·replace h := bb h; rcases h with ⟨h17', h17, h⟩ | ⟨h17', h17, h⟩
      ·replace h := br h; rcases h with ⟨h18, h⟩ | ⟨h18, h⟩
       ·cases h; subst hR; simp (maxDischargeDepth := 12) only [zbtt, kn, simprocAttr, qa, qb, qc, qd, Ow.enc, zjr.enc, zjs.enc, Sl.enc, *]
       ·replace h := br h; rcases h with ⟨h19, h⟩ | ⟨h19, h⟩
        ·cases h; subst hR; simp (maxDischargeDepth := 12) only [zbtt, kn, simprocAttr, qa, qb, qc, qd, Ow.enc, zjr.enc, zjs.enc, Sl.enc, *]
        ·replace h := ob h; obtain ⟨r12, h20, h⟩ := h
         replace h20 := zbn0 q (M + 5) (by omega) _ _ _ h20
         try simp only [Ow.enc, zjr.enc, zjs.enc, Sl.enc, kn, simprocAttr, qa, qb, qc, qd] at h20
         replace h := bb h; rcases h with ⟨h21', h21, h⟩ | ⟨h21', h21, h⟩
         ·replace h := br h; rcases h with ⟨h22, h⟩ | ⟨h22, h⟩
          ·try simp only [kn, simprocAttr, qa, qb, qc, qd] at h22
           cases h; subst hR; simp (maxDischargeDepth := 12) only [zbtt, kn, simprocAttr, qa, qb, qc, qd, Ow.enc, zjr.enc, zjs.enc, Sl.enc, *]
          ·try simp only [kn, simprocAttr, qa, qb, qc, qd] at h22
           replace h := br h; rcases h with ⟨h23, h⟩ | ⟨h23, h⟩
           ·try simp only [kn, simprocAttr, qa, qb, qc, qd] at h23
            replace h := zbuk M (by omega) j (by omega) w1 _ _ _ _ _ _ _ _ _ _ _ _ _ _ h R hR
            simp (maxDischargeDepth := 12) only [zbtt, kn, simprocAttr, qa, qb, qc, qd, Ow.enc, zjr.enc, zjs.enc, Sl.enc, *]
           ·try simp only [kn, simprocAttr, qa, qb, qc, qd] at h23
            cases h
         ·cases h; subst hR; simp (maxDischargeDepth := 12) only [zbtt, kn, simprocAttr, qa, qb, qc, qd, Ow.enc, zjr.enc, zjs.enc, Sl.enc, *]
      ·cases h; subst hR; simp (maxDischargeDepth := 12) only [zbtt, kn, simprocAttr, qa, qb, qc, qd, Ow.enc, zjr.enc, zjs.enc, Sl.enc, *]
     ·cases h; subst hR; simp (maxDischargeDepth := 12) only [zbtt, kn, simprocAttr, qa, qb, qc, qd, Ow.enc, zjr.enc, zjs.enc, Sl.enc, *]
   ·cases h
  ·cases h
 ·cases h; subst hR; simp (maxDischargeDepth := 12) only [zbtt, kn, simprocAttr, qa, qb, qc, qd, Ow.enc, zjr.enc, zjs.enc, Sl.enc, *]
theorem zbtw : ∀ q, zbtr q ∧ zbts q
 | 0 => by refine ⟨?_, ?_⟩ <;> (intro M hM j hj; intros; rename_i h _ _ _ _ _; cases h)
 | q + 1 => by have ⟨i0, i1⟩ := zbtw q; exact ⟨zbtu q i1, zbtv q i1⟩
theorem zbtx : ∀ (q M : Nat), 8 * q ≤ M → ∀ (w1 : Nat), ∀ (v1len : Nat), ∀ (h1z : Bool), ∀ (h1l : List (Sl Int)), ∀ (h1x : Bool), ∀ (r : Nat × Int × Int × Int × Int × Int × Bool × Int × Int × Int × Int × Int × Nat × Bool × Bool × (List zjs)), zmq q v1len h1z h1l h1x = some r → (orc T (M + 7)).inl F.zm0 [(.ptr 2 0), (.vw 1 w1 0 v1len 1)] [(.box [(.int .i64 0), (.int .i64 0), (.sl true [])]), (.row w1 h1z 1 (List.map (Sl.enc (V.int .u8)) h1l) h1x), (.box [(.int .i64 0), (.int .i64 0), (.int .i64 0), (.sl true []), (.bool false)])] = (if r.1 = 0 then (some ([(.int .i64 r.2.1), (.int .i64 r.2.2.1)], [(.box [(.int .i64 0), (.int .i64 0), (.sl true [])]), (.row w1 h1z 1 (List.map (Sl.enc (V.int .u8)) h1l) h1x), (.box [(.int .i64 r.2.2.2.1), (.int .i64 r.2.2.2.2.1), (.int .i64 r.2.2.2.2.2.1), (.sl true []), (.bool r.2.2.2.2.2.2.1)])]) : Option (List V × Hp)) else (some ([(.int .i64 r.2.2.2.2.2.2.2.1), (.int .i64 r.2.2.2.2.2.2.2.2.1)], [(.box [(.int .i64 0), (.int .i64 0), (.sl true [])]), (.row w1 h1z 1 (List.map (Sl.enc (V.int .u8)) h1l) h1x), (.box [(.int .i64 r.2.2.2.2.2.2.2.2.2.1), (.int .i64 r.2.2.2.2.2.2.2.2.2.2.1), (.int .i64 r.2.2.2.2.2.2.2.2.2.2.2.1), (.vw 3 0 0 r.2.2.2.2.2.2.2.2.2.2.2.2.1 1), (.bool r.2.2.2.2.2.2.2.2.2.2.2.2.2.1)]), (.row 0 r.2.2.2.2.2.2.2.2.2.2.2.2.2.2.1 7 (List.map zjs.enc r.2.2.2.2.2.2.2.2.2.2.2.2.2.2.2) true)]) : Option (List V × Hp))) := by
 intro q M hM w1 v1len h1z h1l h1x r h
 rcases q with _ | q
 ·cases h
 have ih_segment_decode_s0_l0 := (zbtw q).1
 generalize hR : (if r.1 = 0 then (some ([(.int .i64 r.2.1), (.int .i64 r.2.2.1)], [(.box [(.int .i64 0), (.int .i64 0), (.sl true [])]), (.row w1 h1z 1 (List.map (Sl.enc (V.int .u8)) h1l) h1x), (.box [(.int .i64 r.2.2.2.1), (.int .i64 r.2.2.2.2.1), (.int .i64 r.2.2.2.2.2.1), (.sl true []), (.bool r.2.2.2.2.2.2.1)])]) : Option (List V × Hp)) else (some ([(.int .i64 r.2.2.2.2.2.2.2.1), (.int .i64 r.2.2.2.2.2.2.2.2.1)], [(.box [(.int .i64 0), (.int .i64 0), (.sl true [])]), (.row w1 h1z 1 (List.map (Sl.enc (V.int .u8)) h1l) h1x), (.box [(.int .i64 r.2.2.2.2.2.2.2.2.2.1), (.int .i64 r.2.2.2.2.2.2.2.2.2.2.1), (.int .i64 r.2.2.2.2.2.2.2.2.2.2.2.1), (.vw 3 0 0 r.2.2.2.2.2.2.2.2.2.2.2.2.1 1), (.bool r.2.2.2.2.2.2.2.2.2.2.2.2.2.1)]), (.row 0 r.2.2.2.2.2.2.2.2.2.2.2.2.2.2.1 7 (List.map zjs.enc r.2.2.2.2.2.2.2.2.2.2.2.2.2.2.2) true)]) : Option (List V × Hp))) = R
 rw [zbcw (n := M + 6)]
 rw [zmq] at h
 replace h := br h; rcases h with ⟨h1, h⟩ | ⟨h1, h⟩
 ·replace h := ob h; obtain ⟨e1, h2, h⟩ := h
  replace h := ob h; obtain ⟨r2, h3, h⟩ := h
  replace h3 := zbtq q M (by omega) w1 _ _ _ _ _ _ h3
  try simp only [Ow.enc, zjr.enc, zjs.enc, Sl.enc, kn, simprocAttr, qa, qb, qc, qd] at h3
  replace h := br h; rcases h with ⟨h4, h⟩ | ⟨h4, h⟩
  ·replace h := br h; rcases h with ⟨h5, h⟩ | ⟨h5, h⟩
   ·replace h := ih_segment_decode_s0_l0 M (by omega) (M + 6) (by omega) w1 _ _ _ _ _ _ _ _ _ _ _ h R hR
    simp (maxDischargeDepth := 12) only [zbtt, kn, simprocAttr, qa, qb, qc, qd, Ow.enc, zjr.enc, zjs.enc, Sl.enc, *]
   ·cases h
  ·cases h; subst hR; simp (maxDischargeDepth := 12) only [zbtt, kn, simprocAttr, qa, qb, qc, qd, Ow.enc, zjr.enc, zjs.enc, Sl.enc, *]
 ·cases h
def zbty (q : Nat) : Prop := ∀ (M : Nat) (hM : 8 * q ≤ M) (j : Nat) (hj : q ≤ j) (w1 : Nat) (v1z : Bool) (v1l : List Int) (v19 : Int) (h1z : Bool) (h1l : List (Sl Int)) (h1x : Bool) (h3_0 : Int) (h3_1 : Int) (h3_2 : Int) (r : Int × Int × Int × Int × Bool) (_ : zmr q v1z v1l v19 h1z h1l h1x h3_0 h3_1 h3_2 = some r) (R : Option (List V × Hp)) (_ : (some ([(.int .i64 r.1)], [(.box [(.int .i64 0), (.int .i64 0), (.sl true [])]), (.row w1 h1z 1 (List.map (Sl.enc (V.int .u8)) h1l) h1x), (.box [(.int .i64 r.2.1), (.int .i64 r.2.2.1), (.int .i64 r.2.2.2.1), (.sl true []), (.bool r.2.2.2.2)])]) : Option (List V × Hp)) = R) (fr : Fr) (H : Hp) (_ : canon 3 [0, 1, 5, 19] fr H = ([(0, (.ptr 2 0)), (1, (.sl v1z (List.map (V.int .u8) v1l))), (5, (.ptr 3 0)), (19, (.int .i64 v19))], [(.box [(.int .i64 0), (.int .i64 0), (.sl true [])]), (.row w1 h1z 1 (List.map (Sl.enc (V.int .u8)) h1l) h1x), (.box [(.int .i64 0), (.int .i64 0), (.int .i64 0), (.sl true []), (.bool false)]), (.box [(.int .i64 h3_0), (.int .i64 h3_1), (.int .i64 h3_2)])])), finI 3 false [.tmp 4] (unw T (orc T (M + 5)) (M + 5) 3 [.blk 0, .code zt8] (iter 3 [0, 1, 5, 19] (exec T (orc T (M + 5)) (M + 5) 3 ztt) j fr H)) = R
def zbtz := And.intro @kk <| And.intro @zbd9 <| And.intro @zbcb <| @zbfk
theorem zbt0 (q : Nat) (zbul : zbty q) : zbty (q + 1) := by
 intro M hM j hj w1 v1z v1l v19 h1z h1l h1x h3_0 h3_1 h3_2 r h R hR fr H hc
 obtain ⟨j, rfl⟩ : ∃ i, j = i + 1 := ⟨j - 1, by omega⟩
 rw [zhr, hc]; clear hc
 rw [zmr] at h
 replace h := br h; rcases h with ⟨h1, h⟩ | ⟨h1, h⟩
 ·replace h := ob h; obtain ⟨r2, h2, h⟩ := h
  replace h2 := zbpq q (M + 5) (by omega) _ _ h2
  try simp only [Ow.enc, Sl.enc, kn, simprocAttr, qa, qb, qc, qd] at h2
  replace h := br h; rcases h with ⟨h3, h⟩ | ⟨h3, h⟩
  ·replace h := br h; rcases h with ⟨h4, h⟩ | ⟨h4, h⟩
   ·replace h := bc h; rcases h with ⟨h5, h⟩ | ⟨h5, h⟩
    ·replace h := br h; rcases h with ⟨h6, h⟩ | ⟨h6, h⟩
     ·cases h; subst hR; simp (maxDischargeDepth := 12) only [zbtz, kn, simprocAttr, qa, qb, qc, qd, Ow.enc, Sl.enc, *]
     ·replace h := br h; rcases h with ⟨h7, h⟩ | ⟨h7, h⟩
      ·replace h := br h; rcases h with ⟨h8, h⟩ | ⟨h8, h⟩
       ·replace h := zbul M (by omega) j (by omega) w1 _ _ _ _ _ _ _ _ _ _ h R hR
        simp (maxDischargeDepth := 12) only [zbtz, kn, simprocAttr, qa, qb, qc, qd, Ow.enc, Sl.enc, *]
       ·cases h
      ·cases h
    ·replace h := bc h; rcases h with ⟨h9, h⟩ | ⟨h9, h⟩
     ·replace h := br h; rcases h with ⟨h10, h⟩ | ⟨h10, h⟩
      ·cases h; subst hR; simp (maxDischargeDepth := 12) only [zbtz, kn, simprocAttr, qa, qb, qc, qd, Ow.enc, Sl.enc, *]
      ·replace h := br h; rcases h with ⟨h11, h⟩ | ⟨h11, h⟩
       ·replace h := br h; rcases h with ⟨h12, h⟩ | ⟨h12, h⟩
        ·replace h := zbul M (by omega) j (by omega) w1 _ _ _ _ _ _ _ _ _ _ h R hR
         simp (maxDischargeDepth := 12) only [zbtz, kn, simprocAttr, qa, qb, qc, qd, Ow.enc, Sl.enc, *]
        ·cases h
       ·cases h
     ·replace h := bc h; rcases h with ⟨h13, h⟩ | ⟨h13, h⟩
      ·replace h := br h; rcases h with ⟨h14, h⟩ | ⟨h14, h⟩
       ·cases h; subst hR; simp (maxDischargeDepth := 12) only [zbtz, kn, simprocAttr, qa, qb, qc, qd, Ow.enc, Sl.enc, *]
       ·replace h := br h; rcases h with ⟨h15, h⟩ | ⟨h15, h⟩
        ·replace h := br h; rcases h with ⟨h16, h⟩ | ⟨h16, h⟩
         ·replace h := zbul M (by omega) j (by omega) w1 _ _ _ _ _ _ _ _ _ _ h R hR
          simp (maxDischargeDepth := 12) only [zbtz, kn, simprocAttr, qa, qb, qc, qd, Ow.enc, Sl.enc, *]
         ·cases h
        ·cases h
      ·cases h
   ·cases h
  ·cases h
 ·replace h := br h; rcases h with ⟨h17, h⟩ | ⟨h17, h⟩
  ·cases h; subst hR; simp (maxDischargeDepth := 12) only [zbtz, kn, simprocAttr, qa, qb, qc, qd, Ow.enc, Sl.enc, *]
  ·replace h := ob h; obtain ⟨r3, h18, h⟩ := h
   replace h18 := zbme q (M + 5) (by omega) _ _ h18
   replace h := bb h; rcases h with ⟨h19', h19, h⟩ | ⟨h19', h19, h⟩
   ·replace h := br h; rcases h with ⟨h20, h⟩ | ⟨h20, h⟩
    ·cases h; subst hR; simp (maxDischargeDepth := 12) only [zbtz, kn, simprocAttr, qa, qb, qc, qd, Ow.enc, Sl.enc, *]
    ·cases h; subst hR; simp (maxDischargeDepth := 12) only [zbtz, kn, simprocAttr, qa, qb, qc, qd, Ow.enc, Sl.enc, *]
   ·cases h; subst hR; simp (maxDischargeDepth := 12) only [zbtz, kn, simprocAttr, qa, qb, qc, qd, Ow.enc, Sl.enc, *]
theorem zbt1 : ∀ q, zbty q
 | 0 => by intro M hM j hj; intros; rename_i h _ _ _ _ _; cases h
 | q + 1 => by have i0 := zbt1 q; exact zbt0 q i0
theorem zbt2 : ∀ (q M : Nat), 8 * q ≤ M → ∀ (w1 : Nat), ∀ (v1z : Bool), ∀ (v1l : List Int), ∀ (h1z : Bool), ∀ (h1l : List (Sl Int)), ∀ (h1x : Bool), ∀ (r : Int × Int × Int × Int × Bool), zms q v1z v1l h1z h1l h1x = some r → (orc T (M + 6)).inl F.zm2 [(.ptr 2 0), (.sl v1z (List.map (V.int .u8) v1l))] [(.box [(.int .i64 0), (.int .i64 0), (.sl true [])]), (.row w1 h1z 1 (List.map (Sl.enc (V.int .u8)) h1l) h1x), (.box [(.int .i64 0), (.int .i64 0), (.int .i64 0), (.sl true []), (.bool false)])] = (some ([(.int .i64 r.1)], [(.box [(.int .i64 0), (.int .i64 0), (.sl true [])]), (.row w1 h1z 1 (List.map (Sl.enc (V.int .u8)) h1l) h1x), (.box [(.int .i64 r.2.1), (.int .i64 r.2.2.1), (.int .i64 r.2.2.2.1), (.sl true []), (.bool r.2.2.2.2)])]) : Option (List V × Hp)) := by
 intro q M hM w1 v1z v1l h1z h1l h1x r h
 rcases q with _ | q
 ·cases h
 have zbul := (zbt1 q)
 generalize hR : (some ([(.int .i64 r.1)], [(.box [(.int .i64 0), (.int .i64 0), (.sl true [])]), (.row w1 h1z 1 (List.map (Sl.enc (V.int .u8)) h1l) h1x), (.box [(.int .i64 r.2.1), (.int .i64 r.2.2.1), (.int .i64 r.2.2.2.1), (.sl true []), (.bool r.2.2.2.2)])]) : Option (List V × Hp)) = R
 rw [zbeb (n := M + 5)]
 rw [zms] at h
 replace h := br h; rcases h with ⟨h1, h⟩ | ⟨h1, h⟩
 ·cases h; subst hR; simp (maxDischargeDepth := 12) only [zbtz, kn, simprocAttr, qa, qb, qc, qd, Ow.enc, Sl.enc, *]
 ·replace h := ob h; obtain ⟨e1, h2, h⟩ := h
  replace h := br h; rcases h with ⟨h3, h⟩ | ⟨h3, h⟩
  ·replace h := br h; rcases h with ⟨h4, h⟩ | ⟨h4, h⟩
   ·replace h := zbul M (by omega) (M + 5) (by omega) w1 _ _ _ _ _ _ _ _ _ _ h R hR
    simp (maxDischargeDepth := 12) only [zbtz, kn, simprocAttr, qa, qb, qc, qd, Ow.enc, Sl.enc, *]
   ·cases h
  ·cases h; subst hR; simp (maxDischargeDepth := 12) only [zbtz, kn, simprocAttr, qa, qb, qc, qd, Ow.enc, Sl.enc, *]
def zbt3 (q : Nat) : Prop := ∀ (M : Nat) (hM : 8 * q ≤ M) (j : Nat) (hj : q ≤ j) (w1 : Nat) (v1len : Nat) (v19len : Nat) (v20 : Int) (h1z : Bool) (h1l : List (Sl Int)) (h1x : Bool) (h2_0 : Int) (h2_1 : Int) (h2_2 : Int) (h2_4 : Bool) (r : Nat × Int × Int × Int × Int × Int × Bool × Int × Int × Int × Int × Int × Nat × Bool × Bool × (List zjs)) (_ : zmu q v1len v19len v20 h1z h1l h1x h2_0 h2_1 h2_2 h2_4 = some r) (R : Option (List V × Hp)) (_ : (if r.1 = 0 then (some ([(.int .i64 r.2.1), (.int .i64 r.2.2.1)], [(.box [(.int .i64 0), (.int .i64 0), (.sl true [])]), (.row w1 h1z 1 (List.map (Sl.enc (V.int .u8)) h1l) h1x), (.box [(.int .i64 r.2.2.2.1), (.int .i64 r.2.2.2.2.1), (.int .i64 r.2.2.2.2.2.1), (.sl true []), (.bool r.2.2.2.2.2.2.1)])]) : Option (List V × Hp)) else (some ([(.int .i64 r.2.2.2.2.2.2.2.1), (.int .i64 r.2.2.2.2.2.2.2.2.1)], [(.box [(.int .i64 0), (.int .i64 0), (.sl true [])]), (.row w1 h1z 1 (List.map (Sl.enc (V.int .u8)) h1l) h1x), (.box [(.int .i64 r.2.2.2.2.2.2.2.2.2.1), (.int .i64 r.2.2.2.2.2.2.2.2.2.2.1), (.int .i64 r.2.2.2.2.2.2.2.2.2.2.2.1), (.vw 3 0 0 r.2.2.2.2.2.2.2.2.2.2.2.2.1 1), (.bool r.2.2.2.2.2.2.2.2.2.2.2.2.2.1)]), (.row 0 r.2.2.2.2.2.2.2.2.2.2.2.2.2.2.1 7 (List.map zjs.enc r.2.2.2.2.2.2.2.2.2.2.2.2.2.2.2) true)]) : Option (List V × Hp))) = R) (fr : Fr) (H : Hp) (_ : canon 3 [0, 1, 19, 20, 21] fr H = ([(0, (.ptr 2 0)), (1, (.vw 1 w1 0 v1len 0)), (19, (.vw 1 w1 1 v19len 0)), (20, (.int .i64 v20)), (21, (.int .i64 0))], [(.box [(.int .i64 0), (.int .i64 0), (.sl true [])]), (.row w1 h1z 1 (List.map (Sl.enc (V.int .u8)) h1l) h1x), (.box [(.int .i64 h2_0), (.int .i64 h2_1), (.int .i64 h2_2), (.sl true []), (.bool h2_4)])])), finI 3 false [.tmp 4, .tmp 5] (unw T (orc T (M + 6)) (M + 6) 3 [.blk 0, .code zqy] (iter 3 [0, 1, 19, 20, 21] (exec T (orc T (M + 6)) (M + 6) 3 zqv) j fr H)) = R
def zbt4 (q : Nat) : Prop := ∀ (M : Nat) (hM : 8 * q ≤ M) (j : Nat) (hj : q ≤ j) (w1 : Nat) (v1len : Nat) (v19len : Nat) (v20 : Int) (v21 : Int) (h1z : Bool) (h1l : List (Sl Int)) (h1x : Bool) (h2_0 : Int) (h2_1 : Int) (h2_2 : Int) (h2_4 : Bool) (h3z : Bool) (h3l : List zjs) (r : Nat × Int × Int × Int × Int × Int × Bool × Int × Int × Int × Int × Int × Nat × Bool × Bool × (List zjs)) (_ : zmt q v1len v19len v20 v21 h1z h1l h1x h2_0 h2_1 h2_2 h2_4 h3z h3l = some r) (R : Option (List V × Hp)) (_ : (if r.1 = 0 then (some ([(.int .i64 r.2.1), (.int .i64 r.2.2.1)], [(.box [(.int .i64 0), (.int .i64 0), (.sl true [])]), (.row w1 h1z 1 (List.map (Sl.enc (V.int .u8)) h1l) h1x), (.box [(.int .i64 r.2.2.2.1), (.int .i64 r.2.2.2.2.1), (.int .i64 r.2.2.2.2.2.1), (.sl true []), (.bool r.2.2.2.2.2.2.1)])]) : Option (List V × Hp)) else (some ([(.int .i64 r.2.2.2.2.2.2.2.1), (.int .i64 r.2.2.2.2.2.2.2.2.1)], [(.box [(.int .i64 0), (.int .i64 0), (.sl true [])]), (.row w1 h1z 1 (List.map (Sl.enc (V.int .u8)) h1l) h1x), (.box [(.int .i64 r.2.2.2.2.2.2.2.2.2.1), (.int .i64 r.2.2.2.2.2.2.2.2.2.2.1), (.int .i64 r.2.2.2.2.2.2.2.2.2.2.2.1), (.vw 3 0 0 r.2.2.2.2.2.2.2.2.2.2.2.2.1 1), (.bool r.2.2.2.2.2.2.2.2.2.2.2.2.2.1)]), (.row 0 r.2.2.2.2.2.2.2.2.2.2.2.2.2.2.1 7 (List.map zjs.enc r.2.2.2.2.2.2.2.2.2.2.2.2.2.2.2) true)]) : Option (List V × Hp))) = R) (fr : Fr) (H : Hp) (_ : canon 3 [0, 1, 19, 20, 21] fr H = ([(0, (.ptr 2 0)), (1, (.vw 1 w1 0 v1len 0)), (19, (.vw 1 w1 1 v19len 0)), (20, (.int .i64 v20)), (21, (.int .i64 v21))], [(.box [(.int .i64 0), (.int .i64 0), (.sl true [])]), (.row w1 h1z 1 (List.map (Sl.enc (V.int .u8)) h1l) h1x), (.box [(.int .i64 h2_0), (.int .i64 h2_1), (.int .i64 h2_2), (.vw 3 0 0 h3l.length 1), (.bool h2_4)]), (.row 0 h3z 7 (List.map zjs.enc h3l) true)])), finI 3 false [.tmp 4, .tmp 5] (unw T (orc T (M + 6)) (M + 6) 3 [.blk 0, .code zqy] (iter 3 [0, 1, 19, 20, 21] (exec T (orc T (M + 6)) (M + 6) 3 zqv) j fr H)) = R
def zbt5 := And.intro @kk <| And.intro @zbcu <| And.intro @zbec <| And.intro @zbbr <| And.intro @zbea <| And.intro @zbfp <| And.intro @zbfu <| And.intro @zbed <| @zbee
theorem zbt6 (q : Nat) (zbum : zbt4 q) : zbt3 (q + 1) := by
 intro M hM j hj w1 v1len v19len v20 h1z h1l h1x h2_0 h2_1 h2_2 h2_4 r h R hR fr H hc
 obtain ⟨j, rfl⟩ : ∃ i, j = i + 1 := ⟨j - 1, by omega⟩
 rw [zhr, hc]; clear hc
 rw [zmu] at h
 replace h := br h; rcases h with ⟨h1, h⟩ | ⟨h1, h⟩
 ·replace h := br h; rcases h with ⟨h2, h⟩ | ⟨h2, h⟩
  ·replace h := ob h; obtain ⟨e3, h3, h⟩ := h
   replace h := br h; rcases h with ⟨h4, h⟩ | ⟨h4, h⟩
   ·replace h := ob h; obtain ⟨r4, h5, h⟩ := h
    replace h5 := zbq8 q (M + 5) (by omega) _ _ h5
    try simp only [Ow.enc, zjr.enc, zjs.enc, Sl.enc, kn, simprocAttr, qa, qb, qc, qd] at h5
    replace h := br h; rcases h with ⟨h6, h⟩ | ⟨h6, h⟩
    ·replace h := bb h; rcases h with ⟨h7', h7, h⟩ | ⟨h7', h7, h⟩
     ·replace h := br h; rcases h with ⟨h8, h⟩ | ⟨h8, h⟩
      ·cases h; subst hR; simp (maxDischargeDepth := 12) only [zbt5, kn, simprocAttr, qa, qb, qc, qd, Ow.enc, zjr.enc, zjs.enc, Sl.enc, *]
      ·replace h := br h; rcases h with ⟨h9, h⟩ | ⟨h9, h⟩
       ·cases h; subst hR; simp (maxDischargeDepth := 12) only [zbt5, kn, simprocAttr, qa, qb, qc, qd, Ow.enc, zjr.enc, zjs.enc, Sl.enc, *]
       ·replace h := ob h; obtain ⟨r5, h10, h⟩ := h
        replace h10 := zbn0 q (M + 5) (by omega) _ _ _ h10
        try simp only [Ow.enc, zjr.enc, zjs.enc, Sl.enc, kn, simprocAttr, qa, qb, qc, qd] at h10
        replace h := bb h; rcases h with ⟨h11', h11, h⟩ | ⟨h11', h11, h⟩
        ·replace h := br h; rcases h with ⟨h12, h⟩ | ⟨h12, h⟩
         ·try simp only [kn, simprocAttr, qa, qb, qc, qd] at h12
          cases h; subst hR; simp (maxDischargeDepth := 12) only [zbt5, kn, simprocAttr, qa, qb, qc, qd, Ow.enc, zjr.enc, zjs.enc, Sl.enc, *]
         ·try simp only [kn, simprocAttr, qa, qb, qc, qd] at h12
          replace h := br h; rcases h with ⟨h13, h⟩ | ⟨h13, h⟩
          ·replace h := zbum M (by omega) j (by omega) w1 _ _ _ _ _ _ _ _ _ _ _ _ _ _ h R hR
           simp (maxDischargeDepth := 12) only [zbt5, kn, simprocAttr, qa, qb, qc, qd, Ow.enc, zjr.enc, zjs.enc, Sl.enc, *]
          ·cases h
        ·cases h; subst hR; simp (maxDischargeDepth := 12) only [zbt5, kn, simprocAttr, qa, qb, qc, qd, Ow.enc, zjr.enc, zjs.enc, Sl.enc, *]
     ·cases h; subst hR; simp (maxDischargeDepth := 12) only [zbt5, kn, simprocAttr, qa, qb, qc, qd, Ow.enc, zjr.enc, zjs.enc, Sl.enc, *]
    ·cases h; subst hR; simp (maxDischargeDepth := 12) only [zbt5, kn, simprocAttr, qa, qb, qc, qd, Ow.enc, zjr.enc, zjs.enc, Sl.enc, *]
   ·replace h := ob h; obtain ⟨r6, h14, h⟩ := h
    replace h14 := zbrv q (M + 5) (by omega) _ _ _ h14
    try simp only [Ow.enc, zjr.enc, zjs.enc, Sl.enc, kn, simprocAttr, qa, qb, qc, qd] at h14
    replace h := bb h; rcases h with ⟨h15', h15, h⟩ | ⟨h15', h15, h⟩
    ·replace h := bb h; rcases h with ⟨h16', h16, h⟩ | ⟨h16', h16, h⟩
     ·replace h := br h; rcases h with ⟨h17, h⟩ | ⟨h17, h⟩
      ·cases h; subst hR; simp (maxDischargeDepth := 12) only [zbt5, kn, simprocAttr, qa, qb, qc, qd, Ow.enc, zjr.enc, zjs.enc, Sl.enc, *]
      ·replace h := br h; rcases h with ⟨h18, h⟩ | ⟨h18, h⟩
       ·cases h; subst hR; simp (maxDischargeDepth := 12) only [zbt5, kn, simprocAttr, qa, qb, qc, qd, Ow.enc, zjr.enc, zjs.enc, Sl.enc, *]
       ·replace h := ob h; obtain ⟨r7, h19, h⟩ := h
        replace h19 := zbn0 q (M + 5) (by omega) _ _ _ h19
        try simp only [Ow.enc, zjr.enc, zjs.enc, Sl.enc, kn, simprocAttr, qa, qb, qc, qd] at h19
        replace h := bb h; rcases h with ⟨h20', h20, h⟩ | ⟨h20', h20, h⟩
        ·replace h := br h; rcases h with ⟨h21, h⟩ | ⟨h21, h⟩
         ·try simp only [kn, simprocAttr, qa, qb, qc, qd] at h21
          cases h; subst hR; simp (maxDischargeDepth := 12) only [zbt5, kn, simprocAttr, qa, qb, qc, qd, Ow.enc, zjr.enc, zjs.enc, Sl.enc, *]
         ·try simp only [kn, simprocAttr, qa, qb, qc, qd] at h21
          replace h := br h; rcases h with ⟨h22, h⟩ | ⟨h22, h⟩
          ·replace h := zbum M (by omega) j (by omega) w1 _ _ _ _ _ _ _ _ _ _ _ _ _ _ h R hR
           simp (maxDischargeDepth := 12) only [zbt5, kn, simprocAttr, qa, qb, qc, qd, Ow.enc, zjr.enc, zjs.enc, Sl.enc, *]
          ·cases h
        ·cases h; subst hR; simp (maxDischargeDepth := 12) only [zbt5, kn, simprocAttr, qa, qb, qc, qd, Ow.enc, zjr.enc, zjs.enc, Sl.enc, *]
     ·cases h; subst hR; simp (maxDischargeDepth := 12) only [zbt5, kn, simprocAttr, qa, qb, qc, qd, Ow.enc, zjr.enc, zjs.enc, Sl.enc, *]
    ·cases h; subst hR; simp (maxDischargeDepth := 12) only [zbt5, kn, simprocAttr, qa, qb, qc, qd, Ow.enc, zjr.enc, zjs.enc, Sl.enc, *]
  ·cases h
 ·cases h; subst hR; simp (maxDischargeDepth := 12) only [zbt5, kn, simprocAttr, qa, qb, qc, qd, Ow.enc, zjr.enc, zjs.enc, Sl.enc, *]
theorem zbt7 (q : Nat) (zbum : zbt4 q) : zbt4 (q + 1) := by
 intro M hM j hj w1 v1len v19len v20 v21 h1z h1l h1x h2_0 h2_1 h2_2 h2_4 h3z h3l r h R hR fr H hc
 obtain ⟨j, rfl⟩ : ∃ i, j = i + 1 := ⟨j - 1, by omega⟩
 rw [zhr, hc]; clear hc
 rw [zmt] at h
 replace h := br h; rcases h with ⟨h1, h⟩ | ⟨h1, h⟩
 ·replace h := br h; rcases h with ⟨h2, h⟩ | ⟨h2, h⟩
  ·replace h := br h; rcases h with ⟨h3, h⟩ | ⟨h3, h⟩
   ·replace h := ob h; obtain ⟨e8, h4, h⟩ := h
    replace h := br h; rcases h with ⟨h5, h⟩ | ⟨h5, h⟩
    ·replace h := ob h; obtain ⟨r9, h6, h⟩ := h
     replace h6 := zbq8 q (M + 5) (by omega) _ _ h6
     try simp only [Ow.enc, zjr.enc, zjs.enc, Sl.enc, kn, simprocAttr, qa, qb, qc, qd] at h6
     replace h := br h; rcases h with ⟨h7, h⟩ | ⟨h7, h⟩
     ·replace h := bb h; rcases h with ⟨h8', h8, h⟩ | ⟨h8', h8, h⟩
      ·replace h := br h; rcases h with ⟨h9, h⟩ | ⟨h9, h⟩
       ·cases h; subst hR; simp (maxDischargeDepth := 12) only [zbt5, kn, simprocAttr, qa, qb, qc, qd, Ow.enc, zjr.enc, zjs.enc, Sl.enc, *]
       ·replace h := br h; rcases h with ⟨h10, h⟩ | ⟨h10, h⟩
        ·cases h; subst hR; simp (maxDischargeDepth := 12) only [zbt5, kn, simprocAttr, qa, qb, qc, qd, Ow.enc, zjr.enc, zjs.enc, Sl.enc, *]
        ·replace h := ob h; obtain ⟨r10, h11, h⟩ := h
         replace h11 := zbn0 q (M + 5) (by omega) _ _ _ h11
         try simp only [Ow.enc, zjr.enc, zjs.enc, Sl.enc, kn, simprocAttr, qa, qb, qc, qd] at h11
         replace h := bb h; rcases h with ⟨h12', h12, h⟩ | ⟨h12', h12, h⟩
         ·replace h := br h; rcases h with ⟨h13, h⟩ | ⟨h13, h⟩
          ·try simp only [kn, simprocAttr, qa, qb, qc, qd] at h13
           cases h; subst hR; simp (maxDischargeDepth := 12) only [zbt5, kn, simprocAttr, qa, qb, qc, qd, Ow.enc, zjr.enc, zjs.enc, Sl.enc, *]
          ·try simp only [kn, simprocAttr, qa, qb, qc, qd] at h13
           replace h := br h; rcases h with ⟨h14, h⟩ | ⟨h14, h⟩
           ·try simp only [kn, simprocAttr, qa, qb, qc, qd] at h14
            replace h := zbum M (by omega) j (by omega) w1 _ _ _ _ _ _ _ _ _ _ _ _ _ _ h R hR
            simp (maxDischargeDepth := 12) only [zbt5, kn, simprocAttr, qa, qb, qc, qd, Ow.enc, zjr.enc, zjs.enc, Sl.enc, *]
           ·try simp only [kn, simprocAttr, qa, qb, qc, qd] at h14
            cases h
         ·cases h; subst hR; simp (maxDischargeDepth := 12) only [zbt5, kn, simprocAttr, qa, qb, qc, qd, Ow.enc, zjr.enc, zjs.enc, Sl.enc, *]
      ·cases h; subst hR; simp (maxDischargeDepth := 12) only [zbt5, kn, simprocAttr, qa, qb, qc, qd, Ow.enc, zjr.enc, zjs.enc, Sl.enc, *]
     ·cases h; subst hR; simp (maxDischargeDepth := 12) only [zbt5, kn, simprocAttr, qa, qb, qc, qd, Ow.enc, zjr.enc, zjs.enc, Sl.enc, *]
    ·replace h := ob h; obtain ⟨r11, h15, h⟩ := h
     replace h15 := zbrv q (M + 5) (by omega) _ _ _ h15
     try simp only [Ow.enc, zjr.enc, zjs.enc, Sl.enc, kn, simprocAttr, qa, qb, qc, qd] at h15
     replace h := bb h; rcases h with ⟨h16', h16, h⟩ | ⟨h16', h16, h⟩
     ·replace h := bb h; rcases h with ⟨h17', h17, h⟩ | ⟨h17', h17, h⟩
      ·replace h := br h; rcases h with ⟨h18, h⟩ | ⟨h18, h⟩
       ·cases h; subst hR; simp (maxDischargeDepth := 12) only [zbt5, kn, simprocAttr, qa, qb, qc, qd, Ow.enc, zjr.enc, zjs.enc, Sl.enc, *]
       ·replace h := br h; rcases h with ⟨h19, h⟩ | ⟨h19, h⟩
        ·cases h; subst hR; simp (maxDischargeDepth := 12) only [zbt5, kn, simprocAttr, qa, qb, qc, qd, Ow.enc, zjr.enc, zjs.enc, Sl.enc, *]
        ·replace h := ob h; obtain ⟨r12, h20, h⟩ := h
         replace h20 := zbn0 q (M + 5) (by omega) _ _ _ h20
         try simp only [Ow.enc, zjr.enc, zjs.enc, Sl.enc, kn, simprocAttr, qa, qb, qc, qd] at h20
         replace h := bb h; rcases h with ⟨h21', h21, h⟩ | ⟨h21', h21, h⟩
         ·replace h := br h; rcases h with ⟨h22, h⟩ | ⟨h22, h⟩
          ·try simp only [kn, simprocAttr, qa, qb, qc, qd] at h22
           cases h; subst hR; simp (maxDischargeDepth := 12) only [zbt5, kn, simprocAttr, qa, qb, qc, qd, Ow.enc, zjr.enc, zjs.enc, Sl.enc, *]
          ·try simp only [kn, simprocAttr, qa, qb, qc, qd] at h22
           replace h := br h; rcases h with ⟨h23, h⟩ | ⟨h23, h⟩
           ·try simp only [kn, simprocAttr, qa, qb, qc, qd] at h23
            replace h := zbum M (by omega) j (by omega) w1 _ _ _ _ _ _ _ _ _ _ _ _ _ _ h R hR
            simp (maxDischargeDepth := 12) only [zbt5, kn, simprocAttr, qa, qb, qc, qd, Ow.enc, zjr.enc, zjs.enc, Sl.enc, *]
           ·try simp only [kn, simprocAttr, qa, qb, qc, qd] at h23
            cases h
         ·cases h; subst hR; simp (maxDischargeDepth := 12) only [zbt5, kn, simprocAttr, qa, qb, qc, qd, Ow.enc, zjr.enc, zjs.enc, Sl.enc, *]
      ·cases h; subst hR; simp (maxDischargeDepth := 12) only [zbt5, kn, simprocAttr, qa, qb, qc, qd, Ow.enc, zjr.enc, zjs.enc, Sl.enc, *]
     ·cases h; subst hR; simp (maxDischargeDepth := 12) only [zbt5, kn, simprocAttr, qa, qb, qc, qd, Ow.enc, zjr.enc, zjs.enc, Sl.enc, *]
   ·cases h
  ·cases h
 ·cases h; subst hR; simp (maxDischargeDepth := 12) only [zbt5, kn, simprocAttr, qa, qb, qc, qd, Ow.enc, zjr.enc, zjs.enc, Sl.enc, *]
theorem zbt8 : ∀ q, zbt3 q ∧ zbt4 q
 | 0 => by refine ⟨?_, ?_⟩ <;> (intro M hM j hj; intros; rename_i h _ _ _ _ _; cases h)
 | q + 1 => by have ⟨i0, i1⟩ := zbt8 q; exact ⟨zbt6 q i1, zbt7 q i1⟩
theorem zbt9 : ∀ (q M : Nat), 8 * q ≤ M → ∀ (w1 : Nat), ∀ (v1len : Nat), ∀ (h1z : Bool), ∀ (h1l : List (Sl Int)), ∀ (h1x : Bool), ∀ (r : Nat × Int × Int × Int × Int × Int × Bool × Int × Int × Int × Int × Int × Nat × Bool × Bool × (List zjs)), zmv q v1len h1z h1l h1x = some r → (orc T (M + 7)).inl F.zm0 [(.ptr 2 0), (.vw 1 w1 0 v1len 0)] [(.box [(.int .i64 0), (.int .i64 0), (.sl true [])]), (.row w1 h1z 1 (List.map (Sl.enc (V.int .u8)) h1l) h1x), (.box [(.int .i64 0), (.int .i64 0), (.int .i64 0), (.sl true []), (.bool false)])] = (if r.1 = 0 then (some ([(.int .i64 r.2.1), (.int .i64 r.2.2.1)], [(.box [(.int .i64 0), (.int .i64 0), (.sl true [])]), (.row w1 h1z 1 (List.map (Sl.enc (V.int .u8)) h1l) h1x), (.box [(.int .i64 r.2.2.2.1), (.int .i64 r.2.2.2.2.1), (.int .i64 r.2.2.2.2.2.1), (.sl true []), (.bool r.2.2.2.2.2.2.1)])]) : Option (List V × Hp)) else (some ([(.int .i64 r.2.2.2.2.2.2.2.1), (.int .i64 r.2.2.2.2.2.2.2.2.1)], [(.box [(.int .i64 0), (.int .i64 0), (.sl true [])]), (.row w1 h1z 1 (List.map (Sl.enc (V.int .u8)) h1l) h1x), (.box [(.int .i64 r.2.2.2.2.2.2.2.2.2.1), (.int .i64 r.2.2.2.2.2.2.2.2.2.2.1), (.int .i64 r.2.2.2.2.2.2.2.2.2.2.2.1), (.vw 3 0 0 r.2.2.2.2.2.2.2.2.2.2.2.2.1 1), (.bool r.2.2.2.2.2.2.2.2.2.2.2.2.2.1)]), (.row 0 r.2.2.2.2.2.2.2.2.2.2.2.2.2.2.1 7 (List.map zjs.enc r.2.2.2.2.2.2.2.2.2.2.2.2.2.2.2) true)]) : Option (List V × Hp))) := by
 intro q M hM w1 v1len h1z h1l h1x r h
 rcases q with _ | q
 ·cases h
 have ih_segment_decode_s1_l0 := (zbt8 q).1
 generalize hR : (if r.1 = 0 then (some ([(.int .i64 r.2.1), (.int .i64 r.2.2.1)], [(.box [(.int .i64 0), (.int .i64 0), (.sl true [])]), (.row w1 h1z 1 (List.map (Sl.enc (V.int .u8)) h1l) h1x), (.box [(.int .i64 r.2.2.2.1), (.int .i64 r.2.2.2.2.1), (.int .i64 r.2.2.2.2.2.1), (.sl true []), (.bool r.2.2.2.2.2.2.1)])]) : Option (List V × Hp)) else (some ([(.int .i64 r.2.2.2.2.2.2.2.1), (.int .i64 r.2.2.2.2.2.2.2.2.1)], [(.box [(.int .i64 0), (.int .i64 0), (.sl true [])]), (.row w1 h1z 1 (List.map (Sl.enc (V.int .u8)) h1l) h1x), (.box [(.int .i64 r.2.2.2.2.2.2.2.2.2.1), (.int .i64 r.2.2.2.2.2.2.2.2.2.2.1), (.int .i64 r.2.2.2.2.2.2.2.2.2.2.2.1), (.vw 3 0 0 r.2.2.2.2.2.2.2.2.2.2.2.2.1 1), (.bool r.2.2.2.2.2.2.2.2.2.2.2.2.2.1)]), (.row 0 r.2.2.2.2.2.2.2.2.2.2.2.2.2.2.1 7 (List.map zjs.enc r.2.2.2.2.2.2.2.2.2.2.2.2.2.2.2) true)]) : Option (List V × Hp))) = R
 rw [zbcw (n := M + 6)]
 rw [zmv] at h
 replace h := br h; rcases h with ⟨h1, h⟩ | ⟨h1, h⟩
 ·replace h := ob h; obtain ⟨e1, h2, h⟩ := h
  replace h := ob h; obtain ⟨r2, h3, h⟩ := h
  replace h3 := zbt2 q M (by omega) w1 _ _ _ _ _ _ h3
  try simp only [Ow.enc, zjr.enc, zjs.enc, Sl.enc, kn, simprocAttr, qa, qb, qc, qd] at h3
  replace h := br h; rcases h with ⟨h4, h⟩ | ⟨h4, h⟩
  ·replace h := br h; rcases h with ⟨h5, h⟩ | ⟨h5, h⟩
   ·replace h := ih_segment_decode_s1_l0 M (by omega) (M + 6) (by omega) w1 _ _ _ _ _ _ _ _ _ _ _ h R hR
    simp (maxDischargeDepth := 12) only [zbt5, kn, simprocAttr, qa, qb, qc, qd, Ow.enc, zjr.enc, zjs.enc, Sl.enc, *]
   ·cases h
  ·cases h; subst hR; simp (maxDischargeDepth := 12) only [zbt5, kn, simprocAttr, qa, qb, qc, qd, Ow.enc, zjr.enc, zjs.enc, Sl.enc, *]
 ·cases h
def zbua := And.intro @kk <| And.intro @zbdc <| And.intro @zbb6 <| And.intro @zbcg <| And.intro @zbcv <| And.intro @zbeg <| And.intro @zbel <| And.intro @zbeq <| And.intro @zbde <| And.intro @zbdf <| @zbdg
theorem zbub : ∀ (q N : Nat), 8 * q ≤ N → ∀ (a0 : (Sl Int)), ∀ (r : zjt × (Ow (Sl Int)) × Int), zmw q a0 = some r → (orc T N).deep F.zmw [(Sl.enc (V.int .u8)) a0] = some [zjt.enc r.1, (Ow.enc 1 (Sl.enc (V.int .u8))) r.2.1, (V.int .i64) r.2.2] := by
 intro q N hM a0 r h
 rcases q with _ | q
 ·cases h
 obtain ⟨M, rfl⟩ : ∃ M, N = M + 8 := ⟨N - 8, by omega⟩
 generalize hR : some [zjt.enc r.1, (Ow.enc 1 (Sl.enc (V.int .u8))) r.2.1, (V.int .i64) r.2.2] = R
 rw [zh0, z8z, Option.bind_some, zhy]
 rw [zmw] at h
 replace h := ob h; obtain ⟨r1, h1, h⟩ := h
 replace h1 := zbs2 q (M + 7) (by omega) _ _ h1
 try simp only [Ow.enc, Sl.enc, kn, simprocAttr, qa, qb, qc, qd] at h1
 replace h := br h; rcases h with ⟨h2, h⟩ | ⟨h2, h⟩
 ·replace h := br h; rcases h with ⟨h3, h⟩ | ⟨h3, h⟩
  ·cases h; subst hR; simp (maxDischargeDepth := 12) only [zbua, kn, simprocAttr, qa, qb, qc, qd, Ow.enc, zjr.enc, zjs.enc, zjt.enc, Sl.enc, *]
  ·replace h := br h; rcases h with ⟨h4, h⟩ | ⟨h4, h⟩
   ·try simp only [kn, simprocAttr, qa, qb, qc, qd] at h4
    replace h := br h; rcases h with ⟨h5, h⟩ | ⟨h5, h⟩
    ·try simp only [kn, simprocAttr, qa, qb, qc, qd] at h5
     replace h := bb h; rcases h with ⟨h6', h6, h⟩ | ⟨h6', h6, h⟩
     ·replace h := ob h; obtain ⟨r2, h7, h⟩ := h
      replace h7 := zbtx q M (by omega) 0 _ _ _ _ _ h7
      try simp only [Ow.enc, zjr.enc, zjs.enc, Sl.enc, kn, simprocAttr, qa, qb, qc, qd] at h7
      replace h := br h; rcases h with ⟨h8, h⟩ | ⟨h8, h⟩
      ·replace h := br h; rcases h with ⟨h9, h⟩ | ⟨h9, h⟩
       ·replace h := ob h; obtain ⟨r3, h10, h⟩ := h
        replace h10 := zbs7 q (M + 7) (by omega) _ _ h10
        try simp only [Ow.enc, Sl.enc, kn, simprocAttr, qa, qb, qc, qd] at h10
        replace h := ob h; obtain ⟨r4, h11, h⟩ := h
        replace h11 := zbo4 q (M + 7) (by omega) _ _ h11
        try simp only [Ow.enc, Sl.enc, kn, simprocAttr, qa, qb, qc, qd] at h11
        replace h := br h; rcases h with ⟨h12, h⟩ | ⟨h12, h⟩
        ·try simp only [kn, simprocAttr, qa, qb, qc, qd] at h12
         replace h := ob h; obtain ⟨e5, h13, h⟩ := h
         replace h := ob h; obtain ⟨r6, h14, h⟩ := h
         replace h14 := zbnn q (M + 7) (by omega) _ _ h14
         try simp only [Ow.enc, Sl.enc, kn, simprocAttr, qa, qb, qc, qd] at h14
         replace h := ob h; obtain ⟨r7, h15, h⟩ := h
         replace h15 := zbq3 q (M + 7) (by omega) _ _ _ h15
         try simp only [Ow.enc, Sl.enc, kn, simprocAttr, qa, qb, qc, qd] at h15
         replace h := bb h; rcases h with ⟨h16', h16, h⟩ | ⟨h16', h16, h⟩
         ·cases h; subst hR; simp (maxDischargeDepth := 12) only [zbua, kn, simprocAttr, qa, qb, qc, qd, Ow.enc, zjr.enc, zjs.enc, zjt.enc, Sl.enc, *]
         ·cases h; subst hR; simp (maxDischargeDepth := 12) only [zbua, kn, simprocAttr, qa, qb, qc, qd, Ow.enc, zjr.enc, zjs.enc, zjt.enc, Sl.enc, *]
        ·try simp only [kn, simprocAttr, qa, qb, qc, qd] at h12
         cases h
       ·cases h; subst hR; simp (maxDischargeDepth := 12) only [zbua, kn, simprocAttr, qa, qb, qc, qd, Ow.enc, zjr.enc, zjs.enc, zjt.enc, Sl.enc, *]
      ·replace h := br h; rcases h with ⟨h17, h⟩ | ⟨h17, h⟩
       ·replace h := ob h; obtain ⟨r8, h18, h⟩ := h
        replace h18 := zbs7 q (M + 7) (by omega) _ _ h18
        try simp only [Ow.enc, Sl.enc, kn, simprocAttr, qa, qb, qc, qd] at h18
        replace h := ob h; obtain ⟨r9, h19, h⟩ := h
        replace h19 := zbo4 q (M + 7) (by omega) _ _ h19
        try simp only [Ow.enc, Sl.enc, kn, simprocAttr, qa, qb, qc, qd] at h19
        replace h := br h; rcases h with ⟨h20, h⟩ | ⟨h20, h⟩
        ·try simp only [kn, simprocAttr, qa, qb, qc, qd] at h20
         replace h := ob h; obtain ⟨e10, h21, h⟩ := h
         replace h := ob h; obtain ⟨r11, h22, h⟩ := h
         replace h22 := zbnn q (M + 7) (by omega) _ _ h22
         try simp only [Ow.enc, Sl.enc, kn, simprocAttr, qa, qb, qc, qd] at h22
         replace h := ob h; obtain ⟨r12, h23, h⟩ := h
         replace h23 := zbq3 q (M + 7) (by omega) _ _ _ h23
         try simp only [Ow.enc, Sl.enc, kn, simprocAttr, qa, qb, qc, qd] at h23
         replace h := bb h; rcases h with ⟨h24', h24, h⟩ | ⟨h24', h24, h⟩
         ·cases h; subst hR; simp (maxDischargeDepth := 12) only [zbua, kn, simprocAttr, qa, qb, qc, qd, Ow.enc, zjr.enc, zjs.enc, zjt.enc, Sl.enc, *]
         ·cases h; subst hR; simp (maxDischargeDepth := 12) only [zbua, kn, simprocAttr, qa, qb, qc, qd, Ow.enc, zjr.enc, zjs.enc, zjt.enc, Sl.enc, *]
        ·try simp only [kn, simprocAttr, qa, qb, qc, qd] at h20
         cases h
       ·cases h; subst hR; simp (maxDischargeDepth := 12) only [zbua, kn, simprocAttr, qa, qb, qc, qd, Ow.enc, zjr.enc, zjs.enc, zjt.enc, Sl.enc, *]
     ·replace h := ob h; obtain ⟨r13, h25, h⟩ := h
      replace h25 := zbt9 q M (by omega) 0 _ _ _ _ _ h25
      try simp only [Ow.enc, zjr.enc, zjs.enc, Sl.enc, kn, simprocAttr, qa, qb, qc, qd] at h25
      replace h := br h; rcases h with ⟨h26, h⟩ | ⟨h26, h⟩
      ·replace h := br h; rcases h with ⟨h27, h⟩ | ⟨h27, h⟩
       ·replace h := ob h; obtain ⟨r14, h28, h⟩ := h
        replace h28 := zbs7 q (M + 7) (by omega) _ _ h28
        try simp only [Ow.enc, Sl.enc, kn, simprocAttr, qa, qb, qc, qd] at h28
        replace h := ob h; obtain ⟨r15, h29, h⟩ := h
        replace h29 := zbo4 q (M + 7) (by omega) _ _ h29
        try simp only [Ow.enc, Sl.enc, kn, simprocAttr, qa, qb, qc, qd] at h29
        replace h := br h; rcases h with ⟨h30, h⟩ | ⟨h30, h⟩
        ·try simp only [kn, simprocAttr, qa, qb, qc, qd] at h30
         replace h := ob h; obtain ⟨e16, h31, h⟩ := h
         replace h := ob h; obtain ⟨r17, h32, h⟩ := h
         replace h32 := zbnn q (M + 7) (by omega) _ _ h32
         try simp only [Ow.enc, Sl.enc, kn, simprocAttr, qa, qb, qc, qd] at h32
         replace h := ob h; obtain ⟨r18, h33, h⟩ := h
         replace h33 := zbq3 q (M + 7) (by omega) _ _ _ h33
         try simp only [Ow.enc, Sl.enc, kn, simprocAttr, qa, qb, qc, qd] at h33
         replace h := bb h; rcases h with ⟨h34', h34, h⟩ | ⟨h34', h34, h⟩
         ·cases h; subst hR; simp (maxDischargeDepth := 12) only [zbua, kn, simprocAttr, qa, qb, qc, qd, Ow.enc, zjr.enc, zjs.enc, zjt.enc, Sl.enc, *]
         ·cases h; subst hR; simp (maxDischargeDepth := 12) only [zbua, kn, simprocAttr, qa, qb, qc, qd, Ow.enc, zjr.enc, zjs.enc, zjt.enc, Sl.enc, *]
        ·try simp only [kn, simprocAttr, qa, qb, qc, qd] at h30
         cases h
       ·cases h; subst hR; simp (maxDischargeDepth := 12) only [zbua, kn, simprocAttr, qa, qb, qc, qd, Ow.enc, zjr.enc, zjs.enc, zjt.enc, Sl.enc, *]
      ·replace h := br h; rcases h with ⟨h35, h⟩ | ⟨h35, h⟩
       ·replace h := ob h; obtain ⟨r19, h36, h⟩ := h
        replace h36 := zbs7 q (M + 7) (by omega) _ _ h36
        try simp only [Ow.enc, Sl.enc, kn, simprocAttr, qa, qb, qc, qd] at h36
        replace h := ob h; obtain ⟨r20, h37, h⟩ := h
        replace h37 := zbo4 q (M + 7) (by omega) _ _ h37
        try simp only [Ow.enc, Sl.enc, kn, simprocAttr, qa, qb, qc, qd] at h37
        replace h := br h; rcases h with ⟨h38, h⟩ | ⟨h38, h⟩
        ·try simp only [kn, simprocAttr, qa, qb, qc, qd] at h38
         replace h := ob h; obtain ⟨e21, h39, h⟩ := h
         replace h := ob h; obtain ⟨r22, h40, h⟩ := h
         replace h40 := zbnn q (M + 7) (by omega) _ _ h40
         try simp only [Ow.enc, Sl.enc, kn, simprocAttr, qa, qb, qc, qd] at h40
         replace h := ob h; obtain ⟨r23, h41, h⟩ := h
         replace h41 := zbq3 q (M + 7) (by omega) _ _ _ h41
         try simp only [Ow.enc, Sl.enc, kn, simprocAttr, qa, qb, qc, qd] at h41
         replace h := bb h; rcases h with ⟨h42', h42, h⟩ | ⟨h42', h42, h⟩
         ·cases h; subst hR; simp (maxDischargeDepth := 12) only [zbua, kn, simprocAttr, qa, qb, qc, qd, Ow.enc, zjr.enc, zjs.enc, zjt.enc, Sl.enc, *]
         ·cases h; subst hR; simp (maxDischargeDepth := 12) only [zbua, kn, simprocAttr, qa, qb, qc, qd, Ow.enc, zjr.enc, zjs.enc, zjt.enc, Sl.enc, *]
        ·try simp only [kn, simprocAttr, qa, qb, qc, qd] at h38
         cases h
       ·cases h; subst hR; simp (maxDischargeDepth := 12) only [zbua, kn, simprocAttr, qa, qb, qc, qd, Ow.enc, zjr.enc, zjs.enc, zjt.enc, Sl.enc, *]
    ·try simp only [kn, simprocAttr, qa, qb, qc, qd] at h5
     cases h
   ·try simp only [kn, simprocAttr, qa, qb, qc, qd] at h4
    cases h
 ·cases h; subst hR; simp (maxDischargeDepth := 12) only [zbua, kn, simprocAttr, qa, qb, qc, qd, Ow.enc, zjr.enc, zjs.enc, zjt.enc, Sl.enc, *]
def zbuc := And.intro @kk <| And.intro @zbbl <| And.intro @zbdd <| And.intro @zbbn <| And.intro @zbbo <| @zbbp
theorem zbud : ∀ (q N : Nat), 8 * q ≤ N → ∀ (a0 : (Sl Int)), ∀ (r : zjt × Int), zmx q a0 = some r → (orc T N).deep F.zmx [(Sl.enc (V.int .u8)) a0] = some [zjt.enc r.1, (V.int .i64) r.2] := by
 intro q N hM a0 r h
 rcases q with _ | q
 ·cases h
 obtain ⟨M, rfl⟩ : ∃ M, N = M + 8 := ⟨N - 8, by omega⟩
 generalize hR : some [zjt.enc r.1, (V.int .i64) r.2] = R
 rw [zh0, z8m, Option.bind_some, zhy]
 rw [zmx] at h
 replace h := ob h; obtain ⟨r1, h1, h⟩ := h
 replace h1 := zbub q (M + 7) (by omega) _ _ h1
 try simp only [Ow.enc, zjr.enc, zjs.enc, zjt.enc, Sl.enc, kn, simprocAttr, qa, qb, qc, qd] at h1
 cases h; subst hR; simp (maxDischargeDepth := 12) only [zbuc, kn, simprocAttr, qa, qb, qc, qd, Ow.enc, zjr.enc, zjs.enc, zjt.enc, Sl.enc, *]
def zbue (q : Nat) : Prop := ∀ (M : Nat) (hM : 8 * q ≤ M) (j : Nat) (hj : q ≤ j) (v0 : Int) (v2 : Int) (v13 : Int) (v17 : Int) (v18 : Int) (v19 : Int) (h0_0 : Int) (h0_1 : Int) (h0_2z : Bool) (h0_2l : List zjs) (h1_0 : Int) (h1_1 : Int) (h1_2z : Bool) (h1_2l : List zjs) (r : Bool) (_ : zmy q v0 v2 v13 v17 v18 v19 h0_0 h0_1 h0_2z h0_2l h1_0 h1_1 h1_2z h1_2l = some r) (R : Option (List V)) (_ : some [V.bool r] = R) (fr : Fr) (H : Hp) (_ : canon 0 [0, 2, 4, 12, 13, 17, 18, 19] fr H = ([(0, (.int .i64 v0)), (2, (.int .i64 v2)), (4, (.ptr 0 0)), (12, (.ptr 1 0)), (13, (.int .i64 v13)), (17, (.int .i64 v17)), (18, (.int .i64 v18)), (19, (.int .i64 v19))], [(.box [(.int .i64 h0_0), (.int .i64 h0_1), (.sl h0_2z (List.map zjs.enc h0_2l))]), (.box [(.int .i64 h1_0), (.int .i64 h1_1), (.sl h1_2z (List.map zjs.enc h1_2l))])])), fin znc (unw T (orc T (M + 7)) (M + 7) 0 [.blk 0, .code c_8_52] (iter 0 [0, 2, 4, 12, 13, 17, 18, 19] (exec T (orc T (M + 7)) (M + 7) 0 c_8_45) j fr H)) = R
def zbuf := And.intro @kk <| And.intro @zbah <| And.intro @zban <| And.intro @zbas <| And.intro @zbax <| And.intro @zba2 <| And.intro @zba7 <| And.intro @zbbc <| And.intro @zbbh <| And.intro @zbbm <| And.intro @zbaj <| And.intro @zbak <| @zbal
theorem zbug (q : Nat) (zbun : zbue q) : zbue (q + 1) := by
 intro M hM j hj v0 v2 v13 v17 v18 v19 h0_0 h0_1 h0_2z h0_2l h1_0 h1_1 h1_2z h1_2l r h R hR fr H hc
 obtain ⟨j, rfl⟩ : ∃ i, j = i + 1 := ⟨j - 1, by omega⟩
 rw [zhr, hc]; clear hc
 rw [zmy] at h
 replace h := br h; rcases h with ⟨h1, h⟩ | ⟨h1, h⟩
 ·replace h := br h; rcases h with ⟨h2, h⟩ | ⟨h2, h⟩
  ·try simp only [kn, simprocAttr, qa, qb, qc, qd] at h2
   replace h := br h; rcases h with ⟨h3, h⟩ | ⟨h3, h⟩
   ·replace h := br h; rcases h with ⟨h4, h⟩ | ⟨h4, h⟩
    ·replace h := ob h; obtain ⟨r9, h5, h⟩ := h
     replace h5 := zbpa q (M + 7) (by omega) _ _ _ h5
     try simp only [Ow.enc, zjr.enc, zjs.enc, Sl.enc, kn, simprocAttr, qa, qb, qc, qd] at h5
     replace h := br h; rcases h with ⟨h6, h⟩ | ⟨h6, h⟩
     ·replace h := br h; rcases h with ⟨h7, h⟩ | ⟨h7, h⟩
      ·try simp only [kn, simprocAttr, qa, qb, qc, qd] at h7
       replace h := br h; rcases h with ⟨h8, h⟩ | ⟨h8, h⟩
       ·replace h := br h; rcases h with ⟨h9, h⟩ | ⟨h9, h⟩
        ·replace h := ob h; obtain ⟨r10, h10, h⟩ := h
         replace h10 := zbst q (M + 7) (by omega) _ _ _ h10
         try simp only [Ow.enc, zjr.enc, zjs.enc, zjt.enc, Sl.enc, kn, simprocAttr, qa, qb, qc, qd] at h10
         replace h := ob h; obtain ⟨r11, h11, h⟩ := h
         replace h11 := zbs0 q (M + 7) (by omega) _ _ _ h11
         try simp only [Ow.enc, zjr.enc, zjs.enc, zjt.enc, Sl.enc, kn, simprocAttr, qa, qb, qc, qd] at h11
         replace h := bb h; rcases h with ⟨h12', h12, h⟩ | ⟨h12', h12, h⟩
         ·cases h; subst hR; simp (maxDischargeDepth := 12) only [zbuf, kn, simprocAttr, qa, qb, qc, qd, Ow.enc, zjr.enc, zjs.enc, zjt.enc, Sl.enc, *]
         ·cases h; subst hR; simp (maxDischargeDepth := 12) only [zbuf, kn, simprocAttr, qa, qb, qc, qd, Ow.enc, zjr.enc, zjs.enc, zjt.enc, Sl.enc, *]
        ·cases h
       ·cases h
      ·try simp only [kn, simprocAttr, qa, qb, qc, qd] at h7
       replace h := zbun M (by omega) j (by omega) _ _ _ _ _ _ _ _ _ _ _ _ _ _ _ h R hR
       simp (maxDischargeDepth := 12) only [zbuf, kn, simprocAttr, qa, qb, qc, qd, Ow.enc, zjr.enc, zjs.enc, zjt.enc, Sl.enc, *]
     ·cases h; subst hR; simp (maxDischargeDepth := 12) only [zbuf, kn, simprocAttr, qa, qb, qc, qd, Ow.enc, zjr.enc, zjs.enc, zjt.enc, Sl.enc, *]
    ·cases h
   ·cases h
  ·try simp only [kn, simprocAttr, qa, qb, qc, qd] at h2
   replace h := br h; rcases h with ⟨h13, h⟩ | ⟨h13, h⟩
   ·replace h := br h; rcases h with ⟨h14, h⟩ | ⟨h14, h⟩
    ·try simp only [kn, simprocAttr, qa, qb, qc, qd] at h14
     replace h := br h; rcases h with ⟨h15, h⟩ | ⟨h15, h⟩
     ·try simp only [kn, simprocAttr, qa, qb, qc, qd] at h15
      replace h := ob h; obtain ⟨r12, h16, h⟩ := h
      replace h16 := zbpa q (M + 7) (by omega) _ _ _ h16
      try simp only [Ow.enc, zjr.enc, zjs.enc, Sl.enc, kn, simprocAttr, qa, qb, qc, qd] at h16
      replace h := br h; rcases h with ⟨h17, h⟩ | ⟨h17, h⟩
      ·replace h := br h; rcases h with ⟨h18, h⟩ | ⟨h18, h⟩
       ·try simp only [kn, simprocAttr, qa, qb, qc, qd] at h18
        replace h := br h; rcases h with ⟨h19, h⟩ | ⟨h19, h⟩
        ·replace h := br h; rcases h with ⟨h20, h⟩ | ⟨h20, h⟩
         ·replace h := ob h; obtain ⟨r13, h21, h⟩ := h
          replace h21 := zbst q (M + 7) (by omega) _ _ _ h21
          try simp only [Ow.enc, zjr.enc, zjs.enc, zjt.enc, Sl.enc, kn, simprocAttr, qa, qb, qc, qd] at h21
          replace h := ob h; obtain ⟨r14, h22, h⟩ := h
          replace h22 := zbs0 q (M + 7) (by omega) _ _ _ h22
          try simp only [Ow.enc, zjr.enc, zjs.enc, zjt.enc, Sl.enc, kn, simprocAttr, qa, qb, qc, qd] at h22
          replace h := bb h; rcases h with ⟨h23', h23, h⟩ | ⟨h23', h23, h⟩
          ·cases h; subst hR; simp (maxDischargeDepth := 12) only [zbuf, kn, simprocAttr, qa, qb, qc, qd, Ow.enc, zjr.enc, zjs.enc, zjt.enc, Sl.enc, *]
          ·cases h; subst hR; simp (maxDischargeDepth := 12) only [zbuf, kn, simprocAttr, qa, qb, qc, qd, Ow.enc, zjr.enc, zjs.enc, zjt.enc, Sl.enc, *]
         ·cases h
        ·cases h
       ·try simp only [kn, simprocAttr, qa, qb, qc, qd] at h18
        replace h := zbun M (by omega) j (by omega) _ _ _ _ _ _ _ _ _ _ _ _ _ _ _ h R hR
        simp (maxDischargeDepth := 12) only [zbuf, kn, simprocAttr, qa, qb, qc, qd, Ow.enc, zjr.enc, zjs.enc, zjt.enc, Sl.enc, *]
      ·cases h; subst hR; simp (maxDischargeDepth := 12) only [zbuf, kn, simprocAttr, qa, qb, qc, qd, Ow.enc, zjr.enc, zjs.enc, zjt.enc, Sl.enc, *]
     ·try simp only [kn, simprocAttr, qa, qb, qc, qd] at h15
      cases h
    ·try simp only [kn, simprocAttr, qa, qb, qc, qd] at h14
     cases h
   ·cases h
 ·replace h := br h; rcases h with ⟨h24, h⟩ | ⟨h24, h⟩
  ·replace h := br h; rcases h with ⟨h25, h⟩ | ⟨h25, h⟩
   ·replace h := ob h; obtain ⟨r15, h26, h⟩ := h
    replace h26 := zbst q (M + 7) (by omega) _ _ _ h26
    try simp only [Ow.enc, zjr.enc, zjs.enc, zjt.enc, Sl.enc, kn, simprocAttr, qa, qb, qc, qd] at h26
    replace h := ob h; obtain ⟨r16, h27, h⟩ := h
    replace h27 := zbs0 q (M + 7) (by omega) _ _ _ h27
    try simp only [Ow.enc, zjr.enc, zjs.enc, zjt.enc, Sl.enc, kn, simprocAttr, qa, qb, qc, qd] at h27
    replace h := bb h; rcases h with ⟨h28', h28, h⟩ | ⟨h28', h28, h⟩
    ·cases h; subst hR; simp (maxDischargeDepth := 12) only [zbuf, kn, simprocAttr, qa, qb, qc, qd, Ow.enc, zjr.enc, zjs.enc, zjt.enc, Sl.enc, *]
    ·cases h; subst hR; simp (maxDischargeDepth := 12) only [zbuf, kn, simprocAttr, qa, qb, qc, qd, Ow.enc, zjr.enc, zjs.enc, zjt.enc, Sl.enc, *]
   ·cases h
  ·cases h
theorem zbuh : ∀ q, zbue q
 | 0 => by intro M hM j hj; intros; rename_i h _ _ _ _ _; cases h
 | q + 1 => by have i0 := zbuh q; exact zbug q i0
theorem zbui : ∀ (q N : Nat), 8 * q ≤ N → ∀ (a0 : Int) (a1 : zjt) (a2 : Int), ∀ (r : Bool), zmz q a0 a1 a2 = some r → (orc T N).deep F.zmz [(V.int .i64) a0, zjt.enc a1, (V.int .i64) a2] = some [V.bool r] := by
 intro q N hM a0 a1 a2 r h
 rcases q with _ | q
 ·cases h
 obtain ⟨M, rfl⟩ : ∃ M, N = M + 8 := ⟨N - 8, by omega⟩
 have zbun := (zbuh q)
 generalize hR : some [V.bool r] = R
 rw [zh0, z8e, Option.bind_some, zhy]
 rw [zmz] at h
 replace h := ob h; obtain ⟨r1, h1, h⟩ := h
 replace h1 := zbo8 q (M + 7) (by omega)  _ h1
 replace h := bb h; rcases h with ⟨h2', h2, h⟩ | ⟨h2', h2, h⟩
 ·replace h := br h; rcases h with ⟨h3, h⟩ | ⟨h3, h⟩
  ·cases h; subst hR; simp (maxDischargeDepth := 12) only [zbuf, kn, simprocAttr, qa, qb, qc, qd, Ow.enc, zjr.enc, zjs.enc, zjt.enc, Sl.enc, *]
  ·replace h := br h; rcases h with ⟨h4, h⟩ | ⟨h4, h⟩
   ·cases h; subst hR; simp (maxDischargeDepth := 12) only [zbuf, kn, simprocAttr, qa, qb, qc, qd, Ow.enc, zjr.enc, zjs.enc, zjt.enc, Sl.enc, *]
   ·replace h := ob h; obtain ⟨r2, h5, h⟩ := h
    replace h5 := zbo6 q (M + 7) (by omega) _ _ _ h5
    try simp only [Ow.enc, zjr.enc, zjs.enc, zjt.enc, Sl.enc, kn, simprocAttr, qa, qb, qc, qd] at h5
    replace h := br h; rcases h with ⟨h6, h⟩ | ⟨h6, h⟩
    ·replace h := br h; rcases h with ⟨h7, h⟩ | ⟨h7, h⟩
     ·cases h; subst hR; simp (maxDischargeDepth := 12) only [zbuf, kn, simprocAttr, qa, qb, qc, qd, Ow.enc, zjr.enc, zjs.enc, zjt.enc, Sl.enc, *]
     ·replace h := br h; rcases h with ⟨h8, h⟩ | ⟨h8, h⟩
      ·replace h := br h; rcases h with ⟨h9, h⟩ | ⟨h9, h⟩
       ·replace h := bb h; rcases h with ⟨h10', h10, h⟩ | ⟨h10', h10, h⟩
        ·replace h := ob h; obtain ⟨r3, h11, h⟩ := h
         replace h11 := zbud q (M + 7) (by omega) _ _ h11
         try simp only [Ow.enc, zjr.enc, zjs.enc, zjt.enc, Sl.enc, kn, simprocAttr, qa, qb, qc, qd] at h11
         replace h := ob h; obtain ⟨r4, h12, h⟩ := h
         replace h12 := zbsk q (M + 7) (by omega) _ _ h12
         try simp only [Ow.enc, zjr.enc, zjs.enc, zjt.enc, Sl.enc, kn, simprocAttr, qa, qb, qc, qd] at h12
         replace h := ob h; obtain ⟨r5, h13, h⟩ := h
         replace h13 := zbnp q (M + 7) (by omega) _ _ _ _ h13
         try simp only [Ow.enc, kn, simprocAttr, qa, qb, qc, qd] at h13
         replace h := br h; rcases h with ⟨h14, h⟩ | ⟨h14, h⟩
         ·cases h; subst hR; simp (maxDischargeDepth := 12) only [zbuf, kn, simprocAttr, qa, qb, qc, qd, Ow.enc, zjr.enc, zjs.enc, zjt.enc, Sl.enc, *]
         ·replace h := bb h; rcases h with ⟨h15', h15, h⟩ | ⟨h15', h15, h⟩
          ·replace h := bb h; rcases h with ⟨h16', h16, h⟩ | ⟨h16', h16, h⟩
           ·replace h := zbun M (by omega) (M + 7) (by omega) _ _ _ _ _ _ _ _ _ _ _ _ _ _ _ h R hR
            simp (maxDischargeDepth := 12) only [zbuf, kn, simprocAttr, qa, qb, qc, qd, Ow.enc, zjr.enc, zjs.enc, zjt.enc, Sl.enc, *]
           ·replace h := br h; rcases h with ⟨h17, h⟩ | ⟨h17, h⟩
            ·cases h; subst hR; simp (maxDischargeDepth := 12) only [zbuf, kn, simprocAttr, qa, qb, qc, qd, Ow.enc, zjr.enc, zjs.enc, zjt.enc, Sl.enc, *]
            ·cases h; subst hR; simp (maxDischargeDepth := 12) only [zbuf, kn, simprocAttr, qa, qb, qc, qd, Ow.enc, zjr.enc, zjs.enc, zjt.enc, Sl.enc, *]
          ·cases h; subst hR; simp (maxDischargeDepth := 12) only [zbuf, kn, simprocAttr, qa, qb, qc, qd, Ow.enc, zjr.enc, zjs.enc, zjt.enc, Sl.enc, *]
        ·replace h := ob h; obtain ⟨r6, h18, h⟩ := h
         replace h18 := zbud q (M + 7) (by omega) _ _ h18
         try simp only [Ow.enc, zjr.enc, zjs.enc, zjt.enc, Sl.enc, kn, simprocAttr, qa, qb, qc, qd] at h18
         replace h := ob h; obtain ⟨r7, h19, h⟩ := h
         replace h19 := zbsk q (M + 7) (by omega) _ _ h19
         try simp only [Ow.enc, zjr.enc, zjs.enc, zjt.enc, Sl.enc, kn, simprocAttr, qa, qb, qc, qd] at h19
         replace h := ob h; obtain ⟨r8, h20, h⟩ := h
         replace h20 := zbnp q (M + 7) (by omega) _ _ _ _ h20
         try simp only [Ow.enc, kn, simprocAttr, qa, qb, qc, qd] at h20
         replace h := br h; rcases h with ⟨h21, h⟩ | ⟨h21, h⟩
         ·cases h; subst hR; simp (maxDischargeDepth := 12) only [zbuf, kn, simprocAttr, qa, qb, qc, qd, Ow.enc, zjr.enc, zjs.enc, zjt.enc, Sl.enc, *]
         ·replace h := bb h; rcases h with ⟨h22', h22, h⟩ | ⟨h22', h22, h⟩
          ·replace h := bb h; rcases h with ⟨h23', h23, h⟩ | ⟨h23', h23, h⟩
           ·replace h := zbun M (by omega) (M + 7) (by omega) _ _ _ _ _ _ _ _ _ _ _ _ _ _ _ h R hR
            simp (maxDischargeDepth := 12) only [zbuf, kn, simprocAttr, qa, qb, qc, qd, Ow.enc, zjr.enc, zjs.enc, zjt.enc, Sl.enc, *]
           ·replace h := br h; rcases h with ⟨h24, h⟩ | ⟨h24, h⟩
            ·cases h; subst hR; simp (maxDischargeDepth := 12) only [zbuf, kn, simprocAttr, qa, qb, qc, qd, Ow.enc, zjr.enc, zjs.enc, zjt.enc, Sl.enc, *]
            ·cases h; subst hR; simp (maxDischargeDepth := 12) only [zbuf, kn, simprocAttr, qa, qb, qc, qd, Ow.enc, zjr.enc, zjs.enc, zjt.enc, Sl.enc, *]
          ·cases h; subst hR; simp (maxDischargeDepth := 12) only [zbuf, kn, simprocAttr, qa, qb, qc, qd, Ow.enc, zjr.enc, zjs.enc, zjt.enc, Sl.enc, *]
       ·cases h
      ·cases h
    ·cases h; subst hR; simp (maxDischargeDepth := 12) only [zbuf, kn, simprocAttr, qa, qb, qc, qd, Ow.enc, zjr.enc, zjs.enc, zjt.enc, Sl.enc, *]
 ·cases h; subst hR; simp (maxDischargeDepth := 12) only [zbuf, kn, simprocAttr, qa, qb, qc, qd, Ow.enc, zjr.enc, zjs.enc, zjt.enc, Sl.enc, *]
end Go.Dvm.C
