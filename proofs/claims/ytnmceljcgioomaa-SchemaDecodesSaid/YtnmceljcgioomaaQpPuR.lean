/- Plain laws of the functions. -/
import Derived.Test.YtnmceljcgioomaaQpPuQ
set_option linter.all false
set_option maxRecDepth 100000
namespace Go.Dvm.I
open Go Go.Dvm

theorem put1 {f : Int} (h1 : 0 ≤ f) (h2 : f < 128) : put f = [f] := by
  rw [put_ok h1 (by omega), grp_lt (by omega)]; congr 1; omega
theorem getS_putS {n : Int} {x : List Int} (h : inR .i64 n) : getS (putS n ++ x) = (n, ((putS n).length : Int)) := by
  unfold getS putS
  rw [rd_grp (by simpa using zig_lt h) (by omega) (by omega)]
  simp only [zag_zig]
theorem putS_pos (n : Int) : 1 ≤ (putS n).length := grp_pos _
theorem put_pos {n : Int} (h1 : 0 ≤ n) (h2 : n < 4611686018427387904) : 1 ≤ (put n).length := by rw [put_ok h1 h2]; exact grp_pos _
theorem getO_opB {o : S_api_Op} {x : List Int} (h : fitsOp o = true) : getO (opB o ++ x) = (o, ((opB o).length : Int)) := by
  obtain ⟨c1, c2, ⟨a1, a2⟩, b1, b2⟩ := fitsOp_iff.1 h
  have e1 : getN (opB o ++ x) = (o.Code, ((put o.Code).length : Int)) := by
    unfold opB; rw [List.append_assoc]; exact getN_put c1 (by omega)
  have e2 : (opB o ++ x).drop (put o.Code).length = putS o.A ++ (putS o.B ++ x) := by
    unfold opB; simp only [List.append_assoc]; exact List.drop_left' rfl
  have e3 : (putS o.A ++ (putS o.B ++ x)).drop (putS o.A).length = putS o.B ++ x := List.drop_left' rfl
  have p1 := put_pos c1 (show o.Code < 4611686018427387904 by omega)
  have p2 := putS_pos o.A
  have p3 := putS_pos o.B
  have hA : inR .i64 o.A := inR_i64 (by omega) (by omega)
  have hB : inR .i64 o.B := inR_i64 (by omega) (by omega)
  simp only [getO, e1, Int.toNat_natCast, e2, getS_putS hA, e3, getS_putS hB]
  rw [if_pos ⟨by omega, by omega, by omega, h⟩]
  simp [opB]; omega

def setV (f : Int) (r r0 : S_api_Record) : S_api_Record :=
  if f = 1 then ⟨r.Index, r0.Proc, r0.Seq, r0.Op, r0.Resp⟩
  else if f = 2 then ⟨r0.Index, r.Proc, r0.Seq, r0.Op, r0.Resp⟩
  else if f = 3 then ⟨r0.Index, r0.Proc, r.Seq, r0.Op, r0.Resp⟩
  else if f = 4 then ⟨r0.Index, r0.Proc, r0.Seq, r.Op, r0.Resp⟩
  else ⟨r0.Index, r0.Proc, r0.Seq, r0.Op, r.Resp⟩
theorem rdVal_val {f : Int} {r r0 : S_api_Record} {x : List Int} (h : FitsR r) : rdVal f r0 (valB f r ++ x) = (setV f r r0, ((valB f r).length : Int)) := by
  obtain ⟨h1, h2, h3, h4, h5, h6, h7, h8, h9⟩ := h
  unfold rdVal setV valB
  by_cases e1 : f = 1
  · simp only [if_pos e1, getN_put h1 h2]
  · simp only [if_neg e1]
    by_cases e2 : f = 2
    · simp only [if_pos e2, getN_put h3 (show r.Proc < 4611686018427387904 by omega)]
    · simp only [if_neg e2]
      by_cases e3 : f = 3
      · simp only [if_pos e3, getN_put h5 h6]
      · simp only [if_neg e3]
        by_cases e4 : f = 4
        · simp only [if_pos e4, getO_opB h7]
        · simp only [if_neg e4, getS_putS (show inR .i64 r.Resp from inR_i64 (by omega) (by omega))]
theorem valB_pos {f : Int} {r : S_api_Record} (h : FitsR r) : 1 ≤ (valB f r).length := by
  obtain ⟨h1, h2, h3, h4, h5, h6, h7, h8, h9⟩ := h
  have hc := (fitsOp_iff.1 h7)
  unfold valB
  split
  · exact put_pos h1 h2
  · split
    · exact put_pos h3 (by omega)
    · split
      · exact put_pos h5 h6
      · split
        · have := put_pos hc.1 (show r.Op.Code < 4611686018427387904 by omega)
          unfold opB; simp only [List.length_append]; omega
        · exact putS_pos _
theorem rdR_fuel (v : Int) : ∀ (k k' : Nat) (b : List Int) (last : Int) (r : S_api_Record) (l : List Int), b.length < k → b.length < k' → rdR v k b last r l = rdR v k' b last r l
  | 0, _, b, last, r, l, h, _ => by omega
  | k + 1, 0, b, last, r, l, _, h => by omega
  | k + 1, k' + 1, b, last, r, l, h, h' => by
    have hg := getN_len (l := b)
    have hd : (b.drop (getN b).2.toNat).length = b.length - (getN b).2.toNat := by simp
    simp only [rdR]
    split
    · rfl
    · split
      · rfl
      · rename_i h0 h1
        have hpos : 0 < (getN b).2.toNat := by omega
        split
        · split
          · rfl
          · exact rdR_fuel v k k' _ _ _ _ (by rw [List.length_drop]; omega) (by rw [List.length_drop]; omega)
        · split
          · rfl
          · split
            · rfl
            · exact rdR_fuel v k k' _ _ _ _ (by rw [List.length_drop]; omega) (by rw [List.length_drop]; omega)
theorem rdR_step {v : Int} {r r0 : S_api_Record} {f last : Int} {x l : List Int} {k : Nat} (h : FitsR r) (h1 : 1 ≤ f) (h2 : f ≤ 5) (hl : last < f) (hm : f ∈ l) :
    rdR v (k + 1) ((put f ++ valB f r) ++ x) last r0 l = rdR v k x f (setV f r r0) (l.erase f) := by
  have hp := valB_pos (f := f) h
  have e1 : getN ((put f ++ valB f r) ++ x) = (f, ((put f).length : Int)) := by rw [List.append_assoc]; exact getN_put (by omega) (by omega)
  have hq := put_pos (show 0 ≤ f by omega) (show f < 4611686018427387904 by omega)
  have e2 : ((put f ++ valB f r) ++ x).drop (put f).length = valB f r ++ x := by rw [List.append_assoc]; exact List.drop_left' rfl
  have e3 : (valB f r ++ x).drop (valB f r).length = x := List.drop_left' rfl
  simp only [rdR, e1, Int.toNat_natCast, e2, rdVal_val h, e3]
  rw [if_neg (by simp only [List.length_append]; omega), if_neg (by omega), if_pos hm, if_neg (by omega)]

theorem getN_rec {v : Int} {r : S_api_Record} {x : List Int} (h1 : 1 ≤ v) (h3 : v ≤ 3) : getN (recB v r ++ x) = (v, 1) ∧ (recB v r ++ x).drop 1 = fieldsB r (fieldsOf v) ++ x := by
  unfold recB
  rw [put1 (by omega) (by omega)]
  refine ⟨?_, rfl⟩
  have := getN_put (n := v) (x := fieldsB r (fieldsOf v) ++ x) (by omega) (by omega)
  rw [put1 (by omega) (by omega)] at this
  simpa using this
def lastF (v : Int) : Int := if v = 3 then 5 else 4
theorem rdR_rec {v : Int} {r : S_api_Record} {x : List Int} {N : Nat} (h1 : 1 ≤ v) (h3 : v ≤ 3) (h : FitsR r) (hN : (fieldsB r (fieldsOf v) ++ x).length < N) :
    rdR v N (fieldsB r (fieldsOf v) ++ x) (-1) noR (fieldsOf v) = rdR v (x.length + 1) x (lastF v) (upR v r) [] := by
  have hv : v = 1 ∨ v = 2 ∨ v = 3 := by omega
  have hp := fun f => valB_pos (f := f) h
  have q1 := hp 1
  have q2 := hp 2
  have q3 := hp 3
  have q4 := hp 4
  have q5 := hp 5
  have p1 : (put 1).length = 1 := by rw [put1 (by omega) (by omega)]; rfl
  have p2 : (put 2).length = 1 := by rw [put1 (by omega) (by omega)]; rfl
  have p3 : (put 3).length = 1 := by rw [put1 (by omega) (by omega)]; rfl
  have p4 : (put 4).length = 1 := by rw [put1 (by omega) (by omega)]; rfl
  have p5 : (put 5).length = 1 := by rw [put1 (by omega) (by omega)]; rfl
  rcases hv with rfl | rfl | rfl
  · have e : fieldsB r (fieldsOf 1) ++ x = (put 1 ++ valB 1 r) ++ ((put 2 ++ valB 2 r) ++ ((put 4 ++ valB 4 r) ++ x)) := by simp [fieldsOf, fieldsB]
    rw [e] at hN ⊢
    simp only [List.length_append] at hN
    obtain ⟨n, rfl⟩ : ∃ n, N = n + 3 := ⟨N - 3, by omega⟩
    rw [show fieldsOf 1 = [1, 2, 4] from rfl, rdR_step h (by omega) (by omega) (by omega) (by simp), show [(1 : Int), 2, 4].erase 1 = [2, 4] from by decide, rdR_step h (by omega) (by omega) (by omega) (by simp), show [(2 : Int), 4].erase 2 = [4] from by decide, rdR_step h (by omega) (by omega) (by omega) (by simp), show [(4 : Int)].erase 4 = [] from by decide]
    rw [rdR_fuel 1 n (x.length + 1) _ _ _ _ (by omega) (by omega)]
    rfl
  · have e : fieldsB r (fieldsOf 2) ++ x = (put 1 ++ valB 1 r) ++ ((put 2 ++ valB 2 r) ++ ((put 3 ++ valB 3 r) ++ ((put 4 ++ valB 4 r) ++ x))) := by simp [fieldsOf, fieldsB]
    rw [e] at hN ⊢
    simp only [List.length_append] at hN
    obtain ⟨n, rfl⟩ : ∃ n, N = n + 4 := ⟨N - 4, by omega⟩
    rw [show fieldsOf 2 = [1, 2, 3, 4] from rfl, rdR_step h (by omega) (by omega) (by omega) (by simp), show [(1 : Int), 2, 3, 4].erase 1 = [2, 3, 4] from by decide, rdR_step h (by omega) (by omega) (by omega) (by simp), show [(2 : Int), 3, 4].erase 2 = [3, 4] from by decide, rdR_step h (by omega) (by omega) (by omega) (by simp), show [(3 : Int), 4].erase 3 = [4] from by decide, rdR_step h (by omega) (by omega) (by omega) (by simp), show [(4 : Int)].erase 4 = [] from by decide]
    rw [rdR_fuel 2 n (x.length + 1) _ _ _ _ (by omega) (by omega)]
    rfl
  · have e : fieldsB r (fieldsOf 3) ++ x = (put 1 ++ valB 1 r) ++ ((put 2 ++ valB 2 r) ++ ((put 3 ++ valB 3 r) ++ ((put 4 ++ valB 4 r) ++ ((put 5 ++ valB 5 r) ++ x)))) := by simp [fieldsOf, fieldsB]
    rw [e] at hN ⊢
    simp only [List.length_append] at hN
    obtain ⟨n, rfl⟩ : ∃ n, N = n + 5 := ⟨N - 5, by omega⟩
    rw [show fieldsOf 3 = [1, 2, 3, 4, 5] from rfl, rdR_step h (by omega) (by omega) (by omega) (by simp), show [(1 : Int), 2, 3, 4, 5].erase 1 = [2, 3, 4, 5] from by decide, rdR_step h (by omega) (by omega) (by omega) (by simp), show [(2 : Int), 3, 4, 5].erase 2 = [3, 4, 5] from by decide, rdR_step h (by omega) (by omega) (by omega) (by simp), show [(3 : Int), 4, 5].erase 3 = [4, 5] from by decide, rdR_step h (by omega) (by omega) (by omega) (by simp), show [(4 : Int), 5].erase 4 = [5] from by decide, rdR_step h (by omega) (by omega) (by omega) (by simp), show [(5 : Int)].erase 5 = [] from by decide]
    rw [rdR_fuel 3 n (x.length + 1) _ _ _ _ (by omega) (by omega)]
    rfl
/-- A record that was told, and what stands behind it. -/
theorem decR_rec {v : Int} {r : S_api_Record} {x : List Int} (h1 : 1 ≤ v) (h3 : v ≤ 3) (h : FitsR r) :
    decR (recB v r ++ x) = if (rdR v (x.length + 1) x (lastF v) (upR v r) []).2 = 0 then ((rdR v (x.length + 1) x (lastF v) (upR v r) []).1, 0) else (noR, (rdR v (x.length + 1) x (lastF v) (upR v r) []).2) := by
  obtain ⟨e1, e2⟩ := getN_rec (r := r) (x := x) h1 h3
  have hl : (recB v r ++ x).length = (fieldsB r (fieldsOf v) ++ x).length + 1 := by
    unfold recB; rw [put1 (by omega) (by omega)]; simp
  unfold decR
  rw [if_neg (by omega), e1]
  simp only [show (1 : Int).toNat = 1 from rfl, e2]
  rw [if_neg (by omega), if_neg (by omega), rdR_rec h1 h3 h (by omega)]
theorem decR_back {v : Int} {r : S_api_Record} (h1 : 1 ≤ v) (h3 : v ≤ 3) (h : FitsR r) : decR (recB v r) = (upR v r, 0) := by
  have := decR_rec (x := []) h1 h3 h
  rw [List.append_nil] at this
  rw [this]
  simp [rdR, upR_fits h]
theorem decR_nil : decR [] = (noR, 2) := by simp [decR]

theorem recB_isB {v : Int} {r : S_api_Record} : isB (recB v r) := by
  have hg : ∀ n, isB (grp n) := by
    intro n
    induction n using Nat.strongRecOn with
    | ind n ih =>
      by_cases h : n < 128
      · rw [grp_lt h]; intro c hc; simp at hc; omega
      · rw [grp_ge h]
        intro c hc
        rcases List.mem_cons.1 hc with h2 | h2
        · omega
        · exact ih (n / 128) (by omega) c h2
  have hp : ∀ n, isB (put n) := by
    intro n; unfold put
    split
    · intro c hc; simp at hc
    · split
      · intro c hc; simp at hc
      · exact hg _
  have hs : ∀ n, isB (putS n) := fun n => hg _
  have happ : ∀ {a b : List Int}, isB a → isB b → isB (a ++ b) := fun ha hb c hc => (List.mem_append.1 hc).elim (ha c) (hb c)
  have hv : ∀ f, isB (valB f r) := by
    intro f; unfold valB
    split
    · exact hp _
    · split
      · exact hp _
      · split
        · exact hp _
        · split
          · exact happ (hp _) (happ (hs _) (hs _))
          · exact hs _
  have hf : ∀ L, isB (fieldsB r L) := by
    intro L
    induction L with
    | nil => intro c hc; simp [fieldsB] at hc
    | cons f L ih => exact happ (happ (hp _) (hv _)) ih
  exact happ (hp _) (hf _)
theorem recB_len {v : Int} {r : S_api_Record} (h : FitsR r) : (recB v r).length ≤ 1000 := by
  have h2 : ∀ L : List Int, (fieldsB r L).length ≤ 40 * L.length := by
    intro L
    induction L with
    | nil => simp [fieldsB]
    | cons f L ih =>
      have := valB_len (f := f) h
      have := put_len f
      simp only [fieldsB, List.length_append, List.length_cons]; omega
  have h3 := h2 (fieldsOf v)
  have h4 := (fieldsOf_mem (v := v)).2
  have h5 := put_len v
  unfold recB; simp only [List.length_append]; omega

theorem ferrymanlaw06_SchemaBack_true : ∀ (a0 : Int) (a1 : S_api_Record), inR .i64 a0 → S_api_Record.ok a1 → ∃ q, ferrymanlaw06_SchemaBack q a0 a1 = some true := by
  intro v r hv hr
  apply Ev.get
  refine Ev.succ (Ev.bind awake06_ev ?_) (fun q => rfl)
  by_cases h : v < 1 ∨ 3 < v
  · have he := schema_Encode_ev v r
    rw [if_pos h] at he
    have hu := schema_Upgrade_ev v r
    rw [if_pos h] at hu
    have hd := schema_Decode_ev ⟨true, []⟩ (by intro c hc; simp at hc) (by simp)
    rw [decR_nil] at hd
    exact Ev.bind he (Ev.bind hd (Ev.bind hu (Ev.neg (by simp) (Ev.pos rfl (Ev.pos (by simp) (Ev.ret' (by simp)))))))
  · by_cases hf : FitsR r
    · have he := schema_Encode_ev v r
      rw [if_neg h, if_pos hf] at he
      have hu := schema_Upgrade_ev v r
      rw [if_neg h] at hu
      have hd := schema_Decode_ev ⟨false, recB v r⟩ recB_isB (by have := recB_len (v := v) hf; simp only; omega)
      rw [decR_back (by omega) (by omega) hf] at hd
      refine Ev.bind he (Ev.bind hd (Ev.bind hu (Ev.pos rfl (Ev.pos rfl (Ev.pos rfl (Ev.pos rfl (Ev.pos rfl (Ev.pos rfl (Ev.pos rfl (Ev.pos rfl (Ev.pos rfl (Ev.pos rfl (Ev.pos rfl ?_)))))))))))))
      refine Ev.ite (fun h3 => Ev.ret' ?_) fun h3 => Ev.ret _
      subst h3
      simp [upR]
    · have he := schema_Encode_ev v r
      rw [if_neg h, if_neg hf] at he
      have hu := schema_Upgrade_ev v r
      rw [if_neg h] at hu
      have hd := schema_Decode_ev ⟨true, []⟩ (by intro c hc; simp at hc) (by simp)
      rw [decR_nil] at hd
      exact Ev.bind he (Ev.bind hd (Ev.bind hu (Ev.neg (by simp) (Ev.pos rfl (Ev.pos (by simp) (Ev.ret' (by simp)))))))
end Go.Dvm.I
