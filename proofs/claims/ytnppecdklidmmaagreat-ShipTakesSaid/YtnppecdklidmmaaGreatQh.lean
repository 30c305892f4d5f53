/- Walks through a disk's functions, where it has no files. -/
import Derived.Shelf.SlIterI.Nil
import Derived.Shelf.SlIterI.Sorted
import Derived.Shelf.SortM.Plain
import Derived.Shelf.SortM.SortNone
import Derived.Ground.GgzProg
import Derived.Ground.SlgmProg
import Derived.Maps.RangeWalk
import Derived.WalkKit
import Derived.KernelRfl
import Derived.Test.YtnppecdklidmmaaGreatProg
import Derived.Shelf.SlMaps.Clone
import Derived.Ground.SlmcProg
import Derived.Test.YtnppecdklidmmaaGreatQv2
set_option linter.all false
set_option maxRecDepth 100000
namespace Go.Dvm.C
open Go Go.Dvm Go.Proofs Go.RowKit Go.Lib
set_option maxHeartbeats 4000000 in
theorem zbgf:DskWalk Tryz.prog 171 (.int .i64 0):=by
 intro w B nw ck arr ty hB hsz h2 hn
 have c2:w.cell? ⟨B,2,none⟩=some (.map (some nw)):=by simp only [World.cell?,hB,Option.isSome_none,Bool.false_eq_true,if_false];exact h2
 have hu:Tryz.prog.underlying 167=some (.map 3 203):=by kernel_rfl
 have hrg:(Instr.range 167 (.map (some nw))).run Tryz.prog w= .ok (.pointer (some ⟨w.heap.size,0,none⟩)) (w.alloc (.mapIter (some nw) ck #[] ck)):=by
  simp [Instr.range,run_underlying hu,MapKept.run_getObj_map hn]
 have hlt:nw<w.heap.size:=(Array.getElem?_eq_some_iff.1 hn).1
 have hn1:(w.alloc (.mapIter (some nw) ck #[] ck)).heap[nw]? =some (.map #[] ck):=by
  show (w.heap.push _)[nw]? =_;rw [Array.getElem?_push,if_neg (by omega)];exact hn
 have hi1:(w.alloc (.mapIter (some nw) ck #[] ck)).heap[w.heap.size]? =some (.mapIter (some nw) ck #[] ck):=by
  show (w.heap.push _)[w.heap.size]? =_;rw [Array.getElem?_push,if_pos rfl]
 have hnx: ∀ty,(Instr.next (.pointer (some ⟨w.heap.size,0,none⟩)) false ty).run Tryz.prog (w.alloc (.mapIter (some nw) ck #[] ck))= .ok (.tuple #[.bool false]) (w.alloc (.mapIter (some nw) ck #[] ck)):=fun ty=>by
  rcases Go.run_next_at (P:=Tryz.prog) (w.alloc (.mapIter (some nw) ck #[] ck)) ty w.heap.size nw ck ck #[] #[] ck hi1 hn1 (fun x hx=>by simp at hx) (Nat.le_refl _) with ⟨_,h⟩ | ⟨e,he,_⟩
  ·exact h
  ·simp [leftOf] at he
 go_enter Tryz.func171,Tryz.ntmps171
 go_wp2
 refine wp_loop_rounds 1 ?_
 rw [rounds_succ]
 go_wp2
 go_ret
 exact ⟨rfl,rfl,rfl,rfl,by simp,fun k hk=>by show (w.heap.push _)[k]? =_;rw [Array.getElem?_push,if_neg (by omega)]⟩
end Go.Dvm.C
namespace Go.Proofs
open Go.RowKit Go.Maps Go.Sort Go.Shelf
shelf_lay_g SlLaysZI.n7 Ggz 7 at Tryz 246 as Tryz.keysA
shelf_lay_g SlLaysZI.n6 Ggz 6 at Tryz 245 as Tryz.sortedA
shelf_lay_g SlLaysM.n5 Slgm 5 at Tryz 272 as Tryz.sortA
theorem zbgg (m:Nat):AnyZI.SortsIn Tryz.prog Tryz.sortedA_ren Fence.wide m:=
  ⟨fun blk off cap ss W hH hblk hsz=>callsIn_wide.2 (AnyM.slices_Sort_int Tryz.sortA blk off cap ss W hH hblk hsz),
   fun p cap W=>callsIn_wide.2 (AnyM.slices_Sort_int_none Tryz.sortA p cap W)⟩
set_option maxHeartbeats 4000000 in
theorem zbgh:Go.Dvm.DskWalk Tryz.prog 205 (.slice none 0 0):=by
 intro w B nw ck arr ty hB hsz h2 hn
 refine (callsIn_wide (n:=6)).1 ?_
 have c2:w.cell? ⟨B,2,none⟩=some (.map (some nw)):=by simp only [World.cell?,hB,Option.isSome_none,Bool.false_eq_true,if_false];exact h2
 have hbl:nw<w.heap.size:=(Array.getElem?_eq_some_iff.1 hn).1
 have hseq:SeqGives Fence.wide 2 Tryz.prog 273 #[.pointer (some ⟨w.heap.size,0,none⟩)] encZ (fun ss=>ss.Perm (intKeys (.map []:DataW Unit))) (Maps.size (.map []:DataW Unit)) (w.alloc (.cells #[.map (some nw)] 167)):=
  AnyZI.keys_gives (ρ:=Tryz.keysA_ren) (H:=Unit) (R:=fun _=>none) {Tryz.keysA with} Fence.wide _ trivial rfl (by omega) w.heap.size nw 0 (.map []) _ (by simp) (by simp)
   ⟨#[],ck,(Below.heap_alloc _ _ nw hbl).trans hn,⟨by simp [maxLen],⟨fun x hx=>by simp at hx,by simp,by simp⟩,fun x hx=>by simp at hx⟩,Nat.le_refl _,rfl⟩
 have cK: ∀mb W,CallsIn Fence.wide 5 Tryz.prog 246 #[.map mb] W fun e w'=>e= .returned (.func (.func 273) #[] #[.pointer (some ⟨W.heap.size,0,none⟩)])/\w'=W.alloc (.cells #[.map mb] 167):=fun mb W=>AnyZI.keys_in Tryz.keysA Fence.wide 5 trivial rfl mb W
 have cS:=AnyZI.sorted_in Tryz.sortedA Fence.wide 5 trivial trivial trivial trivial rfl (by omega) (zbgg _) (enters_of Tryz.func272 (by kernel_rfl) rfl) 273 #[.pointer (some ⟨w.heap.size,0,none⟩)] trivial (enters_of Tryz.func273 (by kernel_rfl) rfl) _ _ (by simp [Maps.size,maxLen]) (by simp [Maps.size]) _ hseq
 change CallsIn _ _ Tryz.prog 245 _ _ _ at cS
 have hfK:Fence.wide.fn 246:=trivial
 have hfS:Fence.wide.fn 245:=trivial
 refine callsIn_of_wp Tryz.func205 rfl trivial ?_ rfl
 simp only [Tryz.ntmps205,List.size_toArray,List.length_cons,List.length_nil,Nat.reduceAdd,Nat.reduceSub,Array.replicate_succ,Array.replicate_zero,List.push_toArray,List.append_toArray,List.nil_append,List.cons_append]
 gi_wp2_with (first
  | (gi_at_call 246;refine (cK _ _).mono ?_;rintro e w' ⟨rfl,rfl⟩)
  | (gi_at_call 245;refine cS.mono ?_;rintro e w' ⟨v,ss,rfl,hS,hrow,hnil,hb⟩))
 go_ret
 have hs:ss=[]:=by simpa [intKeys] using hS
 have hv:=hnil.2 hs
 subst hv
 have hb2:=((Below.refl _ w).alloc (Nat.le_refl _) (.cells #[.map (some nw)] 167)).trans (hb.mono (by simp))
 exact ⟨rfl,hb2.os,hb2.tape,hb2.output,hb2.size,hb2.block⟩
shelf_lay_g SlLaysW.n5 Slmc 5 at Tryz 176 as Tryz.cloneA
theorem zbgi:Go.Dvm.CloneWalk Tryz.prog 176:=fun b es ck w hb=>AnyW.maps_Clone Tryz.cloneA b es ck w hb
end Go.Proofs
namespace Go.Dvm.C
end Go.Dvm.C
