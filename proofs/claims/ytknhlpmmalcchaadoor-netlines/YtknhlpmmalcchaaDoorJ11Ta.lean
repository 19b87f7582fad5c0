/- Steps of the walk. -/
import Derived.Test.YtknhlpmmalcchaaDoorJ11Fa
import Derived.Test.YtknhlpmmalcchaaDoorJ11Vba
import Derived.Test.YtknhlpmmalcchaaDoorJ11N
import Derived.Test.YtknhlpmmalcchaaDoorJ11Vca
import Derived.Shelf.Small.Strs
import Derived.Shelf.Strconv.Itoa3
import Derived.Shelf.Strconv.ErrVarAll
import Derived.Shelf.Strings.SplitShaped
import Derived.Test.YtknhlpmmalcchaaDoorProg
import Derived.Test.YtknhlpmmalcchaaDoorRows
import Derived.Lib.AppendIntMem
import Derived.Lib.AtoiErrMem
set_option linter.all false
set_option linter.unusedVariables false
set_option linter.unusedSimpArgs false
namespace Go.Proofs.YtknhlpmmalcchaaDoor
open Go Go.VAI
theorem tmod_neg {x n : Int} (hn : 0 < n) (h : x.tmod n < 0) : x.tmod n + n = x % n := by
 have h1 := Int.tmod_eq_emod (a := x) (b := n)
 have h2 := Int.emod_nonneg x (show n ≠ 0 by omega)
 have h3 := Int.emod_lt_of_pos x hn
 by_cases hc : 0 ≤ x ∨ n ∣ x
 ·rw [if_pos hc] at h1; omega
 ·rw [if_neg hc] at h1; omega
theorem tmod_pos {x n : Int} (hn : 0 < n) (h : ¬ x.tmod n < 0) : x.tmod n = x % n := by
 have h1 := Int.tmod_eq_emod (a := x) (b := n)
 have h2 := Int.emod_nonneg x (show n ≠ 0 by omega)
 have h3 := Int.emod_lt_of_pos x hn
 by_cases hc : 0 ≤ x ∨ n ∣ x
 ·rw [if_pos hc] at h1; omega
 ·rw [if_neg hc] at h1; omega
theorem within_ret {f : Nat} (hf : A f = some F18) {x n : Int} (hn : 0 < n) (h3 : n < 9223372036854775808) {H : AHeap} {Q : AVal → AHeap → Prop} (hq : Q (.int .i64 (x % n)) H) : Ret A f [.int .i64 x,.int .i64 n] H Q := by
 refine Ret.of (fn := F18) hf ?_
 have hn0 : n ≠ 0 := by omega
 have h2 := Int.emod_nonneg x hn0
 have h4 := Int.emod_lt_of_pos x hn
 simp (disch := omega) only [vai,F18]
 refine condK_split (fun hc => ?_) (fun hc => ?_)
 ·have e := tmod_neg hn hc
  simp (disch := omega) only [vai,e,wrap64]
  exact hq
 ·have e := tmod_pos hn hc
  simp (disch := omega) only [vai,e]
  exact hq
end Go.Proofs.YtknhlpmmalcchaaDoor

/- An edge. -/
namespace Go.Proofs.YtknhlpmmalcchaaDoor
structure Edge where
 src : Int
 dst : Int
 mode : Int
 cost : Int
 deriving DecidableEq,Inhabited
end Go.Proofs.YtknhlpmmalcchaaDoor

namespace Go.Proofs.YtknhlpmmalcchaaDoor
open Go Go.VAI
set_option linter.unusedSimpArgs false

def Edge.cells (e : Edge) : List AVal := [.int .i64 e.src,.int .i64 e.dst,.int .i64 e.mode,.int .i64 e.cost]
def edgeCells (l : List Edge) : List AVal := l.flatMap Edge.cells
def mkEdge (n modes k : Int) : Edge :=
 let a := k % n
 let b := k.tdiv 13 % n
 let m := k.tdiv 170 % 5
 { src := a,dst := b,mode := if modes % 3 = 0 then (a + b) % 2 else if modes % 3 = 1 then (m * a) % 3 else m,cost := if k % 31 = 0 then 2147483647 - k.tdiv 31 % 3 else k.tdiv 900 % 9 }
def I64 (x : Int) : Prop := -9223372036854775808 ≤ x ∧ x < 9223372036854775808
theorem tdiv_bd {x c : Int} (h : I64 x) (hc : 0 < c) : -9223372036854775808 ≤ x.tdiv c ∧ x.tdiv c < 9223372036854775808 := by
 obtain ⟨h1,h2⟩ := h
 have h3 := Int.natAbs_tdiv_le_natAbs x c
 constructor
 ·by_cases hx : 0 ≤ x
  ·have := Int.tdiv_nonneg hx (Int.le_of_lt hc); omega
  ·omega
 ·by_cases hx : 0 ≤ x
  ·omega
  ·have h4 := Int.tdiv_nonneg (a := -x) (b := c) (by omega) (Int.le_of_lt hc)
   rw [Int.neg_tdiv] at h4
   omega
theorem edgeCells_length (l : List Edge) : (edgeCells l).length = l.length * 4 := by
 induction l with
 | nil => rfl
 | cons e l ih => simp only [edgeCells,List.flatMap_cons,List.length_append] at ih ⊢; rw [ih]; simp [Edge.cells]; omega

theorem make_ret {size modes : Int} {ns : AVal} {xs : List Int} {H : AHeap} {Q : AVal → AHeap → Prop} (hr : Row H ns 1 (ints xs)) (hx : ∀ x ∈ xs,I64 x) (hx2 : xs.length ≤ 9223372036854775807)
  (hq : ∀ ev H',Keep Nothing H H' → Grown H.next H' ev 4 (edgeCells ((xs.take 40).map (mkEdge (1 + size % 12) modes))) → Q (.agg [.int .i64 (1 + size % 12),ev]) H') : Ret A 15 [.int .i64 size,ns,.int .i64 modes] H Q := by
 refine Ret.of (fn := F15) rfl ?_
 simp (disch := first | omega | (simp only [next_new,next_upd] <;> omega) | fail) only [vai,vaim,wrap64,F15,Nat.reduceAdd,Nat.reduceMul,Nat.reduceLeDiff,Nat.reduceEqDiff,↓reduceIte]
 refine within_ret rfl (by omega) (by omega) ?_
 have hN1 : 0 ≤ size % 12 := by omega
 have hN2 : size % 12 < 12 := by omega
 simp (disch := first | omega | (simp only [next_new,next_upd] <;> omega) | fail) only [vai,vaim,wrap64,Nat.reduceAdd,Nat.reduceMul,Nat.reduceLeDiff,Nat.reduceEqDiff,↓reduceIte]
 refine wpx_loop (fun m t H' => ∃ (i : Nat) (ev : AVal),m = xs.length - i ∧ i ≤ xs.length ∧ i ≤ 40 ∧
  t = [.bot,ns,.int .i64 modes,.bot,.bot,.bot,.ptr H.next 0,.ptr (H.next + 1) 0,.int .i64 i] ++ List.replicate 71 .bot ∧ Keep Nothing H H' ∧ H.next + 2 ≤ H'.next ∧
  H'.obj H.next = some (.cells [.int .i64 0,.nilSlice] true) ∧ H'.obj (H.next + 1) = some (.cells [.int .i64 (1 + size % 12),ev] true) ∧ Grown (H.next + 2) H' ev 4 (edgeCells ((xs.take i).map (mkEdge (1 + size % 12) modes)))) xs.length ?_ ?_
 ·refine ⟨0,.nilSlice,rfl,by omega,by omega,rfl,?_,?_,?_,?_,.nil⟩
  ·exact (((Keep.refl _ _).new _).new _).upd (.inl (by omega)) _
  ·simp only [next_new,next_upd]; exact Nat.le_refl _
  ·simp (disch := first | omega | (simp only [next_new,next_upd] <;> omega) | fail) only [vaim]
  ·simp (disch := first | omega | (simp only [next_new,next_upd] <;> omega) | fail) only [vaim]
 ·rintro m t H1 ⟨i,ev,rfl,hi1,hi2,rfl,hk,hn,h6,h7,hg⟩
  have hr1 : Row H1 ns 1 (ints xs) := hr.kept hk
  have hlen := hr1.len1
  simp only [ints,List.length_map] at hlen
  by_cases hc1 : (i : Int) < xs.length
  ·by_cases hc2 : (i : Int) < 40
   ·have hix : i < xs.length := by omega
    obtain ⟨id,off,e1,hid,e2⟩ := hr1.at1 (j := i) (x := .int .i64 xs[i]) (k := .i64) (by omega) (by simp [ints,hix])
    have hb := hx xs[i] (List.getElem_mem hix)
    have htake : (xs.take (i + 1)).map (mkEdge (1 + size % 12) modes) = (xs.take i).map (mkEdge (1 + size % 12) modes) ++ [mkEdge (1 + size % 12) modes xs[i]] := by
     rw [List.take_succ_eq_append_getElem hix,List.map_append]; rfl
    generalize xs[i] = x at e2 hb htake
    have d13 := tdiv_bd hb (c := 13) (by omega)
    have d170 := tdiv_bd hb (c := 170) (by omega)
    have d900 := tdiv_bd hb (c := 900) (by omega)
    have d31 := tdiv_bd hb (c := 31) (by omega)
    simp (disch := first | omega | (simp only [next_new,next_upd] <;> omega) | fail) only [vai,vaim,wrap64,hlen,List.replicate,hc1,hc2,decide_true,e1,e2,h6,h7,Nat.reduceAdd,Nat.reduceMul,Nat.reduceLeDiff,Nat.reduceEqDiff,↓reduceIte]
    refine within_ret rfl (by omega) (by omega) ?_
    have a1 := Int.emod_nonneg x (show 1 + size % 12 ≠ 0 by omega)
    have a2 := Int.emod_lt_of_pos x (show 0 < 1 + size % 12 by omega)
    generalize ha : x % (1 + size % 12) = a at a1 a2
    simp (disch := first | omega | (simp only [next_new,next_upd] <;> omega) | fail) only [vai,vaim,wrap64,h6,h7,Nat.reduceAdd,Nat.reduceMul,Nat.reduceLeDiff,Nat.reduceEqDiff,↓reduceIte]
    refine within_ret rfl (by omega) (by omega) ?_
    have b1 := Int.emod_nonneg (x.tdiv 13) (show 1 + size % 12 ≠ 0 by omega)
    have b2 := Int.emod_lt_of_pos (x.tdiv 13) (show 0 < 1 + size % 12 by omega)
    generalize hb' : x.tdiv 13 % (1 + size % 12) = b at b1 b2
    simp (disch := first | omega | (simp only [next_new,next_upd] <;> omega) | fail) only [vai,vaim,wrap64,h6,h7,Nat.reduceAdd,Nat.reduceMul,Nat.reduceLeDiff,Nat.reduceEqDiff,↓reduceIte]
    refine within_ret rfl (by omega) (by omega) ?_
    simp (disch := first | omega | (simp only [next_new,next_upd] <;> omega) | fail) only [vai,vaim,wrap64,h6,h7,Nat.reduceAdd,Nat.reduceMul,Nat.reduceLeDiff,Nat.reduceEqDiff,↓reduceIte]
    refine within_ret rfl (by omega) (by omega) ?_
    simp (disch := first | omega | (simp only [next_new,next_upd] <;> omega) | fail) only [vai,vaim,wrap64,h6,h7,Nat.reduceAdd,Nat.reduceMul,Nat.reduceLeDiff,Nat.reduceEqDiff,↓reduceIte]
    refine within_ret rfl (by omega) (by omega) ?_
    simp (disch := first | omega | (simp only [next_new,next_upd] <;> omega) | fail) only [vai,vaim,wrap64,h6,h7,Nat.reduceAdd,Nat.reduceMul,Nat.reduceLeDiff,Nat.reduceEqDiff,↓reduceIte]
    by_cases m0 : modes % 3 = 0
    ·simp (disch := first | omega | (simp only [next_new,next_upd] <;> omega) | fail) only [vai,vaim,wrap64,m0,decide_true,h6,h7,Nat.reduceAdd,Nat.reduceMul,Nat.reduceLeDiff,Nat.reduceEqDiff,↓reduceIte]
     refine within_ret rfl (by omega) (by omega) ?_
     simp (disch := first | omega | (simp only [next_new,next_upd] <;> omega) | fail) only [vai,vaim,wrap64,h6,h7,Nat.reduceAdd,Nat.reduceMul,Nat.reduceLeDiff,Nat.reduceEqDiff,↓reduceIte]
     refine within_ret rfl (by omega) (by omega) ?_
     by_cases c0 : x % 31 = 0
     ·simp (disch := first | omega | (simp only [next_new,next_upd] <;> omega) | fail) only [vai,vaim,wrap64,c0,decide_true,h6,h7,Nat.reduceAdd,Nat.reduceMul,Nat.reduceLeDiff,Nat.reduceEqDiff,↓reduceIte]
      refine within_ret rfl (by omega) (by omega) ?_
      simp (disch := first | omega | (simp only [next_new,next_upd] <;> omega) | fail) only [vai,vaim,wrap64,h6,h7,Nat.reduceAdd,Nat.reduceMul,Nat.reduceLeDiff,Nat.reduceEqDiff,↓reduceIte]
      refine append_ret (n := i) hg (by simp only [next_new,next_upd]; omega) (fun j h1 h2 => by simp (disch := first | omega | (simp only [next_new,next_upd] <;> omega) | fail) only [vaim]) (by simp (disch := first | omega | (simp only [next_new,next_upd] <;> omega) | fail) only [vaim]; rfl) rfl (by omega) (by omega) (by rw [edgeCells_length]; simp; omega) (by omega) (by omega) (by simp only [next_new,next_upd]; omega) ?_
      intro v' H' hn' hk' hg'
      have k6 : H'.obj H.next = some (.cells [.int .i64 0,.nilSlice] true) := by rw [hk' _ (by omega)]; simp (disch := first | omega | (simp only [next_new,next_upd] <;> omega) | fail) only [vaim,h6]
      have k7 : H'.obj (H.next + 1) = some (.cells [.int .i64 (1 + size % 12),ev] true) := by rw [hk' _ (by omega)]; simp (disch := first | omega | (simp only [next_new,next_upd] <;> omega) | fail) only [vaim,h7]
      have hcell := hg'.cells
      have kk : Keep Nothing H H' := ⟨by have := hk.next; simp only [next_new,next_upd] at hn'; omega,fun j hj hm => by
       rw [hk' _ (by omega),← hk.obj j hj hm]
       simp (disch := first | omega | (simp only [next_new,next_upd] <;> omega) | fail) only [vaim]⟩
      have hnn : H1.next ≤ H'.next := by simp only [next_new,next_upd] at hn'; omega
      have he : (edgeCells ((xs.take (i + 1)).map (mkEdge (1 + size % 12) modes))) = edgeCells ((xs.take i).map (mkEdge (1 + size % 12) modes)) ++ Edge.cells (mkEdge (1 + size % 12) modes x) := by rw [htake]; simp [edgeCells]
      simp (disch := first | omega | (simp only [next_new,next_upd] <;> omega) | fail) only [vai,vaim,wrap64,k6,k7,hcell,Nat.reduceAdd,Nat.reduceMul,Nat.reduceLeDiff,Nat.reduceEqDiff,↓reduceIte]
      refine ⟨xs.length - (i + 1),by omega,i + 1,v',rfl,by omega,by omega,rfl,kk.upd (.inl (by omega)) _,by omega,rfl,?_⟩
      rw [he]
      refine Grown.upd ?_ (by omega) _
      simp only [mkEdge,Edge.cells,ha,hb']
      first | rw [if_pos m0] | rw [if_neg m0,if_pos m1] | rw [if_neg m0,if_neg m1]
      first | rw [if_pos c0] | rw [if_neg c0]
      exact hg'
     ·simp (disch := first | omega | (simp only [next_new,next_upd] <;> omega) | fail) only [vai,vaim,wrap64,c0,decide_false,h6,h7,Nat.reduceAdd,Nat.reduceMul,Nat.reduceLeDiff,Nat.reduceEqDiff,↓reduceIte]
      refine append_ret (n := i) hg (by simp only [next_new,next_upd]; omega) (fun j h1 h2 => by simp (disch := first | omega | (simp only [next_new,next_upd] <;> omega) | fail) only [vaim]) (by simp (disch := first | omega | (simp only [next_new,next_upd] <;> omega) | fail) only [vaim]; rfl) rfl (by omega) (by omega) (by rw [edgeCells_length]; simp; omega) (by omega) (by omega) (by simp only [next_new,next_upd]; omega) ?_
      intro v' H' hn' hk' hg'
      have k6 : H'.obj H.next = some (.cells [.int .i64 0,.nilSlice] true) := by rw [hk' _ (by omega)]; simp (disch := first | omega | (simp only [next_new,next_upd] <;> omega) | fail) only [vaim,h6]
      have k7 : H'.obj (H.next + 1) = some (.cells [.int .i64 (1 + size % 12),ev] true) := by rw [hk' _ (by omega)]; simp (disch := first | omega | (simp only [next_new,next_upd] <;> omega) | fail) only [vaim,h7]
      have hcell := hg'.cells
      have kk : Keep Nothing H H' := ⟨by have := hk.next; simp only [next_new,next_upd] at hn'; omega,fun j hj hm => by
       rw [hk' _ (by omega),← hk.obj j hj hm]
       simp (disch := first | omega | (simp only [next_new,next_upd] <;> omega) | fail) only [vaim]⟩
      have hnn : H1.next ≤ H'.next := by simp only [next_new,next_upd] at hn'; omega
      have he : (edgeCells ((xs.take (i + 1)).map (mkEdge (1 + size % 12) modes))) = edgeCells ((xs.take i).map (mkEdge (1 + size % 12) modes)) ++ Edge.cells (mkEdge (1 + size % 12) modes x) := by rw [htake]; simp [edgeCells]
      simp (disch := first | omega | (simp only [next_new,next_upd] <;> omega) | fail) only [vai,vaim,wrap64,k6,k7,hcell,Nat.reduceAdd,Nat.reduceMul,Nat.reduceLeDiff,Nat.reduceEqDiff,↓reduceIte]
      refine ⟨xs.length - (i + 1),by omega,i + 1,v',rfl,by omega,by omega,rfl,kk.upd (.inl (by omega)) _,by omega,rfl,?_⟩
      rw [he]
      refine Grown.upd ?_ (by omega) _
      simp only [mkEdge,Edge.cells,ha,hb']
      first | rw [if_pos m0] | rw [if_neg m0,if_pos m1] | rw [if_neg m0,if_neg m1]
      first | rw [if_pos c0] | rw [if_neg c0]
      exact hg'
    ·by_cases m1 : modes % 3 = 1
     ·simp (disch := first | omega | (simp only [next_new,next_upd] <;> omega) | fail) only [vai,vaim,wrap64,m0,decide_false,h6,h7,Nat.reduceAdd,Nat.reduceMul,Nat.reduceLeDiff,Nat.reduceEqDiff,↓reduceIte]
      refine within_ret rfl (by omega) (by omega) ?_
      simp (disch := first | omega | (simp only [next_new,next_upd] <;> omega) | fail) only [vai,vaim,wrap64,m1,decide_true,h6,h7,Nat.reduceAdd,Nat.reduceMul,Nat.reduceLeDiff,Nat.reduceEqDiff,↓reduceIte]
      have p1 : 0 ≤ x.tdiv 170 % 5 * a := Int.mul_nonneg (by omega) a1
      have p2 : x.tdiv 170 % 5 * a ≤ 5 * 12 := Int.mul_le_mul (by omega) (by omega) a1 (by omega)
      simp (disch := first | omega | (simp only [next_new,next_upd] <;> omega) | fail) only [vai,vaim,wrap64,h6,h7,Nat.reduceAdd,Nat.reduceMul,Nat.reduceLeDiff,Nat.reduceEqDiff,↓reduceIte]
      refine within_ret rfl (by omega) (by omega) ?_
      simp (disch := first | omega | (simp only [next_new,next_upd] <;> omega) | fail) only [vai,vaim,wrap64,h6,h7,Nat.reduceAdd,Nat.reduceMul,Nat.reduceLeDiff,Nat.reduceEqDiff,↓reduceIte]
      refine within_ret rfl (by omega) (by omega) ?_
      by_cases c0 : x % 31 = 0
      ·simp (disch := first | omega | (simp only [next_new,next_upd] <;> omega) | fail) only [vai,vaim,wrap64,c0,decide_true,h6,h7,Nat.reduceAdd,Nat.reduceMul,Nat.reduceLeDiff,Nat.reduceEqDiff,↓reduceIte]
       refine within_ret rfl (by omega) (by omega) ?_
       simp (disch := first | omega | (simp only [next_new,next_upd] <;> omega) | fail) only [vai,vaim,wrap64,h6,h7,Nat.reduceAdd,Nat.reduceMul,Nat.reduceLeDiff,Nat.reduceEqDiff,↓reduceIte]
       refine append_ret (n := i) hg (by simp only [next_new,next_upd]; omega) (fun j h1 h2 => by simp (disch := first | omega | (simp only [next_new,next_upd] <;> omega) | fail) only [vaim]) (by simp (disch := first | omega | (simp only [next_new,next_upd] <;> omega) | fail) only [vaim]; rfl) rfl (by omega) (by omega) (by rw [edgeCells_length]; simp; omega) (by omega) (by omega) (by simp only [next_new,next_upd]; omega) ?_
       intro v' H' hn' hk' hg'
       have k6 : H'.obj H.next = some (.cells [.int .i64 0,.nilSlice] true) := by rw [hk' _ (by omega)]; simp (disch := first | omega | (simp only [next_new,next_upd] <;> omega) | fail) only [vaim,h6]
       have k7 : H'.obj (H.next + 1) = some (.cells [.int .i64 (1 + size % 12),ev] true) := by rw [hk' _ (by omega)]; simp (disch := first | omega | (simp only [next_new,next_upd] <;> omega) | fail) only [vaim,h7]
       have hcell := hg'.cells
       have kk : Keep Nothing H H' := ⟨by have := hk.next; simp only [next_new,next_upd] at hn'; omega,fun j hj hm => by
        rw [hk' _ (by omega),← hk.obj j hj hm]
        simp (disch := first | omega | (simp only [next_new,next_upd] <;> omega) | fail) only [vaim]⟩
       have hnn : H1.next ≤ H'.next := by simp only [next_new,next_upd] at hn'; omega
       have he : (edgeCells ((xs.take (i + 1)).map (mkEdge (1 + size % 12) modes))) = edgeCells ((xs.take i).map (mkEdge (1 + size % 12) modes)) ++ Edge.cells (mkEdge (1 + size % 12) modes x) := by rw [htake]; simp [edgeCells]
       simp (disch := first | omega | (simp only [next_new,next_upd] <;> omega) | fail) only [vai,vaim,wrap64,k6,k7,hcell,Nat.reduceAdd,Nat.reduceMul,Nat.reduceLeDiff,Nat.reduceEqDiff,↓reduceIte]
       refine ⟨xs.length - (i + 1),by omega,i + 1,v',rfl,by omega,by omega,rfl,kk.upd (.inl (by omega)) _,by omega,rfl,?_⟩
       rw [he]
       refine Grown.upd ?_ (by omega) _
       simp only [mkEdge,Edge.cells,ha,hb']
       first | rw [if_pos m0] | rw [if_neg m0,if_pos m1] | rw [if_neg m0,if_neg m1]
       first | rw [if_pos c0] | rw [if_neg c0]
       exact hg'
      ·simp (disch := first | omega | (simp only [next_new,next_upd] <;> omega) | fail) only [vai,vaim,wrap64,c0,decide_false,h6,h7,Nat.reduceAdd,Nat.reduceMul,Nat.reduceLeDiff,Nat.reduceEqDiff,↓reduceIte]
       refine append_ret (n := i) hg (by simp only [next_new,next_upd]; omega) (fun j h1 h2 => by simp (disch := first | omega | (simp only [next_new,next_upd] <;> omega) | fail) only [vaim]) (by simp (disch := first | omega | (simp only [next_new,next_upd] <;> omega) | fail) only [vaim]; rfl) rfl (by omega) (by omega) (by rw [edgeCells_length]; simp; omega) (by omega) (by omega) (by simp only [next_new,next_upd]; omega) ?_
       intro v' H' hn' hk' hg'
       have k6 : H'.obj H.next = some (.cells [.int .i64 0,.nilSlice] true) := by rw [hk' _ (by omega)]; simp (disch := first | omega | (simp only [next_new,next_upd] <;> omega) | fail) only [vaim,h6]
       have k7 : H'.obj (H.next + 1) = some (.cells [.int .i64 (1 + size % 12),ev] true) := by rw [hk' _ (by omega)]; simp (disch := first | omega | (simp only [next_new,next_upd] <;> omega) | fail) only [vaim,h7]
       have hcell := hg'.cells
       have kk : Keep Nothing H H' := ⟨by have := hk.next; simp only [next_new,next_upd] at hn'; omega,fun j hj hm => by
        rw [hk' _ (by omega),← hk.obj j hj hm]
        simp (disch := first | omega | (simp only [next_new,next_upd] <;> omega) | fail) only [vaim]⟩
       have hnn : H1.next ≤ H'.next := by simp only [next_new,next_upd] at hn'; omega
       have he : (edgeCells ((xs.take (i + 1)).map (mkEdge (1 + size % 12) modes))) = edgeCells ((xs.take i).map (mkEdge (1 + size % 12) modes)) ++ Edge.cells (mkEdge (1 + size % 12) modes x) := by rw [htake]; simp [edgeCells]
       simp (disch := first | omega | (simp only [next_new,next_upd] <;> omega) | fail) only [vai,vaim,wrap64,k6,k7,hcell,Nat.reduceAdd,Nat.reduceMul,Nat.reduceLeDiff,Nat.reduceEqDiff,↓reduceIte]
       refine ⟨xs.length - (i + 1),by omega,i + 1,v',rfl,by omega,by omega,rfl,kk.upd (.inl (by omega)) _,by omega,rfl,?_⟩
       rw [he]
       refine Grown.upd ?_ (by omega) _
       simp only [mkEdge,Edge.cells,ha,hb']
       first | rw [if_pos m0] | rw [if_neg m0,if_pos m1] | rw [if_neg m0,if_neg m1]
       first | rw [if_pos c0] | rw [if_neg c0]
       exact hg'
     ·simp (disch := first | omega | (simp only [next_new,next_upd] <;> omega) | fail) only [vai,vaim,wrap64,m0,decide_false,h6,h7,Nat.reduceAdd,Nat.reduceMul,Nat.reduceLeDiff,Nat.reduceEqDiff,↓reduceIte]
      refine within_ret rfl (by omega) (by omega) ?_
      simp (disch := first | omega | (simp only [next_new,next_upd] <;> omega) | fail) only [vai,vaim,wrap64,m1,decide_false,h6,h7,Nat.reduceAdd,Nat.reduceMul,Nat.reduceLeDiff,Nat.reduceEqDiff,↓reduceIte]
      refine within_ret rfl (by omega) (by omega) ?_
      by_cases c0 : x % 31 = 0
      ·simp (disch := first | omega | (simp only [next_new,next_upd] <;> omega) | fail) only [vai,vaim,wrap64,c0,decide_true,h6,h7,Nat.reduceAdd,Nat.reduceMul,Nat.reduceLeDiff,Nat.reduceEqDiff,↓reduceIte]
       refine within_ret rfl (by omega) (by omega) ?_
       simp (disch := first | omega | (simp only [next_new,next_upd] <;> omega) | fail) only [vai,vaim,wrap64,h6,h7,Nat.reduceAdd,Nat.reduceMul,Nat.reduceLeDiff,Nat.reduceEqDiff,↓reduceIte]
       refine append_ret (n := i) hg (by simp only [next_new,next_upd]; omega) (fun j h1 h2 => by simp (disch := first | omega | (simp only [next_new,next_upd] <;> omega) | fail) only [vaim]) (by simp (disch := first | omega | (simp only [next_new,next_upd] <;> omega) | fail) only [vaim]; rfl) rfl (by omega) (by omega) (by rw [edgeCells_length]; simp; omega) (by omega) (by omega) (by simp only [next_new,next_upd]; omega) ?_
       intro v' H' hn' hk' hg'
       have k6 : H'.obj H.next = some (.cells [.int .i64 0,.nilSlice] true) := by rw [hk' _ (by omega)]; simp (disch := first | omega | (simp only [next_new,next_upd] <;> omega) | fail) only [vaim,h6]
       have k7 : H'.obj (H.next + 1) = some (.cells [.int .i64 (1 + size % 12),ev] true) := by rw [hk' _ (by omega)]; simp (disch := first | omega | (simp only [next_new,next_upd] <;> omega) | fail) only [vaim,h7]
       have hcell := hg'.cells
       have kk : Keep Nothing H H' := ⟨by have := hk.next; simp only [next_new,next_upd] at hn'; omega,fun j hj hm => by
        rw [hk' _ (by omega),← hk.obj j hj hm]
        simp (disch := first | omega | (simp only [next_new,next_upd] <;> omega) | fail) only [vaim]⟩
       have hnn : H1.next ≤ H'.next := by simp only [next_new,next_upd] at hn'; omega
       have he : (edgeCells ((xs.take (i + 1)).map (mkEdge (1 + size % 12) modes))) = edgeCells ((xs.take i).map (mkEdge (1 + size % 12) modes)) ++ Edge.cells (mkEdge (1 + size % 12) modes x) := by rw [htake]; simp [edgeCells]
       simp (disch := first | omega | (simp only [next_new,next_upd] <;> omega) | fail) only [vai,vaim,wrap64,k6,k7,hcell,Nat.reduceAdd,Nat.reduceMul,Nat.reduceLeDiff,Nat.reduceEqDiff,↓reduceIte]
       refine ⟨xs.length - (i + 1),by omega,i + 1,v',rfl,by omega,by omega,rfl,kk.upd (.inl (by omega)) _,by omega,rfl,?_⟩
       rw [he]
       refine Grown.upd ?_ (by omega) _
       simp only [mkEdge,Edge.cells,ha,hb']
       first | rw [if_pos m0] | rw [if_neg m0,if_pos m1] | rw [if_neg m0,if_neg m1]
       first | rw [if_pos c0] | rw [if_neg c0]
       exact hg'
      ·simp (disch := first | omega | (simp only [next_new,next_upd] <;> omega) | fail) only [vai,vaim,wrap64,c0,decide_false,h6,h7,Nat.reduceAdd,Nat.reduceMul,Nat.reduceLeDiff,Nat.reduceEqDiff,↓reduceIte]
       refine append_ret (n := i) hg (by simp only [next_new,next_upd]; omega) (fun j h1 h2 => by simp (disch := first | omega | (simp only [next_new,next_upd] <;> omega) | fail) only [vaim]) (by simp (disch := first | omega | (simp only [next_new,next_upd] <;> omega) | fail) only [vaim]; rfl) rfl (by omega) (by omega) (by rw [edgeCells_length]; simp; omega) (by omega) (by omega) (by simp only [next_new,next_upd]; omega) ?_
       intro v' H' hn' hk' hg'
       have k6 : H'.obj H.next = some (.cells [.int .i64 0,.nilSlice] true) := by rw [hk' _ (by omega)]; simp (disch := first | omega | (simp only [next_new,next_upd] <;> omega) | fail) only [vaim,h6]
       have k7 : H'.obj (H.next + 1) = some (.cells [.int .i64 (1 + size % 12),ev] true) := by rw [hk' _ (by omega)]; simp (disch := first | omega | (simp only [next_new,next_upd] <;> omega) | fail) only [vaim,h7]
       have hcell := hg'.cells
       have kk : Keep Nothing H H' := ⟨by have := hk.next; simp only [next_new,next_upd] at hn'; omega,fun j hj hm => by
        rw [hk' _ (by omega),← hk.obj j hj hm]
        simp (disch := first | omega | (simp only [next_new,next_upd] <;> omega) | fail) only [vaim]⟩
       have hnn : H1.next ≤ H'.next := by simp only [next_new,next_upd] at hn'; omega
       have he : (edgeCells ((xs.take (i + 1)).map (mkEdge (1 + size % 12) modes))) = edgeCells ((xs.take i).map (mkEdge (1 + size % 12) modes)) ++ Edge.cells (mkEdge (1 + size % 12) modes x) := by rw [htake]; simp [edgeCells]
       simp (disch := first | omega | (simp only [next_new,next_upd] <;> omega) | fail) only [vai,vaim,wrap64,k6,k7,hcell,Nat.reduceAdd,Nat.reduceMul,Nat.reduceLeDiff,Nat.reduceEqDiff,↓reduceIte]
       refine ⟨xs.length - (i + 1),by omega,i + 1,v',rfl,by omega,by omega,rfl,kk.upd (.inl (by omega)) _,by omega,rfl,?_⟩
       rw [he]
       refine Grown.upd ?_ (by omega) _
       simp only [mkEdge,Edge.cells,ha,hb']
       first | rw [if_pos m0] | rw [if_neg m0,if_pos m1] | rw [if_neg m0,if_neg m1]
       first | rw [if_pos c0] | rw [if_neg c0]
       exact hg'
   ·simp (disch := first | omega | (simp only [next_new,next_upd] <;> omega) | fail) only [vai,vaim,wrap64,hlen,List.replicate,hc1,hc2,decide_true,decide_false,h6,h7,Nat.reduceAdd,Nat.reduceMul,Nat.reduceLeDiff,Nat.reduceEqDiff,↓reduceIte]
    have hi : i = 40 := by omega
    rw [hi] at hg
    exact hq ev _ (hk.upd (.inl (by omega)) _) (hg.keep' ⟨by omega,by simp only [next_upd]; omega⟩ (fun j h1 h2 => by simp (disch := first | omega | (simp only [next_new,next_upd] <;> omega) | fail) only [vaim]))
  ·simp (disch := first | omega | (simp only [next_new,next_upd] <;> omega) | fail) only [vai,vaim,wrap64,hlen,List.replicate,hc1,decide_true,decide_false,h6,h7,Nat.reduceAdd,Nat.reduceMul,Nat.reduceLeDiff,Nat.reduceEqDiff,↓reduceIte]
   have hi : xs.take 40 = xs.take i := by rw [List.take_of_length_le (by omega),List.take_of_length_le (by omega)]
   rw [← hi] at hg
   exact hq ev _ (hk.upd (.inl (by omega)) _) (hg.keep' ⟨by omega,by simp only [next_upd]; omega⟩ (fun j h1 h2 => by simp (disch := first | omega | (simp only [next_new,next_upd] <;> omega) | fail) only [vaim]))
end Go.Proofs.YtknhlpmmalcchaaDoor

/- Texts of networks in plain words: a line read as the program reads it,as the document reads it; a text read; a network written. Nothing of a program stands here. -/
namespace Go.Proofs.YtknhlpmmalcchaaDoor
open Go
set_option linter.unusedVariables false
set_option linter.unusedSimpArgs false

structure NetS where
 n : Int
 es : List Edge
 deriving DecidableEq
def none0 : NetS := ⟨0,[]⟩
def signs : List UInt8 := [119,98,99,102,116]
def netW : List UInt8 := [110,101,116]
def edgeW : List UInt8 := [101,100,103,101]
def rightB (n : Int) (e : Edge) : Bool := decide (0 ≤ e.src ∧ e.src < n ∧ 0 ≤ e.dst ∧ e.dst < n ∧ 0 ≤ e.mode ∧ e.mode < 5 ∧ 0 ≤ e.cost ∧ e.cost ≤ 2147483647)
inductive Item where
 | size (k : Int)
 | edge (e : Edge)
 | no
def itemP (w : List UInt8) : Item :=
 match cutAt 32 w with
 | [a,b] => if a = netW then .size (numP b) else .no
 | [a,f,t,m,c] => if a = edgeW then (match m with | [s] => .edge ⟨numP f,numP t,Lib.indexByte signs s,numP c⟩ | _ => .no) else .no
 | _ => .no
def addP (x : NetS) : Item → Option NetS
 | .size k => if x.n = 0 ∧ 1 ≤ k ∧ k ≤ 60 then some ⟨k,x.es⟩ else none
 | .edge e => if x.n ≠ 0 ∧ x.es.length < 400 ∧ rightB x.n e = true then some ⟨x.n,x.es ++ [e]⟩ else none
 | .no => none
def stepP (x : NetS) (w : List UInt8) : Option NetS := addP x (itemP w)
def wordsR (w : List UInt8) : List (List UInt8) := if [] ∈ cutAt 32 w then [] else cutAt 32 w
def modeR (s : List UInt8) : Int := if s = [119] then 0 else if s = [98] then 1 else if s = [99] then 2 else if s = [102] then 3 else if s = [116] then 4 else -1
def stepR (x : NetS) (w : List UInt8) : Option NetS :=
 if x.n = 0 then
  match wordsR w with
  | [a,b] => if a = netW ∧ 1 ≤ max 0 (numR b) ∧ max 0 (numR b) ≤ 60 then some ⟨max 0 (numR b),x.es⟩ else none
  | _ => none
 else
  match wordsR w with
  | [a,f,t,m,c] => if a = edgeW ∧ x.es.length < 400 ∧ rightB x.n ⟨numR f,numR t,modeR m,numR c⟩ = true then some ⟨x.n,x.es ++ [⟨numR f,numR t,modeR m,numR c⟩]⟩ else none
  | _ => none
theorem modeR_one (s : UInt8) : modeR [s] = Lib.indexByte signs s := by
 simp only [modeR,signs,Lib.indexByte,List.cons.injEq,and_true,beq_iff_eq]
 by_cases h1 : s = 119
 ·subst h1; rfl
 by_cases h2 : s = 98
 ·subst h2; rfl
 by_cases h3 : s = 99
 ·subst h3; rfl
 by_cases h4 : s = 102
 ·subst h4; rfl
 by_cases h5 : s = 116
 ·subst h5; rfl
 rw [if_neg h1,if_neg h2,if_neg h3,if_neg h4,if_neg h5]
 simp [Ne.symm h1,Ne.symm h2,Ne.symm h3,Ne.symm h4,Ne.symm h5]
theorem numP_nil : numP [] = -1 := rfl
theorem num_small {l : List UInt8} {n : Int} (hn : n < 1000000000000) : (0 ≤ numR l ∧ numR l ≤ n) ↔ (0 ≤ numP l ∧ numP l ≤ n) := by
 rcases numR_numP l with ⟨h1,h2⟩ | ⟨h1,h2⟩ <;> omega
theorem num_eq {l : List UInt8} {n : Int} (hn : n < 1000000000000) (h : 0 ≤ numP l ∧ numP l ≤ n) : numR l = numP l := by
 rcases numR_numP l with ⟨h1,h2⟩ | ⟨h1,h2⟩ <;> omega
theorem right_num {n : Int} (hn : n ≤ 60) {f t c : List UInt8} {m : Int} : rightB n ⟨numR f,numR t,m,numR c⟩ = rightB n ⟨numP f,numP t,m,numP c⟩ := by
 unfold rightB
 simp only
 have h1 := num_small (l := f) (n := n - 1) (by omega)
 have h2 := num_small (l := t) (n := n - 1) (by omega)
 have h3 := num_small (l := c) (n := 2147483647) (by omega)
 rw [decide_eq_decide]
 omega
theorem step_eq {x : NetS} (hx : x.n ≤ 60) (w : List UInt8) : stepP x w = stepR x w := by
 unfold stepP itemP stepR wordsR
 generalize cutAt 32 w = l
 by_cases h0 : x.n = 0
 ·rw [if_pos h0]
  match l with
  | [] => simp [addP]
  | [a] => by_cases h : [] ∈ [a] <;> simp [h,addP]
  | [a,b] =>
   by_cases hb : [] ∈ [a,b]
   ·rw [if_pos hb]
    simp only
    by_cases ha : a = netW
    ·have hb2 : b = [] := by
      simp only [List.mem_cons,List.not_mem_nil,or_false] at hb
      rcases hb with hb | hb
      ·rw [ha] at hb; cases hb
      ·exact hb.symm
     rw [if_pos ha,hb2,numP_nil]
     simp [addP]
    ·rw [if_neg ha]; simp [addP]
   ·rw [if_neg hb]
    simp only
    by_cases ha : a = netW
    ·rw [if_pos ha]
     simp only [addP,h0,true_and,ha]
     have h1 := num_small (l := b) (n := 60) (by omega)
     by_cases hk : 1 ≤ numP b ∧ numP b ≤ 60
     ·have e := num_eq (l := b) (n := 60) (by omega) ⟨by omega,hk.2⟩
      have e2 : max 0 (numR b) = numP b := by omega
      rw [if_pos hk,e2,if_pos hk]
     ·have hn : ¬ (1 ≤ max 0 (numR b) ∧ max 0 (numR b) ≤ 60) := by
       rintro ⟨h2,h3⟩
       have hp := h1.1 ⟨by omega,by omega⟩
       have e := num_eq (l := b) (n := 60) (by omega) hp
       omega
      rw [if_neg hk,if_neg hn]
    ·rw [if_neg ha,if_neg (by simp [ha])]; simp [addP]
  | [a,b,c] => by_cases h : [] ∈ [a,b,c] <;> simp [h,addP]
  | [a,b,c,d] => by_cases h : [] ∈ [a,b,c,d] <;> simp [h,addP]
  | [a,f,t,m,c] =>
   have e1 : addP x (if a = edgeW then (match m with | [s] => Item.edge ⟨numP f,numP t,Lib.indexByte signs s,numP c⟩ | _ => .no) else .no) = none := by
    by_cases ha : a = edgeW
    ·rw [if_pos ha]
     split <;> simp [addP,h0]
    ·rw [if_neg ha]; rfl
   by_cases h : [] ∈ [a,f,t,m,c]
   ·rw [if_pos h]; exact e1
   ·rw [if_neg h]; exact e1
  | a :: b :: c :: d :: e :: g :: r => by_cases h : [] ∈ (a :: b :: c :: d :: e :: g :: r) <;> simp [h,addP]
 ·rw [if_neg h0]
  match l with
  | [] => simp [addP]
  | [a] => by_cases h : [] ∈ [a] <;> simp [h,addP]
  | [a,b] =>
   have e1 : addP x (if a = netW then .size (numP b) else .no) = none := by
    by_cases ha : a = netW
    ·rw [if_pos ha]; simp [addP,h0]
    ·rw [if_neg ha]; rfl
   by_cases h : [] ∈ [a,b]
   ·rw [if_pos h]; exact e1
   ·rw [if_neg h]; exact e1
  | [a,b,c] => by_cases h : [] ∈ [a,b,c] <;> simp [h,addP]
  | [a,b,c,d] => by_cases h : [] ∈ [a,b,c,d] <;> simp [h,addP]
  | [a,f,t,m,c] =>
   by_cases hm : [] ∈ [a,f,t,m,c]
   ·rw [if_pos hm]
    simp only
    by_cases ha : a = edgeW
    ·rw [if_pos ha]
     split
     ·rename_i s
      have hne : f = [] ∨ t = [] ∨ c = [] := by
       simp only [List.mem_cons,List.not_mem_nil,or_false] at hm
       rcases hm with h | h | h | h | h
       ·rw [ha] at h; cases h
       ·exact .inl h.symm
       ·exact .inr (.inl h.symm)
       ·cases h
       ·exact .inr (.inr h.symm)
      simp only [addP]
      rw [if_neg]
      rintro ⟨_,_,hr⟩
      simp only [rightB,decide_eq_true_eq] at hr
      rcases hne with h | h | h <;> subst h <;> rw [numP_nil] at hr <;> omega
     ·rfl
    ·rw [if_neg ha]; rfl
   ·rw [if_neg hm]
    simp only
    by_cases ha : a = edgeW
    ·rw [if_pos ha]
     simp only [ha,true_and]
     by_cases hs : ∃ s,m = [s]
     ·obtain ⟨s,rfl⟩ := hs
      simp only [addP,h0,ne_eq,not_false_eq_true,true_and]
      rw [modeR_one,right_num hx]
      by_cases hr : x.es.length < 400 ∧ rightB x.n ⟨numP f,numP t,Lib.indexByte signs s,numP c⟩ = true
      ·rw [if_pos hr,if_pos hr]
       have hr2 := hr.2
       simp only [rightB,decide_eq_true_eq] at hr2
       rw [num_eq (l := f) (n := 60) (by omega) (by omega),num_eq (l := t) (n := 60) (by omega) (by omega),num_eq (l := c) (n := 2147483647) (by omega) (by omega)]
      ·rw [if_neg hr,if_neg hr]
     ·have e1 : (match m with | [s] => Item.edge ⟨numP f,numP t,Lib.indexByte signs s,numP c⟩ | _ => Item.no) = .no := by
       match m,hs with
       | [],_ => rfl
       | [s],hs => exact absurd ⟨s,rfl⟩ hs
       | _ :: _ :: _,_ => rfl
      rw [e1]
      have e2 : modeR m = -1 := by
       unfold modeR
       have ne : ∀ s,m ≠ [s] := fun s e => hs ⟨s,e⟩
       rw [if_neg (ne _),if_neg (ne _),if_neg (ne _),if_neg (ne _),if_neg (ne _)]
      rw [e2,if_neg]
      ·rfl
      ·rintro ⟨_,hr⟩
       simp only [rightB,decide_eq_true_eq] at hr
       omega
    ·rw [if_neg ha,if_neg (fun h => ha h.1)]
     rfl
  | a :: b :: c :: d :: e :: g :: r => by_cases h : [] ∈ (a :: b :: c :: d :: e :: g :: r) <;> simp [h,addP]

def linesOf (f : NetS → List UInt8 → Option NetS) : NetS → Nat → List (List UInt8) → NetS ⊕ Nat
 | x,_,[] => .inl x
 | x,k,w :: ws => if w = [] then linesOf f x (k + 1) ws else
  match f x w with
  | none => .inr (k + 1)
  | some y => linesOf f y (k + 1) ws
def Small (x : NetS) : Prop := 0 ≤ x.n ∧ x.n ≤ 60
theorem stepP_small {x y : NetS} {w : List UInt8} (hx : Small x) (h : stepP x w = some y) : Small y := by
 unfold stepP at h
 generalize itemP w = i at h
 cases i with
 | size k =>
  simp only [addP] at h
  split at h
  ·injection h with h; subst h
   unfold Small; simp only; omega
  ·cases h
 | edge e =>
  simp only [addP] at h
  split at h
  ·injection h with h; subst h
   exact hx
  ·cases h
 | no => cases h
theorem lines_eq : ∀ (ws : List (List UInt8)) (x : NetS) (k : Nat),Small x → linesOf stepP x k ws = linesOf stepR x k ws
 | [],_,_,_ => rfl
 | w :: ws,x,k,hx => by
  unfold linesOf
  by_cases hw : w = []
  ·rw [if_pos hw,if_pos hw]; exact lines_eq ws x _ hx
  ·rw [if_neg hw,if_neg hw,← step_eq hx.2 w]
   cases h : stepP x w with
   | none => rfl
   | some y => exact lines_eq ws y _ (stepP_small hx h)
def parseOf (f : NetS → List UInt8 → Option NetS) (s : List UInt8) : NetS × Nat × Int :=
 if s.length > 60000 then (none0,0,2) else
 match linesOf f none0 0 (cutAt 10 s) with
 | .inr k => (none0,k,2)
 | .inl x => if x.n = 0 then (none0,1,2) else (x,0,0)
theorem small0 : Small none0 := by unfold Small none0; simp only; omega
theorem parse_eq (s : List UInt8) : parseOf stepP s = parseOf stepR s := by
 unfold parseOf
 rw [lines_eq _ _ _ small0]

def dec (n : Int) : List UInt8 := Lib.decDigits n.toNat
def signOf (m : Int) : List UInt8 := (signs.drop m.toNat).take 1
def edgeText (e : Edge) : List UInt8 := edgeW ++ 32 :: (dec e.src ++ 32 :: (dec e.dst ++ 32 :: (signOf e.mode ++ 32 :: dec e.cost)))
def headText (n : Int) : List UInt8 := netW ++ 32 :: dec n
def textOf (x : NetS) : List UInt8 := headText x.n ++ 10 :: x.es.flatMap fun e => edgeText e ++ [10]
theorem dec_ge (n : Int) : ∀ b ∈ dec n,48 ≤ b.toNat := fun b hb => (decDigits_digit _ b hb).1
theorem dec_not {n : Int} {c : UInt8} (hc : c.toNat < 48) : c ∉ dec n := fun h => by have := dec_ge n c h; omega
theorem numP_of {n : Int} (h0 : 0 ≤ n) (h1 : n < 9223372036854775808) : numP (dec n) = n := by
 unfold dec
 rw [numP_dec (by omega)]
 omega
theorem sign_one {m : Int} (h0 : 0 ≤ m) (h1 : m < 5) : ∃ s,signOf m = [s] ∧ s ≠ 32 ∧ s ≠ 10 ∧ Lib.indexByte signs s = m := by
 have : m = 0 ∨ m = 1 ∨ m = 2 ∨ m = 3 ∨ m = 4 := by omega
 rcases this with rfl | rfl | rfl | rfl | rfl
 ·exact ⟨119,rfl,by decide,by decide,by decide⟩
 ·exact ⟨98,rfl,by decide,by decide,by decide⟩
 ·exact ⟨99,rfl,by decide,by decide,by decide⟩
 ·exact ⟨102,rfl,by decide,by decide,by decide⟩
 ·exact ⟨116,rfl,by decide,by decide,by decide⟩
theorem head_item {n : Int} (h0 : 0 ≤ n) (h1 : n < 9223372036854775808) : itemP (headText n) = .size n := by
 have e : cutAt 32 (headText n) = [netW,dec n] := by
  unfold headText
  rw [cutAt_piece _ (by decide),cutAt_last (dec_not (by decide))]
 unfold itemP
 rw [e]
 simp only [if_true]
 rw [numP_of h0 h1]
theorem edge_item {n : Int} {e : Edge} (hn : n ≤ 60) (h : rightB n e = true) : itemP (edgeText e) = .edge e := by
 simp only [rightB,decide_eq_true_eq] at h
 obtain ⟨s,hs,hs1,_,hs2⟩ := sign_one h.2.2.2.2.1 h.2.2.2.2.2.1
 have hc : cutAt 32 (edgeText e) = [edgeW,dec e.src,dec e.dst,[s],dec e.cost] := by
  unfold edgeText
  rw [hs,cutAt_piece _ (by decide),cutAt_piece _ (dec_not (by decide)),cutAt_piece _ (dec_not (by decide)),cutAt_piece _ (by simpa using Ne.symm hs1),cutAt_last (dec_not (by decide))]
 unfold itemP
 rw [hc]
 simp only [if_true]
 rw [numP_of h.1 (by omega),numP_of h.2.2.1 (by omega),numP_of h.2.2.2.2.2.2.1 (by omega),hs2]
theorem head_not (n : Int) : (10 : UInt8) ∉ headText n := by
 unfold headText
 simp only [List.mem_append,List.mem_cons,not_or]
 exact ⟨by decide,by decide,dec_not (by decide)⟩
theorem edge_not {n : Int} {e : Edge} (h : rightB n e = true) : (10 : UInt8) ∉ edgeText e := by
 simp only [rightB,decide_eq_true_eq] at h
 obtain ⟨s,hs,_,hs1,_⟩ := sign_one h.2.2.2.2.1 h.2.2.2.2.2.1
 unfold edgeText
 rw [hs]
 simp only [List.mem_append,List.mem_cons,not_or,List.not_mem_nil,not_false_eq_true,and_true]
 exact ⟨by decide,by decide,dec_not (by decide),by decide,dec_not (by decide),by decide,Ne.symm hs1,by decide,dec_not (by decide)⟩
def ended (ws : List (List UInt8)) : List UInt8 := ws.flatMap fun w => w ++ [10]
theorem cut_ended : ∀ (ws : List (List UInt8)) (l : List UInt8),(∀ w ∈ ws,(10 : UInt8) ∉ w) → cutAt 10 (ended ws ++ l) = ws ++ cutAt 10 l
 | [],_,_ => rfl
 | w :: ws,l,h => by
  have ih := cut_ended ws l (fun w hw => h w (by simp [hw]))
  have e : ended (w :: ws) ++ l = w ++ 10 :: (ended ws ++ l) := by simp [ended]
  rw [e,cutAt_piece _ (h w (by simp)),ih]
  rfl
theorem text_ended (x : NetS) : textOf x = ended (headText x.n :: x.es.map edgeText) := by
 simp [textOf,ended,List.flatMap_map]
theorem edgeText_ne (e : Edge) : edgeText e ≠ [] := by simp [edgeText,edgeW]
theorem headText_ne (n : Int) : headText n ≠ [] := by simp [headText,netW]
theorem lines_edges {n : Int} (h1 : 1 ≤ n) (hn : n ≤ 60) : ∀ (es : List Edge) (es0 : List Edge) (k : Nat),(∀ e ∈ es,rightB n e = true) → es0.length + es.length ≤ 400 → linesOf stepP ⟨n,es0⟩ k (es.map edgeText) = .inl ⟨n,es0 ++ es⟩
 | [],es0,k,_,_ => by simp [linesOf]
 | e :: es,es0,k,h,hl => by
  have he := h e (by simp)
  simp only [List.length_cons] at hl
  simp only [List.map_cons,linesOf]
  rw [if_neg (edgeText_ne e)]
  have hs : stepP ⟨n,es0⟩ (edgeText e) = some ⟨n,es0 ++ [e]⟩ := by
   unfold stepP
   rw [edge_item hn he]
   simp only [addP]
   rw [if_pos ⟨by omega,by omega,he⟩]
  rw [hs]
  simp only
  rw [lines_edges h1 hn es (es0 ++ [e]) (k + 1) (fun e he => h e (by simp [he])) (by simp; omega)]
  simp
def Fits (x : NetS) : Prop := 1 ≤ x.n ∧ x.n ≤ 60 ∧ x.es.length ≤ 400 ∧ ∀ e ∈ x.es,rightB x.n e = true
theorem lines_text {x : NetS} (h : Fits x) : linesOf stepP none0 0 (headText x.n :: x.es.map edgeText) = .inl x := by
 obtain ⟨h1,h2,h3,h4⟩ := h
 simp only [linesOf]
 rw [if_neg (headText_ne _)]
 have hs : stepP none0 (headText x.n) = some ⟨x.n,[]⟩ := by
  unfold stepP
  rw [head_item (by omega) (by omega)]
  simp only [addP]
  rw [if_pos ⟨rfl,h1,h2⟩]
  rfl
 rw [hs]
 simp only
 rw [lines_edges h1 h2 x.es [] 1 h4 (by simpa using h3)]
 simp
theorem nDig2 {n : Nat} (h : n < 100) : (Lib.decDigits n).length ≤ 2 := by
 rw [Lib.decDigits_length]
 by_cases h1 : n < 10
 ·rw [Lib.nDigits_small h1]; omega
 ·rw [Lib.nDigits_big h1,Lib.nDigits_small (by omega)]; omega
theorem nDig10 {n : Nat} (h : n < 10000000000) : (Lib.decDigits n).length ≤ 10 := by
 rw [Lib.decDigits_length]
 have key : ∀ (k u : Nat),u < 10 ^ (k + 1) → Lib.nDigits u ≤ k + 1 := by
  intro k
  induction k with
  | zero => intro u h; rw [Lib.nDigits_small (by simpa using h)]; omega
  | succ k ih =>
   intro u h
   by_cases h1 : u < 10
   ·rw [Lib.nDigits_small h1]; omega
   ·rw [Lib.nDigits_big h1]
    have := ih (u / 10) (by rw [Nat.pow_succ] at h; omega)
    omega
 exact key 9 n (by simpa using h)
theorem edgeText_len {n : Int} {e : Edge} (hn : n ≤ 60) (h : rightB n e = true) : (edgeText e).length ≤ 23 := by
 simp only [rightB,decide_eq_true_eq] at h
 have h1 := nDig2 (n := e.src.toNat) (by omega)
 have h2 := nDig2 (n := e.dst.toNat) (by omega)
 have h3 := nDig10 (n := e.cost.toNat) (by omega)
 have h4 : (signOf e.mode).length ≤ 1 := by simp [signOf]; omega
 simp only [edgeText,dec,edgeW,List.length_append,List.length_cons,List.length_nil]
 omega
theorem ended_len (c : Nat) : ∀ (ws : List (List UInt8)),(∀ w ∈ ws,w.length ≤ c) → (ended ws).length ≤ ws.length * (c + 1)
 | [],_ => by simp [ended]
 | w :: ws,h => by
  have ih := ended_len c ws (fun w hw => h w (by simp [hw]))
  have hw := h w (by simp)
  have e : (ended (w :: ws)).length = w.length + 1 + (ended ws).length := by simp [ended]; omega
  rw [e,List.length_cons,Nat.add_mul]
  omega
theorem text_len {x : NetS} (h : Fits x) : (textOf x).length ≤ 9624 := by
 obtain ⟨h1,h2,h3,h4⟩ := h
 rw [text_ended]
 have := ended_len 23 (headText x.n :: x.es.map edgeText) (fun w hw => by
  rcases List.mem_cons.1 hw with rfl | hw
  ·have h1 := nDig2 (n := x.n.toNat) (by omega)
   simp only [headText,dec,netW,List.length_append,List.length_cons,List.length_nil]
   omega
  ·obtain ⟨e,he,rfl⟩ := List.mem_map.1 hw
   exact edgeText_len h2 (h4 e he))
 simp only [List.length_cons,List.length_map] at this
 omega
theorem lines_nots {x : NetS} (h : Fits x) : ∀ w ∈ headText x.n :: x.es.map edgeText,(10 : UInt8) ∉ w := by
 intro w hw
 rcases List.mem_cons.1 hw with rfl | hw
 ·exact head_not _
 ·obtain ⟨e,he,rfl⟩ := List.mem_map.1 hw
  exact edge_not (h.2.2.2 e he)
end Go.Proofs.YtknhlpmmalcchaaDoor

/- Strings in the interpreter's words. -/
namespace Go.Proofs.YtknhlpmmalcchaaDoor
open Go Go.VAI
set_option linter.unusedVariables false
set_option linter.unusedSimpArgs false

theorem mk_bs {l : List UInt8} : ByteArray.mk l.toArray = bs l := rfl
def u8c (l : List UInt8) : List AVal := l.map fun b => .int .u8 (b.toNat : Int)
section
variable {a b l : List UInt8} {e : EqK} {k k1 k2 : IntKind} {H : AHeap}
theorem abin_add_str (h : a.length + b.length ≤ 9223372036854775807) : abin .add e (.str (bs a)) (.str (bs b)) = some (.str (bs (a ++ b))) := by
 simp only [abin,astr,bs_size,bs_append]
 rw [if_pos h]
theorem abin_eql_str : abin .eql e (.str (bs a)) (.str (bs b)) = some (.bool (decide (a = b))) := by
 simp only [abin,astr,bs_toList]
 by_cases h : a = b <;> simp [h]
theorem abin_neq_str : abin .neq e (.str (bs a)) (.str (bs b)) = some (.bool (decide (a ≠ b))) := by
 simp only [abin,astr,bs_toList]
 by_cases h : a = b <;> simp [h]
theorem alenStr_bs : alenStr (.str (bs a)) = some (.int .i64 (a.length : Int)) := by simp [alenStr,bs_size]
theorem asliceStr_bs {i j : Nat} (h : i ≤ j ∧ j ≤ l.length) : asliceStr (.str (bs l)) (some (.int k1 (i : Int))) (some (.int k2 (j : Int))) = some (.str (bs ((l.drop i).take (j - i)))) := by
 have h1 : bound (.int k2 (j : Int)) (bs l).size = some j := by simp [bound,bs_size,h.2]
 have h2 : bound (.int k1 (i : Int)) j = some i := by simp [bound,h.1]
 show bnd (bound (.int k2 (j : Int)) (bs l).size) _ = _
 rw [h1]
 show bnd (bound (.int k1 (i : Int)) j) _ = _
 rw [h2]
 show some (AVal.str ((bs l).extract i j)) = _
 rw [bs_extract]
theorem asliceStr_from {i : Nat} (h : i ≤ l.length) : asliceStr (.str (bs l)) (some (.int k1 (i : Int))) none = some (.str (bs (l.drop i))) := by
 have h2 : bound (.int k1 (i : Int)) (bs l).size = some i := by simp [bound,bs_size,h]
 show bnd (bound (.int k1 (i : Int)) (bs l).size) _ = _
 rw [h2]
 show some (AVal.str ((bs l).extract i (bs l).size)) = _
 rw [bs_extract,bs_size,List.take_of_length_le (by simp)]
theorem asliceStr_upto {j : Nat} (h : j ≤ l.length) : asliceStr (.str (bs l)) none (some (.int k2 (j : Int))) = some (.str (bs (l.take j))) := by
 have h1 : bound (.int k2 (j : Int)) (bs l).size = some j := by simp [bound,bs_size,h]
 show bnd (bound (.int k2 (j : Int)) (bs l).size) _ = _
 rw [h1]
 show some (AVal.str ((bs l).extract 0 j)) = _
 rw [bs_extract]
 simp
theorem aindexStr_bs {i : Nat} {c : UInt8} (h : l[i]? = some c) : aindexStr (.str (bs l)) (.int k (i : Int)) = some (.int .u8 (c.toNat : Int)) := by
 simp only [aindexStr,Int.toNat_natCast,bs_get,h]
 rw [if_pos (by omega)]
theorem strCells_bs : strCells (bs l) = u8c l := by simp [strCells,u8c,bs_data]
theorem astrBytes_bs : astrBytes (.str (bs l)) = some (.cells (u8c l) true,fun y => .slice y 0 l.length (.room 1)) := by simp [astrBytes,strCells_bs,bs_size]
theorem asame_bs : asame (.str (bs l)) = some (.str (bs l)) := rfl
theorem aassert_same {ty : TypeId} {z v : AVal} : aassert ty z (.iface ty v) = some (.tuple [v,.bool true]) := by simp [aassert]
theorem aassert_other {ty u : Nat} {z v : AVal} (h : u ≠ ty) : aassert ty z (.iface u v) = some (.tuple [z,.bool false]) := by
 simp [aassert,h]
theorem aassert_nil {ty : TypeId} {z : AVal} : aassert ty z .nilIface = some (.tuple [z,.bool false]) := rfl
end
theorem abin_neq_iface {t : TypeId} {v : AVal} : abin .neq .nilI (.iface t v) .nilIface = some (.bool true) := rfl
theorem abin_neq_niface : abin .neq .nilI .nilIface .nilIface = some (.bool false) := rfl
theorem abin_eql_iface {t : TypeId} {v : AVal} : abin .eql .nilI (.iface t v) .nilIface = some (.bool false) := rfl
theorem abin_eql_niface : abin .eql .nilI .nilIface .nilIface = some (.bool true) := rfl
theorem amkIface_int {t : TypeId} {k : IntKind} {n : Int} : amkIface t (.int k n) = some (.iface t (.int k n)) := rfl
theorem amkIface_agg {t : TypeId} {c : List AVal} : amkIface t (.agg c) = some (.iface t (.agg c)) := rfl
theorem notBot_iface {t : TypeId} {v : AVal} : notBot (.iface t v) = some (.iface t v) := rfl
theorem tn1 : Int.toNat 1 = 1 := rfl
theorem tn2 : Int.toNat 2 = 2 := rfl
theorem tn3 : Int.toNat 3 = 3 := rfl
theorem tn4 : Int.toNat 4 = 4 := rfl
theorem notBot_nilIface : notBot .nilIface = some .nilIface := rfl
set_option linter.defProp false
def vas := And.intro @bs_size (And.intro @tn1 (And.intro @tn2 (And.intro @tn3 (And.intro @tn4 (And.intro @mk_bs (And.intro @abin_add_str (And.intro @abin_eql_str (And.intro @abin_neq_str (And.intro @alenStr_bs (And.intro @asliceStr_bs (And.intro @asliceStr_from (And.intro @asliceStr_upto (And.intro @aindexStr_bs (And.intro @astrBytes_bs (And.intro @asame_bs (And.intro @aassert_same (And.intro @aassert_other (And.intro @aassert_nil (And.intro @abin_neq_iface (And.intro @abin_neq_niface (And.intro @abin_eql_iface (And.intro @abin_eql_niface (And.intro @amkIface_int (And.intro @amkIface_agg (And.intro @notBot_iface (@notBot_nilIface))))))))))))))))))))))))))
end Go.Proofs.YtknhlpmmalcchaaDoor

namespace Go.Proofs.YtknhlpmmalcchaaDoor
open Go Go.VAI
set_option linter.unusedSimpArgs false

def EdgeOk (n : Int) (e : Edge) : Prop := (0 ≤ e.src ∧ e.src < n) ∧ (0 ≤ e.dst ∧ e.dst < n) ∧ (0 ≤ e.mode ∧ e.mode < 5) ∧ 0 ≤ e.cost ∧ e.cost ≤ 2147483647
def NetOk (n : Int) (es : List Edge) : Prop := 1 ≤ n ∧ n ≤ 60 ∧ es.length ≤ 400 ∧ ∀ e ∈ es,EdgeOk n e
theorem edgeOk_iff {n : Int} {e : Edge} : rightB n e = true ↔ EdgeOk n e := by
 unfold rightB EdgeOk
 rw [decide_eq_true_iff]
 omega
theorem edge_drop : ∀ (es : List Edge) (i : Nat) (e : Edge),es[i]? = some e → ((edgeCells es).drop (i * 4)).take 4 = e.cells
 | [],i,e,h => by simp at h
 | a :: es,0,e,h => by
  simp at h; subst h
  simp [edgeCells,Edge.cells]
 | a :: es,i + 1,e,h => by
  have := edge_drop es i e (by simpa using h)
  rw [← this]
  have h4 : (i + 1) * 4 = i * 4 + 4 := by omega
  rw [h4]
  simp [edgeCells,Edge.cells]
theorem edge_at {H : AHeap} {v : AVal} {es : List Edge} (h : Row H v 4 (edgeCells es)) {i : Nat} {e : Edge} (he : es[i]? = some e) : ∃ id off,aindexAddrS 4 v (.int .i64 (i : Int)) = some (.ptr id off) ∧ id < H.next ∧
  (bnd (cellsOf (H.obj id)) fun c => c[off]?) = some (.int .i64 e.src) ∧ (bnd (cellsOf (H.obj id)) fun c => c[off + 1]?) = some (.int .i64 e.dst) ∧ (bnd (cellsOf (H.obj id)) fun c => c[off + 2]?) = some (.int .i64 e.mode) ∧ (bnd (cellsOf (H.obj id)) fun c => c[off + 3]?) = some (.int .i64 e.cost) ∧
  (bnd (cellsOf (H.obj id)) fun c => if off + 4 ≤ c.length then some (AVal.agg ((c.drop off).take 4)) else none) = some (AVal.agg e.cells) := by
 have hi := (List.getElem?_eq_some_iff.1 he).1
 obtain ⟨id,off,c,h1,h2,h3,h4,h5⟩ := h.at (j := i) (k := .i64) (by omega) (by omega) (by rw [edgeCells_length,Int.toNat_natCast]; omega)
 rw [Int.toNat_natCast,edge_drop es i e he] at h5
 rw [cells?_of] at h3
 refine ⟨id,off,h1,h2,?_⟩
 simp only [h3,bnd,if_pos h4,h5,true_and,and_true]
 exact ⟨cell_at (f := 0) h5 rfl,cell_at (f := 1) h5 rfl,cell_at (f := 2) h5 rfl,cell_at (f := 3) h5 rfl⟩

def Says (b : Bool) (p : Prop) : Prop := b = true ↔ p
theorem says_no {p : Prop} (h : ¬ p) : Says false p := ⟨fun e => (by cases e),fun e => absurd e h⟩
theorem says_yes {p : Prop} (h : p) : Says true p := ⟨fun _ => h,fun _ => rfl⟩
theorem vertex_ret {n v : Int} {H : AHeap} {Q : AVal → AHeap → Prop} (hq : ∀ b H',Keep Nothing H H' → Says b (0 ≤ v ∧ v < n) → Q (.bool b) H') : Ret A 35 [.agg [.int .i64 n],.int .i64 v] H Q := by
 refine Ret.of (fn := F35) rfl ?_
 have kk : Keep Nothing H (H.new (.cells [.int .i64 n] true)) := (Keep.refl _ _).new _
 by_cases h1 : 0 ≤ v
 ·by_cases h2 : v < n
  ·simp (disch := first | omega | (simp only [nx] <;> omega) | fail) only [vaw,F35,h1,h2,decide_true,Nat.reduceAdd,Nat.reduceMul,Nat.reduceLeDiff,Nat.reduceEqDiff,↓reduceIte]
   exact hq _ _ kk (says_yes ⟨h1,h2⟩)
  ·simp (disch := first | omega | (simp only [nx] <;> omega) | fail) only [vaw,F35,h1,h2,decide_true,decide_false,Nat.reduceAdd,Nat.reduceMul,Nat.reduceLeDiff,Nat.reduceEqDiff,↓reduceIte]
   exact hq _ _ kk (says_no (by omega))
 ·simp (disch := first | omega | (simp only [nx] <;> omega) | fail) only [vaw,F35,h1,decide_false,Nat.reduceAdd,Nat.reduceMul,Nat.reduceLeDiff,Nat.reduceEqDiff,↓reduceIte]
  exact hq _ _ kk (says_no (by omega))
set_option maxRecDepth 20000 in
theorem nedge_ret {n : Int} {e : Edge} {H : AHeap} {Q : AVal → AHeap → Prop} (hq : ∀ b H',Keep Nothing H H' → Says b (EdgeOk n e) → Q (.bool b) H') : Ret A 28 [.agg [.int .i64 n],.agg e.cells] H Q := by
 refine Ret.of (fn := F28) rfl ?_
 simp (disch := first | omega | (simp only [nx] <;> omega) | fail) only [vaw,F28,Edge.cells,Nat.reduceAdd,Nat.reduceMul,Nat.reduceLeDiff,Nat.reduceEqDiff,↓reduceIte]
 have k0 : Keep Nothing H ((H.new (.cells [.int .i64 n] true)).new (.cells [.int .i64 e.src,.int .i64 e.dst,.int .i64 e.mode,.int .i64 e.cost] true)) := ((Keep.refl _ _).new _).new _
 refine vertex_ret fun b1 H1 k1 s1 => ?_
 have o1 : H1.obj (H.next + 1) = some (.cells [.int .i64 e.src,.int .i64 e.dst,.int .i64 e.mode,.int .i64 e.cost] true) := by rw [k1.old (by first | omega | (simp only [next_new,next_upd]; omega))]; simp (disch := first | omega | (simp only [nx] <;> omega) | fail) only [vaim]
 have n1 := k1.next
 simp only [next_new] at n1
 have kA := k0.trans k1
 cases b1 with
 | false =>
  simp (disch := first | omega | (simp only [nx] <;> omega) | fail) only [vaw,Nat.reduceAdd,Nat.reduceMul,Nat.reduceLeDiff,Nat.reduceEqDiff,↓reduceIte]
  refine hq _ _ kA (says_no fun h => ?_)
  have := s1.2 h.1
  cases this
 | true =>
  have p1 := s1.1 rfl
  simp (disch := first | omega | (simp only [nx] <;> omega) | fail) only [vaw,o1,Nat.reduceAdd,Nat.reduceMul,Nat.reduceLeDiff,Nat.reduceEqDiff,↓reduceIte]
  refine vertex_ret fun b2 H2 k2 s2 => ?_
  have o2 := (k2.old (i := H.next + 1) (by omega)).trans o1
  have kB := kA.trans k2
  cases b2 with
  | false =>
   simp (disch := first | omega | (simp only [nx] <;> omega) | fail) only [vaw,Nat.reduceAdd,Nat.reduceMul,Nat.reduceLeDiff,Nat.reduceEqDiff,↓reduceIte]
   refine hq _ _ kB (says_no fun h => ?_)
   have := s2.2 h.2.1
   cases this
  | true =>
   have p2 := s2.1 rfl
   by_cases h1 : 0 ≤ e.mode
   ·by_cases h2 : e.mode < 5
    ·by_cases h3 : 0 ≤ e.cost
     ·by_cases h4 : e.cost ≤ 2147483647
      ·simp (disch := first | omega | (simp only [nx] <;> omega) | fail) only [vaw,o2,h1,h2,h3,h4,decide_true,Nat.reduceAdd,Nat.reduceMul,Nat.reduceLeDiff,Nat.reduceEqDiff,↓reduceIte]
       exact hq _ _ kB (says_yes ⟨p1,p2,⟨h1,h2⟩,h3,h4⟩)
      ·simp (disch := first | omega | (simp only [nx] <;> omega) | fail) only [vaw,o2,h1,h2,h3,h4,decide_true,decide_false,Nat.reduceAdd,Nat.reduceMul,Nat.reduceLeDiff,Nat.reduceEqDiff,↓reduceIte]
       exact hq _ _ kB (says_no fun h => by have := h.2.2.2; omega)
     ·simp (disch := first | omega | (simp only [nx] <;> omega) | fail) only [vaw,o2,h1,h2,h3,decide_true,decide_false,Nat.reduceAdd,Nat.reduceMul,Nat.reduceLeDiff,Nat.reduceEqDiff,↓reduceIte]
      exact hq _ _ kB (says_no fun h => by have := h.2.2.2; omega)
    ·simp (disch := first | omega | (simp only [nx] <;> omega) | fail) only [vaw,o2,h1,h2,decide_true,decide_false,Nat.reduceAdd,Nat.reduceMul,Nat.reduceLeDiff,Nat.reduceEqDiff,↓reduceIte]
     exact hq _ _ kB (says_no fun h => by have := h.2.2.1; omega)
   ·simp (disch := first | omega | (simp only [nx] <;> omega) | fail) only [vaw,o2,h1,decide_false,Nat.reduceAdd,Nat.reduceMul,Nat.reduceLeDiff,Nat.reduceEqDiff,↓reduceIte]
    exact hq _ _ kB (says_no fun h => by have := h.2.2.1; omega)
theorem netcheck_ret {n : Int} {ev : AVal} {es : List Edge} {H : AHeap} {Q : AVal → AHeap → Prop} (hr : Row H ev 4 (edgeCells es)) (hq : ∀ b H',Keep Nothing H H' → Says b (NetOk n es) → Q (.bool b) H') : Ret A 16 [.agg [.int .i64 n,ev]] H Q := by
 refine Ret.of (fn := F16) rfl ?_
 have hl := hr.len (by omega) (edgeCells_length es)
 have hce := hr.cells
 have k0 : Keep Nothing H (H.new (.cells [.int .i64 n,ev] true)) := (Keep.refl _ _).new _
 by_cases h1 : n < 1
 ·simp (disch := first | omega | (simp only [nx] <;> omega) | fail) only [vaw,F16,hce,h1,decide_true,Nat.reduceAdd,Nat.reduceMul,Nat.reduceLeDiff,Nat.reduceEqDiff,↓reduceIte]
  exact hq _ _ k0 (says_no fun h => by have := h.1; omega)
 by_cases h2 : 60 < n
 ·simp (disch := first | omega | (simp only [nx] <;> omega) | fail) only [vaw,F16,hce,h1,h2,decide_true,decide_false,Nat.reduceAdd,Nat.reduceMul,Nat.reduceLeDiff,Nat.reduceEqDiff,↓reduceIte]
  exact hq _ _ k0 (says_no fun h => by have := h.2.1; omega)
 by_cases h3 : 400 < (es.length : Int)
 ·simp (disch := first | omega | (simp only [nx] <;> omega) | fail) only [vaw,F16,hce,hl,h1,h2,h3,decide_true,decide_false,Nat.reduceAdd,Nat.reduceMul,Nat.reduceLeDiff,Nat.reduceEqDiff,↓reduceIte]
  exact hq _ _ k0 (says_no fun h => by have := h.2.2.1; omega)
 simp (disch := first | omega | (simp only [nx] <;> omega) | fail) only [vaw,F16,hce,hl,h1,h2,h3,decide_true,decide_false,Nat.reduceAdd,Nat.reduceMul,Nat.reduceLeDiff,Nat.reduceEqDiff,↓reduceIte]
 refine wpx_loop (fun m t H' => ∃ (i : Nat),m = es.length - i ∧ i ≤ es.length ∧ t = (bots 3 (.func (.func 28) [.agg [.int .i64 n]] [] :: bots 21 (ev :: .int .i64 es.length :: .int .i64 i :: bots 8 ([]))) : Tmps) ∧ Keep Nothing H H' ∧ ∀ e ∈ es.take i,EdgeOk n e) es.length ?_ ?_
 ·exact ⟨0,rfl,by omega,rfl,k0,by simp⟩
 ·rintro m t H1 ⟨i,rfl,hi,rfl,k1,ha⟩
  by_cases hc : (i : Int) < es.length
  ·have hil : i < es.length := by omega
   have he : es[i]? = some es[i] := by simp [hil]
   obtain ⟨id,off,e1,hid2,e2,e3,e4,e5,e6⟩ := edge_at (hr.kept k1) he
   have htk := List.take_succ_eq_append_getElem hil
   have hmem := List.getElem_mem hil
   generalize es[i] = e at *
   simp only [Edge.cells] at e6
   simp (disch := first | omega | (simp only [nx] <;> omega) | fail) only [vaw,hc,decide_true,e1,e6,Nat.reduceAdd,Nat.reduceMul,Nat.reduceLeDiff,Nat.reduceEqDiff,↓reduceIte]
   have k2 : Keep Nothing H ((H1.new (.cells [.int .i64 0,.int .i64 0,.int .i64 0,.int .i64 0] true)).upd H1.next (some (.cells e.cells true))) := (k1.new _).upd (.inl (by have := k1.next; omega)) _
   simp only [Edge.cells] at k2
   refine nedge_ret fun b H2 k3 s => ?_
   have kk := k2.trans k3
   cases b with
   | false =>
    simp (disch := first | omega | (simp only [nx] <;> omega) | fail) only [vaw,Nat.reduceAdd,Nat.reduceMul,Nat.reduceLeDiff,Nat.reduceEqDiff,↓reduceIte]
    refine hq _ _ kk (says_no fun h => ?_)
    have := s.2 (h.2.2.2 e hmem)
    cases this
   | true =>
    simp (disch := first | omega | (simp only [nx] <;> omega) | fail) only [vaw,Nat.reduceAdd,Nat.reduceMul,Nat.reduceLeDiff,Nat.reduceEqDiff,↓reduceIte]
    refine ⟨es.length - (i + 1),by omega,i + 1,rfl,by omega,rfl,kk,?_⟩
    intro x hx
    rw [htk] at hx
    rcases List.mem_append.1 hx with hx | hx
    ·exact ha x hx
    ·simp at hx; subst hx; exact s.1 rfl
  ·have hi : i = es.length := by omega
   rw [hi,List.take_length] at ha
   simp (disch := first | omega | (simp only [nx] <;> omega) | fail) only [vaw,hc,decide_false,Nat.reduceAdd,Nat.reduceMul,Nat.reduceLeDiff,Nat.reduceEqDiff,↓reduceIte]
   exact hq _ _ k1 (says_yes ⟨by omega,by omega,by omega,ha⟩)
end Go.Proofs.YtknhlpmmalcchaaDoor

/-
 DERIVED: THE SHELF's CONTRACTS AT THIS DUMP,IN PLAIN WORDS (tools/lay-plain.mjs out of 'DShT.lean',which tools/lay-shelf.mjs wrote): THE SAME DECLARATIONS UNDER THE SAME NAMES: 'import','namespace','open','def','theorem' AND NOTHING ELSE: no command of the shelf's: FOR A HAND-IN. Each laying: the table of numbers ('.._ren') and one theorem,a field a fact of the dump's own or the kernel's comparison; each contract: ONE APPLICATION.
-/
namespace Go.Proofs
open Go.Shelf
def Tryd.itoa_ren : Go.Shelf.Ren := ⟨fun | 171 => 37 | 243 => 47 | 246 => 55 | 283 => 64 | 284 => 65 | 285 => 66 | 286 => 67 | 129 => 79 | 317 => 78 | 318 => 80 | 319 => 81 | 320 => 82 | 337 => 87 | 338 => 88 | n => n,fun | 3 => 3 | 9 => 9 | 2 => 2 | 4 => 4 | 171 => 92 | 0 => 0 | 53 => 93 | 37 => 34 | 5 => 5 | 173 => 96 | 212 => 108 | 51 => 109 | 20 => 20 | 213 => 110 | 46 => 100 | 232 => 130 | 233 => 131 | n => n,fun | 17 => 1 | 18 => 6 | 19 => 7 | n => n⟩
theorem Tryd.itoa : Go.Proofs.LaysM.n171 Tryd.prog Tryd.itoa_ren := {
 mixed := by kernel_rfl
 f129 := Tryd.func79.trans (congrArg some (by kernel_rfl))
 f171 := Tryd.func37.trans (congrArg some (by kernel_rfl))
 f243 := Tryd.func47.trans (congrArg some (by kernel_rfl))
 f246 := Tryd.func55.trans (congrArg some (by kernel_rfl))
 f283 := Tryd.func64.trans (congrArg some (by kernel_rfl))
 f284 := Tryd.func65.trans (congrArg some (by kernel_rfl))
 f285 := Tryd.func66.trans (congrArg some (by kernel_rfl))
 f286 := Tryd.func67.trans (congrArg some (by kernel_rfl))
 f317 := Tryd.func78.trans (congrArg some (by kernel_rfl))
 f318 := Tryd.func80.trans (congrArg some (by kernel_rfl))
 f319 := Tryd.func81.trans (congrArg some (by kernel_rfl))
 f320 := Tryd.func82.trans (congrArg some (by kernel_rfl))
 f337 := Tryd.func87.trans (congrArg some (by kernel_rfl))
 f338 := Tryd.func88.trans (congrArg some (by kernel_rfl))
 t0 := Tryd.underlying0
 a0 := Tryd.isAgg0
 z0 := Tryd.sizeOf0
 v0 := Tryd.zeroValue0
 t2 := Tryd.underlying2
 a2 := Tryd.isAgg2
 z2 := Tryd.sizeOf2
 v2 := Tryd.zeroValue2
 t3 := Tryd.underlying3
 a3 := Tryd.isAgg3
 z3 := Tryd.sizeOf3
 v3 := Tryd.zeroValue3
 t4 := Tryd.underlying4
 a4 := Tryd.isAgg4
 z4 := Tryd.sizeOf4
 v4 := Tryd.zeroValue4
 t5 := Tryd.underlying5
 a5 := Tryd.isAgg5
 z5 := Tryd.sizeOf5
 v5 := Tryd.zeroValue5
 t9 := Tryd.underlying9
 a9 := Tryd.isAgg9
 z9 := Tryd.sizeOf9
 v9 := Tryd.zeroValue9
 t20 := Tryd.underlying20
 a20 := Tryd.isAgg20
 z20 := Tryd.sizeOf20
 v20 := Tryd.zeroValue20
 t37 := Tryd.underlying34
 a37 := Tryd.isAgg34
 z37 := Tryd.sizeOf34
 v37 := Tryd.zeroValue34
 t46 := Tryd.underlying100
 a46 := Tryd.isAgg100
 z46 := Tryd.sizeOf100
 v46 := Tryd.zeroValue100
 t51 := Tryd.underlying109
 a51 := Tryd.isAgg109
 z51 := Tryd.sizeOf109
 v51 := Tryd.zeroValue109
 t53 := Tryd.underlying93
 a53 := Tryd.isAgg93
 z53 := Tryd.sizeOf93
 v53 := Tryd.zeroValue93
 t171 := Tryd.underlying92
 a171 := Tryd.isAgg92
 z171 := Tryd.sizeOf92
 v171 := Tryd.zeroValue92
 t173 := Tryd.underlying96
 a173 := Tryd.isAgg96
 z173 := Tryd.sizeOf96
 v173 := Tryd.zeroValue96
 t212 := Tryd.underlying108
 a212 := Tryd.isAgg108
 z212 := Tryd.sizeOf108
 v212 := Tryd.zeroValue108
 t213 := Tryd.underlying110
 a213 := Tryd.isAgg110
 z213 := Tryd.sizeOf110
 t232 := Tryd.underlying130
 a232 := Tryd.isAgg130
 z232 := Tryd.sizeOf130
 v232 := Tryd.zeroValue130
 t233 := Tryd.underlying131
 a233 := Tryd.isAgg131
 z233 := Tryd.sizeOf131
 v233 := Tryd.zeroValue131
 g17 := by kernel_rfl
 g18 := by kernel_rfl
 g19 := by kernel_rfl
 i0 := by kernel_rfl
 i2 := by kernel_rfl
 i3 := by kernel_rfl
 i4 := by kernel_rfl
 i5 := by kernel_rfl
 i9 := by kernel_rfl
 i20 := by kernel_rfl
 i37 := by kernel_rfl
 i46 := by kernel_rfl
 i51 := by kernel_rfl
 i53 := by kernel_rfl
 i171 := by kernel_rfl
 i173 := by kernel_rfl
 i212 := by kernel_rfl
 i232 := by kernel_rfl
 i233 := by kernel_rfl
 m17 := by kernel_rfl
 m18 := by kernel_rfl
 m19 := by kernel_rfl }
def Tryd.atoi_ren : Go.Shelf.Ren := ⟨fun | 172 => 52 | 244 => 61 | 245 => 62 | 247 => 73 | 279 => 74 | 280 => 75 | 281 => 76 | 282 => 77 | 287 => 84 | 316 => 85 | 171 => 37 | 205 => 86 | 321 => 89 | 322 => 90 | 243 => 47 | 246 => 55 | 283 => 64 | 284 => 65 | 285 => 66 | 286 => 67 | 129 => 79 | 317 => 78 | 318 => 80 | 319 => 81 | 320 => 82 | 337 => 87 | 338 => 88 | n => n,fun | 9 => 9 | 3 => 3 | 75 => 71 | 76 => 72 | 4 => 4 | 5 => 5 | 167 => 101 | 37 => 34 | 0 => 0 | 85 => 102 | 2 => 2 | 168 => 104 | 53 => 93 | 175 => 118 | 46 => 100 | 210 => 122 | 127 => 83 | 145 => 129 | 143 => 127 | 21 => 21 | 171 => 92 | 173 => 96 | 212 => 108 | 51 => 109 | 20 => 20 | 213 => 110 | 232 => 130 | 233 => 131 | 80 => 74 | n => n,fun | 15 => 4 | 16 => 5 | 17 => 1 | 18 => 6 | 19 => 7 | n => n⟩
theorem Tryd.atoi : Go.Proofs.LaysC.n172 Tryd.prog Tryd.atoi_ren := {
 mixed := by kernel_rfl
 f129 := Tryd.func79.trans (congrArg some (by kernel_rfl))
 f171 := Tryd.func37.trans (congrArg some (by kernel_rfl))
 f172 := Tryd.func52.trans (congrArg some (by kernel_rfl))
 f205 := Tryd.func86.trans (congrArg some (by kernel_rfl))
 f243 := Tryd.func47.trans (congrArg some (by kernel_rfl))
 f244 := Tryd.func61.trans (congrArg some (by kernel_rfl))
 f245 := Tryd.func62.trans (congrArg some (by kernel_rfl))
 f246 := Tryd.func55.trans (congrArg some (by kernel_rfl))
 f247 := Tryd.func73.trans (congrArg some (by kernel_rfl))
 f279 := Tryd.func74.trans (congrArg some (by kernel_rfl))
 f280 := Tryd.func75.trans (congrArg some (by kernel_rfl))
 f281 := Tryd.func76.trans (congrArg some (by kernel_rfl))
 f282 := Tryd.func77.trans (congrArg some (by kernel_rfl))
 f283 := Tryd.func64.trans (congrArg some (by kernel_rfl))
 f284 := Tryd.func65.trans (congrArg some (by kernel_rfl))
 f285 := Tryd.func66.trans (congrArg some (by kernel_rfl))
 f286 := Tryd.func67.trans (congrArg some (by kernel_rfl))
 f287 := Tryd.func84.trans (congrArg some (by kernel_rfl))
 f316 := Tryd.func85.trans (congrArg some (by kernel_rfl))
 f317 := Tryd.func78.trans (congrArg some (by kernel_rfl))
 f318 := Tryd.func80.trans (congrArg some (by kernel_rfl))
 f319 := Tryd.func81.trans (congrArg some (by kernel_rfl))
 f320 := Tryd.func82.trans (congrArg some (by kernel_rfl))
 f321 := Tryd.func89.trans (congrArg some (by kernel_rfl))
 f322 := Tryd.func90.trans (congrArg some (by kernel_rfl))
 f337 := Tryd.func87.trans (congrArg some (by kernel_rfl))
 f338 := Tryd.func88.trans (congrArg some (by kernel_rfl))
 t0 := Tryd.underlying0
 a0 := Tryd.isAgg0
 z0 := Tryd.sizeOf0
 v0 := Tryd.zeroValue0
 t2 := Tryd.underlying2
 a2 := Tryd.isAgg2
 z2 := Tryd.sizeOf2
 v2 := Tryd.zeroValue2
 t3 := Tryd.underlying3
 a3 := Tryd.isAgg3
 z3 := Tryd.sizeOf3
 v3 := Tryd.zeroValue3
 t4 := Tryd.underlying4
 a4 := Tryd.isAgg4
 z4 := Tryd.sizeOf4
 v4 := Tryd.zeroValue4
 t5 := Tryd.underlying5
 a5 := Tryd.isAgg5
 z5 := Tryd.sizeOf5
 v5 := Tryd.zeroValue5
 t9 := Tryd.underlying9
 a9 := Tryd.isAgg9
 z9 := Tryd.sizeOf9
 v9 := Tryd.zeroValue9
 t20 := Tryd.underlying20
 a20 := Tryd.isAgg20
 z20 := Tryd.sizeOf20
 v20 := Tryd.zeroValue20
 t21 := Tryd.underlying21
 a21 := Tryd.isAgg21
 z21 := Tryd.sizeOf21
 v21 := Tryd.zeroValue21
 t37 := Tryd.underlying34
 a37 := Tryd.isAgg34
 z37 := Tryd.sizeOf34
 v37 := Tryd.zeroValue34
 t46 := Tryd.underlying100
 a46 := Tryd.isAgg100
 z46 := Tryd.sizeOf100
 v46 := Tryd.zeroValue100
 t51 := Tryd.underlying109
 a51 := Tryd.isAgg109
 z51 := Tryd.sizeOf109
 v51 := Tryd.zeroValue109
 t53 := Tryd.underlying93
 a53 := Tryd.isAgg93
 z53 := Tryd.sizeOf93
 v53 := Tryd.zeroValue93
 t75 := Tryd.underlying71
 a75 := Tryd.isAgg71
 z75 := Tryd.sizeOf71
 v75 := Tryd.zeroValue71
 t76 := Tryd.underlying72
 a76 := Tryd.isAgg72
 z76 := Tryd.sizeOf72
 v76 := Tryd.zeroValue72
 t85 := Tryd.underlying102
 a85 := Tryd.isAgg102
 z85 := Tryd.sizeOf102
 v85 := Tryd.zeroValue102
 t127 := Tryd.underlying83
 a127 := Tryd.isAgg83
 z127 := Tryd.sizeOf83
 v127 := Tryd.zeroValue83
 t143 := Tryd.underlying127
 a143 := Tryd.isAgg127
 z143 := Tryd.sizeOf127
 v143 := Tryd.zeroValue127
 t145 := Tryd.underlying129
 a145 := Tryd.isAgg129
 z145 := Tryd.sizeOf129
 v145 := Tryd.zeroValue129
 t167 := Tryd.underlying101
 a167 := Tryd.isAgg101
 z167 := Tryd.sizeOf101
 v167 := Tryd.zeroValue101
 t168 := Tryd.underlying104
 a168 := Tryd.isAgg104
 z168 := Tryd.sizeOf104
 v168 := Tryd.zeroValue104
 t171 := Tryd.underlying92
 a171 := Tryd.isAgg92
 z171 := Tryd.sizeOf92
 v171 := Tryd.zeroValue92
 t173 := Tryd.underlying96
 a173 := Tryd.isAgg96
 z173 := Tryd.sizeOf96
 v173 := Tryd.zeroValue96
 t175 := Tryd.underlying118
 a175 := Tryd.isAgg118
 z175 := Tryd.sizeOf118
 v175 := Tryd.zeroValue118
 t210 := Tryd.underlying122
 a210 := Tryd.isAgg122
 z210 := Tryd.sizeOf122
 v210 := Tryd.zeroValue122
 t212 := Tryd.underlying108
 a212 := Tryd.isAgg108
 z212 := Tryd.sizeOf108
 v212 := Tryd.zeroValue108
 t213 := Tryd.underlying110
 a213 := Tryd.isAgg110
 z213 := Tryd.sizeOf110
 t232 := Tryd.underlying130
 a232 := Tryd.isAgg130
 z232 := Tryd.sizeOf130
 v232 := Tryd.zeroValue130
 t233 := Tryd.underlying131
 a233 := Tryd.isAgg131
 z233 := Tryd.sizeOf131
 v233 := Tryd.zeroValue131
 g15 := by kernel_rfl
 g16 := by kernel_rfl
 g17 := by kernel_rfl
 g18 := by kernel_rfl
 g19 := by kernel_rfl
 t80 := Tryd.underlying74
 a80 := Tryd.isAgg74
 z80 := Tryd.sizeOf74
 v80 := Tryd.zeroValue74
 i0 := by kernel_rfl
 i2 := by kernel_rfl
 i3 := by kernel_rfl
 i4 := by kernel_rfl
 i5 := by kernel_rfl
 i9 := by kernel_rfl
 i20 := by kernel_rfl
 i21 := by kernel_rfl
 i37 := by kernel_rfl
 i46 := by kernel_rfl
 i51 := by kernel_rfl
 i53 := by kernel_rfl
 i75 := by kernel_rfl
 i76 := by kernel_rfl
 i80 := by kernel_rfl
 i85 := by kernel_rfl
 i127 := by kernel_rfl
 i143 := by kernel_rfl
 i145 := by kernel_rfl
 i167 := by kernel_rfl
 i168 := by kernel_rfl
 i171 := by kernel_rfl
 i173 := by kernel_rfl
 i175 := by kernel_rfl
 i210 := by kernel_rfl
 i212 := by kernel_rfl
 i232 := by kernel_rfl
 i233 := by kernel_rfl
 m15 := by kernel_rfl
 m16 := by kernel_rfl
 m17 := by kernel_rfl
 m18 := by kernel_rfl
 m19 := by kernel_rfl
 c0 := by kernel_rfl
 c2 := by kernel_rfl
 c3 := by kernel_rfl
 c4 := by kernel_rfl
 c5 := by kernel_rfl
 c9 := by kernel_rfl
 c20 := by kernel_rfl
 c21 := by kernel_rfl
 c37 := by kernel_rfl
 c46 := by kernel_rfl
 c51 := by kernel_rfl
 c53 := by kernel_rfl
 c75 := by kernel_rfl
 c76 := by kernel_rfl
 c80 := by kernel_rfl
 c85 := by kernel_rfl
 c127 := by kernel_rfl
 c143 := by kernel_rfl
 c145 := by kernel_rfl
 c167 := by kernel_rfl
 c168 := by kernel_rfl
 c171 := by kernel_rfl
 c173 := by kernel_rfl
 c175 := by kernel_rfl
 c210 := by kernel_rfl
 c212 := by kernel_rfl
 c213 := by kernel_rfl
 c232 := by kernel_rfl
 c233 := by kernel_rfl }
def Tryd.split_ren : Go.Shelf.Ren := ⟨fun | 146 => 31 | 221 => 40 | 268 => 49 | 138 => 50 | 143 => 51 | 195 => 57 | 197 => 58 | 218 => 59 | 219 => 60 | 260 => 69 | 217 => 53 | 225 => 70 | 224 => 71 | 267 => 72 | 266 => 63 | 314 => 83 | n => n,fun | 9 => 9 | 31 => 35 | 3 => 3 | 4 => 4 | 0 => 0 | 105 => 89 | 21 => 21 | 5 => 5 | 46 => 100 | 119 => 112 | 139 => 115 | 138 => 114 | 146 => 116 | 51 => 109 | n => n,fun | 1 => 0 | 3 => 2 | 4 => 3 | n => n⟩
theorem Tryd.split : Go.Proofs.LaysM.n146 Tryd.prog Tryd.split_ren := {
 mixed := by kernel_rfl
 f138 := Tryd.func50.trans (congrArg some (by kernel_rfl))
 f143 := Tryd.func51.trans (congrArg some (by kernel_rfl))
 f146 := Tryd.func31.trans (congrArg some (by kernel_rfl))
 f195 := Tryd.func57.trans (congrArg some (by kernel_rfl))
 f197 := Tryd.func58.trans (congrArg some (by kernel_rfl))
 f217 := Tryd.func53.trans (congrArg some (by kernel_rfl))
 f218 := Tryd.func59.trans (congrArg some (by kernel_rfl))
 f219 := Tryd.func60.trans (congrArg some (by kernel_rfl))
 f221 := Tryd.func40.trans (congrArg some (by kernel_rfl))
 f224 := Tryd.func71.trans (congrArg some (by kernel_rfl))
 f225 := Tryd.func70.trans (congrArg some (by kernel_rfl))
 f260 := Tryd.func69.trans (congrArg some (by kernel_rfl))
 f266 := Tryd.func63.trans (congrArg some (by kernel_rfl))
 f267 := Tryd.func72.trans (congrArg some (by kernel_rfl))
 f268 := Tryd.func49.trans (congrArg some (by kernel_rfl))
 f314 := Tryd.func83.trans (congrArg some (by kernel_rfl))
 t0 := Tryd.underlying0
 a0 := Tryd.isAgg0
 z0 := Tryd.sizeOf0
 v0 := Tryd.zeroValue0
 t3 := Tryd.underlying3
 a3 := Tryd.isAgg3
 z3 := Tryd.sizeOf3
 v3 := Tryd.zeroValue3
 t4 := Tryd.underlying4
 a4 := Tryd.isAgg4
 z4 := Tryd.sizeOf4
 v4 := Tryd.zeroValue4
 t5 := Tryd.underlying5
 a5 := Tryd.isAgg5
 z5 := Tryd.sizeOf5
 v5 := Tryd.zeroValue5
 t9 := Tryd.underlying9
 a9 := Tryd.isAgg9
 z9 := Tryd.sizeOf9
 v9 := Tryd.zeroValue9
 t21 := Tryd.underlying21
 a21 := Tryd.isAgg21
 z21 := Tryd.sizeOf21
 v21 := Tryd.zeroValue21
 t31 := Tryd.underlying35
 a31 := Tryd.isAgg35
 z31 := Tryd.sizeOf35
 v31 := Tryd.zeroValue35
 t46 := Tryd.underlying100
 a46 := Tryd.isAgg100
 z46 := Tryd.sizeOf100
 v46 := Tryd.zeroValue100
 t51 := Tryd.underlying109
 a51 := Tryd.isAgg109
 z51 := Tryd.sizeOf109
 v51 := Tryd.zeroValue109
 t105 := Tryd.underlying89
 a105 := Tryd.isAgg89
 z105 := Tryd.sizeOf89
 v105 := Tryd.zeroValue89
 t119 := Tryd.underlying112
 a119 := Tryd.isAgg112
 z119 := Tryd.sizeOf112
 t138 := Tryd.underlying114
 a138 := Tryd.isAgg114
 z138 := Tryd.sizeOf114
 v138 := Tryd.zeroValue114
 t139 := Tryd.underlying115
 a139 := Tryd.isAgg115
 z139 := Tryd.sizeOf115
 v139 := Tryd.zeroValue115
 t146 := Tryd.underlying116
 a146 := Tryd.isAgg116
 z146 := Tryd.sizeOf116
 v146 := Tryd.zeroValue116
 g1 := by kernel_rfl
 g3 := by kernel_rfl
 g4 := by kernel_rfl
 i0 := by kernel_rfl
 i3 := by kernel_rfl
 i4 := by kernel_rfl
 i5 := by kernel_rfl
 i9 := by kernel_rfl
 i21 := by kernel_rfl
 i31 := by kernel_rfl
 i46 := by kernel_rfl
 i51 := by kernel_rfl
 i105 := by kernel_rfl
 i138 := by kernel_rfl
 i139 := by kernel_rfl
 i146 := by kernel_rfl
 m1 := by kernel_rfl
 s1_3 := fun w h => Go.Proofs.cell_of_shapedOpen_int (zero := #[.int .i64 0]) (t := 3) h (of_decide_eq_true (by kernel_rfl)) (by kernel_rfl) rfl (by kernel_rfl) (by kernel_rfl) Tryd.underlying3
 m3 := by kernel_rfl
 m4 := by kernel_rfl }
def Tryd.indexByte_ren : Go.Shelf.Ren := ⟨fun | 137 => 42 | 217 => 53 | 266 => 63 | n => n,fun | 9 => 9 | 5 => 5 | 3 => 3 | n => n,fun | n => n⟩
theorem Tryd.indexByte : Go.Proofs.Lays.n137 Tryd.prog Tryd.indexByte_ren := {
 mixed := by kernel_rfl
 f137 := Tryd.func42.trans (congrArg some (by kernel_rfl))
 f217 := Tryd.func53.trans (congrArg some (by kernel_rfl))
 f266 := Tryd.func63.trans (congrArg some (by kernel_rfl))
 t3 := Tryd.underlying3
 a3 := Tryd.isAgg3
 z3 := Tryd.sizeOf3
 v3 := Tryd.zeroValue3
 t5 := Tryd.underlying5
 a5 := Tryd.isAgg5
 z5 := Tryd.sizeOf5
 v5 := Tryd.zeroValue5
 t9 := Tryd.underlying9
 a9 := Tryd.isAgg9
 z9 := Tryd.sizeOf9
 v9 := Tryd.zeroValue9 }
end Go.Proofs

/- The library's functions,by its own contracts,in the interpreter's words: strings.Split of a sign,strings.IndexByte,strconv.Itoa,strconv.Atoi. -/
namespace Go.Proofs.YtknhlpmmalcchaaDoor
open Go Go.VAI Go.RowKit
set_option linter.unusedVariables false
set_option linter.unusedSimpArgs false

theorem mixed : Tryd.prog.follows .mixedOrders = true := by kernel_rfl
def powName : String := ((Rows.netKnownRow.laid.map (·.1))[2]?).getD ""
theorem gPow : Tryd.prog.globalNamed powName = some 1 := by kernel_rfl
theorem pow_eq : (Lib.pow10Tab.map fun z => Value.int .u64 z).toArray = powCells := by
 unfold powCells Lib.pow10Tab
 rw [List.map_map]
 rfl
section
variable {ρ : Go.VAI.Ren} {B : Nat} {H : AHeap} {w : World}
theorem glob_of (h : GlobAt B w) : Glob w := by
 obtain ⟨w0,⟨⟨m,h1⟩,⟨E,fz,h2⟩,⟨e4,h3,h4⟩,⟨e5,h5,h6⟩⟩,_,hk⟩ := h
 have cell : ∀ b v,w0.cell? ⟨b,0,none⟩ = some v → w.cell? ⟨b,0,none⟩ = some v := fun b v hv => by
  have hlt : b < w0.heap.size := World.block_lt_of_cell? _ _ hv
  rw [World.cell?_of_block (w := w0) (a := ⟨b,0,none⟩) (hk b hlt)]
  exact hv
 have hlt : 1 < w0.heap.size := (Array.getElem?_eq_some_iff.1 h2).1
 exact ⟨⟨m,cell _ _ h1⟩,⟨E,fz,by rw [hk 1 hlt]; exact h2⟩,⟨e4,cell _ _ h3,h4⟩,⟨e5,cell _ _ h5,h6⟩⟩
theorem quiet_step (hH : HRel ρ B H w) {w' : World} (hb : Below w.heap.size w w') : Step ρ B H w ρ H w' :=
 ⟨.refl _,hH.world hb.size (fun id l e => hb.block l.b (hH.dom id l e).2) (fun k hk => hb.block k (Nat.lt_of_lt_of_le hk hH.base)),⟨hb.mono hH.base⟩,fun _ h1 h2 => absurd h1 h2,Nat.le_refl _,fun _ _ _ => rfl⟩
theorem str_arg {s : ByteArray} {us : List Value} (h : VRels ρ [.str s] us) : us = [.string s] := by
 obtain ⟨v,us1,rfl,r1,h⟩ := h.cons_inv
 have := h.nil_inv
 subst this
 simp only [VRel] at r1
 subst r1
 rfl
end
theorem itoa_at {n : Int} {H : AHeap} (h0 : -9223372036854775808 ≤ n) (h1 : n ≤ 9223372036854775807) : CallAt Tryd.prog 37 [.int .i64 n] H (.str (bs (Lib.itoa n))) H := by
 refine ⟨⟨_,_,Tryd.func37,rfl,by kernel_rfl⟩,fun ρ B w us hH hus => ?_⟩
 obtain ⟨v,us1,rfl,r1,hus⟩ := hus.cons_inv
 have := hus.nil_inv
 subst this
 simp only [VRel] at r1
 subst r1
 obtain ⟨_,⟨E,fz,hp⟩,_,_⟩ := glob_of hH.glob
 have htab : Lib.TabIs Tryd.prog w powName .u64 Lib.pow10Tab := by
  unfold Lib.TabIs World.var?
  rw [gPow,pow_eq]
  simp [hp]
 have hc := Any.strconv_Itoa Tryd.itoa n h0 h1 w htab
 change Calls Tryd.prog 37 _ _ _ at hc
 refine hc.mono fun e w' => ?_
 rintro ⟨rfl,k,os,rfl⟩
 exact ⟨_,rfl,ρ,by simp only [VRel]; rfl,quiet_step hH (Lib.below_grow _ w (Nat.le_refl _) k os)⟩
theorem index_at {s : ByteArray} {c : Int} {H : AHeap} : CallAt Tryd.prog 42 [.str s,.int .u8 c] H (.int .i64 (Lib.indexByte s.data.toList c.toNat.toUInt8)) H := by
 refine ⟨⟨_,_,Tryd.func42,rfl,by kernel_rfl⟩,fun ρ B w us hH hus => ?_⟩
 obtain ⟨v,us1,rfl,r1,hus⟩ := hus.cons_inv
 obtain ⟨v2,us2,rfl,r2,hus⟩ := hus.cons_inv
 have := hus.nil_inv
 subst this
 simp only [VRel] at r1 r2
 subst r1; subst r2
 have hc := Any.strings_IndexByte Tryd.indexByte s c w
 change Calls Tryd.prog 42 _ _ _ at hc
 refine hc.mono fun e w' => ?_
 rintro ⟨rfl,rfl⟩
 exact ⟨_,rfl,ρ,by simp only [VRel],.refl hH⟩
theorem atoi_at {s : ByteArray} {H : AHeap} (hl : s.size ≤ 281474976710656) : CallAt Tryd.prog 52 [.str s] H (atoiV s.data.toList) H := by
 refine ⟨⟨_,_,Tryd.func52,rfl,by kernel_rfl⟩,fun ρ B w us hH hus => ?_⟩
 have := str_arg hus
 subst this
 obtain ⟨_,_,⟨e4,h4,k4⟩,⟨e5,h5,k5⟩⟩ := glob_of hH.glob
 unfold atoiV
 cases ha : Lib.atoiAll s.data.toList with
 | ok v =>
  have hc := Any.strconv_Atoi_ok Tryd.atoi s (by omega) v ha w
  change Calls Tryd.prog 52 _ _ _ at hc
  refine hc.mono fun e w' => ?_
  rintro ⟨rfl,hw⟩
  refine ⟨_,rfl,ρ,?_,?_⟩
  ·simp only [VRel]
   exact ⟨[_,_],rfl,.cons (by simp only [VRel]) (.cons (by simp only [VRel]) .nil)⟩
  ·rcases hw with rfl | ⟨t,rfl⟩
   ·exact .refl hH
   ·exact quiet_step hH (Lib.bytesWorld_below _ _ _)
 | range =>
  have hc := Any.strconv_Atoi_range Tryd.atoi s hl ha e5 w h5 k5
  change Calls Tryd.prog 52 _ _ _ at hc
  refine hc.mono fun e w' => ?_
  rintro ⟨N,rfl,_,_,hb⟩
  refine ⟨_,rfl,ρ,?_,quiet_step hH hb⟩
  simp only [VRel]
  exact ⟨[_,_],rfl,.cons (by simp only [VRel]) (.cons (by simp only [VRel]; exact ⟨_,rfl,trivial⟩) .nil)⟩
 | _ =>
  have hc := Any.strconv_Atoi_syntax Tryd.atoi s hl ha e4 w h4 k4
  change Calls Tryd.prog 52 _ _ _ at hc
  refine hc.mono fun e w' => ?_
  rintro ⟨N,rfl,_,_,hb⟩
  refine ⟨_,rfl,ρ,?_,quiet_step hH hb⟩
  simp only [VRel]
  exact ⟨[_,_],rfl,.cons (by simp only [VRel]) (.cons (by simp only [VRel]; exact ⟨_,rfl,trivial⟩) .nil)⟩
theorem split_pieces (c : UInt8) (s : ByteArray) : (Lib.splitB ⟨#[c]⟩ 0 (Lib.countB s ⟨#[c]⟩) s).map Value.string = (cutAt c s.data.toList).map fun p => Value.string (bs p) := by
 have h1 := Lib.splitB_data ⟨#[c]⟩ 0 (Lib.countB s ⟨#[c]⟩) s
 have hc : Lib.countB s ⟨#[c]⟩ = s.data.toList.count c := Lib.count_one c s.data.toList
 rw [hc] at h1 ⊢
 have h2 : Lib.splitK [c] 0 (s.data.toList.count c) s.data.toList = cutAt c s.data.toList := splitK_one c _
 have h3 : (Lib.splitB ⟨#[c]⟩ 0 (s.data.toList.count c) s).map (fun x => x.data.toList) = cutAt c s.data.toList := h1.trans h2
 rw [← h3,List.map_map]
 refine List.map_congr_left fun x _ => ?_
 show Value.string x = Value.string (bs x.data.toList)
 rw [bs_of]
theorem split_at {s : ByteArray} {c : UInt8} {H : AHeap} (hs : s.size < 4294967281) :
  CallAt Tryd.prog 31 [.str s,.str ⟨#[c]⟩] H (.slice H.next 0 (cutAt c s.data.toList).length (.exact (cutAt c s.data.toList).length)) (H.new (.cells (strs (cutAt c s.data.toList)) true)) := by
 refine ⟨⟨_,_,Tryd.func31,rfl,by kernel_rfl⟩,fun ρ B w us hH hus => ?_⟩
 obtain ⟨v,us1,rfl,r1,hus⟩ := hus.cons_inv
 obtain ⟨v2,us2,rfl,r2,hus⟩ := hus.cons_inv
 have := hus.nil_inv
 subst this
 simp only [VRel] at r1 r2
 subst r1; subst r2
 obtain ⟨⟨m,hm⟩,_,_,_⟩ := glob_of hH.glob
 have hc := Any.strings_Split { Tryd.split with } Tryd.split.i9 s ⟨#[c]⟩ m w hs hm (Nat.le_refl 1)
 change Calls Tryd.prog 31 _ _ _ at hc
 rw [split_pieces] at hc
 have hn : Lib.countB s ⟨#[c]⟩ + 1 = (cutAt c s.data.toList).length := by
  rw [cutAt_len]
  have : Lib.countB s ⟨#[c]⟩ = s.data.toList.count c := Lib.count_one c s.data.toList
  rw [this]
 rw [hn] at hc
 refine hc.mono fun e w' => ?_
 rintro ⟨rfl,rfl⟩
 have hy : ρ H.next = none := hH.fresh
 have hcells : ∀ x ∈ strs (cutAt c s.data.toList),x.isCell = true := by
  intro x hx
  simp only [strs,List.mem_map] at hx
  obtain ⟨p,_,rfl⟩ := hx
  rfl
 have hr : VRels ρ (strs (cutAt c s.data.toList)) (((cutAt c s.data.toList).map fun p => Value.string (bs p)).toArray).toList := by
  refine .of_get (by simp [strs]) (fun i x v e1 e2 => ?_)
  simp only [strs,List.getElem?_map] at e1
  simp only [List.toList_toArray,List.getElem?_map] at e2
  cases hp : (cutAt c s.data.toList)[i]? with
  | none => rw [hp] at e1; cases e1
  | some p =>
   rw [hp] at e1 e2
   simp only [Option.map_some] at e1 e2
   injection e1 with e1; injection e2 with e2
   subst e1; subst e2
   simp only [VRel]
 have hnew := hH.new_ (.cells (strs (cutAt c s.data.toList)) true)
 obtain ⟨g1,g2,g3⟩ := bind_row hnew hy (by show H.next < H.next + 1; omega) (obj_new_eq rfl) hr hcells (Tryd.split_ren.t 9)
 refine ⟨_,rfl,_,?_,Step.bind hy rfl (fun _ _ _ => rfl) g1 g2⟩
 simp only [VRel]
 exact ⟨_,_,g3,rfl,Nat.le_refl _,.inl rfl⟩
end Go.Proofs.YtknhlpmmalcchaaDoor

namespace Go.Proofs.YtknhlpmmalcchaaDoor
open Go Go.VAI
set_option linter.unusedSimpArgs false

theorem atoi_ret {l : List UInt8} {H : AHeap} {Q : AVal → AHeap → Prop} (hl : l.length ≤ 281474976710656) (hq : Q (atoiV l) H) : Ret A 52 [.str (bs l)] H Q := by
 have hs : (bs l).size ≤ 281474976710656 := by rw [bs_size]; exact hl
 have e : libD 52 [.str (bs l)] H = some (atoiV l,H) := by
  show (if (bs l).size ≤ 281474976710656 then some (atoiV (bs l).data.toList,H) else none) = _
  rw [if_pos hs,bs_data]
 have hc := atoi_at (H := H) hs
 rw [bs_data] at hc
 exact Ret.lib rfl (show lawful Tryd.prog libD 52 _ H = _ from lawful_eq e hc) hq
theorem itoa_ret {n : Int} {H : AHeap} {Q : AVal → AHeap → Prop} (h0 : -9223372036854775808 ≤ n) (h1 : n < 9223372036854775808) (hq : Q (.str (bs (Lib.itoa n))) H) : Ret A 37 [.int .i64 n] H Q := by
 have e : libD 37 [.int .i64 n] H = some (.str (bs (Lib.itoa n)),H) := by
  show (if -9223372036854775808 ≤ n ∧ n ≤ 9223372036854775807 then some (AVal.str (bs (Lib.itoa n)),H) else none) = _
  rw [if_pos ⟨h0,by omega⟩]
 exact Ret.lib rfl (show lawful Tryd.prog libD 37 _ H = _ from lawful_eq e (itoa_at h0 (by omega))) hq
theorem indexByte_ret {l : List UInt8} {c : UInt8} {H : AHeap} {Q : AVal → AHeap → Prop} (hq : Q (.int .i64 (Lib.indexByte l c)) H) : Ret A 42 [.str (bs l),.int .u8 (c.toNat : Int)] H Q := by
 have hc := index_at (s := bs l) (c := (c.toNat : Int)) (H := H)
 have ec : ((c.toNat : Int)).toNat.toUInt8 = c := by simp
 rw [bs_data,ec] at hc
 have e : libD 42 [.str (bs l),.int .u8 (c.toNat : Int)] H = some (.int .i64 (Lib.indexByte l c),H) := by
  show some (AVal.int .i64 (Lib.indexByte (bs l).data.toList ((c.toNat : Int)).toNat.toUInt8),H) = _
  rw [bs_data,ec]
 exact Ret.lib rfl (show lawful Tryd.prog libD 42 _ H = _ from lawful_eq e hc) hq
theorem split_ret {l : List UInt8} {c : UInt8} {H : AHeap} {Q : AVal → AHeap → Prop} (hl : l.length < 4294967281) (hq : Q (.slice H.next 0 (cutAt c l).length (.exact (cutAt c l).length)) (H.new (.cells (strs (cutAt c l)) true))) : Ret A 31 [.str (bs l),.str (bs [c])] H Q := by
 have hs : (bs l).size < 4294967281 := by rw [bs_size]; exact hl
 have hc := split_at (s := bs l) (c := c) (H := H) hs
 rw [bs_data] at hc
 have e : libD 31 [.str (bs l),.str (bs [c])] H = some (.slice H.next 0 (cutAt c l).length (.exact (cutAt c l).length),H.new (.cells (strs (cutAt c l)) true)) := by
  show (if (bs l).size < 4294967281 then some (AVal.slice H.next 0 (cutAt c (bs l).data.toList).length (.exact (cutAt c (bs l).data.toList).length),H.new (.cells (strs (cutAt c (bs l).data.toList)) true)) else none) = _
  rw [if_pos hs,bs_data]
 exact Ret.lib rfl (show lawful Tryd.prog libD 31 _ H = _ from lawful_eq e hc) hq
theorem number_ret {l : List UInt8} {H : AHeap} {Q : AVal → AHeap → Prop} (hl : l.length ≤ 281474976710656) (hq : Q (.int .i64 (numP l)) H) : Ret A 41 [.str (bs l)] H Q := by
 refine Ret.of (fn := F41) rfl ?_
 simp (disch := first | omega | (simp only [next_new,next_upd] <;> omega) | fail) only [vai,vaim,vaic,vas,bots,Bool.not_true,Bool.not_false,decide_true,decide_false,wrap64,F41,Nat.reduceAdd,Nat.reduceMul,Nat.reduceLeDiff,Nat.reduceEqDiff,↓reduceIte]
 refine atoi_ret hl ?_
 have hn : numP l = match Lib.atoiAll l with | .ok v => if 0 ≤ v ∧ Lib.itoa v = l then v else -1 | _ => -1 := rfl
 rw [hn] at hq
 unfold atoiV
 cases ha : Lib.atoiAll l with
 | ok v =>
  rw [ha] at hq
  simp only at hq ⊢
  have hb := Lib.atoiAll_bounds ha
  by_cases h0 : v < 0
  ·simp (disch := first | omega | (simp only [next_new,next_upd] <;> omega) | fail) only [vai,vaim,vaic,vas,bots,Bool.not_true,Bool.not_false,decide_true,decide_false,wrap64,h0,decide_true,Nat.reduceAdd,Nat.reduceMul,Nat.reduceLeDiff,Nat.reduceEqDiff,↓reduceIte]
   rw [if_neg (by omega)] at hq
   exact hq
  ·simp (disch := first | omega | (simp only [next_new,next_upd] <;> omega) | fail) only [vai,vaim,vaic,vas,bots,Bool.not_true,Bool.not_false,decide_true,decide_false,wrap64,h0,decide_false,Nat.reduceAdd,Nat.reduceMul,Nat.reduceLeDiff,Nat.reduceEqDiff,↓reduceIte]
   refine itoa_ret (by omega) (by omega) ?_
   by_cases he : Lib.itoa v = l
   ·rw [if_pos ⟨by omega,he⟩] at hq
    simp (disch := first | omega | (simp only [next_new,next_upd] <;> omega) | fail) only [vai,vaim,vaic,vas,bots,Bool.not_true,Bool.not_false,decide_true,decide_false,wrap64,he,ne_eq,not_true_eq_false,decide_false,Nat.reduceAdd,Nat.reduceMul,Nat.reduceLeDiff,Nat.reduceEqDiff,↓reduceIte]
    exact hq
   ·rw [if_neg (fun h => he h.2)] at hq
    simp (disch := first | omega | (simp only [next_new,next_upd] <;> omega) | fail) only [vai,vaim,vaic,vas,bots,Bool.not_true,Bool.not_false,decide_true,decide_false,wrap64,he,ne_eq,not_false_eq_true,decide_true,Nat.reduceAdd,Nat.reduceMul,Nat.reduceLeDiff,Nat.reduceEqDiff,↓reduceIte]
    exact hq
 | range =>
  rw [ha] at hq
  simp only at hq ⊢
  simp (disch := first | omega | (simp only [next_new,next_upd] <;> omega) | fail) only [vai,vaim,vaic,vas,bots,Bool.not_true,Bool.not_false,decide_true,decide_false,wrap64,Nat.reduceAdd,Nat.reduceMul,Nat.reduceLeDiff,Nat.reduceEqDiff,↓reduceIte]
  exact hq
 | _ =>
  rw [ha] at hq
  simp only at hq ⊢
  simp (disch := first | omega | (simp only [next_new,next_upd] <;> omega) | fail) only [vai,vaim,vaic,vas,bots,Bool.not_true,Bool.not_false,decide_true,decide_false,wrap64,Nat.reduceAdd,Nat.reduceMul,Nat.reduceLeDiff,Nat.reduceEqDiff,↓reduceIte]
  exact hq
end Go.Proofs.YtknhlpmmalcchaaDoor

namespace Go.Proofs.YtknhlpmmalcchaaDoor
open Go Go.VAI
set_option linter.unusedSimpArgs false

theorem cutAt_le (c : UInt8) : ∀ (l : List UInt8),∀ p ∈ cutAt c l,p.length ≤ l.length
 | [],p,h => by simp [cutAt] at h; subst h; simp
 | b :: l,p,h => by
  obtain ⟨x,r,hx⟩ : ∃ x r,cutAt c l = x :: r := by
   cases hc : cutAt c l with
   | nil => exact absurd hc (cutAt_ne c l)
   | cons x r => exact ⟨x,r,rfl⟩
  have ih := cutAt_le c l
  simp only [List.length_cons]
  by_cases hb : b = c
  ·subst hb
   rw [cutAt_hit] at h
   rcases List.mem_cons.1 h with rfl | h
   ·simp
   ·have := ih p h; omega
  ·rw [cutAt_cons hb hx] at h
   rcases List.mem_cons.1 h with rfl | h
   ·have := ih x (by rw [hx]; simp)
    simp only [List.length_cons]; omega
   ·have := ih p (by rw [hx]; simp [h]); omega
theorem len2 {α : Type} {L : List α} (h : L.length = 2) : ∃ a b,L = [a,b] := by
 cases L with
 | nil => cases h
 | cons a L =>
  cases L with
  | nil => cases h
  | cons b L =>
   cases L with
   | nil => exact ⟨a,b,rfl⟩
   | cons c L => simp at h
theorem len5 {α : Type} {L : List α} (h : L.length = 5) : ∃ a b c d e,L = [a,b,c,d,e] := by
 cases L with
 | nil => cases h
 | cons a L =>
  cases L with
  | nil => cases h
  | cons b L =>
   cases L with
   | nil => cases h
   | cons c L =>
    obtain ⟨d,e,rfl⟩ := len2 (L := L) (by simpa using h)
    exact ⟨a,b,c,d,e,rfl⟩
theorem len1 {α : Type} {L : List α} (h : L.length = 1) : ∃ a,L = [a] := by
 cases L with
 | nil => cases h
 | cons a L =>
  cases L with
  | nil => exact ⟨a,rfl⟩
  | cons b L => simp at h
theorem d22 : decide (((2 : Nat) : Int) = 2) = true := rfl
theorem d52 : decide (((5 : Nat) : Int) = 2) = false := rfl
theorem d55 : decide (((5 : Nat) : Int) = 5) = true := rfl
theorem d25 : decide (((2 : Nat) : Int) = 5) = false := rfl
theorem d11 : decide (((1 : Nat) : Int) = 1) = true := rfl
def itemV : Item → AVal
 | .size k => .iface 76 (.int .i64 k)
 | .edge e => .iface 31 (.agg e.cells)
 | .no => .nilIface
theorem item_net {w a b : List UInt8} (hL : cutAt 32 w = [a,b]) (ha : a = netW) : itemP w = .size (numP b) := by
 unfold itemP
 rw [hL]
 exact if_pos ha
theorem item_net0 {w a b : List UInt8} (hL : cutAt 32 w = [a,b]) (ha : ¬ a = netW) : itemP w = .no := by
 unfold itemP
 rw [hL]
 exact if_neg ha
theorem item_edge {w a f t c : List UInt8} {s : UInt8} (hL : cutAt 32 w = [a,f,t,[s],c]) (ha : a = edgeW) : itemP w = .edge ⟨numP f,numP t,Lib.indexByte signs s,numP c⟩ := by
 unfold itemP
 rw [hL]
 exact if_pos ha
theorem item_edge0 {w a f t m c : List UInt8} (hL : cutAt 32 w = [a,f,t,m,c]) (ha : ¬ a = edgeW) : itemP w = .no := by
 unfold itemP
 rw [hL]
 exact if_neg ha
theorem item_edge1 {w a f t m c : List UInt8} (hL : cutAt 32 w = [a,f,t,m,c]) (hm : m.length ≠ 1) : itemP w = .no := by
 unfold itemP
 rw [hL]
 simp only
 by_cases ha : a = edgeW
 ·rw [if_pos ha]
  match m,hm with
  | [],_ => rfl
  | [s],hm => exact absurd rfl hm
  | _ :: _ :: _,_ => rfl
 ·rw [if_neg ha]
theorem item_none {w : List UInt8} (h2 : (cutAt 32 w).length ≠ 2) (h5 : (cutAt 32 w).length ≠ 5) : itemP w = .no := by
 unfold itemP
 generalize cutAt 32 w = L at *
 match L,h2,h5 with
 | [],_,_ => rfl
 | [_],_,_ => rfl
 | [_,_],h2,_ => exact absurd rfl h2
 | [_,_,_],_,_ => rfl
 | [_,_,_,_],_,_ => rfl
 | [_,_,_,_,_],_,h5 => exact absurd rfl h5
 | _ :: _ :: _ :: _ :: _ :: _ :: _,_,_ => rfl
set_option maxRecDepth 20000 in
set_option maxHeartbeats 1000000 in
theorem line_ret {w : List UInt8} {H : AHeap} {Q : AVal → AHeap → Prop} (hw : w.length ≤ 60000) (hq : ∀ H',Keep Nothing H H' → Q (itemV (itemP w)) H') : Ret A 33 [.str (bs w)] H Q := by
 refine Ret.of (fn := F33) rfl ?_
 simp (disch := first | omega | (simp only [next_new,next_upd] <;> omega) | fail) only [vai,vaim,vaic,vas,bots,Bool.not_true,Bool.not_false,decide_true,decide_false,wrap64,F33,Nat.reduceAdd,Nat.reduceMul,Nat.reduceLeDiff,Nat.reduceEqDiff,↓reduceIte]
 refine split_ret (by omega) ?_
 have hle := cutAt_le 32 w
 have i1 := @item_net w
 have i2 := @item_net0 w
 have i3 := @item_edge w
 have i4 := @item_edge0 w
 have i5 := @item_edge1 w
 have i6 := @item_none w
 generalize cutAt 32 w = L at *
 generalize itemP w = I at *
 have k0 : Keep Nothing H (H.new (.cells (strs L) true)) := (Keep.refl _ _).new _
 by_cases h2 : L.length = 2
 ·clear i3 i4 i5 i6
  obtain ⟨a,b,rfl⟩ := len2 h2
  have lb := hle b (by simp)
  have ks : strs [a,b] = [.str (bs a),.str (bs b)] := rfl
  have kl : ([a,b] : List (List UInt8)).length = 2 := rfl
  rw [ks] at k0 ⊢
  rw [kl]
  by_cases ha : a = [110,101,116]
  ·have hi := i1 rfl ha
   subst hi
   simp (disch := first | omega | (simp only [next_new,next_upd] <;> omega) | fail) only [vai,vaim,vaic,vas,bots,Bool.not_true,Bool.not_false,decide_true,decide_false,wrap64,ha,d22,decide_true,Nat.reduceAdd,Nat.reduceMul,Nat.reduceLeDiff,Nat.reduceEqDiff,↓reduceIte]
   refine number_ret (l := b) (by omega) ?_
   simp (disch := first | omega | (simp only [next_new,next_upd] <;> omega) | fail) only [vai,vaim,vaic,vas,bots,Bool.not_true,Bool.not_false,decide_true,decide_false,wrap64,Nat.reduceAdd,Nat.reduceMul,Nat.reduceLeDiff,Nat.reduceEqDiff,↓reduceIte]
   rw [ha] at k0
   exact hq _ k0
  ·have hi := i2 rfl ha
   subst hi
   simp (disch := first | omega | (simp only [next_new,next_upd] <;> omega) | fail) only [vai,vaim,vaic,vas,bots,Bool.not_true,Bool.not_false,decide_true,decide_false,wrap64,ha,d22,d25,decide_false,Nat.reduceAdd,Nat.reduceMul,Nat.reduceLeDiff,Nat.reduceEqDiff,↓reduceIte]
   exact hq _ k0
 by_cases h5 : L.length = 5
 ·clear i1 i2 i6
  obtain ⟨a,f,t,m,c,rfl⟩ := len5 h5
  have lf := hle f (by simp)
  have lt := hle t (by simp)
  have lc := hle c (by simp)
  have ks : strs [a,f,t,m,c] = [.str (bs a),.str (bs f),.str (bs t),.str (bs m),.str (bs c)] := rfl
  have kl : ([a,f,t,m,c] : List (List UInt8)).length = 5 := rfl
  rw [ks] at k0 ⊢
  rw [kl]
  simp (disch := first | omega | (simp only [next_new,next_upd] <;> omega) | fail) only [vai,vaim,vaic,vas,bots,Bool.not_true,Bool.not_false,decide_true,decide_false,wrap64,d52,d55,decide_true,decide_false,Nat.reduceAdd,Nat.reduceMul,Nat.reduceLeDiff,Nat.reduceEqDiff,↓reduceIte]
  rcases Classical.em (a = edgeW) with ha | ha
  ·by_cases hm : m.length = 1
   ·obtain ⟨s,rfl⟩ := len1 hm
    have hi2 := i3 rfl ha
    subst hi2
    have hi : aindexStr (.str (bs [s])) (.int .i64 0) = some (.int .u8 (s.toNat : Int)) := aindexStr_bs (i := 0) rfl
    have hd : decide (a = [101,100,103,101]) = true := decide_eq_true ha
    simp (disch := first | omega | (simp only [next_new,next_upd] <;> omega) | fail) only [vai,vaim,vaic,vas,bots,Bool.not_true,Bool.not_false,decide_true,decide_false,wrap64,hd,hi,d52,d55,d11,decide_true,Nat.reduceAdd,Nat.reduceMul,Nat.reduceLeDiff,Nat.reduceEqDiff,↓reduceIte]
    refine number_ret (l := f) (by omega) ?_
    simp (disch := first | omega | (simp only [next_new,next_upd] <;> omega) | fail) only [vai,vaim,vaic,vas,bots,Bool.not_true,Bool.not_false,decide_true,decide_false,wrap64,Nat.reduceAdd,Nat.reduceMul,Nat.reduceLeDiff,Nat.reduceEqDiff,↓reduceIte]
    refine number_ret (l := t) (by omega) ?_
    simp (disch := first | omega | (simp only [next_new,next_upd] <;> omega) | fail) only [vai,vaim,vaic,vas,bots,Bool.not_true,Bool.not_false,decide_true,decide_false,wrap64,Nat.reduceAdd,Nat.reduceMul,Nat.reduceLeDiff,Nat.reduceEqDiff,↓reduceIte]
    refine indexByte_ret ?_
    simp (disch := first | omega | (simp only [next_new,next_upd] <;> omega) | fail) only [vai,vaim,vaic,vas,bots,Bool.not_true,Bool.not_false,decide_true,decide_false,wrap64,Nat.reduceAdd,Nat.reduceMul,Nat.reduceLeDiff,Nat.reduceEqDiff,↓reduceIte]
    refine number_ret (l := c) (by omega) ?_
    simp (disch := first | omega | (simp only [next_new,next_upd] <;> omega) | fail) only [vai,vaim,vaic,vas,bots,Bool.not_true,Bool.not_false,decide_true,decide_false,wrap64,Nat.reduceAdd,Nat.reduceMul,Nat.reduceLeDiff,Nat.reduceEqDiff,↓reduceIte]
    exact hq _ k0
   ·have hm' : ¬ (m.length : Int) = 1 := by omega
    have hi := i5 rfl hm
    subst hi
    have hd : decide (a = [101,100,103,101]) = true := decide_eq_true ha
    simp (disch := first | omega | (simp only [next_new,next_upd] <;> omega) | fail) only [vai,vaim,vaic,vas,bots,Bool.not_true,Bool.not_false,decide_true,decide_false,wrap64,hd,hm',d52,d55,decide_true,decide_false,Nat.reduceAdd,Nat.reduceMul,Nat.reduceLeDiff,Nat.reduceEqDiff,↓reduceIte]
    exact hq _ k0
  ·have hi := i4 rfl ha
   subst hi
   have hd : decide (a = [101,100,103,101]) = false := decide_eq_false ha
   simp (disch := first | omega | (simp only [next_new,next_upd] <;> omega) | fail) only [vai,vaim,vaic,vas,bots,Bool.not_true,Bool.not_false,decide_true,decide_false,wrap64,hd,d52,d55,decide_false,Nat.reduceAdd,Nat.reduceMul,Nat.reduceLeDiff,Nat.reduceEqDiff,↓reduceIte]
   exact hq _ k0
 have hi := i6 h2 h5
 subst hi
 have h2' : ¬ (L.length : Int) = 2 := by omega
 have h5' : ¬ (L.length : Int) = 5 := by omega
 simp (disch := first | omega | (simp only [next_new,next_upd] <;> omega) | fail) only [vai,vaim,vaic,vas,bots,Bool.not_true,Bool.not_false,decide_true,decide_false,wrap64,h2',h5',decide_false,Nat.reduceAdd,Nat.reduceMul,Nat.reduceLeDiff,Nat.reduceEqDiff,↓reduceIte]
 exact hq _ k0
end Go.Proofs.YtknhlpmmalcchaaDoor

namespace Go.Proofs.YtknhlpmmalcchaaDoor
open Go Go.VAI
set_option linter.unusedSimpArgs false

theorem d3176 : decide ((31 : Nat) = 76) = false := rfl
set_option maxRecDepth 20000 in
set_option maxHeartbeats 1000000 in
theorem add_ret {lo p : Nat} {x : NetS} {ev : AVal} {it : Item} {H : AHeap} {Q : AVal → AHeap → Prop} (hp : p < lo) (hlo : lo ≤ H.next) (ho : H.obj p = some (.cells [.int .i64 x.n,ev] true)) (hg : Grown lo H ev 4 (edgeCells x.es)) (h0 : x.n = 0 → x.es = []) (hle : x.es.length ≤ 400)
  (hno : addP x it = none → ∀ H' a b,H.next ≤ H'.next → (∀ j,j < lo → j ≠ p → H'.obj j = H.obj j) → H'.obj p = some (.cells [a,b] true) → Q (.bool false) H')
  (hyes : ∀ y,addP x it = some y → ∀ H' ev',H.next ≤ H'.next → (∀ j,j < lo → j ≠ p → H'.obj j = H.obj j) → H'.obj p = some (.cells [.int .i64 y.n,ev'] true) → Grown lo H' ev' 4 (edgeCells y.es) → Q (.bool true) H') : Ret A 32 [.ptr p 0,itemV it] H Q := by
 refine Ret.of (fn := F32) rfl ?_
 have hl := hg.row.len (by omega) (edgeCells_length x.es)
 have hbe := hg.row.beq
 have hce := hg.cells
 have hpn : p < H.next := by omega
 by_cases hn : x.n = 0
 ·have hes := h0 hn
  cases it with
  | size k =>
   unfold itemV
   simp (disch := first | omega | (simp only [next_new,next_upd] <;> omega) | fail) only [vai,vaim,vaic,vas,bots,Bool.not_true,Bool.not_false,decide_true,decide_false,wrap64,F32,ho,hn,decide_true,Nat.reduceAdd,Nat.reduceMul,Nat.reduceLeDiff,Nat.reduceEqDiff,↓reduceIte]
   have kj : ∀ j,j < lo → j ≠ p → (H.upd p (some (.cells [.int .i64 k,ev] true))).obj j = H.obj j := fun j _ h2 => obj_upd_ne h2
   have ko : (H.upd p (some (.cells [.int .i64 k,ev] true))).obj p = some (.cells [.int .i64 k,ev] true) := obj_upd_eq rfl
   have kg : Grown lo (H.upd p (some (.cells [.int .i64 k,ev] true))) ev 4 (edgeCells x.es) := hg.upd hp _
   refine netcheck_ret kg.row fun b H1 k1 s1 => ?_
   have n1 := k1.next
   simp only [next_upd] at n1
   have o1 := (k1.old (i := p) (by simp only [next_upd]; exact hpn)).trans ko
   simp (disch := first | omega | (simp only [next_new,next_upd] <;> omega) | fail) only [vai,vaim,vaic,vas,bots,Bool.not_true,Bool.not_false,decide_true,decide_false,wrap64,Nat.reduceAdd,Nat.reduceMul,Nat.reduceLeDiff,Nat.reduceEqDiff,↓reduceIte]
   cases b with
   | true =>
    have hnet := s1.1 rfl
    refine hyes ⟨k,x.es⟩ ?_ H1 ev n1 (fun j h1 h2 => (k1.old (by simp only [next_upd]; omega)).trans (kj j h1 h2)) o1 (kg.keep k1.next fun i h1 h2 => k1.old h2)
    simp only [addP]
    rw [if_pos ⟨hn,hnet.1,hnet.2.1⟩]
   | false =>
    refine hno ?_ H1 _ _ n1 (fun j h1 h2 => (k1.old (by simp only [next_upd]; omega)).trans (kj j h1 h2)) o1
    simp only [addP]
    rw [if_neg]
    rintro ⟨_,h1,h2⟩
    have := s1.2 ⟨h1,h2,by rw [hes]; simp,by rw [hes]; simp⟩
    cases this
  | edge e =>
   unfold itemV
   simp (disch := first | omega | (simp only [next_new,next_upd] <;> omega) | fail) only [vai,vaim,vaic,vas,bots,Bool.not_true,Bool.not_false,decide_true,decide_false,wrap64,F32,ho,hn,d3176,decide_true,Nat.reduceAdd,Nat.reduceMul,Nat.reduceLeDiff,Nat.reduceEqDiff,↓reduceIte]
   refine hno ?_ (H.upd p (some (.cells [.int .i64 0,ev] true))) _ _ (Nat.le_refl _) (fun j _ h2 => obj_upd_ne h2) (obj_upd_eq rfl)
   simp only [addP]
   rw [if_neg (fun h => h.1 hn)]
  | no =>
   unfold itemV
   simp (disch := first | omega | (simp only [next_new,next_upd] <;> omega) | fail) only [vai,vaim,vaic,vas,bots,Bool.not_true,Bool.not_false,decide_true,decide_false,wrap64,F32,ho,hn,decide_true,Nat.reduceAdd,Nat.reduceMul,Nat.reduceLeDiff,Nat.reduceEqDiff,↓reduceIte]
   exact hno rfl (H.upd p (some (.cells [.int .i64 0,ev] true))) _ _ (Nat.le_refl _) (fun j _ h2 => obj_upd_ne h2) (obj_upd_eq rfl)
 ·have k0 : ∀ z : List AVal,∀ z' : List AVal,∀ j,j < lo → j ≠ p → ((H.new (.cells z true)).upd H.next (some (.cells z' true))).obj j = H.obj j := fun z z' j h1 _ => by
   rw [obj_upd_ne (by omega),obj_new_ne (by omega)]
  have o0 : ∀ z z' : List AVal,((H.new (.cells z true)).upd H.next (some (.cells z' true))).obj p = some (.cells [.int .i64 x.n,ev] true) := fun z z' => by
   rw [obj_upd_ne (by omega),obj_new_ne (by omega)]; exact ho
  cases it with
  | size k =>
   unfold itemV
   simp (disch := first | omega | (simp only [next_new,next_upd] <;> omega) | fail) only [vai,vaim,vaic,vas,bots,Bool.not_true,Bool.not_false,decide_true,decide_false,wrap64,F32,ho,hn,decide_false,Nat.reduceAdd,Nat.reduceMul,Nat.reduceLeDiff,Nat.reduceEqDiff,↓reduceIte]
   refine hno ?_ _ _ _ (by first | omega | (simp only [next_new,next_upd]; omega)) (k0 _ _) (o0 _ _)
   simp only [addP]
   rw [if_neg (fun h => hn h.1)]
  | no =>
   unfold itemV
   simp (disch := first | omega | (simp only [next_new,next_upd] <;> omega) | fail) only [vai,vaim,vaic,vas,bots,Bool.not_true,Bool.not_false,decide_true,decide_false,wrap64,F32,ho,hn,decide_false,Nat.reduceAdd,Nat.reduceMul,Nat.reduceLeDiff,Nat.reduceEqDiff,↓reduceIte]
   exact hno rfl _ _ _ (by first | omega | (simp only [next_new,next_upd]; omega)) (k0 _ _) (o0 _ _)
  | edge e =>
   have hiv : itemV (.edge e) = .iface 31 (.agg [.int .i64 e.src,.int .i64 e.dst,.int .i64 e.mode,.int .i64 e.cost]) := rfl
   have hadd : addP x (.edge e) = if x.n ≠ 0 ∧ x.es.length < 400 ∧ rightB x.n e = true then some ⟨x.n,x.es ++ [e]⟩ else none := rfl
   rw [hadd] at hno hyes
   rw [hiv]
   by_cases h4 : (400 : Int) ≤ x.es.length
   ·simp (disch := first | omega | (simp only [next_new,next_upd] <;> omega) | fail) only [vai,vaim,vaic,vas,bots,Bool.not_true,Bool.not_false,decide_true,decide_false,wrap64,F32,ho,hn,hl,h4,decide_true,decide_false,Nat.reduceAdd,Nat.reduceMul,Nat.reduceLeDiff,Nat.reduceEqDiff,↓reduceIte]
    refine hno (if_neg fun h => by omega) _ _ _ (by first | omega | (simp only [next_new,next_upd]; omega)) (k0 _ _) (o0 _ _)
   ·simp (disch := first | omega | (simp only [next_new,next_upd] <;> omega) | fail) only [vai,vaim,vaic,vas,bots,Bool.not_true,Bool.not_false,decide_true,decide_false,wrap64,F32,ho,hn,hl,h4,decide_true,decide_false,Nat.reduceAdd,Nat.reduceMul,Nat.reduceLeDiff,Nat.reduceEqDiff,↓reduceIte]
    refine nedge_ret (e := e) fun b H1 k1 s1 => ?_
    have n1 := k1.next
    simp only [next_upd,next_new] at n1
    have oe : H1.obj H.next = some (.cells [.int .i64 e.src,.int .i64 e.dst,.int .i64 e.mode,.int .i64 e.cost] true) := (k1.old (by first | omega | (simp only [next_new,next_upd]; omega))).trans (obj_upd_eq rfl)
    have o1 := (k1.old (i := p) (by first | omega | (simp only [next_new,next_upd]; omega))).trans (o0 _ _)
    have kj : ∀ j,j < lo → j ≠ p → H1.obj j = H.obj j := fun j h1 h2 => (k1.old (by first | omega | (simp only [next_new,next_upd]; omega))).trans (k0 _ _ j h1 h2)
    cases b with
    | false =>
     simp (disch := first | omega | (simp only [next_new,next_upd] <;> omega) | fail) only [vai,vaim,vaic,vas,bots,Bool.not_true,Bool.not_false,decide_true,decide_false,wrap64,Nat.reduceAdd,Nat.reduceMul,Nat.reduceLeDiff,Nat.reduceEqDiff,↓reduceIte]
     refine hno (if_neg fun h => ?_) _ _ _ (by omega) kj o1
     have := s1.2 (edgeOk_iff.1 h.2.2)
     cases this
    | true =>
     have he := edgeOk_iff.2 (s1.1 rfl)
     have g1 : Grown lo H1 ev 4 (edgeCells x.es) := hg.keep (by omega) fun i h1 h2 => (k1.old (by first | omega | (simp only [next_new,next_upd]; omega))).trans (by rw [obj_upd_ne (by omega),obj_new_ne (by omega)])
     simp (disch := first | omega | (simp only [next_new,next_upd] <;> omega) | fail) only [vai,vaim,vaic,vas,bots,Bool.not_true,Bool.not_false,decide_true,decide_false,wrap64,o1,oe,reK_same hbe,Nat.reduceAdd,Nat.reduceMul,Nat.reduceLeDiff,Nat.reduceEqDiff,↓reduceIte]
     refine append_ret (n := x.es.length) g1 (by first | omega | (simp only [next_new,next_upd]; omega)) (fun j h1 h2 => by rw [obj_new_ne (by omega)]) (by simp (disch := first | omega | (simp only [next_new,next_upd] <;> omega) | fail) only [vaim]; rfl) rfl (by omega) (by omega) (edgeCells_length x.es) (by omega) (by omega) (by first | omega | (simp only [next_new,next_upd]; omega)) ?_
     intro v' H2 hn2 hk2 hg2
     simp only [next_new] at hn2
     have o2 : H2.obj p = some (.cells [.int .i64 x.n,ev] true) := by rw [hk2 p hp,obj_new_ne (by omega)]; exact o1
     have hc2 := hg2.cells
     simp (disch := first | omega | (simp only [next_new,next_upd] <;> omega) | fail) only [vai,vaim,vaic,vas,bots,Bool.not_true,Bool.not_false,decide_true,decide_false,wrap64,o2,hc2,Nat.reduceAdd,Nat.reduceMul,Nat.reduceLeDiff,Nat.reduceEqDiff,↓reduceIte]
     have hcs : edgeCells (x.es ++ [e]) = edgeCells x.es ++ e.cells := by simp [edgeCells]
     refine hyes _ (if_pos ⟨hn,by omega,he⟩) (H2.upd p (some (.cells [.int .i64 x.n,v'] true))) v' ?_ (fun j h1 h2 => ?_) (obj_upd_eq rfl) ?_
     ·simp only [next_upd]; omega
     ·rw [obj_upd_ne h2,hk2 j h1,obj_new_ne (by omega)]; exact kj j h1 h2
     ·simp only
      rw [hcs]
      exact hg2.upd hp _
end Go.Proofs.YtknhlpmmalcchaaDoor
