/- Steps of the walk. -/
import Derived.Test.YtknhlpmmalcchaaH18Fa
import Derived.Test.YtknhlpmmalcchaaH18Vba
import Derived.Test.YtknhlpmmalcchaaH18Pa
import Derived.Test.YtknhlpmmalcchaaRows
import Derived.ProofKit
import Derived.Shelf.SlSortCmp.NoneTotal
import Derived.Shelf.SlGeneric
import Derived.Ground.SlsfProg
import Derived.Test.YtknhlpmmalcchaaProg
set_option linter.all false
set_option linter.unusedVariables false
set_option linter.unusedSimpArgs false
namespace Go.Proofs.Ytknhlpmmalcchaa
open Go Go.VAI
theorem tmod_neg {x n : Int} (hn : 0 < n) (h : x.tmod n < 0) : x.tmod n + n = x % n := by
 have h1 := Int.tmod_eq_emod (a := x) (b := n)
 have h2 := Int.emod_nonneg x (show n ≠ 0 by omega)
 have h3 := Int.emod_lt_of_pos x hn
 by_cases hc : 0 ≤ x ∨ n ∣ x
 ·rw [if_pos hc] at h1; omega
 ·rw [if_neg hc] at h1; omega
theorem tmod_pos {x n : Int} (hn : 0 < n) (h : ¬ x.tmod n < 0) : x.tmod n = x % n := by
 have h1 := Int.tmod_eq_emod (a := x) (b := n)
 have h2 := Int.emod_nonneg x (show n ≠ 0 by omega)
 have h3 := Int.emod_lt_of_pos x hn
 by_cases hc : 0 ≤ x ∨ n ∣ x
 ·rw [if_pos hc] at h1; omega
 ·rw [if_neg hc] at h1; omega
theorem within_ret {f : Nat} (hf : A f = some F33) {x n : Int} (hn : 0 < n) (h3 : n < 9223372036854775808) {H : AHeap} {Q : AVal → AHeap → Prop} (hq : Q (.int .i64 (x % n)) H) : Ret A f [.int .i64 x, .int .i64 n] H Q := by
 refine Ret.of (fn := F33) hf ?_
 have hn0 : n ≠ 0 := by omega
 have h2 := Int.emod_nonneg x hn0
 have h4 := Int.emod_lt_of_pos x hn
 simp (disch := omega) only [vai, F33]
 refine condK_split (fun hc => ?_) (fun hc => ?_)
 ·have e := tmod_neg hn hc
  simp (disch := omega) only [vai, e, wrap64]
  exact hq
 ·have e := tmod_pos hn hc
  simp (disch := omega) only [vai, e]
  exact hq
end Go.Proofs.Ytknhlpmmalcchaa

namespace Go.Proofs.Ytknhlpmmalcchaa
open Go Go.VAI
set_option linter.unusedSimpArgs false

def Edge.cells (e : Edge) : List AVal := [.int .i64 e.src, .int .i64 e.dst, .int .i64 e.mode, .int .i64 e.cost]
def edgeCells (l : List Edge) : List AVal := l.flatMap Edge.cells
def mkEdge (n modes k : Int) : Edge :=
 let a := k % n
 let b := k.tdiv 13 % n
 let m := k.tdiv 170 % 5
 { src := a, dst := b, mode := if modes % 3 = 0 then (a + b) % 2 else if modes % 3 = 1 then (m * a) % 3 else m, cost := if k % 31 = 0 then 2147483647 - k.tdiv 31 % 3 else k.tdiv 900 % 9 }
def I64 (x : Int) : Prop := -9223372036854775808 ≤ x ∧ x < 9223372036854775808
theorem tdiv_bd {x c : Int} (h : I64 x) (hc : 0 < c) : -9223372036854775808 ≤ x.tdiv c ∧ x.tdiv c < 9223372036854775808 := by
 obtain ⟨h1, h2⟩ := h
 have h3 := Int.natAbs_tdiv_le_natAbs x c
 constructor
 ·by_cases hx : 0 ≤ x
  ·have := Int.tdiv_nonneg hx (Int.le_of_lt hc); omega
  ·omega
 ·by_cases hx : 0 ≤ x
  ·omega
  ·have h4 := Int.tdiv_nonneg (a := -x) (b := c) (by omega) (Int.le_of_lt hc)
   rw [Int.neg_tdiv] at h4
   omega
theorem edgeCells_length (l : List Edge) : (edgeCells l).length = l.length * 4 := by
 induction l with
 | nil => rfl
 | cons e l ih => simp only [edgeCells, List.flatMap_cons, List.length_append] at ih ⊢; rw [ih]; simp [Edge.cells]; omega

theorem make_ret {size modes : Int} {ns : AVal} {xs : List Int} {H : AHeap} {Q : AVal → AHeap → Prop} (hr : Row H ns 1 (ints xs)) (hx : ∀ x ∈ xs, I64 x) (hx2 : xs.length ≤ 9223372036854775807)
  (hq : ∀ ev H', Keep Nothing H H' → Grown H.next H' ev 4 (edgeCells ((xs.take 40).map (mkEdge (1 + size % 12) modes))) → Q (.agg [.int .i64 (1 + size % 12), ev]) H') : Ret A 28 [.int .i64 size, ns, .int .i64 modes] H Q := by
 refine Ret.of (fn := F28) rfl ?_
 simp (disch := first | omega | (simp only [next_new, next_upd] <;> omega) | fail) only [vai, vaim, wrap64, F28, Nat.reduceAdd, Nat.reduceMul, Nat.reduceLeDiff, Nat.reduceEqDiff, ↓reduceIte]
 refine within_ret rfl (by omega) (by omega) ?_
 have hN1 : 0 ≤ size % 12 := by omega
 have hN2 : size % 12 < 12 := by omega
 simp (disch := first | omega | (simp only [next_new, next_upd] <;> omega) | fail) only [vai, vaim, wrap64, Nat.reduceAdd, Nat.reduceMul, Nat.reduceLeDiff, Nat.reduceEqDiff, ↓reduceIte]
 refine wpx_loop (fun m t H' => ∃ (i : Nat) (ev : AVal), m = xs.length - i ∧ i ≤ xs.length ∧ i ≤ 40 ∧
  t = [.bot, ns, .int .i64 modes, .bot, .bot, .bot, .ptr H.next 0, .ptr (H.next + 1) 0, .int .i64 i] ++ List.replicate 71 .bot ∧ Keep Nothing H H' ∧ H.next + 2 ≤ H'.next ∧
  H'.obj H.next = some (.cells [.int .i64 0, .nilSlice] true) ∧ H'.obj (H.next + 1) = some (.cells [.int .i64 (1 + size % 12), ev] true) ∧ Grown (H.next + 2) H' ev 4 (edgeCells ((xs.take i).map (mkEdge (1 + size % 12) modes)))) xs.length ?_ ?_
 ·refine ⟨0, .nilSlice, rfl, by omega, by omega, rfl, ?_, ?_, ?_, ?_, .nil⟩
  ·exact (((Keep.refl _ _).new _).new _).upd (.inl (by omega)) _
  ·simp only [next_new, next_upd]; exact Nat.le_refl _
  ·simp (disch := first | omega | (simp only [next_new, next_upd] <;> omega) | fail) only [vaim]
  ·simp (disch := first | omega | (simp only [next_new, next_upd] <;> omega) | fail) only [vaim]
 ·rintro m t H1 ⟨i, ev, rfl, hi1, hi2, rfl, hk, hn, h6, h7, hg⟩
  have hr1 : Row H1 ns 1 (ints xs) := hr.kept hk
  have hlen := hr1.len1
  simp only [ints, List.length_map] at hlen
  by_cases hc1 : (i : Int) < xs.length
  ·by_cases hc2 : (i : Int) < 40
   ·have hix : i < xs.length := by omega
    obtain ⟨id, off, e1, hid, e2⟩ := hr1.at1 (j := i) (x := .int .i64 xs[i]) (k := .i64) (by omega) (by simp [ints, hix])
    have hb := hx xs[i] (List.getElem_mem hix)
    have htake : (xs.take (i + 1)).map (mkEdge (1 + size % 12) modes) = (xs.take i).map (mkEdge (1 + size % 12) modes) ++ [mkEdge (1 + size % 12) modes xs[i]] := by
     rw [List.take_succ_eq_append_getElem hix, List.map_append]; rfl
    generalize xs[i] = x at e2 hb htake
    have d13 := tdiv_bd hb (c := 13) (by omega)
    have d170 := tdiv_bd hb (c := 170) (by omega)
    have d900 := tdiv_bd hb (c := 900) (by omega)
    have d31 := tdiv_bd hb (c := 31) (by omega)
    simp (disch := first | omega | (simp only [next_new, next_upd] <;> omega) | fail) only [vai, vaim, wrap64, hlen, List.replicate, hc1, hc2, decide_true, e1, e2, h6, h7, Nat.reduceAdd, Nat.reduceMul, Nat.reduceLeDiff, Nat.reduceEqDiff, ↓reduceIte]
    refine within_ret rfl (by omega) (by omega) ?_
    have a1 := Int.emod_nonneg x (show 1 + size % 12 ≠ 0 by omega)
    have a2 := Int.emod_lt_of_pos x (show 0 < 1 + size % 12 by omega)
    generalize ha : x % (1 + size % 12) = a at a1 a2
    simp (disch := first | omega | (simp only [next_new, next_upd] <;> omega) | fail) only [vai, vaim, wrap64, h6, h7, Nat.reduceAdd, Nat.reduceMul, Nat.reduceLeDiff, Nat.reduceEqDiff, ↓reduceIte]
    refine within_ret rfl (by omega) (by omega) ?_
    have b1 := Int.emod_nonneg (x.tdiv 13) (show 1 + size % 12 ≠ 0 by omega)
    have b2 := Int.emod_lt_of_pos (x.tdiv 13) (show 0 < 1 + size % 12 by omega)
    generalize hb' : x.tdiv 13 % (1 + size % 12) = b at b1 b2
    simp (disch := first | omega | (simp only [next_new, next_upd] <;> omega) | fail) only [vai, vaim, wrap64, h6, h7, Nat.reduceAdd, Nat.reduceMul, Nat.reduceLeDiff, Nat.reduceEqDiff, ↓reduceIte]
    refine within_ret rfl (by omega) (by omega) ?_
    simp (disch := first | omega | (simp only [next_new, next_upd] <;> omega) | fail) only [vai, vaim, wrap64, h6, h7, Nat.reduceAdd, Nat.reduceMul, Nat.reduceLeDiff, Nat.reduceEqDiff, ↓reduceIte]
    refine within_ret rfl (by omega) (by omega) ?_
    simp (disch := first | omega | (simp only [next_new, next_upd] <;> omega) | fail) only [vai, vaim, wrap64, h6, h7, Nat.reduceAdd, Nat.reduceMul, Nat.reduceLeDiff, Nat.reduceEqDiff, ↓reduceIte]
    refine within_ret rfl (by omega) (by omega) ?_
    simp (disch := first | omega | (simp only [next_new, next_upd] <;> omega) | fail) only [vai, vaim, wrap64, h6, h7, Nat.reduceAdd, Nat.reduceMul, Nat.reduceLeDiff, Nat.reduceEqDiff, ↓reduceIte]
    by_cases m0 : modes % 3 = 0
    ·simp (disch := first | omega | (simp only [next_new, next_upd] <;> omega) | fail) only [vai, vaim, wrap64, m0, decide_true, h6, h7, Nat.reduceAdd, Nat.reduceMul, Nat.reduceLeDiff, Nat.reduceEqDiff, ↓reduceIte]
     refine within_ret rfl (by omega) (by omega) ?_
     simp (disch := first | omega | (simp only [next_new, next_upd] <;> omega) | fail) only [vai, vaim, wrap64, h6, h7, Nat.reduceAdd, Nat.reduceMul, Nat.reduceLeDiff, Nat.reduceEqDiff, ↓reduceIte]
     refine within_ret rfl (by omega) (by omega) ?_
     by_cases c0 : x % 31 = 0
     ·simp (disch := first | omega | (simp only [next_new, next_upd] <;> omega) | fail) only [vai, vaim, wrap64, c0, decide_true, h6, h7, Nat.reduceAdd, Nat.reduceMul, Nat.reduceLeDiff, Nat.reduceEqDiff, ↓reduceIte]
      refine within_ret rfl (by omega) (by omega) ?_
      simp (disch := first | omega | (simp only [next_new, next_upd] <;> omega) | fail) only [vai, vaim, wrap64, h6, h7, Nat.reduceAdd, Nat.reduceMul, Nat.reduceLeDiff, Nat.reduceEqDiff, ↓reduceIte]
      refine append_ret (n := i) hg (by simp only [next_new, next_upd]; omega) (fun j h1 h2 => by simp (disch := first | omega | (simp only [next_new, next_upd] <;> omega) | fail) only [vaim]) (by simp (disch := first | omega | (simp only [next_new, next_upd] <;> omega) | fail) only [vaim]; rfl) rfl (by omega) (by omega) (by rw [edgeCells_length]; simp; omega) (by omega) (by omega) (by simp only [next_new, next_upd]; omega) ?_
      intro v' H' hn' hk' hg'
      have k6 : H'.obj H.next = some (.cells [.int .i64 0, .nilSlice] true) := by rw [hk' _ (by omega)]; simp (disch := first | omega | (simp only [next_new, next_upd] <;> omega) | fail) only [vaim, h6]
      have k7 : H'.obj (H.next + 1) = some (.cells [.int .i64 (1 + size % 12), ev] true) := by rw [hk' _ (by omega)]; simp (disch := first | omega | (simp only [next_new, next_upd] <;> omega) | fail) only [vaim, h7]
      have hcell := hg'.cells
      have kk : Keep Nothing H H' := ⟨by have := hk.next; simp only [next_new, next_upd] at hn'; omega, fun j hj hm => by
       rw [hk' _ (by omega), ← hk.obj j hj hm]
       simp (disch := first | omega | (simp only [next_new, next_upd] <;> omega) | fail) only [vaim]⟩
      have hnn : H1.next ≤ H'.next := by simp only [next_new, next_upd] at hn'; omega
      have he : (edgeCells ((xs.take (i + 1)).map (mkEdge (1 + size % 12) modes))) = edgeCells ((xs.take i).map (mkEdge (1 + size % 12) modes)) ++ Edge.cells (mkEdge (1 + size % 12) modes x) := by rw [htake]; simp [edgeCells]
      simp (disch := first | omega | (simp only [next_new, next_upd] <;> omega) | fail) only [vai, vaim, wrap64, k6, k7, hcell, Nat.reduceAdd, Nat.reduceMul, Nat.reduceLeDiff, Nat.reduceEqDiff, ↓reduceIte]
      refine ⟨xs.length - (i + 1), by omega, i + 1, v', rfl, by omega, by omega, rfl, kk.upd (.inl (by omega)) _, by omega, rfl, ?_⟩
      rw [he]
      refine Grown.upd ?_ (by omega) _
      simp only [mkEdge, Edge.cells, ha, hb']
      first | rw [if_pos m0] | rw [if_neg m0, if_pos m1] | rw [if_neg m0, if_neg m1]
      first | rw [if_pos c0] | rw [if_neg c0]
      exact hg'
     ·simp (disch := first | omega | (simp only [next_new, next_upd] <;> omega) | fail) only [vai, vaim, wrap64, c0, decide_false, h6, h7, Nat.reduceAdd, Nat.reduceMul, Nat.reduceLeDiff, Nat.reduceEqDiff, ↓reduceIte]
      refine append_ret (n := i) hg (by simp only [next_new, next_upd]; omega) (fun j h1 h2 => by simp (disch := first | omega | (simp only [next_new, next_upd] <;> omega) | fail) only [vaim]) (by simp (disch := first | omega | (simp only [next_new, next_upd] <;> omega) | fail) only [vaim]; rfl) rfl (by omega) (by omega) (by rw [edgeCells_length]; simp; omega) (by omega) (by omega) (by simp only [next_new, next_upd]; omega) ?_
      intro v' H' hn' hk' hg'
      have k6 : H'.obj H.next = some (.cells [.int .i64 0, .nilSlice] true) := by rw [hk' _ (by omega)]; simp (disch := first | omega | (simp only [next_new, next_upd] <;> omega) | fail) only [vaim, h6]
      have k7 : H'.obj (H.next + 1) = some (.cells [.int .i64 (1 + size % 12), ev] true) := by rw [hk' _ (by omega)]; simp (disch := first | omega | (simp only [next_new, next_upd] <;> omega) | fail) only [vaim, h7]
      have hcell := hg'.cells
      have kk : Keep Nothing H H' := ⟨by have := hk.next; simp only [next_new, next_upd] at hn'; omega, fun j hj hm => by
       rw [hk' _ (by omega), ← hk.obj j hj hm]
       simp (disch := first | omega | (simp only [next_new, next_upd] <;> omega) | fail) only [vaim]⟩
      have hnn : H1.next ≤ H'.next := by simp only [next_new, next_upd] at hn'; omega
      have he : (edgeCells ((xs.take (i + 1)).map (mkEdge (1 + size % 12) modes))) = edgeCells ((xs.take i).map (mkEdge (1 + size % 12) modes)) ++ Edge.cells (mkEdge (1 + size % 12) modes x) := by rw [htake]; simp [edgeCells]
      simp (disch := first | omega | (simp only [next_new, next_upd] <;> omega) | fail) only [vai, vaim, wrap64, k6, k7, hcell, Nat.reduceAdd, Nat.reduceMul, Nat.reduceLeDiff, Nat.reduceEqDiff, ↓reduceIte]
      refine ⟨xs.length - (i + 1), by omega, i + 1, v', rfl, by omega, by omega, rfl, kk.upd (.inl (by omega)) _, by omega, rfl, ?_⟩
      rw [he]
      refine Grown.upd ?_ (by omega) _
      simp only [mkEdge, Edge.cells, ha, hb']
      first | rw [if_pos m0] | rw [if_neg m0, if_pos m1] | rw [if_neg m0, if_neg m1]
      first | rw [if_pos c0] | rw [if_neg c0]
      exact hg'
    ·by_cases m1 : modes % 3 = 1
     ·simp (disch := first | omega | (simp only [next_new, next_upd] <;> omega) | fail) only [vai, vaim, wrap64, m0, decide_false, h6, h7, Nat.reduceAdd, Nat.reduceMul, Nat.reduceLeDiff, Nat.reduceEqDiff, ↓reduceIte]
      refine within_ret rfl (by omega) (by omega) ?_
      simp (disch := first | omega | (simp only [next_new, next_upd] <;> omega) | fail) only [vai, vaim, wrap64, m1, decide_true, h6, h7, Nat.reduceAdd, Nat.reduceMul, Nat.reduceLeDiff, Nat.reduceEqDiff, ↓reduceIte]
      have p1 : 0 ≤ x.tdiv 170 % 5 * a := Int.mul_nonneg (by omega) a1
      have p2 : x.tdiv 170 % 5 * a ≤ 5 * 12 := Int.mul_le_mul (by omega) (by omega) a1 (by omega)
      simp (disch := first | omega | (simp only [next_new, next_upd] <;> omega) | fail) only [vai, vaim, wrap64, h6, h7, Nat.reduceAdd, Nat.reduceMul, Nat.reduceLeDiff, Nat.reduceEqDiff, ↓reduceIte]
      refine within_ret rfl (by omega) (by omega) ?_
      simp (disch := first | omega | (simp only [next_new, next_upd] <;> omega) | fail) only [vai, vaim, wrap64, h6, h7, Nat.reduceAdd, Nat.reduceMul, Nat.reduceLeDiff, Nat.reduceEqDiff, ↓reduceIte]
      refine within_ret rfl (by omega) (by omega) ?_
      by_cases c0 : x % 31 = 0
      ·simp (disch := first | omega | (simp only [next_new, next_upd] <;> omega) | fail) only [vai, vaim, wrap64, c0, decide_true, h6, h7, Nat.reduceAdd, Nat.reduceMul, Nat.reduceLeDiff, Nat.reduceEqDiff, ↓reduceIte]
       refine within_ret rfl (by omega) (by omega) ?_
       simp (disch := first | omega | (simp only [next_new, next_upd] <;> omega) | fail) only [vai, vaim, wrap64, h6, h7, Nat.reduceAdd, Nat.reduceMul, Nat.reduceLeDiff, Nat.reduceEqDiff, ↓reduceIte]
       refine append_ret (n := i) hg (by simp only [next_new, next_upd]; omega) (fun j h1 h2 => by simp (disch := first | omega | (simp only [next_new, next_upd] <;> omega) | fail) only [vaim]) (by simp (disch := first | omega | (simp only [next_new, next_upd] <;> omega) | fail) only [vaim]; rfl) rfl (by omega) (by omega) (by rw [edgeCells_length]; simp; omega) (by omega) (by omega) (by simp only [next_new, next_upd]; omega) ?_
       intro v' H' hn' hk' hg'
       have k6 : H'.obj H.next = some (.cells [.int .i64 0, .nilSlice] true) := by rw [hk' _ (by omega)]; simp (disch := first | omega | (simp only [next_new, next_upd] <;> omega) | fail) only [vaim, h6]
       have k7 : H'.obj (H.next + 1) = some (.cells [.int .i64 (1 + size % 12), ev] true) := by rw [hk' _ (by omega)]; simp (disch := first | omega | (simp only [next_new, next_upd] <;> omega) | fail) only [vaim, h7]
       have hcell := hg'.cells
       have kk : Keep Nothing H H' := ⟨by have := hk.next; simp only [next_new, next_upd] at hn'; omega, fun j hj hm => by
        rw [hk' _ (by omega), ← hk.obj j hj hm]
        simp (disch := first | omega | (simp only [next_new, next_upd] <;> omega) | fail) only [vaim]⟩
       have hnn : H1.next ≤ H'.next := by simp only [next_new, next_upd] at hn'; omega
       have he : (edgeCells ((xs.take (i + 1)).map (mkEdge (1 + size % 12) modes))) = edgeCells ((xs.take i).map (mkEdge (1 + size % 12) modes)) ++ Edge.cells (mkEdge (1 + size % 12) modes x) := by rw [htake]; simp [edgeCells]
       simp (disch := first | omega | (simp only [next_new, next_upd] <;> omega) | fail) only [vai, vaim, wrap64, k6, k7, hcell, Nat.reduceAdd, Nat.reduceMul, Nat.reduceLeDiff, Nat.reduceEqDiff, ↓reduceIte]
       refine ⟨xs.length - (i + 1), by omega, i + 1, v', rfl, by omega, by omega, rfl, kk.upd (.inl (by omega)) _, by omega, rfl, ?_⟩
       rw [he]
       refine Grown.upd ?_ (by omega) _
       simp only [mkEdge, Edge.cells, ha, hb']
       first | rw [if_pos m0] | rw [if_neg m0, if_pos m1] | rw [if_neg m0, if_neg m1]
       first | rw [if_pos c0] | rw [if_neg c0]
       exact hg'
      ·simp (disch := first | omega | (simp only [next_new, next_upd] <;> omega) | fail) only [vai, vaim, wrap64, c0, decide_false, h6, h7, Nat.reduceAdd, Nat.reduceMul, Nat.reduceLeDiff, Nat.reduceEqDiff, ↓reduceIte]
       refine append_ret (n := i) hg (by simp only [next_new, next_upd]; omega) (fun j h1 h2 => by simp (disch := first | omega | (simp only [next_new, next_upd] <;> omega) | fail) only [vaim]) (by simp (disch := first | omega | (simp only [next_new, next_upd] <;> omega) | fail) only [vaim]; rfl) rfl (by omega) (by omega) (by rw [edgeCells_length]; simp; omega) (by omega) (by omega) (by simp only [next_new, next_upd]; omega) ?_
       intro v' H' hn' hk' hg'
       have k6 : H'.obj H.next = some (.cells [.int .i64 0, .nilSlice] true) := by rw [hk' _ (by omega)]; simp (disch := first | omega | (simp only [next_new, next_upd] <;> omega) | fail) only [vaim, h6]
       have k7 : H'.obj (H.next + 1) = some (.cells [.int .i64 (1 + size % 12), ev] true) := by rw [hk' _ (by omega)]; simp (disch := first | omega | (simp only [next_new, next_upd] <;> omega) | fail) only [vaim, h7]
       have hcell := hg'.cells
       have kk : Keep Nothing H H' := ⟨by have := hk.next; simp only [next_new, next_upd] at hn'; omega, fun j hj hm => by
        rw [hk' _ (by omega), ← hk.obj j hj hm]
        simp (disch := first | omega | (simp only [next_new, next_upd] <;> omega) | fail) only [vaim]⟩
       have hnn : H1.next ≤ H'.next := by simp only [next_new, next_upd] at hn'; omega
       have he : (edgeCells ((xs.take (i + 1)).map (mkEdge (1 + size % 12) modes))) = edgeCells ((xs.take i).map (mkEdge (1 + size % 12) modes)) ++ Edge.cells (mkEdge (1 + size % 12) modes x) := by rw [htake]; simp [edgeCells]
       simp (disch := first | omega | (simp only [next_new, next_upd] <;> omega) | fail) only [vai, vaim, wrap64, k6, k7, hcell, Nat.reduceAdd, Nat.reduceMul, Nat.reduceLeDiff, Nat.reduceEqDiff, ↓reduceIte]
       refine ⟨xs.length - (i + 1), by omega, i + 1, v', rfl, by omega, by omega, rfl, kk.upd (.inl (by omega)) _, by omega, rfl, ?_⟩
       rw [he]
       refine Grown.upd ?_ (by omega) _
       simp only [mkEdge, Edge.cells, ha, hb']
       first | rw [if_pos m0] | rw [if_neg m0, if_pos m1] | rw [if_neg m0, if_neg m1]
       first | rw [if_pos c0] | rw [if_neg c0]
       exact hg'
     ·simp (disch := first | omega | (simp only [next_new, next_upd] <;> omega) | fail) only [vai, vaim, wrap64, m0, decide_false, h6, h7, Nat.reduceAdd, Nat.reduceMul, Nat.reduceLeDiff, Nat.reduceEqDiff, ↓reduceIte]
      refine within_ret rfl (by omega) (by omega) ?_
      simp (disch := first | omega | (simp only [next_new, next_upd] <;> omega) | fail) only [vai, vaim, wrap64, m1, decide_false, h6, h7, Nat.reduceAdd, Nat.reduceMul, Nat.reduceLeDiff, Nat.reduceEqDiff, ↓reduceIte]
      refine within_ret rfl (by omega) (by omega) ?_
      by_cases c0 : x % 31 = 0
      ·simp (disch := first | omega | (simp only [next_new, next_upd] <;> omega) | fail) only [vai, vaim, wrap64, c0, decide_true, h6, h7, Nat.reduceAdd, Nat.reduceMul, Nat.reduceLeDiff, Nat.reduceEqDiff, ↓reduceIte]
       refine within_ret rfl (by omega) (by omega) ?_
       simp (disch := first | omega | (simp only [next_new, next_upd] <;> omega) | fail) only [vai, vaim, wrap64, h6, h7, Nat.reduceAdd, Nat.reduceMul, Nat.reduceLeDiff, Nat.reduceEqDiff, ↓reduceIte]
       refine append_ret (n := i) hg (by simp only [next_new, next_upd]; omega) (fun j h1 h2 => by simp (disch := first | omega | (simp only [next_new, next_upd] <;> omega) | fail) only [vaim]) (by simp (disch := first | omega | (simp only [next_new, next_upd] <;> omega) | fail) only [vaim]; rfl) rfl (by omega) (by omega) (by rw [edgeCells_length]; simp; omega) (by omega) (by omega) (by simp only [next_new, next_upd]; omega) ?_
       intro v' H' hn' hk' hg'
       have k6 : H'.obj H.next = some (.cells [.int .i64 0, .nilSlice] true) := by rw [hk' _ (by omega)]; simp (disch := first | omega | (simp only [next_new, next_upd] <;> omega) | fail) only [vaim, h6]
       have k7 : H'.obj (H.next + 1) = some (.cells [.int .i64 (1 + size % 12), ev] true) := by rw [hk' _ (by omega)]; simp (disch := first | omega | (simp only [next_new, next_upd] <;> omega) | fail) only [vaim, h7]
       have hcell := hg'.cells
       have kk : Keep Nothing H H' := ⟨by have := hk.next; simp only [next_new, next_upd] at hn'; omega, fun j hj hm => by
        rw [hk' _ (by omega), ← hk.obj j hj hm]
        simp (disch := first | omega | (simp only [next_new, next_upd] <;> omega) | fail) only [vaim]⟩
       have hnn : H1.next ≤ H'.next := by simp only [next_new, next_upd] at hn'; omega
       have he : (edgeCells ((xs.take (i + 1)).map (mkEdge (1 + size % 12) modes))) = edgeCells ((xs.take i).map (mkEdge (1 + size % 12) modes)) ++ Edge.cells (mkEdge (1 + size % 12) modes x) := by rw [htake]; simp [edgeCells]
       simp (disch := first | omega | (simp only [next_new, next_upd] <;> omega) | fail) only [vai, vaim, wrap64, k6, k7, hcell, Nat.reduceAdd, Nat.reduceMul, Nat.reduceLeDiff, Nat.reduceEqDiff, ↓reduceIte]
       refine ⟨xs.length - (i + 1), by omega, i + 1, v', rfl, by omega, by omega, rfl, kk.upd (.inl (by omega)) _, by omega, rfl, ?_⟩
       rw [he]
       refine Grown.upd ?_ (by omega) _
       simp only [mkEdge, Edge.cells, ha, hb']
       first | rw [if_pos m0] | rw [if_neg m0, if_pos m1] | rw [if_neg m0, if_neg m1]
       first | rw [if_pos c0] | rw [if_neg c0]
       exact hg'
      ·simp (disch := first | omega | (simp only [next_new, next_upd] <;> omega) | fail) only [vai, vaim, wrap64, c0, decide_false, h6, h7, Nat.reduceAdd, Nat.reduceMul, Nat.reduceLeDiff, Nat.reduceEqDiff, ↓reduceIte]
       refine append_ret (n := i) hg (by simp only [next_new, next_upd]; omega) (fun j h1 h2 => by simp (disch := first | omega | (simp only [next_new, next_upd] <;> omega) | fail) only [vaim]) (by simp (disch := first | omega | (simp only [next_new, next_upd] <;> omega) | fail) only [vaim]; rfl) rfl (by omega) (by omega) (by rw [edgeCells_length]; simp; omega) (by omega) (by omega) (by simp only [next_new, next_upd]; omega) ?_
       intro v' H' hn' hk' hg'
       have k6 : H'.obj H.next = some (.cells [.int .i64 0, .nilSlice] true) := by rw [hk' _ (by omega)]; simp (disch := first | omega | (simp only [next_new, next_upd] <;> omega) | fail) only [vaim, h6]
       have k7 : H'.obj (H.next + 1) = some (.cells [.int .i64 (1 + size % 12), ev] true) := by rw [hk' _ (by omega)]; simp (disch := first | omega | (simp only [next_new, next_upd] <;> omega) | fail) only [vaim, h7]
       have hcell := hg'.cells
       have kk : Keep Nothing H H' := ⟨by have := hk.next; simp only [next_new, next_upd] at hn'; omega, fun j hj hm => by
        rw [hk' _ (by omega), ← hk.obj j hj hm]
        simp (disch := first | omega | (simp only [next_new, next_upd] <;> omega) | fail) only [vaim]⟩
       have hnn : H1.next ≤ H'.next := by simp only [next_new, next_upd] at hn'; omega
       have he : (edgeCells ((xs.take (i + 1)).map (mkEdge (1 + size % 12) modes))) = edgeCells ((xs.take i).map (mkEdge (1 + size % 12) modes)) ++ Edge.cells (mkEdge (1 + size % 12) modes x) := by rw [htake]; simp [edgeCells]
       simp (disch := first | omega | (simp only [next_new, next_upd] <;> omega) | fail) only [vai, vaim, wrap64, k6, k7, hcell, Nat.reduceAdd, Nat.reduceMul, Nat.reduceLeDiff, Nat.reduceEqDiff, ↓reduceIte]
       refine ⟨xs.length - (i + 1), by omega, i + 1, v', rfl, by omega, by omega, rfl, kk.upd (.inl (by omega)) _, by omega, rfl, ?_⟩
       rw [he]
       refine Grown.upd ?_ (by omega) _
       simp only [mkEdge, Edge.cells, ha, hb']
       first | rw [if_pos m0] | rw [if_neg m0, if_pos m1] | rw [if_neg m0, if_neg m1]
       first | rw [if_pos c0] | rw [if_neg c0]
       exact hg'
   ·simp (disch := first | omega | (simp only [next_new, next_upd] <;> omega) | fail) only [vai, vaim, wrap64, hlen, List.replicate, hc1, hc2, decide_true, decide_false, h6, h7, Nat.reduceAdd, Nat.reduceMul, Nat.reduceLeDiff, Nat.reduceEqDiff, ↓reduceIte]
    have hi : i = 40 := by omega
    rw [hi] at hg
    exact hq ev _ (hk.upd (.inl (by omega)) _) (hg.keep' ⟨by omega, by simp only [next_upd]; omega⟩ (fun j h1 h2 => by simp (disch := first | omega | (simp only [next_new, next_upd] <;> omega) | fail) only [vaim]))
  ·simp (disch := first | omega | (simp only [next_new, next_upd] <;> omega) | fail) only [vai, vaim, wrap64, hlen, List.replicate, hc1, decide_true, decide_false, h6, h7, Nat.reduceAdd, Nat.reduceMul, Nat.reduceLeDiff, Nat.reduceEqDiff, ↓reduceIte]
   have hi : xs.take 40 = xs.take i := by rw [List.take_of_length_le (by omega), List.take_of_length_le (by omega)]
   rw [← hi] at hg
   exact hq ev _ (hk.upd (.inl (by omega)) _) (hg.keep' ⟨by omega, by simp only [next_upd]; omega⟩ (fun j h1 h2 => by simp (disch := first | omega | (simp only [next_new, next_upd] <;> omega) | fail) only [vaim]))
end Go.Proofs.Ytknhlpmmalcchaa

namespace Go.Proofs.Ytknhlpmmalcchaa
open Go Go.VAI
set_option linter.unusedSimpArgs false

theorem edge_drop : ∀ (es : List Edge) (i : Nat) (e : Edge), es[i]? = some e → ((edgeCells es).drop (i * 4)).take 4 = e.cells
 | [], i, e, h => by simp at h
 | a :: es, 0, e, h => by
  simp at h; subst h
  simp [edgeCells, Edge.cells]
 | a :: es, i + 1, e, h => by
  have := edge_drop es i e (by simpa using h)
  rw [← this]
  have h4 : (i + 1) * 4 = i * 4 + 4 := by omega
  rw [h4]
  simp [edgeCells, Edge.cells]
theorem edge_at {H : AHeap} {v : AVal} {es : List Edge} (h : Row H v 4 (edgeCells es)) {i : Nat} {e : Edge} (he : es[i]? = some e) : ∃ id off, aindexAddrS 4 v (.int .i64 (i : Int)) = some (.ptr id off) ∧ id < H.next ∧
  (bnd (cellsOf (H.obj id)) fun c => c[off]?) = some (.int .i64 e.src) ∧ (bnd (cellsOf (H.obj id)) fun c => c[off + 1]?) = some (.int .i64 e.dst) ∧ (bnd (cellsOf (H.obj id)) fun c => c[off + 2]?) = some (.int .i64 e.mode) ∧ (bnd (cellsOf (H.obj id)) fun c => c[off + 3]?) = some (.int .i64 e.cost) ∧
  (bnd (cellsOf (H.obj id)) fun c => if off + 4 ≤ c.length then some (AVal.agg ((c.drop off).take 4)) else none) = some (AVal.agg e.cells) := by
 have hi := (List.getElem?_eq_some_iff.1 he).1
 obtain ⟨id, off, c, h1, h2, h3, h4, h5⟩ := h.at (j := i) (k := .i64) (by omega) (by omega) (by rw [edgeCells_length, Int.toNat_natCast]; omega)
 rw [Int.toNat_natCast, edge_drop es i e he] at h5
 rw [cells?_of] at h3
 refine ⟨id, off, h1, h2, ?_⟩
 simp only [h3, bnd, if_pos h4, h5, true_and, and_true]
 exact ⟨cell_at (f := 0) h5 rfl, cell_at (f := 1) h5 rfl, cell_at (f := 2) h5 rfl, cell_at (f := 3) h5 rfl⟩

def picks (p : Edge → Bool) (es : List Edge) (n : Nat) : List Int := ((List.range n).filter fun i => (es[i]?).any p).map Int.ofNat
theorem picks_succ {p : Edge → Bool} {es : List Edge} {n : Nat} {e : Edge} (he : es[n]? = some e) : picks p es (n + 1) = picks p es n ++ if p e then [(n : Int)] else [] := by
 simp only [picks, List.range_succ, List.filter_append, List.map_append, List.filter_cons, List.filter_nil, he, Option.any_some]
 split <;> rfl
theorem picks_length {p : Edge → Bool} {es : List Edge} {n : Nat} : (picks p es n).length ≤ n := by
 simp only [picks, List.length_map]
 exact Nat.le_trans (List.length_filter_le _ _) (by simp)

theorem out_ret {v N : Int} {ev : AVal} {es : List Edge} {ida : Nat} {rw : Bool} {H : AHeap} {Q : AVal → AHeap → Prop} (ho : H.obj ida = some (.cells [.int .i64 N, ev] rw)) (hid : ida < H.next) (hr : Row H ev 4 (edgeCells es)) (hn : es.length ≤ 1000000)
  (hq : ∀ v' H', Keep Nothing H H' → Grown H.next H' v' 1 (ints (picks (fun e => decide (e.src = v)) es es.length)) → Q v' H') : Ret A 44 [.ptr ida 0, .int .i64 v] H Q := by
 refine Ret.of (fn := F44) rfl ?_
 simp (disch := first | omega | (simp only [next_new, next_upd] <;> omega) | fail) only [vai, vaim, wrap64, F44, Nat.reduceAdd, Nat.reduceMul, Nat.reduceLeDiff, Nat.reduceEqDiff, ↓reduceIte]
 refine wpx_loop (fun m t H' => ∃ (i : Nat) (ov : AVal), m = es.length - i ∧ i ≤ es.length ∧
  t = [.ptr ida 0, .int .i64 v, .bot, .bot, .bot, ov, .int .i64 i] ++ List.replicate 26 .bot ∧ Keep Nothing H H' ∧ Grown H.next H' ov 1 (ints (picks (fun e => decide (e.src = v)) es i))) es.length ?_ ?_
 ·exact ⟨0, .nilSlice, rfl, by omega, rfl, .refl _ _, .nil⟩
 ·rintro m t H1 ⟨i, ov, rfl, hi1, rfl, hk, hg⟩
  have hr1 : Row H1 ev 4 (edgeCells es) := hr.kept hk
  have hlen := hr1.len (by omega) (edgeCells_length es)
  have ho1 : H1.obj ida = some (.cells [.int .i64 N, ev] rw) := by rw [hk.obj _ hid (fun h => h)]; exact ho
  by_cases hc1 : (i : Int) < es.length
  ·have hix : i < es.length := by omega
   have he : es[i]? = some es[i] := by simp [hix]
   obtain ⟨id, off, e1, hid2, e2, e3, e4, e5, e6⟩ := edge_at hr1 he
   have hp := picks_succ (p := fun e => decide (e.src = v)) he
   generalize es[i] = e at *
   by_cases hc2 : e.src = v
   ·simp (disch := first | omega | (simp only [next_new, next_upd] <;> omega) | fail) only [vai, vaim, wrap64, hlen, List.replicate, hc1, decide_true, e1, e2, ho1, hc2, Nat.reduceAdd, Nat.reduceMul, Nat.reduceLeDiff, Nat.reduceEqDiff, ↓reduceIte]
    refine append_ret (n := (picks (fun e => decide (e.src = v)) es i).length) hg (by simp only [next_new, next_upd]; omega) (fun j h1 h2 => by simp (disch := first | omega | (simp only [next_new, next_upd] <;> omega) | fail) only [vaim]) (by simp (disch := first | omega | (simp only [next_new, next_upd] <;> omega) | fail) only [vaim]; rfl) rfl (by omega) (by omega) (by rw [ints_length]; omega) (by have := picks_length (p := fun e => decide (e.src = v)) (es := es) (n := i); omega) (by omega) (by simp only [next_new, next_upd]; have := hk.next; omega) ?_
    intro v' H' hn' hk' hg'
    have kk : Keep Nothing H H' := ⟨by have := hk.next; simp only [next_new, next_upd] at hn'; omega, fun j hj hm => by
     rw [hk' _ hj, ← hk.obj j hj hm]
     have := hk.next
     simp (disch := first | omega | (simp only [next_new, next_upd] <;> omega) | fail) only [vaim]⟩
    simp (disch := first | omega | (simp only [next_new, next_upd] <;> omega) | fail) only [vai, vaim, wrap64, Nat.reduceAdd, Nat.reduceMul, Nat.reduceLeDiff, Nat.reduceEqDiff, ↓reduceIte]
    refine ⟨es.length - (i + 1), by omega, i + 1, v', rfl, by omega, rfl, kk, ?_⟩
    rw [hp, if_pos (by simpa using hc2), ints_append]
    exact hg'
   ·simp (disch := first | omega | (simp only [next_new, next_upd] <;> omega) | fail) only [vai, vaim, wrap64, hlen, List.replicate, hc1, decide_true, e1, e2, ho1, hc2, decide_false, Nat.reduceAdd, Nat.reduceMul, Nat.reduceLeDiff, Nat.reduceEqDiff, ↓reduceIte]
    refine ⟨es.length - (i + 1), by omega, i + 1, ov, rfl, by omega, rfl, hk, ?_⟩
    rw [hp, if_neg (by simpa using hc2), List.append_nil]
    exact hg
  ·simp (disch := first | omega | (simp only [next_new, next_upd] <;> omega) | fail) only [vai, vaim, wrap64, hlen, List.replicate, hc1, decide_false, ho1, hg.notBot, Nat.reduceAdd, Nat.reduceMul, Nat.reduceLeDiff, Nat.reduceEqDiff, ↓reduceIte]
   have hi : i = es.length := by omega
   subst hi
   exact hq ov _ hk hg
theorem in_ret {v N : Int} {ev : AVal} {es : List Edge} {ida : Nat} {rw : Bool} {H : AHeap} {Q : AVal → AHeap → Prop} (ho : H.obj ida = some (.cells [.int .i64 N, ev] rw)) (hid : ida < H.next) (hr : Row H ev 4 (edgeCells es)) (hn : es.length ≤ 1000000)
  (hq : ∀ v' H', Keep Nothing H H' → Grown H.next H' v' 1 (ints (picks (fun e => decide (e.dst = v)) es es.length)) → Q v' H') : Ret A 45 [.ptr ida 0, .int .i64 v] H Q := by
 refine Ret.of (fn := F45) rfl ?_
 simp (disch := first | omega | (simp only [next_new, next_upd] <;> omega) | fail) only [vai, vaim, wrap64, F45, Nat.reduceAdd, Nat.reduceMul, Nat.reduceLeDiff, Nat.reduceEqDiff, ↓reduceIte]
 refine wpx_loop (fun m t H' => ∃ (i : Nat) (ov : AVal), m = es.length - i ∧ i ≤ es.length ∧
  t = [.ptr ida 0, .int .i64 v, .bot, .bot, .bot, ov, .int .i64 i] ++ List.replicate 26 .bot ∧ Keep Nothing H H' ∧ Grown H.next H' ov 1 (ints (picks (fun e => decide (e.dst = v)) es i))) es.length ?_ ?_
 ·exact ⟨0, .nilSlice, rfl, by omega, rfl, .refl _ _, .nil⟩
 ·rintro m t H1 ⟨i, ov, rfl, hi1, rfl, hk, hg⟩
  have hr1 : Row H1 ev 4 (edgeCells es) := hr.kept hk
  have hlen := hr1.len (by omega) (edgeCells_length es)
  have ho1 : H1.obj ida = some (.cells [.int .i64 N, ev] rw) := by rw [hk.obj _ hid (fun h => h)]; exact ho
  by_cases hc1 : (i : Int) < es.length
  ·have hix : i < es.length := by omega
   have he : es[i]? = some es[i] := by simp [hix]
   obtain ⟨id, off, e1, hid2, e2, e3, e4, e5, e6⟩ := edge_at hr1 he
   have hp := picks_succ (p := fun e => decide (e.dst = v)) he
   generalize es[i] = e at *
   by_cases hc2 : e.dst = v
   ·simp (disch := first | omega | (simp only [next_new, next_upd] <;> omega) | fail) only [vai, vaim, wrap64, hlen, List.replicate, hc1, decide_true, e1, e3, ho1, hc2, Nat.reduceAdd, Nat.reduceMul, Nat.reduceLeDiff, Nat.reduceEqDiff, ↓reduceIte]
    refine append_ret (n := (picks (fun e => decide (e.dst = v)) es i).length) hg (by simp only [next_new, next_upd]; omega) (fun j h1 h2 => by simp (disch := first | omega | (simp only [next_new, next_upd] <;> omega) | fail) only [vaim]) (by simp (disch := first | omega | (simp only [next_new, next_upd] <;> omega) | fail) only [vaim]; rfl) rfl (by omega) (by omega) (by rw [ints_length]; omega) (by have := picks_length (p := fun e => decide (e.dst = v)) (es := es) (n := i); omega) (by omega) (by simp only [next_new, next_upd]; have := hk.next; omega) ?_
    intro v' H' hn' hk' hg'
    have kk : Keep Nothing H H' := ⟨by have := hk.next; simp only [next_new, next_upd] at hn'; omega, fun j hj hm => by
     rw [hk' _ hj, ← hk.obj j hj hm]
     have := hk.next
     simp (disch := first | omega | (simp only [next_new, next_upd] <;> omega) | fail) only [vaim]⟩
    simp (disch := first | omega | (simp only [next_new, next_upd] <;> omega) | fail) only [vai, vaim, wrap64, Nat.reduceAdd, Nat.reduceMul, Nat.reduceLeDiff, Nat.reduceEqDiff, ↓reduceIte]
    refine ⟨es.length - (i + 1), by omega, i + 1, v', rfl, by omega, rfl, kk, ?_⟩
    rw [hp, if_pos (by simpa using hc2), ints_append]
    exact hg'
   ·simp (disch := first | omega | (simp only [next_new, next_upd] <;> omega) | fail) only [vai, vaim, wrap64, hlen, List.replicate, hc1, decide_true, e1, e3, ho1, hc2, decide_false, Nat.reduceAdd, Nat.reduceMul, Nat.reduceLeDiff, Nat.reduceEqDiff, ↓reduceIte]
    refine ⟨es.length - (i + 1), by omega, i + 1, ov, rfl, by omega, rfl, hk, ?_⟩
    rw [hp, if_neg (by simpa using hc2), List.append_nil]
    exact hg
  ·simp (disch := first | omega | (simp only [next_new, next_upd] <;> omega) | fail) only [vai, vaim, wrap64, hlen, List.replicate, hc1, decide_false, ho1, hg.notBot, Nat.reduceAdd, Nat.reduceMul, Nat.reduceLeDiff, Nat.reduceEqDiff, ↓reduceIte]
   have hi : i = es.length := by omega
   subst hi
   exact hq ov _ hk hg

def modesOf (v : Int) (es : List Edge) : Int := es.foldl (fun s e => if e.src = v ∨ e.dst = v then orI .i64 s (shlI .i64 1 e.mode) else s) 0
theorem modesOf_succ {v : Int} {es : List Edge} {n : Nat} {e : Edge} (he : es[n]? = some e) : modesOf v (es.take (n + 1)) = if e.src = v ∨ e.dst = v then orI .i64 (modesOf v (es.take n)) (shlI .i64 1 e.mode) else modesOf v (es.take n) := by
 obtain ⟨h, rfl⟩ := List.getElem?_eq_some_iff.1 he
 rw [List.take_succ_eq_append_getElem h]
 simp only [modesOf, List.foldl_append, List.foldl_cons, List.foldl_nil]
theorem modes_ret {v N : Int} {ev : AVal} {es : List Edge} {ida : Nat} {rw : Bool} {H : AHeap} {Q : AVal → AHeap → Prop} (ho : H.obj ida = some (.cells [.int .i64 N, ev] rw)) (hid : ida < H.next) (hr : Row H ev 4 (edgeCells es)) (hn : es.length ≤ 1000000)
  (hm : ∀ e ∈ es, 0 ≤ e.mode ∧ e.mode < 1000) (hq : Q (.int .i64 (modesOf v es)) H) : Ret A 84 [.ptr ida 0, .int .i64 v] H Q := by
 refine Ret.of (fn := F84) rfl ?_
 simp (disch := first | omega | (simp only [next_new, next_upd] <;> omega) | fail) only [vai, vaim, wrap64, F84, Nat.reduceAdd, Nat.reduceMul, Nat.reduceLeDiff, Nat.reduceEqDiff, ↓reduceIte]
 refine wpx_loop (fun m t H' => ∃ (i : Nat), m = es.length - i ∧ i ≤ es.length ∧
  t = [.ptr ida 0, .int .i64 v, .bot, .bot, .bot, .int .i64 (modesOf v (es.take i)), .int .i64 i] ++ List.replicate 48 .bot ∧ H' = H) es.length ?_ ?_
 ·exact ⟨0, rfl, by omega, rfl, rfl⟩
 ·rintro m t H1 ⟨i, rfl, hi1, rfl, rfl⟩
  have hlen := hr.len (by omega) (edgeCells_length es)
  by_cases hc1 : (i : Int) < es.length
  ·have hix : i < es.length := by omega
   have he : es[i]? = some es[i] := by simp [hix]
   have hme := hm es[i] (List.getElem_mem hix)
   obtain ⟨id, off, e1, hid2, e2, e3, e4, e5, e6⟩ := edge_at hr he
   have hp := modesOf_succ (v := v) he
   generalize es[i] = e at *
   by_cases hc2 : e.src = v
   ·simp (disch := first | omega | (simp only [next_new, next_upd] <;> omega) | fail) only [vai, vaim, wrap64, hlen, List.replicate, hc1, decide_true, e1, e2, e3, e4, ho, hc2, wrapU64, Nat.reduceAdd, Nat.reduceMul, Nat.reduceLeDiff, Nat.reduceEqDiff, ↓reduceIte]
    refine ⟨es.length - (i + 1), by omega, i + 1, rfl, by omega, ?_⟩
    rw [hp, if_pos (.inl hc2)]; rfl
   ·by_cases hc3 : e.dst = v
    ·simp (disch := first | omega | (simp only [next_new, next_upd] <;> omega) | fail) only [vai, vaim, wrap64, hlen, List.replicate, hc1, decide_true, e1, e2, e3, e4, ho, hc2, hc3, decide_false, wrapU64, Nat.reduceAdd, Nat.reduceMul, Nat.reduceLeDiff, Nat.reduceEqDiff, ↓reduceIte]
     refine ⟨es.length - (i + 1), by omega, i + 1, rfl, by omega, ?_⟩
     rw [hp, if_pos (.inr hc3)]; rfl
    ·simp (disch := first | omega | (simp only [next_new, next_upd] <;> omega) | fail) only [vai, vaim, wrap64, hlen, List.replicate, hc1, decide_true, e1, e2, e3, e4, ho, hc2, hc3, decide_false, wrapU64, Nat.reduceAdd, Nat.reduceMul, Nat.reduceLeDiff, Nat.reduceEqDiff, ↓reduceIte]
     refine ⟨es.length - (i + 1), by omega, i + 1, rfl, by omega, ?_⟩
     rw [hp, if_neg (by simp [hc2, hc3])]; rfl
  ·simp (disch := first | omega | (simp only [next_new, next_upd] <;> omega) | fail) only [vai, vaim, wrap64, hlen, List.replicate, hc1, decide_false, ho, Nat.reduceAdd, Nat.reduceMul, Nat.reduceLeDiff, Nat.reduceEqDiff, ↓reduceIte]
   have hi : i = es.length := by omega
   rw [hi, List.take_length]
   exact hq
end Go.Proofs.Ytknhlpmmalcchaa

namespace Go.Proofs.Ytknhlpmmalcchaa
open Go Go.VAI
set_option linter.unusedSimpArgs false

theorem new_ret {N : Int} {ev : AVal} {H : AHeap} {Q : AVal → AHeap → Prop} (hq : ∀ id H', Keep Nothing H H' → H.next ≤ id → id < H'.next → H'.obj id = some (.cells [.int .i64 N, ev] true) → Q (.ptr id 0) H') : Ret A 43 [.agg [.int .i64 N, ev]] H Q := by
 refine Ret.of (fn := F43) rfl ?_
 simp (disch := first | omega | (simp only [next_new, next_upd] <;> omega) | fail) only [vai, vaim, wrap64, F43, Nat.reduceAdd, Nat.reduceMul, Nat.reduceLeDiff, Nat.reduceEqDiff, ↓reduceIte]
 refine hq _ _ (((Keep.refl _ _).new _).new _) (by omega) (by simp only [next_new]; omega) (by simp (disch := first | omega | (simp only [next_new, next_upd] <;> omega) | fail) only [vaim])

theorem andI_one (a : Int) : 0 ≤ andI .i64 a 1 ∧ andI .i64 a 1 ≤ 1 := by
 have h : (BitVec.ofInt IntKind.i64.bits a &&& BitVec.ofInt IntKind.i64.bits 1).toNat ≤ 1 := by
  rw [BitVec.toNat_and]
  exact Nat.le_trans Nat.and_le_right (by decide)
 unfold andI
 rw [wrap64 (by omega) (by omega)]
 omega
def modesIn (s : Int) : Nat → Int
 | 0 => 0
 | n + 1 => modesIn s n + andI .i64 (shrI .i64 s n) 1
theorem modesIn_bd (s : Int) : ∀ n, 0 ≤ modesIn s n ∧ modesIn s n ≤ n
 | 0 => by simp [modesIn]
 | n + 1 => by
  have := modesIn_bd s n
  have := andI_one (shrI .i64 s n)
  simp only [modesIn]
  omega
def linkAt (es : List Edge) (v : Int) : Bool := decide (2 ≤ modesIn (modesOf v es) 5)
def linksOf (N : Nat) (es : List Edge) : List Bool := (List.range N).map fun (v : Nat) => linkAt es (v : Int)
def bools (l : List Bool) : List AVal := l.map AVal.bool
theorem linksOf_succ (N : Nat) (es : List Edge) : bools (linksOf (N + 1) es) = bools (linksOf N es) ++ [.bool (linkAt es N)] := by
 simp [linksOf, bools, List.range_succ]
theorem links_ret {N : Nat} {ev : AVal} {es : List Edge} {H : AHeap} {Q : AVal → AHeap → Prop} (hr : Row H ev 4 (edgeCells es)) (hn : es.length ≤ 1000000) (hN : N ≤ 1000000)
  (hm : ∀ e ∈ es, 0 ≤ e.mode ∧ e.mode < 1000) (hq : ∀ v' H', Keep Nothing H H' → Grown H.next H' v' 1 (bools (linksOf N es)) → Q v' H') : Ret A 39 [.agg [.int .i64 N, ev]] H Q := by
 refine Ret.of (fn := F39) rfl ?_
 simp (disch := first | omega | (simp only [next_new, next_upd] <;> omega) | fail) only [vai, vaim, wrap64, F39, Nat.reduceAdd, Nat.reduceMul, Nat.reduceLeDiff, Nat.reduceEqDiff, ↓reduceIte]
 refine new_ret fun ida H1 hk1 ha1 ha2 ha3 => ?_
 have hb : H1.obj H.next = some (.cells [.int .i64 N, ev] true) := by rw [hk1.obj _ (by simp only [next_new]; omega) (fun h => h)]; simp (disch := first | omega | (simp only [next_new, next_upd] <;> omega) | fail) only [vaim]
 simp only [next_new] at ha1
 have hn1 := hk1.next
 simp only [next_new] at hn1
 have hk : Keep Nothing H H1 := ((Keep.refl _ _).new _).trans hk1
 simp (disch := first | omega | (simp only [next_new, next_upd] <;> omega) | fail) only [vai, vaim, wrap64, Nat.reduceAdd, Nat.reduceMul, Nat.reduceLeDiff, Nat.reduceEqDiff, ↓reduceIte]
 refine wpx_loop (fun m t H' => ∃ (i : Nat) (ov : AVal), m = N - i ∧ i ≤ N ∧
  t = [.bot, .ptr H.next 0, .bot, .ptr ida 0, ov, .int .i64 i] ++ List.replicate 28 .bot ∧ Keep Nothing H1 H' ∧ Grown H1.next H' ov 1 (bools (linksOf i es))) N ?_ ?_
 ·exact ⟨0, .nilSlice, rfl, by omega, rfl, .refl _ _, .nil⟩
 ·rintro m t H2 ⟨i, ov, rfl, hi1, rfl, hk2, hg⟩
  have ho2 : H2.obj ida = some (.cells [.int .i64 N, ev] true) := by rw [hk2.obj _ ha2 (fun h => h)]; exact ha3
  have hb2 : H2.obj H.next = some (.cells [.int .i64 N, ev] true) := by rw [hk2.obj _ (by omega) (fun h => h)]; exact hb
  have hr2 : Row H2 ev 4 (edgeCells es) := (hr.kept hk).kept hk2
  have hn2 := hk2.next
  by_cases hc1 : (i : Int) < N
  ·simp (disch := first | omega | (simp only [next_new, next_upd] <;> omega) | fail) only [vai, vaim, wrap64, List.replicate, hc1, decide_true, hb2, Nat.reduceAdd, Nat.reduceMul, Nat.reduceLeDiff, Nat.reduceEqDiff, ↓reduceIte]
   refine wpx_loop (fun m t H' => ∃ (j : Nat), m = 5 - j ∧ j ≤ 5 ∧
    t = [.bot, .ptr H.next 0, .bot, .ptr ida 0, ov, .int .i64 i, .int .i64 (modesIn (modesOf i es) j), .int .u64 j] ++ List.replicate 26 .bot ∧ H' = H2) 5 ?_ ?_
   ·exact ⟨0, rfl, by omega, rfl, rfl⟩
   ·rintro m t H3 ⟨j, rfl, hj1, rfl, rfl⟩
    have hbd := modesIn_bd (modesOf i es) j
    have hone := andI_one (shrI .i64 (modesOf i es) j)
    by_cases hc2 : (j : Int) < 5
    ·simp (disch := first | omega | (simp only [next_new, next_upd] <;> omega) | fail) only [vai, vaim, wrap64, List.replicate, hc2, decide_true, Nat.reduceAdd, Nat.reduceMul, Nat.reduceLeDiff, Nat.reduceEqDiff, ↓reduceIte]
     refine modes_ret ho2 (by omega) hr2 hn hm ?_
     simp (disch := first | omega | (simp only [next_new, next_upd] <;> omega) | fail) only [vai, vaim, wrap64, wrapU64, Nat.reduceAdd, Nat.reduceMul, Nat.reduceLeDiff, Nat.reduceEqDiff, ↓reduceIte]
     exact ⟨5 - (j + 1), by omega, j + 1, rfl, by omega, rfl⟩
    ·have hj : j = 5 := by omega
     subst hj
     simp (disch := first | omega | (simp only [next_new, next_upd] <;> omega) | fail) only [vai, vaim, wrap64, List.replicate, hc2, decide_false, Nat.reduceAdd, Nat.reduceMul, Nat.reduceLeDiff, Nat.reduceEqDiff, ↓reduceIte]
     refine append_ret (n := (linksOf i es).length) hg (by simp only [next_new, next_upd]; omega) (fun j h1 h2 => by simp (disch := first | omega | (simp only [next_new, next_upd] <;> omega) | fail) only [vaim]) (by simp (disch := first | omega | (simp only [next_new, next_upd] <;> omega) | fail) only [vaim]; rfl) rfl (by omega) (by omega) (by simp [bools]) (by simp [linksOf]; omega) (by omega) (by simp only [next_new, next_upd]; omega) ?_
     intro v' H' hn' hk' hg'
     have kk : Keep Nothing H1 H' := ⟨by simp only [next_new, next_upd] at hn'; omega, fun j hj hm => by
      rw [hk' _ hj, ← hk2.obj j hj hm]
      simp (disch := first | omega | (simp only [next_new, next_upd] <;> omega) | fail) only [vaim]⟩
     simp (disch := first | omega | (simp only [next_new, next_upd] <;> omega) | fail) only [vai, vaim, wrap64, Nat.reduceAdd, Nat.reduceMul, Nat.reduceLeDiff, Nat.reduceEqDiff, ↓reduceIte]
     refine ⟨N - (i + 1), by omega, i + 1, v', rfl, by omega, rfl, kk, ?_⟩
     rw [linksOf_succ]
     exact hg'
  ·simp (disch := first | omega | (simp only [next_new, next_upd] <;> omega) | fail) only [vai, vaim, wrap64, List.replicate, hc1, decide_false, hb2, hg.notBot, Nat.reduceAdd, Nat.reduceMul, Nat.reduceLeDiff, Nat.reduceEqDiff, ↓reduceIte]
   have hi : i = N := by omega
   subst hi
   exact hq ov _ (hk.trans hk2) (hg.keep' ⟨by omega, Nat.le_refl _⟩ (fun _ _ _ => rfl))
end Go.Proofs.Ytknhlpmmalcchaa

namespace Go.Proofs.Ytknhlpmmalcchaa
open Go Go.VAI
set_option linter.unusedSimpArgs false

def degree (es : List Edge) (v : Int) : Nat := (picks (fun e => decide (e.src = v)) es es.length).length + (picks (fun e => decide (e.dst = v)) es es.length).length
def orderRow (es : List Edge) (d : Int) (n : Nat) : List Int := ((List.range n).filter fun (v : Nat) => !linkAt es v && decide ((degree es v : Int) = d)).map Int.ofNat
def orderOf (N : Nat) (es : List Edge) (k : Nat) : List Int := (List.range k).flatMap fun (d : Nat) => orderRow es d N
theorem orderRow_succ (es : List Edge) (d : Int) (n : Nat) : orderRow es d (n + 1) = orderRow es d n ++ if !linkAt es n && decide ((degree es n : Int) = d) then [(n : Int)] else [] := by
 simp only [orderRow, List.range_succ, List.filter_append, List.map_append, List.filter_cons, List.filter_nil]
 split <;> rfl
theorem orderOf_succ (N : Nat) (es : List Edge) (k : Nat) : orderOf N es (k + 1) = orderOf N es k ++ orderRow es k N := by
 simp [orderOf, List.range_succ]
theorem orderRow_length (es : List Edge) (d : Int) (n : Nat) : (orderRow es d n).length ≤ n := by
 simp only [orderRow, List.length_map]
 exact Nat.le_trans (List.length_filter_le _ _) (by simp)
theorem orderOf_length (N : Nat) (es : List Edge) : ∀ k, (orderOf N es k).length ≤ k * N
 | 0 => by simp [orderOf]
 | k + 1 => by
  have := orderOf_length N es k
  have := orderRow_length es k N
  rw [orderOf_succ, List.length_append, Nat.succ_mul]
  omega
theorem linksOf_at {N : Nat} {es : List Edge} {v : Nat} (h : v < N) : (bools (linksOf N es))[v]? = some (.bool (linkAt es v)) := by
 simp [bools, linksOf, h]

theorem order_ret {N : Nat} {ev : AVal} {es : List Edge} {H : AHeap} {Q : AVal → AHeap → Prop} (hr : Row H ev 4 (edgeCells es)) (hn : es.length ≤ 1000) (hN : N ≤ 1000)
  (hm : ∀ e ∈ es, 0 ≤ e.mode ∧ e.mode < 1000) (hq : ∀ v' H', Keep Nothing H H' → Grown H.next H' v' 1 (ints (orderOf N es (2 * es.length + 1))) → Q v' H') : Ret A 42 [.agg [.int .i64 N, ev]] H Q := by
 refine Ret.of (fn := F42) rfl ?_
 simp (disch := first | omega | (simp only [next_new, next_upd] <;> omega) | fail) only [vai, vaim, wrap64, F42, Nat.reduceAdd, Nat.reduceMul, Nat.reduceLeDiff, Nat.reduceEqDiff, ↓reduceIte]
 refine new_ret fun ida H1 hk1 ha1 ha2 ha3 => ?_
 have hb : H1.obj H.next = some (.cells [.int .i64 N, ev] true) := by rw [hk1.obj _ (by simp only [next_new]; omega) (fun h => h)]; simp (disch := first | omega | (simp only [next_new, next_upd] <;> omega) | fail) only [vaim]
 simp only [next_new] at ha1
 have hn1 := hk1.next
 simp only [next_new] at hn1
 have hk : Keep Nothing H H1 := ((Keep.refl _ _).new _).trans hk1
 have hbeq : AVal.beq (.agg [.int .i64 (N : Int), ev]) (.agg [.int .i64 (N : Int), ev]) = true := by simp [AVal.beq, AVal.beqs, hr.beq]
 simp (disch := first | omega | (simp only [next_new, next_upd] <;> omega) | fail) only [vai, vaim, wrap64, hb, reK_same hbeq, Nat.reduceAdd, Nat.reduceMul, Nat.reduceLeDiff, Nat.reduceEqDiff, ↓reduceIte]
 refine links_ret (hr.kept hk) (by omega) (by omega) hm fun lv H2 hk2 hl => ?_
 have hb2 : H2.obj H.next = some (.cells [.int .i64 N, ev] true) := by rw [hk2.obj _ (by omega) (fun h => h)]; exact hb
 have ha4 : H2.obj ida = some (.cells [.int .i64 N, ev] true) := by rw [hk2.obj _ (by omega) (fun h => h)]; exact ha3
 have hn2 := hk2.next
 simp (disch := first | omega | (simp only [next_new, next_upd] <;> omega) | fail) only [vai, vaim, wrap64, Nat.reduceAdd, Nat.reduceMul, Nat.reduceLeDiff, Nat.reduceEqDiff, ↓reduceIte]
 refine wpx_loop (fun m t H' => ∃ (d : Nat) (ov : AVal), m = 2 * es.length + 1 - d ∧ d ≤ 2 * es.length + 1 ∧
  t = [.bot, .ptr H.next 0, .bot, .ptr ida 0, lv, ov, .int .i64 d] ++ List.replicate 42 .bot ∧ Keep Nothing H2 H' ∧ Grown H2.next H' ov 1 (ints (orderOf N es d))) (2 * es.length + 1) ?_ ?_
 ·exact ⟨0, .nilSlice, rfl, by omega, rfl, .refl _ _, .nil⟩
 ·rintro m t H3 ⟨d, ov, rfl, hd1, rfl, hk3, hg⟩
  have hb3 : H3.obj H.next = some (.cells [.int .i64 N, ev] true) := by rw [hk3.obj _ (by omega) (fun h => h)]; exact hb2
  have hlen := (((hr.kept hk).kept hk2).kept hk3).len (by omega) (edgeCells_length es)
  by_cases hc1 : (d : Int) ≤ 2 * (es.length : Int)
  ·simp (disch := first | omega | (simp only [next_new, next_upd] <;> omega) | fail) only [vai, vaim, wrap64, List.replicate, hc1, decide_true, hb3, hlen, Nat.reduceAdd, Nat.reduceMul, Nat.reduceLeDiff, Nat.reduceEqDiff, ↓reduceIte]
   refine wpx_loop (fun m t H' => ∃ (v : Nat) (ov : AVal), m = N - v ∧ v ≤ N ∧
    t = [.bot, .ptr H.next 0, .bot, .ptr ida 0, lv, ov, .int .i64 d, .int .i64 v] ++ List.replicate 41 .bot ∧ Keep Nothing H2 H' ∧ Grown H2.next H' ov 1 (ints (orderOf N es d ++ orderRow es d v))) N ?_ ?_
   ·exact ⟨0, ov, rfl, by omega, rfl, hk3, by simpa [orderRow] using hg⟩
   ·clear hg hb3 hlen hk3
    rintro m t H4 ⟨v, ov, rfl, hv1, rfl, hk4, hg⟩
    have hb4 : H4.obj H.next = some (.cells [.int .i64 N, ev] true) := by rw [hk4.obj _ (by omega) (fun h => h)]; exact hb2
    have ha5 : H4.obj ida = some (.cells [.int .i64 N, ev] true) := by rw [hk4.obj _ (by omega) (fun h => h)]; exact ha4
    have hr4 : Row H4 ev 4 (edgeCells es) := ((hr.kept hk).kept hk2).kept hk4
    have hl4 := hl.row.kept hk4
    have hn4 := hk4.next
    by_cases hc2 : (v : Int) < N
    ·have hvN : v < N := by omega
     obtain ⟨id, off, e1, hid2, e2⟩ := hl4.at1 (j := v) (x := .bool (linkAt es v)) (k := .i64) (by omega) (by rw [Int.toNat_natCast]; exact linksOf_at hvN)
     have hp := orderRow_succ es d v
     cases hb : linkAt es v with
     | true =>
      rw [hb] at e2 hp
      simp (disch := first | omega | (simp only [next_new, next_upd] <;> omega) | fail) only [vai, vaim, wrap64, List.replicate, hc2, decide_true, hb4, e1, e2, Bool.not_true, Nat.reduceAdd, Nat.reduceMul, Nat.reduceLeDiff, Nat.reduceEqDiff, ↓reduceIte]
      refine ⟨N - (v + 1), by omega, v + 1, ov, rfl, by omega, rfl, hk4, ?_⟩
      simpa [hp] using hg
     | false =>
      rw [hb] at e2 hp
      simp (disch := first | omega | (simp only [next_new, next_upd] <;> omega) | fail) only [vai, vaim, wrap64, List.replicate, hc2, decide_true, hb4, e1, e2, Bool.not_false, Nat.reduceAdd, Nat.reduceMul, Nat.reduceLeDiff, Nat.reduceEqDiff, ↓reduceIte]
      refine out_ret ha5 (by omega) hr4 (by omega) fun o1 H5 hk5 hg5 => ?_
      have ha6 : H5.obj ida = some (.cells [.int .i64 N, ev] true) := by rw [hk5.obj _ (by omega) (fun h => h)]; exact ha5
      simp (disch := first | omega | (simp only [next_new, next_upd] <;> omega) | fail) only [vai, vaim, wrap64, hg5.alen1, ints_length, Nat.reduceAdd, Nat.reduceMul, Nat.reduceLeDiff, Nat.reduceEqDiff, ↓reduceIte]
      have hn5 := hk5.next
      refine in_ret ha6 (by omega) (hr4.kept hk5) (by omega) fun o2 H6 hk6 hg6 => ?_
      have hb6 : H6.obj H.next = some (.cells [.int .i64 N, ev] true) := by rw [hk6.obj _ (by omega) (fun h => h), hk5.obj _ (by omega) (fun h => h)]; exact hb4
      have hn6 := hk6.next
      have l1 := picks_length (p := fun e => decide (e.src = (v : Int))) (es := es) (n := es.length)
      have l2 := picks_length (p := fun e => decide (e.dst = (v : Int))) (es := es) (n := es.length)
      have hdeg : ((picks (fun e => decide (e.src = (v : Int))) es es.length).length : Int) + ((picks (fun e => decide (e.dst = (v : Int))) es es.length).length : Int) = (degree es v : Int) := by simp [degree]
      simp (disch := first | omega | (simp only [next_new, next_upd] <;> omega) | fail) only [vai, vaim, wrap64, hg6.alen1, ints_length, hdeg, Nat.reduceAdd, Nat.reduceMul, Nat.reduceLeDiff, Nat.reduceEqDiff, ↓reduceIte]
      by_cases hc3 : (degree es v : Int) = d
      ·simp (disch := first | omega | (simp only [next_new, next_upd] <;> omega) | fail) only [vai, vaim, wrap64, hc3, decide_true, hb6, Nat.reduceAdd, Nat.reduceMul, Nat.reduceLeDiff, Nat.reduceEqDiff, ↓reduceIte]
       have lo1 := orderOf_length N es d
       have lo2 := orderRow_length es d v
       have lo3 : d * N ≤ 2001 * 1000 := Nat.mul_le_mul (by omega) hN
       refine append_ret (n := (orderOf N es d ++ orderRow es d v).length) hg (by simp only [next_new, next_upd]; omega) (fun j h1 h2 => by rw [obj_new_ne (by omega), hk6.obj _ (by omega) (fun h => h), hk5.obj _ (by omega) (fun h => h)]) (by simp (disch := first | omega | (simp only [next_new, next_upd] <;> omega) | fail) only [vaim]; rfl) rfl (by omega) (by omega) (by rw [ints_length]; omega) (by rw [List.length_append]; omega) (by omega) (by simp only [next_new, next_upd]; omega) ?_
       intro v' H' hn' hk' hg'
       have k6 := (hk4.trans hk5).trans hk6
       have kk : Keep Nothing H2 H' := ⟨by simp only [next_new, next_upd] at hn'; omega, fun j hj hm => by
        rw [hk' _ hj, ← k6.obj j hj hm]
        simp (disch := first | omega | (simp only [next_new, next_upd] <;> omega) | fail) only [vaim]⟩
       simp (disch := first | omega | (simp only [next_new, next_upd] <;> omega) | fail) only [vai, vaim, wrap64, Nat.reduceAdd, Nat.reduceMul, Nat.reduceLeDiff, Nat.reduceEqDiff, ↓reduceIte]
       refine ⟨N - (v + 1), by omega, v + 1, v', rfl, by omega, rfl, kk, ?_⟩
       rw [hp, if_pos (by simpa using hc3), ← List.append_assoc, ints_append]
       exact hg'
      ·simp (disch := first | omega | (simp only [next_new, next_upd] <;> omega) | fail) only [vai, vaim, wrap64, hc3, decide_false, hb6, Nat.reduceAdd, Nat.reduceMul, Nat.reduceLeDiff, Nat.reduceEqDiff, ↓reduceIte]
       refine ⟨N - (v + 1), by omega, v + 1, ov, rfl, by omega, rfl, (hk4.trans hk5).trans hk6, ?_⟩
       rw [hp, if_neg (by simpa using hc3), List.append_nil]
       exact hg.keep (by omega) (fun j h1 h2 => by rw [hk6.obj _ (by omega) (fun h => h), hk5.obj _ (by omega) (fun h => h)])
    ·simp (disch := first | omega | (simp only [next_new, next_upd] <;> omega) | fail) only [vai, vaim, wrap64, List.replicate, hc2, decide_false, hb4, Nat.reduceAdd, Nat.reduceMul, Nat.reduceLeDiff, Nat.reduceEqDiff, ↓reduceIte]
     have hv : v = N := by omega
     subst hv
     exact ⟨2 * es.length + 1 - (d + 1), by omega, d + 1, ov, rfl, by omega, rfl, hk4, by rw [orderOf_succ]; exact hg⟩
  ·simp (disch := first | omega | (simp only [next_new, next_upd] <;> omega) | fail) only [vai, vaim, wrap64, List.replicate, hc1, decide_false, hb3, hlen, hg.notBot, Nat.reduceAdd, Nat.reduceMul, Nat.reduceLeDiff, Nat.reduceEqDiff, ↓reduceIte]
   have hd : d = 2 * es.length + 1 := by omega
   subst hd
   exact hq ov _ ((hk.trans hk2).trans hk3) (hg.keep' ⟨by omega, Nat.le_refl _⟩ (fun _ _ _ => rfl))
end Go.Proofs.Ytknhlpmmalcchaa

namespace Go.Proofs.Ytknhlpmmalcchaa
open Go Go.VAI
set_option linter.unusedSimpArgs false

def Arc.cells (e : Arc) : List AVal := [.int .i64 e.src, .int .i64 e.dst, .int .i64 e.mode, .int .i64 e.cost, .int .i64 e.edge, .int .i64 e.a, .int .i64 e.b]
def arcCells (l : List Arc) : List AVal := l.flatMap Arc.cells

structure Lay (H : AHeap) (w c g : Nat) (N : Nat) (ev rv av uv dv : AVal) (cur : List Int) (gone : List Bool) : Prop where
 obj : H.obj w = some (.cells [.int .i64 N, ev, rv, av, uv, dv, .slice c 0 (N * N * 5) (.exact (N * N * 5)), .slice g 0 N (.exact N)] true)
 curO : H.obj c = some (.cells (ints cur) true)
 goneO : H.obj g = some (.cells (bools gone) true)
 wlt : w < H.next
 clt : c < H.next
 glt : g < H.next
 curLen : cur.length = N * N * 5
 goneLen : gone.length = N
theorem Lay.kept {H H' : AHeap} {w c g N : Nat} {ev rv av uv dv : AVal} {cur : List Int} {gone : List Bool} (h : Lay H w c g N ev rv av uv dv cur gone) (hk : Keep Nothing H H') : Lay H' w c g N ev rv av uv dv cur gone := by
 have := hk.next
 have := h.wlt
 have := h.clt
 have := h.glt
 exact ⟨by rw [hk.obj _ h.wlt (fun h => h)]; exact h.obj, by rw [hk.obj _ h.clt (fun h => h)]; exact h.curO, by rw [hk.obj _ h.glt (fun h => h)]; exact h.goneO, by omega, by omega, by omega, h.curLen, h.goneLen⟩
end Go.Proofs.Ytknhlpmmalcchaa

namespace Go.Proofs.Ytknhlpmmalcchaa
open Go Go.VAI
set_option linter.unusedSimpArgs false

theorem arcCells_length (l : List Arc) : (arcCells l).length = l.length * 7 := by
 induction l with
 | nil => rfl
 | cons e l ih => simp only [arcCells, List.flatMap_cons, List.length_append] at ih ⊢; rw [ih]; simp [Arc.cells]; omega
theorem arcCells_append (l m : List Arc) : arcCells (l ++ m) = arcCells l ++ arcCells m := by simp [arcCells]

end Go.Proofs.Ytknhlpmmalcchaa

namespace Go.Proofs.Ytknhlpmmalcchaa
open Go Go.VAI
set_option linter.unusedSimpArgs false

theorem arc_drop : ∀ (es : List Arc) (i : Nat) (e : Arc), es[i]? = some e → ((arcCells es).drop (i * 7)).take 7 = e.cells
 | [], i, e, h => by simp at h
 | a :: es, 0, e, h => by
  simp at h; subst h
  simp [arcCells, Arc.cells]
 | a :: es, i + 1, e, h => by
  have := arc_drop es i e (by simpa using h)
  rw [← this]
  have h4 : (i + 1) * 7 = i * 7 + 7 := by omega
  rw [h4]
  simp [arcCells, Arc.cells]
theorem arc_at {H : AHeap} {v : AVal} {es : List Arc} (h : Row H v 7 (arcCells es)) {i : Nat} {e : Arc} (he : es[i]? = some e) : ∃ id off, aindexAddrS 7 v (.int .i64 (i : Int)) = some (.ptr id off) ∧ id < H.next ∧
  (bnd (cellsOf (H.obj id)) fun c => c[off + 3]?) = some (.int .i64 e.cost) ∧
  (bnd (cellsOf (H.obj id)) fun c => if off + 7 ≤ c.length then some (AVal.agg ((c.drop off).take 7)) else none) = some (AVal.agg e.cells) := by
 have hi := (List.getElem?_eq_some_iff.1 he).1
 obtain ⟨id, off, c, h1, h2, h3, h4, h5⟩ := h.at (j := i) (k := .i64) (by omega) (by omega) (by rw [arcCells_length, Int.toNat_natCast]; omega)
 rw [Int.toNat_natCast, arc_drop es i e he] at h5
 rw [cells?_of] at h3
 refine ⟨id, off, h1, h2, ?_⟩
 simp only [h3, bnd, if_pos h4, h5, and_true]
 exact cell_at (f := 3) h5 rfl

end Go.Proofs.Ytknhlpmmalcchaa

namespace Go.Proofs.Ytknhlpmmalcchaa
open Go Go.VAI
set_option linter.unusedSimpArgs false

theorem amkSlice_int {zs : List AVal} {b : Nat} {n : Nat} (h : (n : Int) * b ≤ 140737488355328) (h2 : (n : Int) ≤ 9223372036854775807) : amkSlice zs b (.int .i64 (n : Int)) (.int .i64 (n : Int)) = some (.cells (reps zs n) true, fun y => .slice y 0 n (.exact n)) := by
 simp only [amkSlice, Int.toNat_natCast]
 rw [if_pos ⟨by omega, by omega, h, h2⟩]
theorem reps_zero (n : Nat) : reps [.int .i64 0] n = ints (List.replicate n 0) := by
 induction n with
 | zero => rfl
 | succ n ih => simp [reps, ih, ints, List.replicate_succ]
theorem _root_.Go.VAI.Row.keepM {H H' : AHeap} {M : Nat → Prop} {v : AVal} {sz : Nat} {cs : List AVal} (h : Row H v sz cs) (hk : Keep M H H') (hM : ∀ j, sid v = some j → ¬ M j) : Row H' v sz cs := by
 cases h with
 | nil => exact .nil
 | mk hid hc hl hcs => exact .mk (Nat.lt_of_lt_of_le hid hk.next) (by rw [cells?_of] at hc ⊢; rw [hk.obj _ hid (hM _ rfl)]; exact hc) hl hcs
end Go.Proofs.Ytknhlpmmalcchaa

namespace Go.Proofs.Ytknhlpmmalcchaa
open Go Go.VAI
set_option linter.unusedSimpArgs false

structure BLay (H : AHeap) (b0 b1 b2 b3 b4 u d N : Nat) (es : List Edge) (ev ew rv av : AVal) (cur : List Int) (gone : List Bool) (us ds : List AVal) : Prop where
 nbox : H.obj b0 = some (.cells [.int .i64 N, ev] true)
 var : H.obj b1 = some (.cells [.int .i64 0, .nilSlice, .nilSlice, .nilSlice, .nilSlice, .nilSlice] true)
 lay : Lay H b4 b2 b3 N ew rv av (.slice u 0 N (.exact N)) (.slice d 0 N (.exact N)) cur gone
 upO : H.obj u = some (.cells us true)
 downO : H.obj d = some (.cells ds true)
 usl : us.length = N
 dsl : ds.length = N
 ord : b0 < b1 ∧ b1 < b2 ∧ b2 < b3 ∧ b3 < b4 ∧ b4 < u ∧ u < d ∧ d < H.next
 ewid : ∀ j, sid ew = some j → b4 < j ∧ j < u
 edges : Row H ew 4 (edgeCells es)
theorem BLay.upd {H H' : AHeap} {b0 b1 b2 b3 b4 u d N : Nat} {es : List Edge} {ev ew rv av rv' av' : AVal} {cur cur' : List Int} {gone gone' : List Bool} {us ds us' ds' : List AVal} (h : BLay H b0 b1 b2 b3 b4 u d N es ev ew rv av cur gone us ds) (hn : H.next ≤ H'.next)
  (hk : ∀ j, j ≤ d → j ≠ b4 → j ≠ b2 → j ≠ b3 → j ≠ u → j ≠ d → H'.obj j = H.obj j) (hlay : Lay H' b4 b2 b3 N ew rv' av' (.slice u 0 N (.exact N)) (.slice d 0 N (.exact N)) cur' gone')
  (hu : H'.obj u = some (.cells us' true)) (hd : H'.obj d = some (.cells ds' true)) (hul : us'.length = N) (hdl : ds'.length = N) : BLay H' b0 b1 b2 b3 b4 u d N es ev ew rv' av' cur' gone' us' ds' := by
 obtain ⟨o1, o2, o3, o4, o5, o6, o7⟩ := h.ord
 refine ⟨by rw [hk b0 (by omega) (by omega) (by omega) (by omega) (by omega) (by omega)]; exact h.nbox, by rw [hk b1 (by omega) (by omega) (by omega) (by omega) (by omega) (by omega)]; exact h.var, hlay, hu, hd, hul, hdl, ⟨o1, o2, o3, o4, o5, o6, by omega⟩, h.ewid, ?_⟩
 have hk2 : Keep (fun j => j ≤ b4 ∨ u ≤ j) H H' := ⟨hn, fun j hj hm => hk j (by omega) (by omega) (by omega) (by omega) (by omega) (by omega)⟩
 exact h.edges.M hk2 (fun j hj => by have := h.ewid j hj; omega)
theorem Lay.M {H H' : AHeap} {M : Nat → Prop} {w c g N : Nat} {ev rv av uv dv : AVal} {cur : List Int} {gone : List Bool} (h : Lay H w c g N ev rv av uv dv cur gone) (hk : Keep M H H') (h1 : ¬ M w) (h2 : ¬ M c) (h3 : ¬ M g) : Lay H' w c g N ev rv av uv dv cur gone := by
 have := hk.next
 have := h.wlt
 have := h.clt
 have := h.glt
 exact ⟨by rw [hk.obj _ h.wlt h1]; exact h.obj, by rw [hk.obj _ h.clt h2]; exact h.curO, by rw [hk.obj _ h.glt h3]; exact h.goneO, by omega, by omega, by omega, h.curLen, h.goneLen⟩
theorem BLay.M {H H' : AHeap} {M : Nat → Prop} {b0 b1 b2 b3 b4 u d N : Nat} {es : List Edge} {ev ew rv av : AVal} {cur : List Int} {gone : List Bool} {us ds : List AVal} (h : BLay H b0 b1 b2 b3 b4 u d N es ev ew rv av cur gone us ds) (hk : Keep M H H') (hM : ∀ j, j ≤ d → ¬ M j) : BLay H' b0 b1 b2 b3 b4 u d N es ev ew rv av cur gone us ds := by
 obtain ⟨o1, o2, o3, o4, o5, o6, o7⟩ := h.ord
 exact h.upd hk.next (fun j hj _ _ _ _ _ => hk.obj j (by omega) (hM j hj)) (h.lay.M hk (hM _ (by omega)) (hM _ (by omega)) (hM _ (by omega))) (by rw [hk.obj _ (by omega) (hM _ (by omega))]; exact h.upO) (by rw [hk.obj _ (by omega) (hM _ (by omega))]; exact h.downO) h.usl h.dsl
theorem BLay.kept {H H' : AHeap} {b0 b1 b2 b3 b4 u d N : Nat} {es : List Edge} {ev ew rv av : AVal} {cur : List Int} {gone : List Bool} {us ds : List AVal} (h : BLay H b0 b1 b2 b3 b4 u d N es ev ew rv av cur gone us ds) (hk : Keep Nothing H H') : BLay H' b0 b1 b2 b3 b4 u d N es ev ew rv av cur gone us ds := by
 obtain ⟨o1, o2, o3, o4, o5, o6, o7⟩ := h.ord
 exact h.upd hk.next (fun j hj _ _ _ _ _ => hk.old (by omega)) (h.lay.kept hk) (by rw [hk.old (by omega)]; exact h.upO) (by rw [hk.old (by omega)]; exact h.downO) h.usl h.dsl
theorem orderOf_ok (N : Nat) (es : List Edge) (k : Nat) : OrderOk N (orderOf N es k) := by
 have mem : ∀ (d : Nat) x, x ∈ orderRow es d N → 0 ≤ x ∧ x < N ∧ degree es x = d := by
  intro d x hx
  simp only [orderRow, List.mem_map, List.mem_filter, List.mem_range, Bool.and_eq_true, decide_eq_true_eq] at hx
  obtain ⟨v, ⟨h1, _, h2⟩, rfl⟩ := hx
  exact ⟨by simp, by simpa using h1, by have h2' : (degree es (v : Int) : Int) = d := h2; show degree es (v : Int) = d; omega⟩
 refine ⟨fun x hx => ?_, ?_⟩
 ·simp only [orderOf, List.mem_flatMap, List.mem_range] at hx
  obtain ⟨d, _, hx⟩ := hx
  exact ⟨(mem d x hx).1, (mem d x hx).2.1⟩
 ·refine nodup_flat k (fun d _ => ?_) (fun d d' x _ _ h1 h2 => by rw [← (mem d x h1).2.2, (mem d' x h2).2.2])
  simp only [orderRow]
  refine List.Pairwise.map _ (fun a b (h : a ≠ b) => ?_) (List.Pairwise.filter _ (List.nodup_range))
  intro e
  exact h (by injection e)
def orderAll (N : Nat) (es : List Edge) : List Int := orderOf N es (2 * es.length + 1)
def idxOf (N : Nat) (es : List Edge) : Idx :=
 let h := hierOf N es (orderAll N es)
 ⟨N, es, h.rank, h.arcs, h.up, h.down⟩
structure IdxAt (H : AHeap) (ew rv av uv dv : AVal) (x : Idx) : Prop where
 es : Row H ew 4 (edgeCells x.es)
 rank : Row H rv 1 (ints x.rank)
 arcs : Row H av 7 (arcCells x.arcs)
 up : RowsOf H uv x.up
 down : RowsOf H dv x.down
theorem IdxAt.kept {H H' : AHeap} {ew rv av uv dv : AVal} {x : Idx} (h : IdxAt H ew rv av uv dv x) (hk : Keep Nothing H H') : IdxAt H' ew rv av uv dv x := ⟨h.es.kept hk, h.rank.kept hk, h.arcs.kept hk, h.up.kept hk, h.down.kept hk⟩
def From (lo : Nat) (H : AHeap) (v : AVal) (sz : Nat) (cs : List AVal) : Prop := Row H v sz cs ∧ ∀ j, sid v = some j → lo ≤ j
theorem From.M {lo : Nat} {M : Nat → Prop} {H H' : AHeap} {v : AVal} {sz : Nat} {cs : List AVal} (h : From lo H v sz cs) (hk : Keep M H H') (hM : ∀ j, M j → j < lo) : From lo H' v sz cs := ⟨h.1.M hk (fun j hj e => by have := h.2 j hj; have := hM j e; omega), h.2⟩
def FromRows (lo : Nat) (H : AHeap) (v : AVal) (ll : List (List Int)) : Prop := ∃ vs, From lo H v 1 vs ∧ vs.length = ll.length ∧ ∀ (i : Nat) r l, vs[i]? = some r → ll[i]? = some l → From lo H r 1 (ints l)
theorem FromRows.M {lo : Nat} {M : Nat → Prop} {H H' : AHeap} {v : AVal} {ll : List (List Int)} (h : FromRows lo H v ll) (hk : Keep M H H') (hM : ∀ j, M j → j < lo) : FromRows lo H' v ll := by
 obtain ⟨vs, h1, h2, h3⟩ := h
 exact ⟨vs, h1.M hk hM, h2, fun i r l e1 e2 => (h3 i r l e1 e2).M hk hM⟩
theorem FromRows.rows {lo : Nat} {H : AHeap} {v : AVal} {ll : List (List Int)} (h : FromRows lo H v ll) : RowsOf H v ll := by
 obtain ⟨vs, h1, h2, h3⟩ := h
 exact ⟨vs, h1.1, h2, fun i r l e1 e2 => (h3 i r l e1 e2).1⟩
structure IdxFrom (lo : Nat) (H : AHeap) (ew rv av uv dv : AVal) (x : Idx) : Prop where
 es : From lo H ew 4 (edgeCells x.es)
 rank : From lo H rv 1 (ints x.rank)
 arcs : From lo H av 7 (arcCells x.arcs)
 up : FromRows lo H uv x.up
 down : FromRows lo H dv x.down
theorem IdxFrom.M {lo : Nat} {M : Nat → Prop} {H H' : AHeap} {ew rv av uv dv : AVal} {x : Idx} (h : IdxFrom lo H ew rv av uv dv x) (hk : Keep M H H') (hM : ∀ j, M j → j < lo) : IdxFrom lo H' ew rv av uv dv x := ⟨h.es.M hk hM, h.rank.M hk hM, h.arcs.M hk hM, h.up.M hk hM, h.down.M hk hM⟩
theorem IdxFrom.kept {lo : Nat} {H H' : AHeap} {ew rv av uv dv : AVal} {x : Idx} (h : IdxFrom lo H ew rv av uv dv x) (hk : Keep Nothing H H') : IdxFrom lo H' ew rv av uv dv x := h.M hk (fun _ h => h.elim)
theorem IdxFrom.idx {lo : Nat} {H : AHeap} {ew rv av uv dv : AVal} {x : Idx} (h : IdxFrom lo H ew rv av uv dv x) : IdxAt H ew rv av uv dv x := ⟨h.es.1, h.rank.1, h.arcs.1, h.up.rows, h.down.rows⟩
def RowsAt (lo : Nat) (H : AHeap) (av : AVal) (us : List AVal) (ul : List (List Int)) : Prop := ∀ (v : Nat) r l, us[v]? = some r → ul[v]? = some l → Row H r 1 (ints l) ∧ ∀ j, sid r = some j → lo ≤ j ∧ sid av ≠ some j
theorem RowsAt.M {lo : Nat} {M : Nat → Prop} {H H' : AHeap} {av av' : AVal} {us : List AVal} {ul : List (List Int)} (h : RowsAt lo H av us ul) (hk : Keep M H H') (hM : ∀ j, M j → j < lo ∨ sid av = some j) (ha : sid av' = sid av ∨ ∃ y, sid av' = some y ∧ H.next ≤ y) : RowsAt lo H' av' us ul := by
 intro v r l h1 h2
 obtain ⟨h3, h4⟩ := h v r l h1 h2
 refine ⟨h3.M hk (fun j hj hm => ?_), fun j hj => ⟨(h4 j hj).1, fun e => ?_⟩⟩
 ·rcases hM j hm with h | h
  ·have := (h4 j hj).1; omega
  ·exact (h4 j hj).2 h
 ·rcases ha with ha | ⟨y, ha, hy⟩
  ·rw [ha] at e; exact (h4 j hj).2 e
  ·rw [ha] at e; injection e with e; subst e
   have := h3.sid_lt hj
   omega
theorem RowsAt.set {lo : Nat} {H : AHeap} {av r : AVal} {us : List AVal} {ul : List (List Int)} {l : List Int} {v : Nat} (h : RowsAt lo H av us ul) (hr : Row H r 1 (ints l)) (hs : ∀ j, sid r = some j → lo ≤ j ∧ sid av ≠ some j) (hlen : us.length = ul.length) : RowsAt lo H av (us.set v r) (ul.set v l) := by
 intro w q m h1 h2
 rw [List.getElem?_set] at h1 h2
 by_cases hvw : v = w
 ·subst hvw
  rw [if_pos rfl] at h1 h2
  by_cases hl : v < us.length
  ·rw [if_pos hl] at h1; rw [if_pos (by omega)] at h2
   injection h1 with h1; injection h2 with h2; subst h1; subst h2
   exact ⟨hr, hs⟩
  ·rw [if_neg hl] at h1; cases h1
 ·rw [if_neg hvw] at h1 h2
  exact h w q m h1 h2
theorem reps_false (n : Nat) : reps [.bool false] n = bools (List.replicate n false) := by
 induction n with
 | zero => rfl
 | succ n ih => simp [reps, ih, bools, List.replicate_succ]
end Go.Proofs.Ytknhlpmmalcchaa

namespace Go.Proofs.Ytknhlpmmalcchaa
open Go Go.VAI
set_option linter.unusedSimpArgs false

end Go.Proofs.Ytknhlpmmalcchaa

namespace Go.Proofs.Ytknhlpmmalcchaa
open Go Go.VAI
set_option linter.unusedSimpArgs false

structure EncAt (H0 H : AHeap) (x : List AVal) (bv : AVal) (bs : List Int) : Prop where
 keep : Keep Nothing H0 H
 lt : H0.next + 3 ≤ H.next
 box : H.obj H0.next = some (.cells x true)
 w : H.obj (H0.next + 1 + 1) = some (.cells [bv] true)
 own : Own (H0.next + 1) H bv 1 (u8s bs)
 ne : sid bv ≠ some (H0.next + 1 + 1)
theorem EncAt.kept {H0 H H' : AHeap} {x : List AVal} {bv : AVal} {bs : List Int} (h : EncAt H0 H x bv bs) (hk : Keep Nothing H H') : EncAt H0 H' x bv bs := by
 have := h.lt
 exact ⟨h.keep.trans hk, by have := hk.next; omega, by rw [hk.old (by omega)]; exact h.box, by rw [hk.old (by omega)]; exact h.w, h.own.kept hk, h.ne⟩
end Go.Proofs.Ytknhlpmmalcchaa

namespace Go.Proofs.Ytknhlpmmalcchaa
open Go Go.VAI
set_option linter.unusedSimpArgs false

def mkN (size : Int) : Nat := (1 + size % 12).toNat
def mkEs (size modes : Int) (xs : List Int) : List Edge := (xs.take 40).map (mkEdge (1 + size % 12) modes)
theorem mkN_eq (size : Int) : ((mkN size : Nat) : Int) = 1 + size % 12 := by unfold mkN; omega
theorem mk_net (size modes : Int) (xs : List Int) : NetOk (mkN size : Nat) (mkEs size modes xs) := by
 rw [mkN_eq]
 have h1 : 0 ≤ size % 12 := by omega
 have h2 : size % 12 < 12 := by omega
 refine ⟨by omega, by omega, by simp [mkEs]; omega, fun e he => ?_⟩
 simp only [mkEs, List.mem_map] at he
 obtain ⟨k, _, rfl⟩ := he
 have a1 := Int.emod_nonneg k (show 1 + size % 12 ≠ 0 by omega)
 have a2 := Int.emod_lt_of_pos k (show 0 < 1 + size % 12 by omega)
 have b1 := Int.emod_nonneg (k.tdiv 13) (show 1 + size % 12 ≠ 0 by omega)
 have b2 := Int.emod_lt_of_pos (k.tdiv 13) (show 0 < 1 + size % 12 by omega)
 refine ⟨⟨a1, a2⟩, ⟨b1, b2⟩, ?_, ?_⟩
 ·simp only [mkEdge]
  generalize k % (1 + size % 12) + k.tdiv 13 % (1 + size % 12) = p
  generalize k.tdiv 170 % 5 * (k % (1 + size % 12)) = q
  split
  ·omega
  ·split <;> omega
 ·simp only [mkEdge]
  split <;> omega
theorem mk_small (size : Int) : mkN size ≤ 21 := by unfold mkN; omega
theorem idx_allowed {N : Nat} {es : List Edge} (h : NetOk N es) (hN : N ≤ 21) : Allowed (idxOf N es) := by
 obtain ⟨cur, ex, hb⟩ := built (l := orderAll N es) (fun e he => by
  obtain ⟨a1, a2, a3, a4⟩ := h.2.2.2 e he
  exact ⟨a1, a2, a3, a4.1⟩) (orderOf_ok N es _)
 exact built_allowed h (orderOf_ok N es _) hN hb
end Go.Proofs.Ytknhlpmmalcchaa

namespace Go.Proofs.Ytknhlpmmalcchaa
open Go Go.VAI
set_option linter.unusedSimpArgs false

structure RS where
 left : List Int
 bad : Bool
 deriving DecidableEq, Inhabited
def Bytes (l : List Int) : Prop := ∀ b ∈ l, 0 ≤ b ∧ b < 256
def RdAt (H : AHeap) (w : Nat) (src : Option Nat) (s : RS) : Prop := ∃ lv, H.obj w = some (.cells [lv, .bool s.bad] true) ∧ RowC H lv 1 (u8s s.left) ∧ sid lv = src ∧ w < H.next ∧ src ≠ some w ∧ Bytes s.left ∧ s.left.length ≤ 4611686018427387904
theorem RdAt.M {M : Nat → Prop} {H H' : AHeap} {w : Nat} {src : Option Nat} {s : RS} (h : RdAt H w src s) (hk : Keep M H H') (hw : ¬ M w) (hs : ∀ j, src = some j → ¬ M j) : RdAt H' w src s := by
 obtain ⟨lv, h1, h2, h3, h4, h5, h6, h7⟩ := h
 exact ⟨lv, by rw [hk.obj w h4 hw]; exact h1, h2.M hk (fun j hj => hs j (by rw [← h3]; exact hj)), h3, by have := hk.next; omega, h5, h6, h7⟩
theorem RdAt.kept {H H' : AHeap} {w : Nat} {src : Option Nat} {s : RS} (h : RdAt H w src s) (hk : Keep Nothing H H') : RdAt H' w src s := h.M hk (fun h => h) (fun _ _ h => h)
end Go.Proofs.Ytknhlpmmalcchaa

namespace Go.Proofs.Ytknhlpmmalcchaa
open Go Go.VAI
set_option linter.unusedSimpArgs false

theorem RdAt.bytes {H : AHeap} {w : Nat} {src : Option Nat} {s : RS} (h : RdAt H w src s) : Bytes s.left := by
 obtain ⟨lv, h1, h2, h3, h4, h5, h6, h7⟩ := h
 exact h6
theorem RdAt.lt {H : AHeap} {w : Nat} {src : Option Nat} {s : RS} (h : RdAt H w src s) : w < H.next := by
 obtain ⟨lv, h1, h2, h3, h4, h5, h6, h7⟩ := h
 exact h4
structure RW (H0 H : AHeap) (w : Nat) (src : Option Nat) (s : RS) (p q : Nat) (cs zs : List AVal) : Prop where
 keep : Keep (fun j => j = w) H0 H
 rd : RdAt H w src s
 o1 : H.obj p = some (.cells cs true)
 o2 : H.obj q = some (.cells zs true)
 lp : H0.next ≤ p ∧ p < H.next
 lq : H0.next ≤ q ∧ q < H.next
 ne : p ≠ q
 lw : w < H0.next
 ls : ∀ j, src = some j → j < H0.next
theorem RW.set {H0 H : AHeap} {w p q : Nat} {src : Option Nat} {s : RS} {cs zs : List AVal} (h : RW H0 H w src s p q cs zs) (cs' : List AVal) : RW H0 (H.upd p (some (.cells cs' true))) w src s p q cs' zs := by
 have l1 := h.lp
 have l2 := h.lq
 have l3 := h.lw
 have kk : Keep (fun j => j = p) H (H.upd p (some (.cells cs' true))) := (Keep.refl (fun j => j = p) _).upd (.inr rfl) _
 refine ⟨h.keep.upd (.inl l1.1) _, h.rd.M kk (by omega) (fun j hj => by have := h.ls j hj; omega), obj_upd_eq rfl, ?_, l1, l2, h.ne, h.lw, h.ls⟩
 rw [obj_upd_ne (fun e => h.ne e.symm)]; exact h.o2
end Go.Proofs.Ytknhlpmmalcchaa

namespace Go.Proofs.Ytknhlpmmalcchaa
open Go Go.VAI
set_option linter.unusedSimpArgs false

theorem cloneE_ret {v : AVal} {es : List Edge} {H : AHeap} {Q : AVal → AHeap → Prop} (hr : Row H v 4 (edgeCells es)) (hlen : es.length ≤ 1000000000)
  (hq : ∀ v' H', Keep Nothing H H' → Own H.next H' v' 4 (edgeCells es) → Q v' H') : Ret A 69 [v] H Q := by
 refine Ret.of (fn := F69) rfl ?_
 rcases hr.nilTest with ⟨rfl, h1, _⟩ | h1
 ·simp (disch := first | omega | (simp only [nx] <;> omega) | fail) only [vaw, F69, Nat.reduceAdd, Nat.reduceMul, Nat.reduceLeDiff, Nat.reduceEqDiff, ↓reduceIte]
  refine hq _ _ (.refl _ _) ?_
  rw [h1]; exact .nil
 ·simp (disch := first | omega | (simp only [nx] <;> omega) | fail) only [vaw, F69, h1, Nat.reduceAdd, Nat.reduceMul, Nat.reduceLeDiff, Nat.reduceEqDiff, ↓reduceIte]
  refine copy_ret (n := es.length) (by simp (disch := first | omega | (simp only [nx] <;> omega) | fail) only [vaim]) (by first | omega | (simp only [next_new, next_upd]; omega)) (hr.kept ((Keep.refl _ _).new _)) (edgeCells_length es) (by omega) (by omega) (by omega) ?_
  intro v' H' k' g' s'
  simp (disch := first | omega | (simp only [nx] <;> omega) | fail) only [vaw, g'.notBot, Nat.reduceAdd, Nat.reduceMul, Nat.reduceLeDiff, Nat.reduceEqDiff, ↓reduceIte]
  exact hq _ _ (((Keep.refl _ _).new _).trans k') g'
theorem cloneA_ret {v : AVal} {es : List Arc} {H : AHeap} {Q : AVal → AHeap → Prop} (hr : Row H v 7 (arcCells es)) (hlen : es.length ≤ 1000000000)
  (hq : ∀ v' H', Keep Nothing H H' → Own H.next H' v' 7 (arcCells es) → Q v' H') : Ret A 71 [v] H Q := by
 refine Ret.of (fn := F71) rfl ?_
 rcases hr.nilTest with ⟨rfl, h1, _⟩ | h1
 ·simp (disch := first | omega | (simp only [nx] <;> omega) | fail) only [vaw, F71, Nat.reduceAdd, Nat.reduceMul, Nat.reduceLeDiff, Nat.reduceEqDiff, ↓reduceIte]
  refine hq _ _ (.refl _ _) ?_
  rw [h1]; exact .nil
 ·simp (disch := first | omega | (simp only [nx] <;> omega) | fail) only [vaw, F71, h1, Nat.reduceAdd, Nat.reduceMul, Nat.reduceLeDiff, Nat.reduceEqDiff, ↓reduceIte]
  refine copy_ret (n := es.length) (by simp (disch := first | omega | (simp only [nx] <;> omega) | fail) only [vaim]) (by first | omega | (simp only [next_new, next_upd]; omega)) (hr.kept ((Keep.refl _ _).new _)) (arcCells_length es) (by omega) (by omega) (by omega) ?_
  intro v' H' k' g' s'
  simp (disch := first | omega | (simp only [nx] <;> omega) | fail) only [vaw, g'.notBot, Nat.reduceAdd, Nat.reduceMul, Nat.reduceLeDiff, Nat.reduceEqDiff, ↓reduceIte]
  exact hq _ _ (((Keep.refl _ _).new _).trans k') g'
theorem cloneI_ret {v : AVal} {es : List Int} {H : AHeap} {Q : AVal → AHeap → Prop} (hr : Row H v 1 (ints es)) (hlen : es.length ≤ 1000000000)
  (hq : ∀ v' H', Keep Nothing H H' → Own H.next H' v' 1 (ints es) → Q v' H') : Ret A 70 [v] H Q := by
 refine Ret.of (fn := F70) rfl ?_
 rcases hr.nilTest with ⟨rfl, h1, _⟩ | h1
 ·simp (disch := first | omega | (simp only [nx] <;> omega) | fail) only [vaw, F70, Nat.reduceAdd, Nat.reduceMul, Nat.reduceLeDiff, Nat.reduceEqDiff, ↓reduceIte]
  refine hq _ _ (.refl _ _) ?_
  rw [h1]; exact .nil
 ·simp (disch := first | omega | (simp only [nx] <;> omega) | fail) only [vaw, F70, h1, Nat.reduceAdd, Nat.reduceMul, Nat.reduceLeDiff, Nat.reduceEqDiff, ↓reduceIte]
  refine copy_ret (n := es.length) (by simp (disch := first | omega | (simp only [nx] <;> omega) | fail) only [vaim]) (by first | omega | (simp only [next_new, next_upd]; omega)) (hr.kept ((Keep.refl _ _).new _)) (by rw [ints_length]; omega) (by omega) (by omega) (by omega) ?_
  intro v' H' k' g' s'
  simp (disch := first | omega | (simp only [nx] <;> omega) | fail) only [vaw, g'.notBot, Nat.reduceAdd, Nat.reduceMul, Nat.reduceLeDiff, Nat.reduceEqDiff, ↓reduceIte]
  exact hq _ _ (((Keep.refl _ _).new _).trans k') g'
end Go.Proofs.Ytknhlpmmalcchaa

namespace Go.Proofs.Ytknhlpmmalcchaa
open Go Go.VAI
set_option linter.unusedSimpArgs false

def cmpI (x y : Int) : Int := if x < y then -1 else if y < x then 1 else 0
def orOf : List Int → Int
 | [] => 0
 | x :: l => if x ≠ 0 then x else orOf l
theorem isNaN_ret {x : Int} {H : AHeap} {Q : AVal → AHeap → Prop} (hq : Q (.bool false) H) : Ret A 141 [.int .i64 x] H Q := by
 refine Ret.of (fn := F141) rfl ?_
 simp (disch := first | omega | (simp only [nx] <;> omega) | fail) only [vaw, F141, ne_eq, not_true_eq_false, Nat.reduceAdd, Nat.reduceMul, Nat.reduceLeDiff, Nat.reduceEqDiff, ↓reduceIte]
 exact hq
theorem compare_ret {x y : Int} {H : AHeap} {Q : AVal → AHeap → Prop} (hq : Q (.int .i64 (cmpI x y)) H) : Ret A 118 [.int .i64 x, .int .i64 y] H Q := by
 refine Ret.of (fn := F118) rfl ?_
 simp (disch := first | omega | (simp only [nx] <;> omega) | fail) only [vaw, F118, Nat.reduceAdd, Nat.reduceMul, Nat.reduceLeDiff, Nat.reduceEqDiff, ↓reduceIte]
 refine isNaN_ret ?_
 simp (disch := first | omega | (simp only [nx] <;> omega) | fail) only [vaw, Nat.reduceAdd, Nat.reduceMul, Nat.reduceLeDiff, Nat.reduceEqDiff, ↓reduceIte]
 refine isNaN_ret ?_
 unfold cmpI at hq
 by_cases h1 : x < y
 ·rw [if_pos h1] at hq
  simp (disch := first | omega | (simp only [nx] <;> omega) | fail) only [vaw, h1, Nat.reduceAdd, Nat.reduceMul, Nat.reduceLeDiff, Nat.reduceEqDiff, ↓reduceIte]
  exact hq
 by_cases h2 : y < x
 ·rw [if_neg h1, if_pos h2] at hq
  simp (disch := first | omega | (simp only [nx] <;> omega) | fail) only [vaw, h1, h2, Nat.reduceAdd, Nat.reduceMul, Nat.reduceLeDiff, Nat.reduceEqDiff, ↓reduceIte]
  exact hq
 ·rw [if_neg h1, if_neg h2] at hq
  simp (disch := first | omega | (simp only [nx] <;> omega) | fail) only [vaw, h1, h2, Nat.reduceAdd, Nat.reduceMul, Nat.reduceLeDiff, Nat.reduceEqDiff, ↓reduceIte]
  exact hq
theorem orOf_drop {xs : List Int} {i : Nat} {x : Int} (h : xs[i]? = some x) : orOf (xs.drop i) = if x ≠ 0 then x else orOf (xs.drop (i + 1)) := by
 obtain ⟨h1, h2⟩ := List.getElem?_eq_some_iff.1 h
 rw [List.drop_eq_getElem_cons h1, h2, orOf]
theorem or_ret {v : AVal} {xs : List Int} {H : AHeap} {Q : AVal → AHeap → Prop} (hr : Row H v 1 (ints xs)) (hlen : xs.length ≤ 1000000) (hq : Q (.int .i64 (orOf xs)) H) : Ret A 117 [v] H Q := by
 refine Ret.of (fn := F117) rfl ?_
 have hl := hr.len1
 rw [ints_length] at hl
 simp (disch := first | omega | (simp only [nx] <;> omega) | fail) only [vaw, F117, hl, Nat.reduceAdd, Nat.reduceMul, Nat.reduceLeDiff, Nat.reduceEqDiff, ↓reduceIte]
 refine wpx_loop (fun m t H' => ∃ (i : Nat), m = xs.length - i ∧ i ≤ xs.length ∧ t = (bots 3 (.int .i64 0 :: bots 2 (v :: .int .i64 xs.length :: .int .i64 i :: bots 9 ([]))) : Tmps) ∧ H' = H ∧ orOf xs = orOf (xs.drop i)) xs.length ?_ ?_
 ·exact ⟨0, rfl, by omega, rfl, rfl, rfl⟩
 ·rintro m t H1 ⟨i, rfl, hi, rfl, rfl, ho⟩
  by_cases hc : (i : Int) < xs.length
  ·have hil : i < xs.length := by omega
   have hx : xs[i]? = some xs[i] := by simp [hil]
   obtain ⟨id, off, e1, e2, e3⟩ := hr.int_at (k := .i64) hx
   have hd := orOf_drop hx
   generalize xs[i] = x at *
   by_cases h0 : x = 0
   ·simp (disch := first | omega | (simp only [nx] <;> omega) | fail) only [vaw, hc, e1, e3, h0, ne_eq, not_true_eq_false, Nat.reduceAdd, Nat.reduceMul, Nat.reduceLeDiff, Nat.reduceEqDiff, ↓reduceIte]
    rw [if_neg (fun h => h h0)] at hd
    exact ⟨xs.length - (i + 1), by omega, i + 1, rfl, by omega, rfl, by rw [ho, hd]⟩
   ·simp (disch := first | omega | (simp only [nx] <;> omega) | fail) only [vaw, hc, e1, e3, h0, ne_eq, not_false_eq_true, Nat.reduceAdd, Nat.reduceMul, Nat.reduceLeDiff, Nat.reduceEqDiff, ↓reduceIte]
    rw [if_pos h0] at hd
    rw [← hd, ← ho]
    exact hq
  ·have : i = xs.length := by omega
   subst this
   rw [List.drop_length] at ho
   simp (disch := first | omega | (simp only [nx] <;> omega) | fail) only [vaw, hc, Nat.reduceAdd, Nat.reduceMul, Nat.reduceLeDiff, Nat.reduceEqDiff, ↓reduceIte]
   have : orOf xs = 0 := ho
   rw [this] at hq
   exact hq
def rankedCmp (a b : Int × Int) : Int := orOf [cmpI a.2 b.2, cmpI a.1 b.1]
def rcells (a : Int × Int) : List AVal := [.int .i64 a.1, .int .i64 a.2]
theorem before_ret {a b : Int × Int} {H : AHeap} {Q : AVal → AHeap → Prop} (hq : ∀ H', Keep Nothing H H' → Q (.int .i64 (rankedCmp a b)) H') : Ret A 89 [.agg (rcells a), .agg (rcells b)] H Q := by
 refine Ret.of (fn := F89) rfl ?_
 unfold rcells
 simp (disch := first | omega | (simp only [nx] <;> omega) | fail) only [vaw, F89, Nat.reduceAdd, Nat.reduceMul, Nat.reduceLeDiff, Nat.reduceEqDiff, ↓reduceIte]
 refine compare_ret ?_
 simp (disch := first | omega | (simp only [nx] <;> omega) | fail) only [vaw, Nat.reduceAdd, Nat.reduceMul, Nat.reduceLeDiff, Nat.reduceEqDiff, ↓reduceIte]
 refine compare_ret ?_
 simp (disch := first | omega | (simp only [nx] <;> omega) | fail) only [vaw, Nat.reduceAdd, Nat.reduceMul, Nat.reduceLeDiff, Nat.reduceEqDiff, ↓reduceIte]
 refine or_ret (xs := [cmpI a.2 b.2, cmpI a.1 b.1]) (.mk (c := ints [cmpI a.2 b.2, cmpI a.1 b.1]) (by simp only [next_new]; omega) (by simp (disch := first | omega | (simp only [nx] <;> omega) | fail) only [vaim]; rfl) (by simp [ints_length]) rfl) (by simp) ?_
 simp (disch := first | omega | (simp only [nx] <;> omega) | fail) only [vaw, Nat.reduceAdd, Nat.reduceMul, Nat.reduceLeDiff, Nat.reduceEqDiff, ↓reduceIte]
 exact hq _ (((Keep.refl _ _).new _).new _ |>.new _)
theorem rcmp_ret {a b : Int × Int} {H : AHeap} {Q : AVal → AHeap → Prop} (hq : ∀ H', Keep Nothing H H' → Q (.int .i64 (rankedCmp a b)) H') : Ret A 88 [.agg (rcells a), .agg (rcells b)] H Q := by
 refine Ret.of (fn := F88) rfl ?_
 have e1 : (rcells a).length = 2 := rfl
 have e2 : (rcells b).length = 2 := rfl
 have f1 : ((rcells a).drop 0).take 2 = rcells a := rfl
 have f2 : ((rcells b).drop 0).take 2 = rcells b := rfl
 simp (disch := first | omega | (simp only [nx] <;> omega) | fail) only [vaw, F88, e1, e2, f1, f2, Nat.reduceAdd, Nat.reduceMul, Nat.reduceLeDiff, Nat.reduceEqDiff, ↓reduceIte]
 refine before_ret fun H1 k1 => ?_
 simp (disch := first | omega | (simp only [nx] <;> omega) | fail) only [vaw, Nat.reduceAdd, Nat.reduceMul, Nat.reduceLeDiff, Nat.reduceEqDiff, ↓reduceIte]
 exact hq _ ((((Keep.refl _ _).new _).new _).trans k1)
end Go.Proofs.Ytknhlpmmalcchaa

/- Closed facts of the program: what its head says, read as a list of signs (the kernel is slow at a long text's own signs). -/
namespace Go.Proofs.Ytknhlpmmalcchaa
open Go Go.ChangeShapes Go.WideShapes Go.ChangeAt Go.RowKit
set_option maxRecDepth 100000
def headSigns : List Char := List.map Char.ofNat [104, 97, 114, 110, 101, 115, 115, 32, 55, 99, 56, 99, 100, 51, 98, 49, 52, 101, 49, 49, 99, 55, 53, 54, 51, 54, 100, 97, 101, 56, 55, 98, 55, 54, 100, 50, 48, 98, 53, 57, 56, 97, 56, 56, 56, 55, 99, 98, 51, 49, 48, 98, 100, 53, 97, 55, 54, 53, 102, 100, 48, 102, 49, 102, 50, 57, 53, 50, 52, 102, 57, 50, 32, 99, 117, 116, 32, 97, 116, 32, 109, 105, 108, 101, 115, 116, 111, 110, 101, 47, 109, 105, 108, 101, 115, 116, 111, 110, 101, 108, 97, 119, 49, 50, 46, 73, 110, 100, 101, 120, 66, 97, 99, 107, 32, 109, 105, 108, 101, 115, 116, 111, 110, 101, 47, 109, 105, 108, 101, 115, 116, 111, 110, 101, 108, 97, 119, 49, 50, 46, 73, 110, 100, 101, 120, 82, 101, 97, 100, 115, 32, 109, 105, 108, 101, 115, 116, 111, 110, 101, 47, 109, 105, 108, 101, 115, 116, 111, 110, 101, 108, 97, 119, 49, 50, 46, 73, 110, 100, 101, 120, 83, 112, 111, 105, 108, 116, 32, 109, 105, 108, 101, 115, 116, 111, 110, 101, 47, 109, 105, 108, 101, 115, 116, 111, 110, 101, 108, 97, 119, 49, 50, 46, 73, 110, 100, 101, 120, 79, 110, 108, 121, 32, 109, 105, 108, 101, 115, 116, 111, 110, 101, 47, 109, 105, 108, 101, 115, 116, 111, 110, 101, 108, 97, 119, 49, 50, 46, 73, 110, 100, 101, 120, 83, 105, 122, 101, 32, 109, 105, 108, 101, 115, 116, 111, 110, 101, 47, 109, 105, 108, 101, 115, 116, 111, 110, 101, 108, 97, 119, 49, 50, 46, 73, 110, 100, 101, 120, 65, 112, 97, 114, 116, 32, 109, 105, 108, 101, 115, 116, 111, 110, 101, 47, 109, 105, 108, 101, 115, 116, 111, 110, 101, 108, 97, 119, 49, 50, 46, 73, 110, 100, 101, 120, 67, 117, 116, 32, 109, 105, 108, 101, 115, 116, 111, 110, 101, 47, 109, 105, 108, 101, 115, 116, 111, 110, 101, 108, 97, 119, 49, 50, 46, 73, 110, 100, 101, 120, 67, 111, 117, 110, 116, 115, 32, 109, 105, 108, 101, 115, 116, 111, 110, 101, 47, 109, 105, 108, 101, 115, 116, 111, 110, 101, 108, 97, 119, 49, 50, 46, 73, 110, 100, 101, 120, 72, 101, 97, 100, 32, 109, 105, 108, 101, 115, 116, 111, 110, 101, 47, 109, 105, 108, 101, 115, 116, 111, 110, 101, 108, 97, 119, 49, 48, 46, 79, 114, 100, 101, 114, 65, 108, 108, 32, 109, 105, 108, 101, 115, 116, 111, 110, 101, 47, 109, 105, 108, 101, 115, 116, 111, 110, 101, 108, 97, 119, 49, 48, 46, 79, 114, 100, 101, 114, 69, 97, 99, 104, 32, 109, 105, 108, 101, 115, 116, 111, 110, 101, 47, 109, 105, 108, 101, 115, 116, 111, 110, 101, 108, 97, 119, 49, 48, 46, 79, 114, 100, 101, 114, 67, 111, 115, 116, 115, 32, 109, 105, 108, 101, 115, 116, 111, 110, 101, 47, 109, 105, 108, 101, 115, 116, 111, 110, 101, 108, 97, 119, 49, 48, 46, 79, 114, 100, 101, 114, 75, 110, 111, 119, 110, 32, 109, 105, 108, 101, 115, 116, 111, 110, 101, 47, 109, 105, 108, 101, 115, 116, 111, 110, 101, 108, 97, 119, 49, 48, 46, 79, 114, 100, 101, 114, 77, 111, 100, 101, 32, 109, 105, 108, 101, 115, 116, 111, 110, 101, 47, 109, 105, 108, 101, 115, 116, 111, 110, 101, 108, 97, 119, 49, 49, 46, 72, 105, 101, 114, 66, 117, 105, 108, 100, 115, 32, 109, 105, 108, 101, 115, 116, 111, 110, 101, 47, 109, 105, 108, 101, 115, 116, 111, 110, 101, 108, 97, 119, 49, 49, 46, 72, 105, 101, 114, 82, 97, 110, 107, 115, 32, 109, 105, 108, 101, 115, 116, 111, 110, 101, 47, 109, 105, 108, 101, 115, 116, 111, 110, 101, 108, 97, 119, 49, 49, 46, 72, 105, 101, 114, 75, 101, 101, 112, 115, 32, 109, 105, 108, 101, 115, 116, 111, 110, 101, 47, 109, 105, 108, 101, 115, 116, 111, 110, 101, 108, 97, 119, 49, 49, 46, 72, 105, 101, 114, 67, 111, 114, 101, 32, 109, 105, 108, 101, 115, 116, 111, 110, 101, 47, 109, 105, 108, 101, 115, 116, 111, 110, 101, 108, 97, 119, 49, 49, 46, 72, 105, 101, 114, 67, 111, 115, 116, 115, 32, 109, 105, 108, 101, 115, 116, 111, 110, 101, 47, 109, 105, 108, 101, 115, 116, 111, 110, 101, 108, 97, 119, 49, 49, 46, 72, 105, 101, 114, 65, 114, 99, 115, 32, 109, 105, 108, 101, 115, 116, 111, 110, 101, 47, 109, 105, 108, 101, 115, 116, 111, 110, 101, 108, 97, 119, 49, 49, 46, 72, 105, 101, 114, 83, 104, 111, 114, 116, 32, 109, 105, 108, 101, 115, 116, 111, 110, 101, 47, 109, 105, 108, 101, 115, 116, 111, 110, 101, 108, 97, 119, 49, 49, 46, 72, 105, 101, 114, 79, 119, 110, 32, 109, 105, 108, 101, 115, 116, 111, 110, 101, 47, 109, 105, 108, 101, 115, 116, 111, 110, 101, 108, 97, 119, 49, 49, 46, 72, 105, 101, 114, 76, 111, 110, 103]
theorem head_eq : Try.prog.initOrder = String.ofList headSigns := by kernel_rfl
theorem head_list : Try.prog.initOrder.toList = headSigns := by rw [head_eq, String.toList_ofList]
theorem head_words : ∃ rest, behindMainWord (wordsSigns headSigns) = "cut".toList :: rest := ⟨(behindMainWord (wordsSigns headSigns)).tail, by kernel_rfl⟩
theorem strip_cut (rest : List (List Char)) : stripLifts liftWords ("cut".toList :: rest) = ([], "cut".toList :: rest) := by kernel_rfl
theorem ne1 : ("cut".toList == "gc".toList) = false := by kernel_rfl
theorem ne2 : ("cut".toList == "spec".toList) = false := by kernel_rfl
theorem ne3 : ("cut".toList == "carried".toList) = false := by kernel_rfl
theorem words_of : ∃ rest, behindMainWord (wordsSigns Try.prog.initOrder.toList) = "cut".toList :: rest := by
 obtain ⟨rest, h⟩ := head_words
 exact ⟨rest, (congrArg (fun l => behindMainWord (wordsSigns l)) head_list).trans h⟩
theorem make_of (P : Program) (rest : List (List Char)) (h : behindMainWord (wordsSigns P.initOrder.toList) = "cut".toList :: rest) : P.make = some .cut := by
 unfold Program.make
 rw [h]
 simp only [ne1, ne2, beq_self_eq_true, Bool.false_or, Bool.true_or, Bool.or_self, Bool.false_eq_true, if_true, if_false]
theorem lifts_of (P : Program) (rest : List (List Char)) (h : behindMainWord (wordsSigns P.initOrder.toList) = "cut".toList :: rest) : P.liftsFinal = false := by
 unfold Program.liftsFinal Program.headLifts
 rw [h]
 have e : ((some "cut".toList : Option (List Char)) == some "carried".toList) = false := by kernel_rfl
 simp only [strip_cut, List.head?_cons, beq_self_eq_true, if_true, e, Bool.false_and, Bool.false_or]
 rfl
theorem enter_of (P : Program) (rest : List (List Char)) (h : behindMainWord (wordsSigns P.initOrder.toList) = "cut".toList :: rest) (h1 : P.laysLater = false) (h2 : P.bearsReflect = false) (h3 : P.doorFits [] = true) : P.mayEnter = true := by
 unfold Program.mayEnter
 rw [h]
 simp only [strip_cut, ne1, ne2, ne3, h1, h2, h3, List.head?_cons, beq_self_eq_true, Bool.false_or, Bool.or_false, Bool.false_and, Bool.true_and, Bool.and_true, Bool.not_false, Bool.or_true, List.contains_nil]
theorem fact_make : Try.prog.make = some .cut := by
 obtain ⟨rest, h⟩ := words_of
 exact make_of _ _ h
theorem fact_lifts : Try.prog.liftsFinal = false := by
 obtain ⟨rest, h⟩ := words_of
 exact lifts_of _ _ h
theorem fact_later : Try.prog.laysLater = false := by kernel_rfl
theorem fact_reflect : Try.prog.bearsReflect = false := by kernel_rfl
theorem fact_door : Try.prog.doorFits [] = true := by kernel_rfl
theorem fact_enter : Try.prog.mayEnter = true := by
 obtain ⟨rest, h⟩ := words_of
 exact enter_of _ _ h fact_later fact_reflect fact_door
theorem fact_laid : laidOutB Try.prog = true := by kernel_rfl
theorem fact_maps : mapsRowed Try.prog = true := by kernel_rfl
theorem fact_heard : Try.prog.stopsHeard = true := by kernel_rfl
theorem own : ownKnob Try.prog.godebug = none := by kernel_rfl
theorem follows : Try.prog.follows .mixedOrders = true := by kernel_rfl
end Go.Proofs.Ytknhlpmmalcchaa

/- Sorting a row of keys: the library's own contract, laid at this program (written out by the kit's lay-plain). -/
namespace Go.Proofs
open Go.Shelf
def Try.sortKey_ren : Go.Shelf.Ren := ⟨fun | 6 => 119 | 15 => 116 | 14 => 142 | 28 => 139 | 29 => 140 | 20 => 149 | 21 => 150 | 22 => 151 | 23 => 152 | 24 => 153 | 25 => 154 | 26 => 155 | 27 => 156 | 46 => 158 | 47 => 145 | 48 => 146 | 49 => 159 | 50 => 160 | 57 => 161 | n => n, fun | 22 => 150 | 24 => 124 | 25 => 153 | 3 => 3 | 39 => 72 | 0 => 0 | 53 => 144 | 55 => 146 | 4 => 4 | 46 => 163 | 45 => 162 | 50 => 151 | 5 => 5 | 9 => 9 | 66 => 170 | 70 => 174 | 76 => 181 | 77 => 182 | n => n, fun | n => n⟩
theorem Try.sortKey : Go.Proofs.SlLaysF0.n6 Try.prog Try.sortKey_ren := {
 mixed := by kernel_rfl
 f6 := ⟨Try.f119.name, by decide, Try.func119.trans (congrArg some (by kernel_rfl))⟩
 f14 := ⟨Try.f142.name, by decide, Try.func142.trans (congrArg some (by kernel_rfl))⟩
 f15 := Try.func116.trans (congrArg some (by kernel_rfl))
 f20 := ⟨Try.f149.name, by decide, Try.func149.trans (congrArg some (by kernel_rfl))⟩
 f21 := ⟨Try.f150.name, by decide, Try.func150.trans (congrArg some (by kernel_rfl))⟩
 f22 := ⟨Try.f151.name, by decide, Try.func151.trans (congrArg some (by kernel_rfl))⟩
 f23 := ⟨Try.f152.name, by decide, Try.func152.trans (congrArg some (by kernel_rfl))⟩
 f24 := ⟨Try.f153.name, by decide, Try.func153.trans (congrArg some (by kernel_rfl))⟩
 f25 := ⟨Try.f154.name, by decide, Try.func154.trans (congrArg some (by kernel_rfl))⟩
 f26 := ⟨Try.f155.name, by decide, Try.func155.trans (congrArg some (by kernel_rfl))⟩
 f27 := ⟨Try.f156.name, by decide, Try.func156.trans (congrArg some (by kernel_rfl))⟩
 f28 := Try.func139.trans (congrArg some (by kernel_rfl))
 f29 := Try.func140.trans (congrArg some (by kernel_rfl))
 f46 := ⟨Try.f158.name, by decide, Try.func158.trans (congrArg some (by kernel_rfl))⟩
 f47 := Try.func145.trans (congrArg some (by kernel_rfl))
 f48 := Try.func146.trans (congrArg some (by kernel_rfl))
 f49 := ⟨Try.f159.name, by decide, Try.func159.trans (congrArg some (by kernel_rfl))⟩
 f50 := ⟨Try.f160.name, by decide, Try.func160.trans (congrArg some (by kernel_rfl))⟩
 f57 := ⟨Try.f161.name, by decide, Try.func161.trans (congrArg some (by kernel_rfl))⟩
 t0 := Try.underlying0
 a0 := Try.isAgg0
 z0 := Try.sizeOf0
 v0 := Try.zeroValue0
 t3 := Try.underlying3
 a3 := Try.isAgg3
 z3 := Try.sizeOf3
 v3 := Try.zeroValue3
 t4 := Try.underlying4
 a4 := Try.isAgg4
 z4 := Try.sizeOf4
 v4 := Try.zeroValue4
 t5 := Try.underlying5
 a5 := Try.isAgg5
 z5 := Try.sizeOf5
 v5 := Try.zeroValue5
 t9 := Try.underlying9
 a9 := Try.isAgg9
 z9 := Try.sizeOf9
 v9 := Try.zeroValue9
 t22 := Try.underlying150
 a22 := Try.isAgg150
 z22 := Try.sizeOf150
 v22 := Try.zeroValue150
 t25 := Try.underlying153
 a25 := Try.isAgg153
 z25 := Try.sizeOf153
 v25 := Try.zeroValue153
 t39 := Try.underlying72
 a39 := Try.isAgg72
 z39 := Try.sizeOf72
 v39 := Try.zeroValue72
 t45 := Try.underlying162
 a45 := Try.isAgg162
 z45 := Try.sizeOf162
 v45 := Try.zeroValue162
 t46 := Try.underlying163
 a46 := Try.isAgg163
 z46 := Try.sizeOf163
 v46 := Try.zeroValue163
 t50 := Try.underlying151
 a50 := Try.isAgg151
 z50 := Try.sizeOf151
 v50 := Try.zeroValue151
 t53 := Try.underlying144
 a53 := Try.isAgg144
 z53 := Try.sizeOf144
 v53 := Try.zeroValue144
 t55 := Try.underlying146
 a55 := Try.isAgg146
 z55 := Try.sizeOf146
 v55 := Try.zeroValue146
 t66 := Try.underlying170
 a66 := Try.isAgg170
 z66 := Try.sizeOf170
 v66 := Try.zeroValue170
 t70 := Try.underlying174
 a70 := Try.isAgg174
 z70 := Try.sizeOf174
 v70 := Try.zeroValue174
 t76 := Try.underlying181
 a76 := Try.isAgg181
 z76 := Try.sizeOf181
 v76 := Try.zeroValue181
 t77 := Try.underlying182
 a77 := Try.isAgg182
 z77 := Try.sizeOf182
 v77 := Try.zeroValue182 }
end Go.Proofs

namespace Go.Proofs.Ytknhlpmmalcchaa
open Go Go.VAI
set_option linter.unusedSimpArgs false

theorem keyCmp_or (x y : Key) : orOf [cmpI x.1 y.1, cmpI x.2.1 y.2.1, cmpI x.2.2 y.2.2] = keyCmp x y := by
 unfold keyCmp
 simp only [orOf, cmpI]
 repeat' split
 all_goals first | rfl | omega
theorem by_ret {x y : Key} {H : AHeap} {Q : AVal → AHeap → Prop} (hq : ∀ H', Keep Nothing H H' → Q (.int .i64 (keyCmp x y)) H') : Ret A 120 [.agg (keyCell x), .agg (keyCell y)] H Q := by
 refine Ret.of (fn := F120) rfl ?_
 unfold keyCell
 simp (disch := first | omega | (simp only [nx] <;> omega) | fail) only [vaw, F120, Nat.reduceAdd, Nat.reduceMul, Nat.reduceLeDiff, Nat.reduceEqDiff, ↓reduceIte]
 refine compare_ret ?_
 simp (disch := first | omega | (simp only [nx] <;> omega) | fail) only [vaw, Nat.reduceAdd, Nat.reduceMul, Nat.reduceLeDiff, Nat.reduceEqDiff, ↓reduceIte]
 refine compare_ret ?_
 simp (disch := first | omega | (simp only [nx] <;> omega) | fail) only [vaw, Nat.reduceAdd, Nat.reduceMul, Nat.reduceLeDiff, Nat.reduceEqDiff, ↓reduceIte]
 refine compare_ret ?_
 simp (disch := first | omega | (simp only [nx] <;> omega) | fail) only [vaw, Nat.reduceAdd, Nat.reduceMul, Nat.reduceLeDiff, Nat.reduceEqDiff, ↓reduceIte]
 refine or_ret (xs := [cmpI x.1 y.1, cmpI x.2.1 y.2.1, cmpI x.2.2 y.2.2]) (.mk (c := ints [cmpI x.1 y.1, cmpI x.2.1 y.2.1, cmpI x.2.2 y.2.2]) (by simp only [next_new]; omega) (by simp (disch := first | omega | (simp only [nx] <;> omega) | fail) only [vaim]; rfl) (by simp [ints_length]) rfl) (by simp) ?_
 simp (disch := first | omega | (simp only [nx] <;> omega) | fail) only [vaw, Nat.reduceAdd, Nat.reduceMul, Nat.reduceLeDiff, Nat.reduceEqDiff, ↓reduceIte]
 rw [keyCmp_or]
 exact hq _ (((Keep.refl _ _).new _).new _ |>.new _)
def encK (k : Key) : List Value := [.int .i64 k.1, .int .i64 k.2.1, .int .i64 k.2.2]
theorem by_lays (x y : Key) (W : World) : Calls Try.prog 120 #[.agg (encK x).toArray, .agg (encK y).toArray] W fun e w' => e = .returned (.int .i64 (keyCmp x y)) ∧ ∃ q os, w' = Go.Sort.grow (W.drewN q) os := by
 obtain ⟨n, ⟨v, H'⟩, h1, h2⟩ := by_ret (x := x) (y := y) (H := ⟨fun _ => none, 0⟩) (Q := fun v _ => v = .int .i64 (keyCmp x y)) (fun _ _ => rfl)
 simp only at h2
 subst h2
 obtain ⟨_, hc⟩ := callA_ok follows tab_ok A_ok n 120 _ _ _ _ h1
 have hus : VRels (fun _ => none) [AVal.agg (keyCell x), .agg (keyCell y)] [.agg (encK x).toArray, .agg (encK y).toArray] := by
  refine .cons ?_ (.cons ?_ .nil) <;>
  ·simp only [VRel]
   refine ⟨_, rfl, .cons (by simp only [VRel]) (.cons (by simp only [VRel]) (.cons (by simp only [VRel]) .nil)), ?_⟩
   intro c hc
   simp only [keyCell, List.mem_cons, List.not_mem_nil, or_false] at hc
   rcases hc with rfl | rfl | rfl <;> rfl
 refine (hc _ _ W _ (hrel_none W) hus).mono fun e w' => ?_
 rintro ⟨v', rfl, ρ', hv, hs⟩
 simp only [VRel] at hv
 subst hv
 exact ⟨rfl, beneath_grow hs.below⟩
end Go.Proofs.Ytknhlpmmalcchaa

namespace Go.Proofs.Ytknhlpmmalcchaa
open Go Go.VAI Go.Sort
set_option linter.unusedSimpArgs false

theorem key_at : ∀ (ks : List Key) (j : Nat), j < ks.length * 3 → ∃ z, (keyCells ks)[j]? = some (.int .i64 z) ∧ (encK (ks.toArray[j / 3]!))[j % 3]! = .int .i64 z
 | [], j, h => by simp at h
 | k :: l, 0, h => ⟨k.1, rfl, rfl⟩
 | k :: l, 1, h => ⟨k.2.1, rfl, rfl⟩
 | k :: l, 2, h => ⟨k.2.2, rfl, rfl⟩
 | k :: l, j + 3, h => by
  obtain ⟨z, h1, h2⟩ := key_at l j (by simp at h; omega)
  have e1 : (j + 3) / 3 = j / 3 + 1 := by omega
  have e2 : (j + 3) % 3 = j % 3 := by omega
  refine ⟨z, h1, ?_⟩
  rw [e1, e2]
  have hl : j / 3 < l.length := by simp at h; omega
  have e3 : (k :: l).toArray[j / 3 + 1]! = l.toArray[j / 3]! := by
   rw [getElem!_pos _ _ (by simp; omega), getElem!_pos _ _ (by simpa using hl)]
   simp
  rw [e3]
  exact h2
theorem keyCells_length (ks : List Key) : (keyCells ks).length = ks.length * 3 := by
 induction ks with
 | nil => rfl
 | cons k l ih =>
  show (keyCell k ++ keyCells l).length = _
  rw [List.length_append, ih]
  simp [keyCell]
  omega
theorem ltOf_keyCmp (x y : Key) : ltOf keyCmp x y = keyLt x y := rfl
theorem keyCmp_neg {x y : Key} : keyCmp x y < 0 ↔ x.1 < y.1 ∨ (x.1 = y.1 ∧ (x.2.1 < y.2.1 ∨ (x.2.1 = y.2.1 ∧ x.2.2 < y.2.2))) := by
 unfold keyCmp
 repeat' split
 all_goals omega
theorem keyLt_iff {x y : Key} : keyLt x y = true ↔ x.1 < y.1 ∨ (x.1 = y.1 ∧ (x.2.1 < y.2.1 ∨ (x.2.1 = y.2.1 ∧ x.2.2 < y.2.2))) := by
 unfold keyLt
 rw [decide_eq_true_iff, keyCmp_neg]
theorem keyLt_not {x y : Key} : keyLt x y = false ↔ ¬ (x.1 < y.1 ∨ (x.1 = y.1 ∧ (x.2.1 < y.2.1 ∨ (x.2.1 = y.2.1 ∧ x.2.2 < y.2.2)))) := by
 rw [← keyLt_iff, Bool.not_eq_true]
theorem key_swo : SWO (ltOf keyCmp) where
 irrefl x := by rw [ltOf_keyCmp, keyLt_not]; omega
 trans x y z h1 h2 := by rw [ltOf_keyCmp] at *; rw [keyLt_iff] at *; omega
 ntrans x y z h1 h2 := by rw [ltOf_keyCmp] at *; rw [keyLt_not] at *; omega
theorem key_one (x y : Key) (h1 : ltOf keyCmp x y = false) (h2 : ltOf keyCmp y x = false) : x = y := by
 rw [ltOf_keyCmp, keyLt_not] at h1 h2
 obtain ⟨a, b, c⟩ := x
 obtain ⟨a', b', c'⟩ := y
 simp only at h1 h2
 have : a = a' ∧ b = b' ∧ c = c' := by omega
 obtain ⟨rfl, rfl, rfl⟩ := this
 rfl
theorem enters120 : ∀ (args : Array Value) (w : World), (callFunc 120 args).run Try.prog w = .ok (.enter 120 args) w := enters_of Try.func120 (by kernel_rfl) rfl
theorem sort_at {H : AHeap} {id len : Nat} {ks : List Key} {cap : ACap} (ho : H.obj id = some (.cells (keyCells ks) true)) (hl : ks.length = len) (h0 : 0 < len) (hsz : len ≤ 1000000) :
  CallAt Try.prog 119 [.slice id 0 len cap, .func (.func 120) [] []] H (.tuple []) (H.upd id (some (.cells (keyCells (sortKeys ks)) true))) := by
 refine ⟨⟨_, _, Try.func119, rfl, by kernel_rfl⟩, fun ρ B w us hH hus => ?_⟩
 obtain ⟨v1, us1, rfl, r1, hus⟩ := hus.cons_inv
 obtain ⟨v2, us2, rfl, r2, hus⟩ := hus.cons_inv
 have := hus.nil_inv
 subst this
 simp only [VRel] at r2
 obtain ⟨x, y, rfl, hx, hy⟩ := r2
 have := hx.nil_inv
 subst this
 have := hy.nil_inv
 subst this
 have hs : ∃ l c, ρ id = some l ∧ v1 = .slice (some ⟨l.b, l.o, none⟩) len c := by
  cases cap with
  | exact n =>
   simp only [VRel] at r1
   obtain ⟨l, p, h1, rfl, h2, h3⟩ := r1
   refine ⟨l, n, h1, ?_⟩
   have : p = l.o := by omega
   rw [this]
  | room s =>
   simp only [VRel] at r1
   obtain ⟨l, c, p, h1, rfl, h2, h3⟩ := r1
   refine ⟨l, c, h1, ?_⟩
   have : p = l.o := by omega
   rw [this]
 obtain ⟨l, c, hid, rfl⟩ := hs
 obtain ⟨hB, hcr, hfit, arr, E, fz, hblk, hsize, hfz⟩ := hH.obj id l _ hid ho
 have hlt := (hH.dom id l hid).2
 have hkl := keyCells_length ks
 have hK : HoldsK encK 3 w l.b l.o ks.toArray := by
  intro j hj
  have hj3 : j < ks.length * 3 := by simpa using hj
  obtain ⟨z, z1, z2⟩ := key_at ks j hj3
  obtain ⟨u, u1, u2⟩ := hcr.2 j _ z1
  simp only [VRel] at u2
  subst u2
  refine ⟨?_, ?_⟩
  ·rw [u1, get_flatK _ _ _ _ (by simpa using hj3)]
   exact congrArg some z2.symm
  ·simp only [World.frozen?, hblk]
   simp only [Bool.and_eq_false_iff, decide_eq_false_iff_not]
   omega
 have hcon := AnyQ.slices_SortFunc_total Try.sortKey 3 Try.isAgg124 Try.sizeOf124 encK (fun _ => rfl) (fun x v hv => by simp only [encK, List.mem_cons, List.not_mem_nil, or_false] at hv; rcases hv with rfl | rfl | rfl <;> rfl) keyCmp key_swo 120 #[] l.b l.o c ks.toArray w enters120 (fun m os dk hdk x y => by_lays x y _) hK hlt (by simp; omega) key_one
 change Calls Try.prog 119 _ _ _ at hcon
 have hsz2 : ks.toArray.size = len := by simp [hl]
 rw [hsz2] at hcon
 refine hcon.mono fun e w' => ?_
 rintro ⟨rfl, n, os, rfl⟩
 refine ⟨_, rfl, ρ, ?_, ?_⟩
 ·simp only [VRel]
  exact ⟨[], rfl, .nil⟩
 have hto : (ks.toArray.toList.mergeSort fun x y => !ltOf keyCmp y x).toArray = (sortKeys ks).toArray := by simp [sortKeys, ltOf_keyCmp]
 rw [hto]
 have hsl : (sortKeys ks).length = ks.length := by simp [sortKeys]
 have hS := holdsK_sortWorldK_c encK 3 w l.b l.o ks.toArray (sortKeys ks).toArray n os hK hlt (by simp [hsl])
 have hz := size_sortWorldK_c encK 3 w l.b l.o n (sortKeys ks).toArray os
 have hold : ∀ k, k < w.heap.size → (sortWorldK encK 3 w l.b l.o n (sortKeys ks).toArray os).heap[k]? = (mapBlock w l.b (putCells _root_.id l.o (flatK encK 3 (sortKeys ks).toArray))).heap[k]? := fun k hk => by
  unfold sortWorldK
  rw [heap_grow_old _ _ (by rw [size_putRowK]; exact hk)]
  rfl
 have hmod : ∀ k, (mapBlock w l.b (putCells _root_.id l.o (flatK encK 3 (sortKeys ks).toArray))).heap[k]? = if l.b = k then (w.heap[k]?).map (onCells (putCells _root_.id l.o (flatK encK 3 (sortKeys ks).toArray))) else w.heap[k]? := fun k => by
  unfold mapBlock
  rw [Array.getElem?_modify]
 refine Step.upd hid (rewrite_rel hH hid ho _ hz (fun k hk hne => ?_) ⟨hB, ⟨?_, ?_⟩, ?_, ?_⟩) ⟨⟨rfl, rfl, rfl, hz, fun k hk => ?_⟩, ?_⟩
 ·rw [hold k hk, hmod, if_neg (fun e => hne e.symm)]
 ·intro x hx
  simp only [keyCells, List.mem_flatMap, keyCell, List.mem_cons, List.not_mem_nil, or_false] at hx
  obtain ⟨k, _, rfl | rfl | rfl⟩ := hx <;> rfl
 ·intro i v hv
  have hi : i < (sortKeys ks).length * 3 := by
   rw [← keyCells_length]
   exact (List.getElem?_eq_some_iff.1 hv).1
  obtain ⟨z, z1, z2⟩ := key_at (sortKeys ks) i hi
  rw [z1] at hv
  injection hv with hv
  subst hv
  refine ⟨.int .i64 z, ?_, by simp only [VRel]⟩
  have h := (hS i (by simpa using hi)).1
  rw [get_flatK _ _ _ _ (by simpa using hi)] at h
  rw [h]
  exact congrArg some z2
 ·rw [keyCells_length, hsl, ← hkl]; exact hfit
 ·refine ⟨_, E, fz, by rw [hold _ hlt, hmod, if_pos rfl, hblk]; rfl, ?_, hfz⟩
  rw [← hsize]
  simp [putCells]
 ·have := hH.base
  rw [hold k (by omega), hmod, if_neg (by omega)]
 ·show w.drawn ≤ w.drawn + n
  omega
end Go.Proofs.Ytknhlpmmalcchaa

namespace Go.Proofs.Ytknhlpmmalcchaa
open Go Go.VAI Go.Sort
set_option linter.unusedSimpArgs false

theorem sort_nil_at {H : AHeap} : CallAt Try.prog 119 [.nilSlice, .func (.func 120) [] []] H (.tuple []) H := by
 refine ⟨⟨_, _, Try.func119, rfl, by kernel_rfl⟩, fun ρ B w us hH hus => ?_⟩
 obtain ⟨v1, us1, rfl, r1, hus⟩ := hus.cons_inv
 obtain ⟨v2, us2, rfl, r2, hus⟩ := hus.cons_inv
 have := hus.nil_inv
 subst this
 simp only [VRel] at r1
 subst r1
 have hcon := AnyF.slices_SortFunc_none Try.sortKey none 0 v2 w
 change Calls Try.prog 119 _ _ _ at hcon
 refine hcon.mono fun e w' => ?_
 rintro ⟨rfl, rfl⟩
 refine ⟨_, rfl, ρ, ?_, .refl hH⟩
 simp only [VRel]
 exact ⟨[], rfl, .nil⟩
theorem sortKeys_nil : sortKeys [] = [] := by simp [sortKeys]
theorem sortKeys_length (ks : List Key) : (sortKeys ks).length = ks.length := by simp [sortKeys]
theorem sortF_slice {H : AHeap} {id len : Nat} {ks : List Key} {cap : ACap} (ho : H.obj id = some (.cells (keyCells ks) true)) (hl : ks.length = len) (h0 : 0 < len) (hsz : len ≤ 1000000) : libF 119 120 92 93 122 123 119 [.slice id 0 len cap, .func (.func 120) [] []] H = some (.tuple [], H.upd id (some (.cells (keyCells (sortKeys ks)) true))) := by
 simp only [libF, sortF, if_pos, ho, keysOf_cells, bnd, hl]
 rw [if_pos ⟨trivial, h0, hsz⟩]
theorem sortKeys_ret {lo : Nat} {v : AVal} {ks : List Key} {H : AHeap} {Q : AVal → AHeap → Prop} (hv : Own lo H v 3 (keyCells ks)) (hn : ks = [] → v = .nilSlice) (hb : ks.length ≤ 1000000)
  (hq : ∀ H', H'.next = H.next → (∀ j, sid v ≠ some j → H'.obj j = H.obj j) → Own lo H' v 3 (keyCells (sortKeys ks)) → Q (.tuple []) H') : Ret A 119 [v, .func (.func 120) [] []] H Q := by
 have hkl := keyCells_length ks
 by_cases h0 : ks = []
 ·rw [hn h0]
  refine Ret.lib rfl (show lawful Try.prog (libF 119 120 92 93 122 123) 119 _ H = _ from lawful_eq rfl sort_nil_at) ?_
  refine hq H rfl (fun _ _ => rfl) ?_
  subst h0
  rw [sortKeys_nil]
  exact hv
 ·have hpos : 0 < ks.length := List.length_pos_iff.2 h0
  obtain ⟨cs, hcs⟩ : ∃ cs, cs = keyCells ks := ⟨_, rfl⟩
  rw [← hcs] at hv hkl
  cases hv with
  | nil => simp at hkl; omega
  | @room id len _ _ hlo hhi ho hlen =>
   rw [hcs] at ho
   have hl : ks.length = len := by omega
   refine Ret.lib rfl (show lawful Try.prog (libF 119 120 92 93 122 123) 119 _ H = _ from lawful_eq (sortF_slice ho hl (by omega) (by omega)) (sort_at ho hl (by omega) (by omega))) ?_
   refine hq _ rfl (fun j hj => ?_) (.room hlo hhi (obj_upd_eq rfl) (by rw [keyCells_length, sortKeys_length]; omega))
   exact obj_upd_ne (fun e => hj (by rw [e]; rfl))
  | @full id len _ _ hlo hhi ho hlen =>
   rw [hcs] at ho
   have hl : ks.length = len := by omega
   refine Ret.lib rfl (show lawful Try.prog (libF 119 120 92 93 122 123) 119 _ H = _ from lawful_eq (sortF_slice ho hl (by omega) (by omega)) (sort_at ho hl (by omega) (by omega))) ?_
   refine hq _ rfl (fun j hj => ?_) (.full hlo hhi (obj_upd_eq rfl) (by rw [keyCells_length, sortKeys_length]; omega))
   exact obj_upd_ne (fun e => hj (by rw [e]; rfl))
end Go.Proofs.Ytknhlpmmalcchaa
