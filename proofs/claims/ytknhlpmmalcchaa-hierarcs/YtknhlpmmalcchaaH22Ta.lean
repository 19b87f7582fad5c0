/- Steps of the walk. -/
import Derived.Test.YtknhlpmmalcchaaH22Fa
import Derived.Test.YtknhlpmmalcchaaH22Vba
import Derived.Test.YtknhlpmmalcchaaH22Pa
import Derived.Test.YtknhlpmmalcchaaRows
import Derived.ProofKit
import Derived.Shelf.SlSortCmp.NoneTotal
import Derived.Shelf.SlGeneric
import Derived.Ground.SlsfProg
import Derived.Test.YtknhlpmmalcchaaProg
import Derived.KernelRfl
set_option linter.all false
set_option linter.unusedVariables false
set_option linter.unusedSimpArgs false
namespace Go.Proofs.Ytknhlpmmalcchaa
open Go Go.VAI
theorem tmod_neg {x n : Int} (hn : 0 < n) (h : x.tmod n < 0) : x.tmod n + n = x % n := by
 have h1 := Int.tmod_eq_emod (a := x) (b := n)
 have h2 := Int.emod_nonneg x (show n ≠ 0 by omega)
 have h3 := Int.emod_lt_of_pos x hn
 by_cases hc : 0 ≤ x ∨ n ∣ x
 ·rw [if_pos hc] at h1; omega
 ·rw [if_neg hc] at h1; omega
theorem tmod_pos {x n : Int} (hn : 0 < n) (h : ¬ x.tmod n < 0) : x.tmod n = x % n := by
 have h1 := Int.tmod_eq_emod (a := x) (b := n)
 have h2 := Int.emod_nonneg x (show n ≠ 0 by omega)
 have h3 := Int.emod_lt_of_pos x hn
 by_cases hc : 0 ≤ x ∨ n ∣ x
 ·rw [if_pos hc] at h1; omega
 ·rw [if_neg hc] at h1; omega
theorem within_ret {f : Nat} (hf : A f = some F33) {x n : Int} (hn : 0 < n) (h3 : n < 9223372036854775808) {H : AHeap} {Q : AVal → AHeap → Prop} (hq : Q (.int .i64 (x % n)) H) : Ret A f [.int .i64 x, .int .i64 n] H Q := by
 refine Ret.of (fn := F33) hf ?_
 have hn0 : n ≠ 0 := by omega
 have h2 := Int.emod_nonneg x hn0
 have h4 := Int.emod_lt_of_pos x hn
 simp (disch := omega) only [vai, F33]
 refine condK_split (fun hc => ?_) (fun hc => ?_)
 ·have e := tmod_neg hn hc
  simp (disch := omega) only [vai, e, wrap64]
  exact hq
 ·have e := tmod_pos hn hc
  simp (disch := omega) only [vai, e]
  exact hq
end Go.Proofs.Ytknhlpmmalcchaa

namespace Go.Proofs.Ytknhlpmmalcchaa
open Go Go.VAI
set_option linter.unusedSimpArgs false

def Edge.cells (e : Edge) : List AVal := [.int .i64 e.src, .int .i64 e.dst, .int .i64 e.mode, .int .i64 e.cost]
def edgeCells (l : List Edge) : List AVal := l.flatMap Edge.cells
def mkEdge (n modes k : Int) : Edge :=
 let a := k % n
 let b := k.tdiv 13 % n
 let m := k.tdiv 170 % 5
 { src := a, dst := b, mode := if modes % 3 = 0 then (a + b) % 2 else if modes % 3 = 1 then (m * a) % 3 else m, cost := if k % 31 = 0 then 2147483647 - k.tdiv 31 % 3 else k.tdiv 900 % 9 }
def I64 (x : Int) : Prop := -9223372036854775808 ≤ x ∧ x < 9223372036854775808
theorem tdiv_bd {x c : Int} (h : I64 x) (hc : 0 < c) : -9223372036854775808 ≤ x.tdiv c ∧ x.tdiv c < 9223372036854775808 := by
 obtain ⟨h1, h2⟩ := h
 have h3 := Int.natAbs_tdiv_le_natAbs x c
 constructor
 ·by_cases hx : 0 ≤ x
  ·have := Int.tdiv_nonneg hx (Int.le_of_lt hc); omega
  ·omega
 ·by_cases hx : 0 ≤ x
  ·omega
  ·have h4 := Int.tdiv_nonneg (a := -x) (b := c) (by omega) (Int.le_of_lt hc)
   rw [Int.neg_tdiv] at h4
   omega
theorem edgeCells_length (l : List Edge) : (edgeCells l).length = l.length * 4 := by
 induction l with
 | nil => rfl
 | cons e l ih => simp only [edgeCells, List.flatMap_cons, List.length_append] at ih ⊢; rw [ih]; simp [Edge.cells]; omega

theorem make_ret {size modes : Int} {ns : AVal} {xs : List Int} {H : AHeap} {Q : AVal → AHeap → Prop} (hr : Row H ns 1 (ints xs)) (hx : ∀ x ∈ xs, I64 x) (hx2 : xs.length ≤ 9223372036854775807)
  (hq : ∀ ev H', Keep Nothing H H' → Grown H.next H' ev 4 (edgeCells ((xs.take 40).map (mkEdge (1 + size % 12) modes))) → Q (.agg [.int .i64 (1 + size % 12), ev]) H') : Ret A 28 [.int .i64 size, ns, .int .i64 modes] H Q := by
 refine Ret.of (fn := F28) rfl ?_
 simp (disch := first | omega | (simp only [next_new, next_upd] <;> omega) | fail) only [vai, vaim, wrap64, F28, Nat.reduceAdd, Nat.reduceMul, Nat.reduceLeDiff, Nat.reduceEqDiff, ↓reduceIte]
 refine within_ret rfl (by omega) (by omega) ?_
 have hN1 : 0 ≤ size % 12 := by omega
 have hN2 : size % 12 < 12 := by omega
 simp (disch := first | omega | (simp only [next_new, next_upd] <;> omega) | fail) only [vai, vaim, wrap64, Nat.reduceAdd, Nat.reduceMul, Nat.reduceLeDiff, Nat.reduceEqDiff, ↓reduceIte]
 refine wpx_loop (fun m t H' => ∃ (i : Nat) (ev : AVal), m = xs.length - i ∧ i ≤ xs.length ∧ i ≤ 40 ∧
  t = [.bot, ns, .int .i64 modes, .bot, .bot, .bot, .ptr H.next 0, .ptr (H.next + 1) 0, .int .i64 i] ++ List.replicate 71 .bot ∧ Keep Nothing H H' ∧ H.next + 2 ≤ H'.next ∧
  H'.obj H.next = some (.cells [.int .i64 0, .nilSlice] true) ∧ H'.obj (H.next + 1) = some (.cells [.int .i64 (1 + size % 12), ev] true) ∧ Grown (H.next + 2) H' ev 4 (edgeCells ((xs.take i).map (mkEdge (1 + size % 12) modes)))) xs.length ?_ ?_
 ·refine ⟨0, .nilSlice, rfl, by omega, by omega, rfl, ?_, ?_, ?_, ?_, .nil⟩
  ·exact (((Keep.refl _ _).new _).new _).upd (.inl (by omega)) _
  ·simp only [next_new, next_upd]; exact Nat.le_refl _
  ·simp (disch := first | omega | (simp only [next_new, next_upd] <;> omega) | fail) only [vaim]
  ·simp (disch := first | omega | (simp only [next_new, next_upd] <;> omega) | fail) only [vaim]
 ·rintro m t H1 ⟨i, ev, rfl, hi1, hi2, rfl, hk, hn, h6, h7, hg⟩
  have hr1 : Row H1 ns 1 (ints xs) := hr.kept hk
  have hlen := hr1.len1
  simp only [ints, List.length_map] at hlen
  by_cases hc1 : (i : Int) < xs.length
  ·by_cases hc2 : (i : Int) < 40
   ·have hix : i < xs.length := by omega
    obtain ⟨id, off, e1, hid, e2⟩ := hr1.at1 (j := i) (x := .int .i64 xs[i]) (k := .i64) (by omega) (by simp [ints, hix])
    have hb := hx xs[i] (List.getElem_mem hix)
    have htake : (xs.take (i + 1)).map (mkEdge (1 + size % 12) modes) = (xs.take i).map (mkEdge (1 + size % 12) modes) ++ [mkEdge (1 + size % 12) modes xs[i]] := by
     rw [List.take_succ_eq_append_getElem hix, List.map_append]; rfl
    generalize xs[i] = x at e2 hb htake
    have d13 := tdiv_bd hb (c := 13) (by omega)
    have d170 := tdiv_bd hb (c := 170) (by omega)
    have d900 := tdiv_bd hb (c := 900) (by omega)
    have d31 := tdiv_bd hb (c := 31) (by omega)
    simp (disch := first | omega | (simp only [next_new, next_upd] <;> omega) | fail) only [vai, vaim, wrap64, hlen, List.replicate, hc1, hc2, decide_true, e1, e2, h6, h7, Nat.reduceAdd, Nat.reduceMul, Nat.reduceLeDiff, Nat.reduceEqDiff, ↓reduceIte]
    refine within_ret rfl (by omega) (by omega) ?_
    have a1 := Int.emod_nonneg x (show 1 + size % 12 ≠ 0 by omega)
    have a2 := Int.emod_lt_of_pos x (show 0 < 1 + size % 12 by omega)
    generalize ha : x % (1 + size % 12) = a at a1 a2
    simp (disch := first | omega | (simp only [next_new, next_upd] <;> omega) | fail) only [vai, vaim, wrap64, h6, h7, Nat.reduceAdd, Nat.reduceMul, Nat.reduceLeDiff, Nat.reduceEqDiff, ↓reduceIte]
    refine within_ret rfl (by omega) (by omega) ?_
    have b1 := Int.emod_nonneg (x.tdiv 13) (show 1 + size % 12 ≠ 0 by omega)
    have b2 := Int.emod_lt_of_pos (x.tdiv 13) (show 0 < 1 + size % 12 by omega)
    generalize hb' : x.tdiv 13 % (1 + size % 12) = b at b1 b2
    simp (disch := first | omega | (simp only [next_new, next_upd] <;> omega) | fail) only [vai, vaim, wrap64, h6, h7, Nat.reduceAdd, Nat.reduceMul, Nat.reduceLeDiff, Nat.reduceEqDiff, ↓reduceIte]
    refine within_ret rfl (by omega) (by omega) ?_
    simp (disch := first | omega | (simp only [next_new, next_upd] <;> omega) | fail) only [vai, vaim, wrap64, h6, h7, Nat.reduceAdd, Nat.reduceMul, Nat.reduceLeDiff, Nat.reduceEqDiff, ↓reduceIte]
    refine within_ret rfl (by omega) (by omega) ?_
    simp (disch := first | omega | (simp only [next_new, next_upd] <;> omega) | fail) only [vai, vaim, wrap64, h6, h7, Nat.reduceAdd, Nat.reduceMul, Nat.reduceLeDiff, Nat.reduceEqDiff, ↓reduceIte]
    refine within_ret rfl (by omega) (by omega) ?_
    simp (disch := first | omega | (simp only [next_new, next_upd] <;> omega) | fail) only [vai, vaim, wrap64, h6, h7, Nat.reduceAdd, Nat.reduceMul, Nat.reduceLeDiff, Nat.reduceEqDiff, ↓reduceIte]
    by_cases m0 : modes % 3 = 0
    ·simp (disch := first | omega | (simp only [next_new, next_upd] <;> omega) | fail) only [vai, vaim, wrap64, m0, decide_true, h6, h7, Nat.reduceAdd, Nat.reduceMul, Nat.reduceLeDiff, Nat.reduceEqDiff, ↓reduceIte]
     refine within_ret rfl (by omega) (by omega) ?_
     simp (disch := first | omega | (simp only [next_new, next_upd] <;> omega) | fail) only [vai, vaim, wrap64, h6, h7, Nat.reduceAdd, Nat.reduceMul, Nat.reduceLeDiff, Nat.reduceEqDiff, ↓reduceIte]
     refine within_ret rfl (by omega) (by omega) ?_
     by_cases c0 : x % 31 = 0
     ·simp (disch := first | omega | (simp only [next_new, next_upd] <;> omega) | fail) only [vai, vaim, wrap64, c0, decide_true, h6, h7, Nat.reduceAdd, Nat.reduceMul, Nat.reduceLeDiff, Nat.reduceEqDiff, ↓reduceIte]
      refine within_ret rfl (by omega) (by omega) ?_
      simp (disch := first | omega | (simp only [next_new, next_upd] <;> omega) | fail) only [vai, vaim, wrap64, h6, h7, Nat.reduceAdd, Nat.reduceMul, Nat.reduceLeDiff, Nat.reduceEqDiff, ↓reduceIte]
      refine append_ret (n := i) hg (by simp only [next_new, next_upd]; omega) (fun j h1 h2 => by simp (disch := first | omega | (simp only [next_new, next_upd] <;> omega) | fail) only [vaim]) (by simp (disch := first | omega | (simp only [next_new, next_upd] <;> omega) | fail) only [vaim]; rfl) rfl (by omega) (by omega) (by rw [edgeCells_length]; simp; omega) (by omega) (by omega) (by simp only [next_new, next_upd]; omega) ?_
      intro v' H' hn' hk' hg'
      have k6 : H'.obj H.next = some (.cells [.int .i64 0, .nilSlice] true) := by rw [hk' _ (by omega)]; simp (disch := first | omega | (simp only [next_new, next_upd] <;> omega) | fail) only [vaim, h6]
      have k7 : H'.obj (H.next + 1) = some (.cells [.int .i64 (1 + size % 12), ev] true) := by rw [hk' _ (by omega)]; simp (disch := first | omega | (simp only [next_new, next_upd] <;> omega) | fail) only [vaim, h7]
      have hcell := hg'.cells
      have kk : Keep Nothing H H' := ⟨by have := hk.next; simp only [next_new, next_upd] at hn'; omega, fun j hj hm => by
       rw [hk' _ (by omega), ← hk.obj j hj hm]
       simp (disch := first | omega | (simp only [next_new, next_upd] <;> omega) | fail) only [vaim]⟩
      have hnn : H1.next ≤ H'.next := by simp only [next_new, next_upd] at hn'; omega
      have he : (edgeCells ((xs.take (i + 1)).map (mkEdge (1 + size % 12) modes))) = edgeCells ((xs.take i).map (mkEdge (1 + size % 12) modes)) ++ Edge.cells (mkEdge (1 + size % 12) modes x) := by rw [htake]; simp [edgeCells]
      simp (disch := first | omega | (simp only [next_new, next_upd] <;> omega) | fail) only [vai, vaim, wrap64, k6, k7, hcell, Nat.reduceAdd, Nat.reduceMul, Nat.reduceLeDiff, Nat.reduceEqDiff, ↓reduceIte]
      refine ⟨xs.length - (i + 1), by omega, i + 1, v', rfl, by omega, by omega, rfl, kk.upd (.inl (by omega)) _, by omega, rfl, ?_⟩
      rw [he]
      refine Grown.upd ?_ (by omega) _
      simp only [mkEdge, Edge.cells, ha, hb']
      first | rw [if_pos m0] | rw [if_neg m0, if_pos m1] | rw [if_neg m0, if_neg m1]
      first | rw [if_pos c0] | rw [if_neg c0]
      exact hg'
     ·simp (disch := first | omega | (simp only [next_new, next_upd] <;> omega) | fail) only [vai, vaim, wrap64, c0, decide_false, h6, h7, Nat.reduceAdd, Nat.reduceMul, Nat.reduceLeDiff, Nat.reduceEqDiff, ↓reduceIte]
      refine append_ret (n := i) hg (by simp only [next_new, next_upd]; omega) (fun j h1 h2 => by simp (disch := first | omega | (simp only [next_new, next_upd] <;> omega) | fail) only [vaim]) (by simp (disch := first | omega | (simp only [next_new, next_upd] <;> omega) | fail) only [vaim]; rfl) rfl (by omega) (by omega) (by rw [edgeCells_length]; simp; omega) (by omega) (by omega) (by simp only [next_new, next_upd]; omega) ?_
      intro v' H' hn' hk' hg'
      have k6 : H'.obj H.next = some (.cells [.int .i64 0, .nilSlice] true) := by rw [hk' _ (by omega)]; simp (disch := first | omega | (simp only [next_new, next_upd] <;> omega) | fail) only [vaim, h6]
      have k7 : H'.obj (H.next + 1) = some (.cells [.int .i64 (1 + size % 12), ev] true) := by rw [hk' _ (by omega)]; simp (disch := first | omega | (simp only [next_new, next_upd] <;> omega) | fail) only [vaim, h7]
      have hcell := hg'.cells
      have kk : Keep Nothing H H' := ⟨by have := hk.next; simp only [next_new, next_upd] at hn'; omega, fun j hj hm => by
       rw [hk' _ (by omega), ← hk.obj j hj hm]
       simp (disch := first | omega | (simp only [next_new, next_upd] <;> omega) | fail) only [vaim]⟩
      have hnn : H1.next ≤ H'.next := by simp only [next_new, next_upd] at hn'; omega
      have he : (edgeCells ((xs.take (i + 1)).map (mkEdge (1 + size % 12) modes))) = edgeCells ((xs.take i).map (mkEdge (1 + size % 12) modes)) ++ Edge.cells (mkEdge (1 + size % 12) modes x) := by rw [htake]; simp [edgeCells]
      simp (disch := first | omega | (simp only [next_new, next_upd] <;> omega) | fail) only [vai, vaim, wrap64, k6, k7, hcell, Nat.reduceAdd, Nat.reduceMul, Nat.reduceLeDiff, Nat.reduceEqDiff, ↓reduceIte]
      refine ⟨xs.length - (i + 1), by omega, i + 1, v', rfl, by omega, by omega, rfl, kk.upd (.inl (by omega)) _, by omega, rfl, ?_⟩
      rw [he]
      refine Grown.upd ?_ (by omega) _
      simp only [mkEdge, Edge.cells, ha, hb']
      first | rw [if_pos m0] | rw [if_neg m0, if_pos m1] | rw [if_neg m0, if_neg m1]
      first | rw [if_pos c0] | rw [if_neg c0]
      exact hg'
    ·by_cases m1 : modes % 3 = 1
     ·simp (disch := first | omega | (simp only [next_new, next_upd] <;> omega) | fail) only [vai, vaim, wrap64, m0, decide_false, h6, h7, Nat.reduceAdd, Nat.reduceMul, Nat.reduceLeDiff, Nat.reduceEqDiff, ↓reduceIte]
      refine within_ret rfl (by omega) (by omega) ?_
      simp (disch := first | omega | (simp only [next_new, next_upd] <;> omega) | fail) only [vai, vaim, wrap64, m1, decide_true, h6, h7, Nat.reduceAdd, Nat.reduceMul, Nat.reduceLeDiff, Nat.reduceEqDiff, ↓reduceIte]
      have p1 : 0 ≤ x.tdiv 170 % 5 * a := Int.mul_nonneg (by omega) a1
      have p2 : x.tdiv 170 % 5 * a ≤ 5 * 12 := Int.mul_le_mul (by omega) (by omega) a1 (by omega)
      simp (disch := first | omega | (simp only [next_new, next_upd] <;> omega) | fail) only [vai, vaim, wrap64, h6, h7, Nat.reduceAdd, Nat.reduceMul, Nat.reduceLeDiff, Nat.reduceEqDiff, ↓reduceIte]
      refine within_ret rfl (by omega) (by omega) ?_
      simp (disch := first | omega | (simp only [next_new, next_upd] <;> omega) | fail) only [vai, vaim, wrap64, h6, h7, Nat.reduceAdd, Nat.reduceMul, Nat.reduceLeDiff, Nat.reduceEqDiff, ↓reduceIte]
      refine within_ret rfl (by omega) (by omega) ?_
      by_cases c0 : x % 31 = 0
      ·simp (disch := first | omega | (simp only [next_new, next_upd] <;> omega) | fail) only [vai, vaim, wrap64, c0, decide_true, h6, h7, Nat.reduceAdd, Nat.reduceMul, Nat.reduceLeDiff, Nat.reduceEqDiff, ↓reduceIte]
       refine within_ret rfl (by omega) (by omega) ?_
       simp (disch := first | omega | (simp only [next_new, next_upd] <;> omega) | fail) only [vai, vaim, wrap64, h6, h7, Nat.reduceAdd, Nat.reduceMul, Nat.reduceLeDiff, Nat.reduceEqDiff, ↓reduceIte]
       refine append_ret (n := i) hg (by simp only [next_new, next_upd]; omega) (fun j h1 h2 => by simp (disch := first | omega | (simp only [next_new, next_upd] <;> omega) | fail) only [vaim]) (by simp (disch := first | omega | (simp only [next_new, next_upd] <;> omega) | fail) only [vaim]; rfl) rfl (by omega) (by omega) (by rw [edgeCells_length]; simp; omega) (by omega) (by omega) (by simp only [next_new, next_upd]; omega) ?_
       intro v' H' hn' hk' hg'
       have k6 : H'.obj H.next = some (.cells [.int .i64 0, .nilSlice] true) := by rw [hk' _ (by omega)]; simp (disch := first | omega | (simp only [next_new, next_upd] <;> omega) | fail) only [vaim, h6]
       have k7 : H'.obj (H.next + 1) = some (.cells [.int .i64 (1 + size % 12), ev] true) := by rw [hk' _ (by omega)]; simp (disch := first | omega | (simp only [next_new, next_upd] <;> omega) | fail) only [vaim, h7]
       have hcell := hg'.cells
       have kk : Keep Nothing H H' := ⟨by have := hk.next; simp only [next_new, next_upd] at hn'; omega, fun j hj hm => by
        rw [hk' _ (by omega), ← hk.obj j hj hm]
        simp (disch := first | omega | (simp only [next_new, next_upd] <;> omega) | fail) only [vaim]⟩
       have hnn : H1.next ≤ H'.next := by simp only [next_new, next_upd] at hn'; omega
       have he : (edgeCells ((xs.take (i + 1)).map (mkEdge (1 + size % 12) modes))) = edgeCells ((xs.take i).map (mkEdge (1 + size % 12) modes)) ++ Edge.cells (mkEdge (1 + size % 12) modes x) := by rw [htake]; simp [edgeCells]
       simp (disch := first | omega | (simp only [next_new, next_upd] <;> omega) | fail) only [vai, vaim, wrap64, k6, k7, hcell, Nat.reduceAdd, Nat.reduceMul, Nat.reduceLeDiff, Nat.reduceEqDiff, ↓reduceIte]
       refine ⟨xs.length - (i + 1), by omega, i + 1, v', rfl, by omega, by omega, rfl, kk.upd (.inl (by omega)) _, by omega, rfl, ?_⟩
       rw [he]
       refine Grown.upd ?_ (by omega) _
       simp only [mkEdge, Edge.cells, ha, hb']
       first | rw [if_pos m0] | rw [if_neg m0, if_pos m1] | rw [if_neg m0, if_neg m1]
       first | rw [if_pos c0] | rw [if_neg c0]
       exact hg'
      ·simp (disch := first | omega | (simp only [next_new, next_upd] <;> omega) | fail) only [vai, vaim, wrap64, c0, decide_false, h6, h7, Nat.reduceAdd, Nat.reduceMul, Nat.reduceLeDiff, Nat.reduceEqDiff, ↓reduceIte]
       refine append_ret (n := i) hg (by simp only [next_new, next_upd]; omega) (fun j h1 h2 => by simp (disch := first | omega | (simp only [next_new, next_upd] <;> omega) | fail) only [vaim]) (by simp (disch := first | omega | (simp only [next_new, next_upd] <;> omega) | fail) only [vaim]; rfl) rfl (by omega) (by omega) (by rw [edgeCells_length]; simp; omega) (by omega) (by omega) (by simp only [next_new, next_upd]; omega) ?_
       intro v' H' hn' hk' hg'
       have k6 : H'.obj H.next = some (.cells [.int .i64 0, .nilSlice] true) := by rw [hk' _ (by omega)]; simp (disch := first | omega | (simp only [next_new, next_upd] <;> omega) | fail) only [vaim, h6]
       have k7 : H'.obj (H.next + 1) = some (.cells [.int .i64 (1 + size % 12), ev] true) := by rw [hk' _ (by omega)]; simp (disch := first | omega | (simp only [next_new, next_upd] <;> omega) | fail) only [vaim, h7]
       have hcell := hg'.cells
       have kk : Keep Nothing H H' := ⟨by have := hk.next; simp only [next_new, next_upd] at hn'; omega, fun j hj hm => by
        rw [hk' _ (by omega), ← hk.obj j hj hm]
        simp (disch := first | omega | (simp only [next_new, next_upd] <;> omega) | fail) only [vaim]⟩
       have hnn : H1.next ≤ H'.next := by simp only [next_new, next_upd] at hn'; omega
       have he : (edgeCells ((xs.take (i + 1)).map (mkEdge (1 + size % 12) modes))) = edgeCells ((xs.take i).map (mkEdge (1 + size % 12) modes)) ++ Edge.cells (mkEdge (1 + size % 12) modes x) := by rw [htake]; simp [edgeCells]
       simp (disch := first | omega | (simp only [next_new, next_upd] <;> omega) | fail) only [vai, vaim, wrap64, k6, k7, hcell, Nat.reduceAdd, Nat.reduceMul, Nat.reduceLeDiff, Nat.reduceEqDiff, ↓reduceIte]
       refine ⟨xs.length - (i + 1), by omega, i + 1, v', rfl, by omega, by omega, rfl, kk.upd (.inl (by omega)) _, by omega, rfl, ?_⟩
       rw [he]
       refine Grown.upd ?_ (by omega) _
       simp only [mkEdge, Edge.cells, ha, hb']
       first | rw [if_pos m0] | rw [if_neg m0, if_pos m1] | rw [if_neg m0, if_neg m1]
       first | rw [if_pos c0] | rw [if_neg c0]
       exact hg'
     ·simp (disch := first | omega | (simp only [next_new, next_upd] <;> omega) | fail) only [vai, vaim, wrap64, m0, decide_false, h6, h7, Nat.reduceAdd, Nat.reduceMul, Nat.reduceLeDiff, Nat.reduceEqDiff, ↓reduceIte]
      refine within_ret rfl (by omega) (by omega) ?_
      simp (disch := first | omega | (simp only [next_new, next_upd] <;> omega) | fail) only [vai, vaim, wrap64, m1, decide_false, h6, h7, Nat.reduceAdd, Nat.reduceMul, Nat.reduceLeDiff, Nat.reduceEqDiff, ↓reduceIte]
      refine within_ret rfl (by omega) (by omega) ?_
      by_cases c0 : x % 31 = 0
      ·simp (disch := first | omega | (simp only [next_new, next_upd] <;> omega) | fail) only [vai, vaim, wrap64, c0, decide_true, h6, h7, Nat.reduceAdd, Nat.reduceMul, Nat.reduceLeDiff, Nat.reduceEqDiff, ↓reduceIte]
       refine within_ret rfl (by omega) (by omega) ?_
       simp (disch := first | omega | (simp only [next_new, next_upd] <;> omega) | fail) only [vai, vaim, wrap64, h6, h7, Nat.reduceAdd, Nat.reduceMul, Nat.reduceLeDiff, Nat.reduceEqDiff, ↓reduceIte]
       refine append_ret (n := i) hg (by simp only [next_new, next_upd]; omega) (fun j h1 h2 => by simp (disch := first | omega | (simp only [next_new, next_upd] <;> omega) | fail) only [vaim]) (by simp (disch := first | omega | (simp only [next_new, next_upd] <;> omega) | fail) only [vaim]; rfl) rfl (by omega) (by omega) (by rw [edgeCells_length]; simp; omega) (by omega) (by omega) (by simp only [next_new, next_upd]; omega) ?_
       intro v' H' hn' hk' hg'
       have k6 : H'.obj H.next = some (.cells [.int .i64 0, .nilSlice] true) := by rw [hk' _ (by omega)]; simp (disch := first | omega | (simp only [next_new, next_upd] <;> omega) | fail) only [vaim, h6]
       have k7 : H'.obj (H.next + 1) = some (.cells [.int .i64 (1 + size % 12), ev] true) := by rw [hk' _ (by omega)]; simp (disch := first | omega | (simp only [next_new, next_upd] <;> omega) | fail) only [vaim, h7]
       have hcell := hg'.cells
       have kk : Keep Nothing H H' := ⟨by have := hk.next; simp only [next_new, next_upd] at hn'; omega, fun j hj hm => by
        rw [hk' _ (by omega), ← hk.obj j hj hm]
        simp (disch := first | omega | (simp only [next_new, next_upd] <;> omega) | fail) only [vaim]⟩
       have hnn : H1.next ≤ H'.next := by simp only [next_new, next_upd] at hn'; omega
       have he : (edgeCells ((xs.take (i + 1)).map (mkEdge (1 + size % 12) modes))) = edgeCells ((xs.take i).map (mkEdge (1 + size % 12) modes)) ++ Edge.cells (mkEdge (1 + size % 12) modes x) := by rw [htake]; simp [edgeCells]
       simp (disch := first | omega | (simp only [next_new, next_upd] <;> omega) | fail) only [vai, vaim, wrap64, k6, k7, hcell, Nat.reduceAdd, Nat.reduceMul, Nat.reduceLeDiff, Nat.reduceEqDiff, ↓reduceIte]
       refine ⟨xs.length - (i + 1), by omega, i + 1, v', rfl, by omega, by omega, rfl, kk.upd (.inl (by omega)) _, by omega, rfl, ?_⟩
       rw [he]
       refine Grown.upd ?_ (by omega) _
       simp only [mkEdge, Edge.cells, ha, hb']
       first | rw [if_pos m0] | rw [if_neg m0, if_pos m1] | rw [if_neg m0, if_neg m1]
       first | rw [if_pos c0] | rw [if_neg c0]
       exact hg'
      ·simp (disch := first | omega | (simp only [next_new, next_upd] <;> omega) | fail) only [vai, vaim, wrap64, c0, decide_false, h6, h7, Nat.reduceAdd, Nat.reduceMul, Nat.reduceLeDiff, Nat.reduceEqDiff, ↓reduceIte]
       refine append_ret (n := i) hg (by simp only [next_new, next_upd]; omega) (fun j h1 h2 => by simp (disch := first | omega | (simp only [next_new, next_upd] <;> omega) | fail) only [vaim]) (by simp (disch := first | omega | (simp only [next_new, next_upd] <;> omega) | fail) only [vaim]; rfl) rfl (by omega) (by omega) (by rw [edgeCells_length]; simp; omega) (by omega) (by omega) (by simp only [next_new, next_upd]; omega) ?_
       intro v' H' hn' hk' hg'
       have k6 : H'.obj H.next = some (.cells [.int .i64 0, .nilSlice] true) := by rw [hk' _ (by omega)]; simp (disch := first | omega | (simp only [next_new, next_upd] <;> omega) | fail) only [vaim, h6]
       have k7 : H'.obj (H.next + 1) = some (.cells [.int .i64 (1 + size % 12), ev] true) := by rw [hk' _ (by omega)]; simp (disch := first | omega | (simp only [next_new, next_upd] <;> omega) | fail) only [vaim, h7]
       have hcell := hg'.cells
       have kk : Keep Nothing H H' := ⟨by have := hk.next; simp only [next_new, next_upd] at hn'; omega, fun j hj hm => by
        rw [hk' _ (by omega), ← hk.obj j hj hm]
        simp (disch := first | omega | (simp only [next_new, next_upd] <;> omega) | fail) only [vaim]⟩
       have hnn : H1.next ≤ H'.next := by simp only [next_new, next_upd] at hn'; omega
       have he : (edgeCells ((xs.take (i + 1)).map (mkEdge (1 + size % 12) modes))) = edgeCells ((xs.take i).map (mkEdge (1 + size % 12) modes)) ++ Edge.cells (mkEdge (1 + size % 12) modes x) := by rw [htake]; simp [edgeCells]
       simp (disch := first | omega | (simp only [next_new, next_upd] <;> omega) | fail) only [vai, vaim, wrap64, k6, k7, hcell, Nat.reduceAdd, Nat.reduceMul, Nat.reduceLeDiff, Nat.reduceEqDiff, ↓reduceIte]
       refine ⟨xs.length - (i + 1), by omega, i + 1, v', rfl, by omega, by omega, rfl, kk.upd (.inl (by omega)) _, by omega, rfl, ?_⟩
       rw [he]
       refine Grown.upd ?_ (by omega) _
       simp only [mkEdge, Edge.cells, ha, hb']
       first | rw [if_pos m0] | rw [if_neg m0, if_pos m1] | rw [if_neg m0, if_neg m1]
       first | rw [if_pos c0] | rw [if_neg c0]
       exact hg'
   ·simp (disch := first | omega | (simp only [next_new, next_upd] <;> omega) | fail) only [vai, vaim, wrap64, hlen, List.replicate, hc1, hc2, decide_true, decide_false, h6, h7, Nat.reduceAdd, Nat.reduceMul, Nat.reduceLeDiff, Nat.reduceEqDiff, ↓reduceIte]
    have hi : i = 40 := by omega
    rw [hi] at hg
    exact hq ev _ (hk.upd (.inl (by omega)) _) (hg.keep' ⟨by omega, by simp only [next_upd]; omega⟩ (fun j h1 h2 => by simp (disch := first | omega | (simp only [next_new, next_upd] <;> omega) | fail) only [vaim]))
  ·simp (disch := first | omega | (simp only [next_new, next_upd] <;> omega) | fail) only [vai, vaim, wrap64, hlen, List.replicate, hc1, decide_true, decide_false, h6, h7, Nat.reduceAdd, Nat.reduceMul, Nat.reduceLeDiff, Nat.reduceEqDiff, ↓reduceIte]
   have hi : xs.take 40 = xs.take i := by rw [List.take_of_length_le (by omega), List.take_of_length_le (by omega)]
   rw [← hi] at hg
   exact hq ev _ (hk.upd (.inl (by omega)) _) (hg.keep' ⟨by omega, by simp only [next_upd]; omega⟩ (fun j h1 h2 => by simp (disch := first | omega | (simp only [next_new, next_upd] <;> omega) | fail) only [vaim]))
end Go.Proofs.Ytknhlpmmalcchaa

namespace Go.Proofs.Ytknhlpmmalcchaa
open Go Go.VAI
set_option linter.unusedSimpArgs false

theorem edge_drop : ∀ (es : List Edge) (i : Nat) (e : Edge), es[i]? = some e → ((edgeCells es).drop (i * 4)).take 4 = e.cells
 | [], i, e, h => by simp at h
 | a :: es, 0, e, h => by
  simp at h; subst h
  simp [edgeCells, Edge.cells]
 | a :: es, i + 1, e, h => by
  have := edge_drop es i e (by simpa using h)
  rw [← this]
  have h4 : (i + 1) * 4 = i * 4 + 4 := by omega
  rw [h4]
  simp [edgeCells, Edge.cells]
theorem edge_at {H : AHeap} {v : AVal} {es : List Edge} (h : Row H v 4 (edgeCells es)) {i : Nat} {e : Edge} (he : es[i]? = some e) : ∃ id off, aindexAddrS 4 v (.int .i64 (i : Int)) = some (.ptr id off) ∧ id < H.next ∧
  (bnd (cellsOf (H.obj id)) fun c => c[off]?) = some (.int .i64 e.src) ∧ (bnd (cellsOf (H.obj id)) fun c => c[off + 1]?) = some (.int .i64 e.dst) ∧ (bnd (cellsOf (H.obj id)) fun c => c[off + 2]?) = some (.int .i64 e.mode) ∧ (bnd (cellsOf (H.obj id)) fun c => c[off + 3]?) = some (.int .i64 e.cost) ∧
  (bnd (cellsOf (H.obj id)) fun c => if off + 4 ≤ c.length then some (AVal.agg ((c.drop off).take 4)) else none) = some (AVal.agg e.cells) := by
 have hi := (List.getElem?_eq_some_iff.1 he).1
 obtain ⟨id, off, c, h1, h2, h3, h4, h5⟩ := h.at (j := i) (k := .i64) (by omega) (by omega) (by rw [edgeCells_length, Int.toNat_natCast]; omega)
 rw [Int.toNat_natCast, edge_drop es i e he] at h5
 rw [cells?_of] at h3
 refine ⟨id, off, h1, h2, ?_⟩
 simp only [h3, bnd, if_pos h4, h5, true_and, and_true]
 exact ⟨cell_at (f := 0) h5 rfl, cell_at (f := 1) h5 rfl, cell_at (f := 2) h5 rfl, cell_at (f := 3) h5 rfl⟩

def picks (p : Edge → Bool) (es : List Edge) (n : Nat) : List Int := ((List.range n).filter fun i => (es[i]?).any p).map Int.ofNat
theorem picks_succ {p : Edge → Bool} {es : List Edge} {n : Nat} {e : Edge} (he : es[n]? = some e) : picks p es (n + 1) = picks p es n ++ if p e then [(n : Int)] else [] := by
 simp only [picks, List.range_succ, List.filter_append, List.map_append, List.filter_cons, List.filter_nil, he, Option.any_some]
 split <;> rfl
theorem picks_length {p : Edge → Bool} {es : List Edge} {n : Nat} : (picks p es n).length ≤ n := by
 simp only [picks, List.length_map]
 exact Nat.le_trans (List.length_filter_le _ _) (by simp)

def modesOf (v : Int) (es : List Edge) : Int := es.foldl (fun s e => if e.src = v ∨ e.dst = v then orI .i64 s (shlI .i64 1 e.mode) else s) 0
end Go.Proofs.Ytknhlpmmalcchaa

namespace Go.Proofs.Ytknhlpmmalcchaa
open Go Go.VAI
set_option linter.unusedSimpArgs false

def modesIn (s : Int) : Nat → Int
 | 0 => 0
 | n + 1 => modesIn s n + andI .i64 (shrI .i64 s n) 1
def linkAt (es : List Edge) (v : Int) : Bool := decide (2 ≤ modesIn (modesOf v es) 5)
def bools (l : List Bool) : List AVal := l.map AVal.bool
end Go.Proofs.Ytknhlpmmalcchaa

namespace Go.Proofs.Ytknhlpmmalcchaa
open Go Go.VAI
set_option linter.unusedSimpArgs false

def degree (es : List Edge) (v : Int) : Nat := (picks (fun e => decide (e.src = v)) es es.length).length + (picks (fun e => decide (e.dst = v)) es es.length).length
def orderRow (es : List Edge) (d : Int) (n : Nat) : List Int := ((List.range n).filter fun (v : Nat) => !linkAt es v && decide ((degree es v : Int) = d)).map Int.ofNat
def orderOf (N : Nat) (es : List Edge) (k : Nat) : List Int := (List.range k).flatMap fun (d : Nat) => orderRow es d N
end Go.Proofs.Ytknhlpmmalcchaa

namespace Go.Proofs.Ytknhlpmmalcchaa
open Go Go.VAI
set_option linter.unusedSimpArgs false

def Arc.cells (e : Arc) : List AVal := [.int .i64 e.src, .int .i64 e.dst, .int .i64 e.mode, .int .i64 e.cost, .int .i64 e.edge, .int .i64 e.a, .int .i64 e.b]
def arcCells (l : List Arc) : List AVal := l.flatMap Arc.cells

structure Lay (H : AHeap) (w c g : Nat) (N : Nat) (ev rv av uv dv : AVal) (cur : List Int) (gone : List Bool) : Prop where
 obj : H.obj w = some (.cells [.int .i64 N, ev, rv, av, uv, dv, .slice c 0 (N * N * 5) (.exact (N * N * 5)), .slice g 0 N (.exact N)] true)
 curO : H.obj c = some (.cells (ints cur) true)
 goneO : H.obj g = some (.cells (bools gone) true)
 wlt : w < H.next
 clt : c < H.next
 glt : g < H.next
 curLen : cur.length = N * N * 5
 goneLen : gone.length = N
theorem Lay.kept {H H' : AHeap} {w c g N : Nat} {ev rv av uv dv : AVal} {cur : List Int} {gone : List Bool} (h : Lay H w c g N ev rv av uv dv cur gone) (hk : Keep Nothing H H') : Lay H' w c g N ev rv av uv dv cur gone := by
 have := hk.next
 have := h.wlt
 have := h.clt
 have := h.glt
 exact ⟨by rw [hk.obj _ h.wlt (fun h => h)]; exact h.obj, by rw [hk.obj _ h.clt (fun h => h)]; exact h.curO, by rw [hk.obj _ h.glt (fun h => h)]; exact h.goneO, by omega, by omega, by omega, h.curLen, h.goneLen⟩
end Go.Proofs.Ytknhlpmmalcchaa

namespace Go.Proofs.Ytknhlpmmalcchaa
open Go Go.VAI
set_option linter.unusedSimpArgs false

theorem arcCells_length (l : List Arc) : (arcCells l).length = l.length * 7 := by
 induction l with
 | nil => rfl
 | cons e l ih => simp only [arcCells, List.flatMap_cons, List.length_append] at ih ⊢; rw [ih]; simp [Arc.cells]; omega
theorem arcCells_append (l m : List Arc) : arcCells (l ++ m) = arcCells l ++ arcCells m := by simp [arcCells]

end Go.Proofs.Ytknhlpmmalcchaa

namespace Go.Proofs.Ytknhlpmmalcchaa
open Go Go.VAI
set_option linter.unusedSimpArgs false

theorem arc_drop : ∀ (es : List Arc) (i : Nat) (e : Arc), es[i]? = some e → ((arcCells es).drop (i * 7)).take 7 = e.cells
 | [], i, e, h => by simp at h
 | a :: es, 0, e, h => by
  simp at h; subst h
  simp [arcCells, Arc.cells]
 | a :: es, i + 1, e, h => by
  have := arc_drop es i e (by simpa using h)
  rw [← this]
  have h4 : (i + 1) * 7 = i * 7 + 7 := by omega
  rw [h4]
  simp [arcCells, Arc.cells]
theorem arc_at {H : AHeap} {v : AVal} {es : List Arc} (h : Row H v 7 (arcCells es)) {i : Nat} {e : Arc} (he : es[i]? = some e) : ∃ id off, aindexAddrS 7 v (.int .i64 (i : Int)) = some (.ptr id off) ∧ id < H.next ∧
  (bnd (cellsOf (H.obj id)) fun c => c[off + 3]?) = some (.int .i64 e.cost) ∧
  (bnd (cellsOf (H.obj id)) fun c => if off + 7 ≤ c.length then some (AVal.agg ((c.drop off).take 7)) else none) = some (AVal.agg e.cells) := by
 have hi := (List.getElem?_eq_some_iff.1 he).1
 obtain ⟨id, off, c, h1, h2, h3, h4, h5⟩ := h.at (j := i) (k := .i64) (by omega) (by omega) (by rw [arcCells_length, Int.toNat_natCast]; omega)
 rw [Int.toNat_natCast, arc_drop es i e he] at h5
 rw [cells?_of] at h3
 refine ⟨id, off, h1, h2, ?_⟩
 simp only [h3, bnd, if_pos h4, h5, and_true]
 exact cell_at (f := 3) h5 rfl

end Go.Proofs.Ytknhlpmmalcchaa

namespace Go.Proofs.Ytknhlpmmalcchaa
open Go Go.VAI
set_option linter.unusedSimpArgs false

theorem amkSlice_int {zs : List AVal} {b : Nat} {n : Nat} (h : (n : Int) * b ≤ 140737488355328) (h2 : (n : Int) ≤ 9223372036854775807) : amkSlice zs b (.int .i64 (n : Int)) (.int .i64 (n : Int)) = some (.cells (reps zs n) true, fun y => .slice y 0 n (.exact n)) := by
 simp only [amkSlice, Int.toNat_natCast]
 rw [if_pos ⟨by omega, by omega, h, h2⟩]
theorem reps_zero (n : Nat) : reps [.int .i64 0] n = ints (List.replicate n 0) := by
 induction n with
 | zero => rfl
 | succ n ih => simp [reps, ih, ints, List.replicate_succ]
theorem _root_.Go.VAI.Row.keepM {H H' : AHeap} {M : Nat → Prop} {v : AVal} {sz : Nat} {cs : List AVal} (h : Row H v sz cs) (hk : Keep M H H') (hM : ∀ j, sid v = some j → ¬ M j) : Row H' v sz cs := by
 cases h with
 | nil => exact .nil
 | mk hid hc hl hcs => exact .mk (Nat.lt_of_lt_of_le hid hk.next) (by rw [cells?_of] at hc ⊢; rw [hk.obj _ hid (hM _ rfl)]; exact hc) hl hcs
end Go.Proofs.Ytknhlpmmalcchaa

namespace Go.Proofs.Ytknhlpmmalcchaa
open Go Go.VAI
set_option linter.unusedSimpArgs false

structure BLay (H : AHeap) (b0 b1 b2 b3 b4 u d N : Nat) (es : List Edge) (ev ew rv av : AVal) (cur : List Int) (gone : List Bool) (us ds : List AVal) : Prop where
 nbox : H.obj b0 = some (.cells [.int .i64 N, ev] true)
 var : H.obj b1 = some (.cells [.int .i64 0, .nilSlice, .nilSlice, .nilSlice, .nilSlice, .nilSlice] true)
 lay : Lay H b4 b2 b3 N ew rv av (.slice u 0 N (.exact N)) (.slice d 0 N (.exact N)) cur gone
 upO : H.obj u = some (.cells us true)
 downO : H.obj d = some (.cells ds true)
 usl : us.length = N
 dsl : ds.length = N
 ord : b0 < b1 ∧ b1 < b2 ∧ b2 < b3 ∧ b3 < b4 ∧ b4 < u ∧ u < d ∧ d < H.next
 ewid : ∀ j, sid ew = some j → b4 < j ∧ j < u
 edges : Row H ew 4 (edgeCells es)
theorem BLay.upd {H H' : AHeap} {b0 b1 b2 b3 b4 u d N : Nat} {es : List Edge} {ev ew rv av rv' av' : AVal} {cur cur' : List Int} {gone gone' : List Bool} {us ds us' ds' : List AVal} (h : BLay H b0 b1 b2 b3 b4 u d N es ev ew rv av cur gone us ds) (hn : H.next ≤ H'.next)
  (hk : ∀ j, j ≤ d → j ≠ b4 → j ≠ b2 → j ≠ b3 → j ≠ u → j ≠ d → H'.obj j = H.obj j) (hlay : Lay H' b4 b2 b3 N ew rv' av' (.slice u 0 N (.exact N)) (.slice d 0 N (.exact N)) cur' gone')
  (hu : H'.obj u = some (.cells us' true)) (hd : H'.obj d = some (.cells ds' true)) (hul : us'.length = N) (hdl : ds'.length = N) : BLay H' b0 b1 b2 b3 b4 u d N es ev ew rv' av' cur' gone' us' ds' := by
 obtain ⟨o1, o2, o3, o4, o5, o6, o7⟩ := h.ord
 refine ⟨by rw [hk b0 (by omega) (by omega) (by omega) (by omega) (by omega) (by omega)]; exact h.nbox, by rw [hk b1 (by omega) (by omega) (by omega) (by omega) (by omega) (by omega)]; exact h.var, hlay, hu, hd, hul, hdl, ⟨o1, o2, o3, o4, o5, o6, by omega⟩, h.ewid, ?_⟩
 have hk2 : Keep (fun j => j ≤ b4 ∨ u ≤ j) H H' := ⟨hn, fun j hj hm => hk j (by omega) (by omega) (by omega) (by omega) (by omega) (by omega)⟩
 exact h.edges.M hk2 (fun j hj => by have := h.ewid j hj; omega)
theorem Lay.M {H H' : AHeap} {M : Nat → Prop} {w c g N : Nat} {ev rv av uv dv : AVal} {cur : List Int} {gone : List Bool} (h : Lay H w c g N ev rv av uv dv cur gone) (hk : Keep M H H') (h1 : ¬ M w) (h2 : ¬ M c) (h3 : ¬ M g) : Lay H' w c g N ev rv av uv dv cur gone := by
 have := hk.next
 have := h.wlt
 have := h.clt
 have := h.glt
 exact ⟨by rw [hk.obj _ h.wlt h1]; exact h.obj, by rw [hk.obj _ h.clt h2]; exact h.curO, by rw [hk.obj _ h.glt h3]; exact h.goneO, by omega, by omega, by omega, h.curLen, h.goneLen⟩
theorem BLay.M {H H' : AHeap} {M : Nat → Prop} {b0 b1 b2 b3 b4 u d N : Nat} {es : List Edge} {ev ew rv av : AVal} {cur : List Int} {gone : List Bool} {us ds : List AVal} (h : BLay H b0 b1 b2 b3 b4 u d N es ev ew rv av cur gone us ds) (hk : Keep M H H') (hM : ∀ j, j ≤ d → ¬ M j) : BLay H' b0 b1 b2 b3 b4 u d N es ev ew rv av cur gone us ds := by
 obtain ⟨o1, o2, o3, o4, o5, o6, o7⟩ := h.ord
 exact h.upd hk.next (fun j hj _ _ _ _ _ => hk.obj j (by omega) (hM j hj)) (h.lay.M hk (hM _ (by omega)) (hM _ (by omega)) (hM _ (by omega))) (by rw [hk.obj _ (by omega) (hM _ (by omega))]; exact h.upO) (by rw [hk.obj _ (by omega) (hM _ (by omega))]; exact h.downO) h.usl h.dsl
theorem BLay.kept {H H' : AHeap} {b0 b1 b2 b3 b4 u d N : Nat} {es : List Edge} {ev ew rv av : AVal} {cur : List Int} {gone : List Bool} {us ds : List AVal} (h : BLay H b0 b1 b2 b3 b4 u d N es ev ew rv av cur gone us ds) (hk : Keep Nothing H H') : BLay H' b0 b1 b2 b3 b4 u d N es ev ew rv av cur gone us ds := by
 obtain ⟨o1, o2, o3, o4, o5, o6, o7⟩ := h.ord
 exact h.upd hk.next (fun j hj _ _ _ _ _ => hk.old (by omega)) (h.lay.kept hk) (by rw [hk.old (by omega)]; exact h.upO) (by rw [hk.old (by omega)]; exact h.downO) h.usl h.dsl
theorem orderOf_ok (N : Nat) (es : List Edge) (k : Nat) : OrderOk N (orderOf N es k) := by
 have mem : ∀ (d : Nat) x, x ∈ orderRow es d N → 0 ≤ x ∧ x < N ∧ degree es x = d := by
  intro d x hx
  simp only [orderRow, List.mem_map, List.mem_filter, List.mem_range, Bool.and_eq_true, decide_eq_true_eq] at hx
  obtain ⟨v, ⟨h1, _, h2⟩, rfl⟩ := hx
  exact ⟨by simp, by simpa using h1, by have h2' : (degree es (v : Int) : Int) = d := h2; show degree es (v : Int) = d; omega⟩
 refine ⟨fun x hx => ?_, ?_⟩
 ·simp only [orderOf, List.mem_flatMap, List.mem_range] at hx
  obtain ⟨d, _, hx⟩ := hx
  exact ⟨(mem d x hx).1, (mem d x hx).2.1⟩
 ·refine nodup_flat k (fun d _ => ?_) (fun d d' x _ _ h1 h2 => by rw [← (mem d x h1).2.2, (mem d' x h2).2.2])
  simp only [orderRow]
  refine List.Pairwise.map _ (fun a b (h : a ≠ b) => ?_) (List.Pairwise.filter _ (List.nodup_range))
  intro e
  exact h (by injection e)
def orderAll (N : Nat) (es : List Edge) : List Int := orderOf N es (2 * es.length + 1)
def idxOf (N : Nat) (es : List Edge) : Idx :=
 let h := hierOf N es (orderAll N es)
 ⟨N, es, h.rank, h.arcs, h.up, h.down⟩
structure IdxAt (H : AHeap) (ew rv av uv dv : AVal) (x : Idx) : Prop where
 es : Row H ew 4 (edgeCells x.es)
 rank : Row H rv 1 (ints x.rank)
 arcs : Row H av 7 (arcCells x.arcs)
 up : RowsOf H uv x.up
 down : RowsOf H dv x.down
theorem IdxAt.kept {H H' : AHeap} {ew rv av uv dv : AVal} {x : Idx} (h : IdxAt H ew rv av uv dv x) (hk : Keep Nothing H H') : IdxAt H' ew rv av uv dv x := ⟨h.es.kept hk, h.rank.kept hk, h.arcs.kept hk, h.up.kept hk, h.down.kept hk⟩
def From (lo : Nat) (H : AHeap) (v : AVal) (sz : Nat) (cs : List AVal) : Prop := Row H v sz cs ∧ ∀ j, sid v = some j → lo ≤ j
theorem From.M {lo : Nat} {M : Nat → Prop} {H H' : AHeap} {v : AVal} {sz : Nat} {cs : List AVal} (h : From lo H v sz cs) (hk : Keep M H H') (hM : ∀ j, M j → j < lo) : From lo H' v sz cs := ⟨h.1.M hk (fun j hj e => by have := h.2 j hj; have := hM j e; omega), h.2⟩
def FromRows (lo : Nat) (H : AHeap) (v : AVal) (ll : List (List Int)) : Prop := ∃ vs, From lo H v 1 vs ∧ vs.length = ll.length ∧ ∀ (i : Nat) r l, vs[i]? = some r → ll[i]? = some l → From lo H r 1 (ints l)
theorem FromRows.M {lo : Nat} {M : Nat → Prop} {H H' : AHeap} {v : AVal} {ll : List (List Int)} (h : FromRows lo H v ll) (hk : Keep M H H') (hM : ∀ j, M j → j < lo) : FromRows lo H' v ll := by
 obtain ⟨vs, h1, h2, h3⟩ := h
 exact ⟨vs, h1.M hk hM, h2, fun i r l e1 e2 => (h3 i r l e1 e2).M hk hM⟩
theorem FromRows.rows {lo : Nat} {H : AHeap} {v : AVal} {ll : List (List Int)} (h : FromRows lo H v ll) : RowsOf H v ll := by
 obtain ⟨vs, h1, h2, h3⟩ := h
 exact ⟨vs, h1.1, h2, fun i r l e1 e2 => (h3 i r l e1 e2).1⟩
structure IdxFrom (lo : Nat) (H : AHeap) (ew rv av uv dv : AVal) (x : Idx) : Prop where
 es : From lo H ew 4 (edgeCells x.es)
 rank : From lo H rv 1 (ints x.rank)
 arcs : From lo H av 7 (arcCells x.arcs)
 up : FromRows lo H uv x.up
 down : FromRows lo H dv x.down
theorem IdxFrom.M {lo : Nat} {M : Nat → Prop} {H H' : AHeap} {ew rv av uv dv : AVal} {x : Idx} (h : IdxFrom lo H ew rv av uv dv x) (hk : Keep M H H') (hM : ∀ j, M j → j < lo) : IdxFrom lo H' ew rv av uv dv x := ⟨h.es.M hk hM, h.rank.M hk hM, h.arcs.M hk hM, h.up.M hk hM, h.down.M hk hM⟩
theorem IdxFrom.kept {lo : Nat} {H H' : AHeap} {ew rv av uv dv : AVal} {x : Idx} (h : IdxFrom lo H ew rv av uv dv x) (hk : Keep Nothing H H') : IdxFrom lo H' ew rv av uv dv x := h.M hk (fun _ h => h.elim)
theorem IdxFrom.idx {lo : Nat} {H : AHeap} {ew rv av uv dv : AVal} {x : Idx} (h : IdxFrom lo H ew rv av uv dv x) : IdxAt H ew rv av uv dv x := ⟨h.es.1, h.rank.1, h.arcs.1, h.up.rows, h.down.rows⟩
def RowsAt (lo : Nat) (H : AHeap) (av : AVal) (us : List AVal) (ul : List (List Int)) : Prop := ∀ (v : Nat) r l, us[v]? = some r → ul[v]? = some l → Row H r 1 (ints l) ∧ ∀ j, sid r = some j → lo ≤ j ∧ sid av ≠ some j
theorem RowsAt.M {lo : Nat} {M : Nat → Prop} {H H' : AHeap} {av av' : AVal} {us : List AVal} {ul : List (List Int)} (h : RowsAt lo H av us ul) (hk : Keep M H H') (hM : ∀ j, M j → j < lo ∨ sid av = some j) (ha : sid av' = sid av ∨ ∃ y, sid av' = some y ∧ H.next ≤ y) : RowsAt lo H' av' us ul := by
 intro v r l h1 h2
 obtain ⟨h3, h4⟩ := h v r l h1 h2
 refine ⟨h3.M hk (fun j hj hm => ?_), fun j hj => ⟨(h4 j hj).1, fun e => ?_⟩⟩
 ·rcases hM j hm with h | h
  ·have := (h4 j hj).1; omega
  ·exact (h4 j hj).2 h
 ·rcases ha with ha | ⟨y, ha, hy⟩
  ·rw [ha] at e; exact (h4 j hj).2 e
  ·rw [ha] at e; injection e with e; subst e
   have := h3.sid_lt hj
   omega
theorem RowsAt.set {lo : Nat} {H : AHeap} {av r : AVal} {us : List AVal} {ul : List (List Int)} {l : List Int} {v : Nat} (h : RowsAt lo H av us ul) (hr : Row H r 1 (ints l)) (hs : ∀ j, sid r = some j → lo ≤ j ∧ sid av ≠ some j) (hlen : us.length = ul.length) : RowsAt lo H av (us.set v r) (ul.set v l) := by
 intro w q m h1 h2
 rw [List.getElem?_set] at h1 h2
 by_cases hvw : v = w
 ·subst hvw
  rw [if_pos rfl] at h1 h2
  by_cases hl : v < us.length
  ·rw [if_pos hl] at h1; rw [if_pos (by omega)] at h2
   injection h1 with h1; injection h2 with h2; subst h1; subst h2
   exact ⟨hr, hs⟩
  ·rw [if_neg hl] at h1; cases h1
 ·rw [if_neg hvw] at h1 h2
  exact h w q m h1 h2
theorem reps_false (n : Nat) : reps [.bool false] n = bools (List.replicate n false) := by
 induction n with
 | zero => rfl
 | succ n ih => simp [reps, ih, bools, List.replicate_succ]
end Go.Proofs.Ytknhlpmmalcchaa

namespace Go.Proofs.Ytknhlpmmalcchaa
open Go Go.VAI
set_option linter.unusedSimpArgs false

end Go.Proofs.Ytknhlpmmalcchaa

namespace Go.Proofs.Ytknhlpmmalcchaa
open Go Go.VAI
set_option linter.unusedSimpArgs false

structure EncAt (H0 H : AHeap) (x : List AVal) (bv : AVal) (bs : List Int) : Prop where
 keep : Keep Nothing H0 H
 lt : H0.next + 3 ≤ H.next
 box : H.obj H0.next = some (.cells x true)
 w : H.obj (H0.next + 1 + 1) = some (.cells [bv] true)
 own : Own (H0.next + 1) H bv 1 (u8s bs)
 ne : sid bv ≠ some (H0.next + 1 + 1)
theorem EncAt.kept {H0 H H' : AHeap} {x : List AVal} {bv : AVal} {bs : List Int} (h : EncAt H0 H x bv bs) (hk : Keep Nothing H H') : EncAt H0 H' x bv bs := by
 have := h.lt
 exact ⟨h.keep.trans hk, by have := hk.next; omega, by rw [hk.old (by omega)]; exact h.box, by rw [hk.old (by omega)]; exact h.w, h.own.kept hk, h.ne⟩
end Go.Proofs.Ytknhlpmmalcchaa

namespace Go.Proofs.Ytknhlpmmalcchaa
open Go Go.VAI
set_option linter.unusedSimpArgs false

def mkN (size : Int) : Nat := (1 + size % 12).toNat
def mkEs (size modes : Int) (xs : List Int) : List Edge := (xs.take 40).map (mkEdge (1 + size % 12) modes)
theorem mkN_eq (size : Int) : ((mkN size : Nat) : Int) = 1 + size % 12 := by unfold mkN; omega
theorem mk_net (size modes : Int) (xs : List Int) : NetOk (mkN size : Nat) (mkEs size modes xs) := by
 rw [mkN_eq]
 have h1 : 0 ≤ size % 12 := by omega
 have h2 : size % 12 < 12 := by omega
 refine ⟨by omega, by omega, by simp [mkEs]; omega, fun e he => ?_⟩
 simp only [mkEs, List.mem_map] at he
 obtain ⟨k, _, rfl⟩ := he
 have a1 := Int.emod_nonneg k (show 1 + size % 12 ≠ 0 by omega)
 have a2 := Int.emod_lt_of_pos k (show 0 < 1 + size % 12 by omega)
 have b1 := Int.emod_nonneg (k.tdiv 13) (show 1 + size % 12 ≠ 0 by omega)
 have b2 := Int.emod_lt_of_pos (k.tdiv 13) (show 0 < 1 + size % 12 by omega)
 refine ⟨⟨a1, a2⟩, ⟨b1, b2⟩, ?_, ?_⟩
 ·simp only [mkEdge]
  generalize k % (1 + size % 12) + k.tdiv 13 % (1 + size % 12) = p
  generalize k.tdiv 170 % 5 * (k % (1 + size % 12)) = q
  split
  ·omega
  ·split <;> omega
 ·simp only [mkEdge]
  split <;> omega
theorem mk_small (size : Int) : mkN size ≤ 21 := by unfold mkN; omega
theorem idx_allowed {N : Nat} {es : List Edge} (h : NetOk N es) (hN : N ≤ 21) : Allowed (idxOf N es) := by
 obtain ⟨cur, ex, hb⟩ := built (l := orderAll N es) (fun e he => by
  obtain ⟨a1, a2, a3, a4⟩ := h.2.2.2 e he
  exact ⟨a1, a2, a3, a4.1⟩) (orderOf_ok N es _)
 exact built_allowed h (orderOf_ok N es _) hN hb
end Go.Proofs.Ytknhlpmmalcchaa

namespace Go.Proofs.Ytknhlpmmalcchaa
open Go Go.VAI
set_option linter.unusedSimpArgs false

structure RS where
 left : List Int
 bad : Bool
 deriving DecidableEq, Inhabited
def Bytes (l : List Int) : Prop := ∀ b ∈ l, 0 ≤ b ∧ b < 256
def RdAt (H : AHeap) (w : Nat) (src : Option Nat) (s : RS) : Prop := ∃ lv, H.obj w = some (.cells [lv, .bool s.bad] true) ∧ RowC H lv 1 (u8s s.left) ∧ sid lv = src ∧ w < H.next ∧ src ≠ some w ∧ Bytes s.left ∧ s.left.length ≤ 4611686018427387904
theorem RdAt.M {M : Nat → Prop} {H H' : AHeap} {w : Nat} {src : Option Nat} {s : RS} (h : RdAt H w src s) (hk : Keep M H H') (hw : ¬ M w) (hs : ∀ j, src = some j → ¬ M j) : RdAt H' w src s := by
 obtain ⟨lv, h1, h2, h3, h4, h5, h6, h7⟩ := h
 exact ⟨lv, by rw [hk.obj w h4 hw]; exact h1, h2.M hk (fun j hj => hs j (by rw [← h3]; exact hj)), h3, by have := hk.next; omega, h5, h6, h7⟩
theorem RdAt.kept {H H' : AHeap} {w : Nat} {src : Option Nat} {s : RS} (h : RdAt H w src s) (hk : Keep Nothing H H') : RdAt H' w src s := h.M hk (fun h => h) (fun _ _ h => h)
end Go.Proofs.Ytknhlpmmalcchaa

namespace Go.Proofs.Ytknhlpmmalcchaa
open Go Go.VAI
set_option linter.unusedSimpArgs false

theorem RdAt.bytes {H : AHeap} {w : Nat} {src : Option Nat} {s : RS} (h : RdAt H w src s) : Bytes s.left := by
 obtain ⟨lv, h1, h2, h3, h4, h5, h6, h7⟩ := h
 exact h6
theorem RdAt.lt {H : AHeap} {w : Nat} {src : Option Nat} {s : RS} (h : RdAt H w src s) : w < H.next := by
 obtain ⟨lv, h1, h2, h3, h4, h5, h6, h7⟩ := h
 exact h4
structure RW (H0 H : AHeap) (w : Nat) (src : Option Nat) (s : RS) (p q : Nat) (cs zs : List AVal) : Prop where
 keep : Keep (fun j => j = w) H0 H
 rd : RdAt H w src s
 o1 : H.obj p = some (.cells cs true)
 o2 : H.obj q = some (.cells zs true)
 lp : H0.next ≤ p ∧ p < H.next
 lq : H0.next ≤ q ∧ q < H.next
 ne : p ≠ q
 lw : w < H0.next
 ls : ∀ j, src = some j → j < H0.next
theorem RW.set {H0 H : AHeap} {w p q : Nat} {src : Option Nat} {s : RS} {cs zs : List AVal} (h : RW H0 H w src s p q cs zs) (cs' : List AVal) : RW H0 (H.upd p (some (.cells cs' true))) w src s p q cs' zs := by
 have l1 := h.lp
 have l2 := h.lq
 have l3 := h.lw
 have kk : Keep (fun j => j = p) H (H.upd p (some (.cells cs' true))) := (Keep.refl (fun j => j = p) _).upd (.inr rfl) _
 refine ⟨h.keep.upd (.inl l1.1) _, h.rd.M kk (by omega) (fun j hj => by have := h.ls j hj; omega), obj_upd_eq rfl, ?_, l1, l2, h.ne, h.lw, h.ls⟩
 rw [obj_upd_ne (fun e => h.ne e.symm)]; exact h.o2
end Go.Proofs.Ytknhlpmmalcchaa

namespace Go.Proofs.Ytknhlpmmalcchaa
open Go Go.VAI
set_option linter.unusedSimpArgs false

theorem cloneE_ret {v : AVal} {es : List Edge} {H : AHeap} {Q : AVal → AHeap → Prop} (hr : Row H v 4 (edgeCells es)) (hlen : es.length ≤ 1000000000)
  (hq : ∀ v' H', Keep Nothing H H' → Own H.next H' v' 4 (edgeCells es) → Q v' H') : Ret A 69 [v] H Q := by
 refine Ret.of (fn := F69) rfl ?_
 rcases hr.nilTest with ⟨rfl, h1, _⟩ | h1
 ·simp (disch := first | omega | (simp only [nx] <;> omega) | fail) only [vaw, F69, Nat.reduceAdd, Nat.reduceMul, Nat.reduceLeDiff, Nat.reduceEqDiff, ↓reduceIte]
  refine hq _ _ (.refl _ _) ?_
  rw [h1]; exact .nil
 ·simp (disch := first | omega | (simp only [nx] <;> omega) | fail) only [vaw, F69, h1, Nat.reduceAdd, Nat.reduceMul, Nat.reduceLeDiff, Nat.reduceEqDiff, ↓reduceIte]
  refine copy_ret (n := es.length) (by simp (disch := first | omega | (simp only [nx] <;> omega) | fail) only [vaim]) (by first | omega | (simp only [next_new, next_upd]; omega)) (hr.kept ((Keep.refl _ _).new _)) (edgeCells_length es) (by omega) (by omega) (by omega) ?_
  intro v' H' k' g' s'
  simp (disch := first | omega | (simp only [nx] <;> omega) | fail) only [vaw, g'.notBot, Nat.reduceAdd, Nat.reduceMul, Nat.reduceLeDiff, Nat.reduceEqDiff, ↓reduceIte]
  exact hq _ _ (((Keep.refl _ _).new _).trans k') g'
theorem cloneA_ret {v : AVal} {es : List Arc} {H : AHeap} {Q : AVal → AHeap → Prop} (hr : Row H v 7 (arcCells es)) (hlen : es.length ≤ 1000000000)
  (hq : ∀ v' H', Keep Nothing H H' → Own H.next H' v' 7 (arcCells es) → Q v' H') : Ret A 71 [v] H Q := by
 refine Ret.of (fn := F71) rfl ?_
 rcases hr.nilTest with ⟨rfl, h1, _⟩ | h1
 ·simp (disch := first | omega | (simp only [nx] <;> omega) | fail) only [vaw, F71, Nat.reduceAdd, Nat.reduceMul, Nat.reduceLeDiff, Nat.reduceEqDiff, ↓reduceIte]
  refine hq _ _ (.refl _ _) ?_
  rw [h1]; exact .nil
 ·simp (disch := first | omega | (simp only [nx] <;> omega) | fail) only [vaw, F71, h1, Nat.reduceAdd, Nat.reduceMul, Nat.reduceLeDiff, Nat.reduceEqDiff, ↓reduceIte]
  refine copy_ret (n := es.length) (by simp (disch := first | omega | (simp only [nx] <;> omega) | fail) only [vaim]) (by first | omega | (simp only [next_new, next_upd]; omega)) (hr.kept ((Keep.refl _ _).new _)) (arcCells_length es) (by omega) (by omega) (by omega) ?_
  intro v' H' k' g' s'
  simp (disch := first | omega | (simp only [nx] <;> omega) | fail) only [vaw, g'.notBot, Nat.reduceAdd, Nat.reduceMul, Nat.reduceLeDiff, Nat.reduceEqDiff, ↓reduceIte]
  exact hq _ _ (((Keep.refl _ _).new _).trans k') g'
theorem cloneI_ret {v : AVal} {es : List Int} {H : AHeap} {Q : AVal → AHeap → Prop} (hr : Row H v 1 (ints es)) (hlen : es.length ≤ 1000000000)
  (hq : ∀ v' H', Keep Nothing H H' → Own H.next H' v' 1 (ints es) → Q v' H') : Ret A 70 [v] H Q := by
 refine Ret.of (fn := F70) rfl ?_
 rcases hr.nilTest with ⟨rfl, h1, _⟩ | h1
 ·simp (disch := first | omega | (simp only [nx] <;> omega) | fail) only [vaw, F70, Nat.reduceAdd, Nat.reduceMul, Nat.reduceLeDiff, Nat.reduceEqDiff, ↓reduceIte]
  refine hq _ _ (.refl _ _) ?_
  rw [h1]; exact .nil
 ·simp (disch := first | omega | (simp only [nx] <;> omega) | fail) only [vaw, F70, h1, Nat.reduceAdd, Nat.reduceMul, Nat.reduceLeDiff, Nat.reduceEqDiff, ↓reduceIte]
  refine copy_ret (n := es.length) (by simp (disch := first | omega | (simp only [nx] <;> omega) | fail) only [vaim]) (by first | omega | (simp only [next_new, next_upd]; omega)) (hr.kept ((Keep.refl _ _).new _)) (by rw [ints_length]; omega) (by omega) (by omega) (by omega) ?_
  intro v' H' k' g' s'
  simp (disch := first | omega | (simp only [nx] <;> omega) | fail) only [vaw, g'.notBot, Nat.reduceAdd, Nat.reduceMul, Nat.reduceLeDiff, Nat.reduceEqDiff, ↓reduceIte]
  exact hq _ _ (((Keep.refl _ _).new _).trans k') g'
end Go.Proofs.Ytknhlpmmalcchaa

namespace Go.Proofs.Ytknhlpmmalcchaa
open Go Go.VAI
set_option linter.unusedSimpArgs false

def cmpI (x y : Int) : Int := if x < y then -1 else if y < x then 1 else 0
def orOf : List Int → Int
 | [] => 0
 | x :: l => if x ≠ 0 then x else orOf l
theorem isNaN_ret {x : Int} {H : AHeap} {Q : AVal → AHeap → Prop} (hq : Q (.bool false) H) : Ret A 141 [.int .i64 x] H Q := by
 refine Ret.of (fn := F141) rfl ?_
 simp (disch := first | omega | (simp only [nx] <;> omega) | fail) only [vaw, F141, ne_eq, not_true_eq_false, Nat.reduceAdd, Nat.reduceMul, Nat.reduceLeDiff, Nat.reduceEqDiff, ↓reduceIte]
 exact hq
theorem compare_ret {x y : Int} {H : AHeap} {Q : AVal → AHeap → Prop} (hq : Q (.int .i64 (cmpI x y)) H) : Ret A 118 [.int .i64 x, .int .i64 y] H Q := by
 refine Ret.of (fn := F118) rfl ?_
 simp (disch := first | omega | (simp only [nx] <;> omega) | fail) only [vaw, F118, Nat.reduceAdd, Nat.reduceMul, Nat.reduceLeDiff, Nat.reduceEqDiff, ↓reduceIte]
 refine isNaN_ret ?_
 simp (disch := first | omega | (simp only [nx] <;> omega) | fail) only [vaw, Nat.reduceAdd, Nat.reduceMul, Nat.reduceLeDiff, Nat.reduceEqDiff, ↓reduceIte]
 refine isNaN_ret ?_
 unfold cmpI at hq
 by_cases h1 : x < y
 ·rw [if_pos h1] at hq
  simp (disch := first | omega | (simp only [nx] <;> omega) | fail) only [vaw, h1, Nat.reduceAdd, Nat.reduceMul, Nat.reduceLeDiff, Nat.reduceEqDiff, ↓reduceIte]
  exact hq
 by_cases h2 : y < x
 ·rw [if_neg h1, if_pos h2] at hq
  simp (disch := first | omega | (simp only [nx] <;> omega) | fail) only [vaw, h1, h2, Nat.reduceAdd, Nat.reduceMul, Nat.reduceLeDiff, Nat.reduceEqDiff, ↓reduceIte]
  exact hq
 ·rw [if_neg h1, if_neg h2] at hq
  simp (disch := first | omega | (simp only [nx] <;> omega) | fail) only [vaw, h1, h2, Nat.reduceAdd, Nat.reduceMul, Nat.reduceLeDiff, Nat.reduceEqDiff, ↓reduceIte]
  exact hq
theorem orOf_drop {xs : List Int} {i : Nat} {x : Int} (h : xs[i]? = some x) : orOf (xs.drop i) = if x ≠ 0 then x else orOf (xs.drop (i + 1)) := by
 obtain ⟨h1, h2⟩ := List.getElem?_eq_some_iff.1 h
 rw [List.drop_eq_getElem_cons h1, h2, orOf]
theorem or_ret {v : AVal} {xs : List Int} {H : AHeap} {Q : AVal → AHeap → Prop} (hr : Row H v 1 (ints xs)) (hlen : xs.length ≤ 1000000) (hq : Q (.int .i64 (orOf xs)) H) : Ret A 117 [v] H Q := by
 refine Ret.of (fn := F117) rfl ?_
 have hl := hr.len1
 rw [ints_length] at hl
 simp (disch := first | omega | (simp only [nx] <;> omega) | fail) only [vaw, F117, hl, Nat.reduceAdd, Nat.reduceMul, Nat.reduceLeDiff, Nat.reduceEqDiff, ↓reduceIte]
 refine wpx_loop (fun m t H' => ∃ (i : Nat), m = xs.length - i ∧ i ≤ xs.length ∧ t = (bots 3 (.int .i64 0 :: bots 2 (v :: .int .i64 xs.length :: .int .i64 i :: bots 9 ([]))) : Tmps) ∧ H' = H ∧ orOf xs = orOf (xs.drop i)) xs.length ?_ ?_
 ·exact ⟨0, rfl, by omega, rfl, rfl, rfl⟩
 ·rintro m t H1 ⟨i, rfl, hi, rfl, rfl, ho⟩
  by_cases hc : (i : Int) < xs.length
  ·have hil : i < xs.length := by omega
   have hx : xs[i]? = some xs[i] := by simp [hil]
   obtain ⟨id, off, e1, e2, e3⟩ := hr.int_at (k := .i64) hx
   have hd := orOf_drop hx
   generalize xs[i] = x at *
   by_cases h0 : x = 0
   ·simp (disch := first | omega | (simp only [nx] <;> omega) | fail) only [vaw, hc, e1, e3, h0, ne_eq, not_true_eq_false, Nat.reduceAdd, Nat.reduceMul, Nat.reduceLeDiff, Nat.reduceEqDiff, ↓reduceIte]
    rw [if_neg (fun h => h h0)] at hd
    exact ⟨xs.length - (i + 1), by omega, i + 1, rfl, by omega, rfl, by rw [ho, hd]⟩
   ·simp (disch := first | omega | (simp only [nx] <;> omega) | fail) only [vaw, hc, e1, e3, h0, ne_eq, not_false_eq_true, Nat.reduceAdd, Nat.reduceMul, Nat.reduceLeDiff, Nat.reduceEqDiff, ↓reduceIte]
    rw [if_pos h0] at hd
    rw [← hd, ← ho]
    exact hq
  ·have : i = xs.length := by omega
   subst this
   rw [List.drop_length] at ho
   simp (disch := first | omega | (simp only [nx] <;> omega) | fail) only [vaw, hc, Nat.reduceAdd, Nat.reduceMul, Nat.reduceLeDiff, Nat.reduceEqDiff, ↓reduceIte]
   have : orOf xs = 0 := ho
   rw [this] at hq
   exact hq
def rankedCmp (a b : Int × Int) : Int := orOf [cmpI a.2 b.2, cmpI a.1 b.1]
def rcells (a : Int × Int) : List AVal := [.int .i64 a.1, .int .i64 a.2]
theorem before_ret {a b : Int × Int} {H : AHeap} {Q : AVal → AHeap → Prop} (hq : ∀ H', Keep Nothing H H' → Q (.int .i64 (rankedCmp a b)) H') : Ret A 89 [.agg (rcells a), .agg (rcells b)] H Q := by
 refine Ret.of (fn := F89) rfl ?_
 unfold rcells
 simp (disch := first | omega | (simp only [nx] <;> omega) | fail) only [vaw, F89, Nat.reduceAdd, Nat.reduceMul, Nat.reduceLeDiff, Nat.reduceEqDiff, ↓reduceIte]
 refine compare_ret ?_
 simp (disch := first | omega | (simp only [nx] <;> omega) | fail) only [vaw, Nat.reduceAdd, Nat.reduceMul, Nat.reduceLeDiff, Nat.reduceEqDiff, ↓reduceIte]
 refine compare_ret ?_
 simp (disch := first | omega | (simp only [nx] <;> omega) | fail) only [vaw, Nat.reduceAdd, Nat.reduceMul, Nat.reduceLeDiff, Nat.reduceEqDiff, ↓reduceIte]
 refine or_ret (xs := [cmpI a.2 b.2, cmpI a.1 b.1]) (.mk (c := ints [cmpI a.2 b.2, cmpI a.1 b.1]) (by simp only [next_new]; omega) (by simp (disch := first | omega | (simp only [nx] <;> omega) | fail) only [vaim]; rfl) (by simp [ints_length]) rfl) (by simp) ?_
 simp (disch := first | omega | (simp only [nx] <;> omega) | fail) only [vaw, Nat.reduceAdd, Nat.reduceMul, Nat.reduceLeDiff, Nat.reduceEqDiff, ↓reduceIte]
 exact hq _ (((Keep.refl _ _).new _).new _ |>.new _)
theorem rcmp_ret {a b : Int × Int} {H : AHeap} {Q : AVal → AHeap → Prop} (hq : ∀ H', Keep Nothing H H' → Q (.int .i64 (rankedCmp a b)) H') : Ret A 88 [.agg (rcells a), .agg (rcells b)] H Q := by
 refine Ret.of (fn := F88) rfl ?_
 have e1 : (rcells a).length = 2 := rfl
 have e2 : (rcells b).length = 2 := rfl
 have f1 : ((rcells a).drop 0).take 2 = rcells a := rfl
 have f2 : ((rcells b).drop 0).take 2 = rcells b := rfl
 simp (disch := first | omega | (simp only [nx] <;> omega) | fail) only [vaw, F88, e1, e2, f1, f2, Nat.reduceAdd, Nat.reduceMul, Nat.reduceLeDiff, Nat.reduceEqDiff, ↓reduceIte]
 refine before_ret fun H1 k1 => ?_
 simp (disch := first | omega | (simp only [nx] <;> omega) | fail) only [vaw, Nat.reduceAdd, Nat.reduceMul, Nat.reduceLeDiff, Nat.reduceEqDiff, ↓reduceIte]
 exact hq _ ((((Keep.refl _ _).new _).new _).trans k1)
end Go.Proofs.Ytknhlpmmalcchaa

/- Closed facts of the program: what its head says, read as a list of signs (the kernel is slow at a long text's own signs). -/
namespace Go.Proofs.Ytknhlpmmalcchaa
open Go Go.ChangeShapes Go.WideShapes Go.ChangeAt Go.RowKit
set_option maxRecDepth 100000
def headSigns : List Char := List.map Char.ofNat [104, 97, 114, 110, 101, 115, 115, 32, 55, 99, 56, 99, 100, 51, 98, 49, 52, 101, 49, 49, 99, 55, 53, 54, 51, 54, 100, 97, 101, 56, 55, 98, 55, 54, 100, 50, 48, 98, 53, 57, 56, 97, 56, 56, 56, 55, 99, 98, 51, 49, 48, 98, 100, 53, 97, 55, 54, 53, 102, 100, 48, 102, 49, 102, 50, 57, 53, 50, 52, 102, 57, 50, 32, 99, 117, 116, 32, 97, 116, 32, 109, 105, 108, 101, 115, 116, 111, 110, 101, 47, 109, 105, 108, 101, 115, 116, 111, 110, 101, 108, 97, 119, 49, 50, 46, 73, 110, 100, 101, 120, 66, 97, 99, 107, 32, 109, 105, 108, 101, 115, 116, 111, 110, 101, 47, 109, 105, 108, 101, 115, 116, 111, 110, 101, 108, 97, 119, 49, 50, 46, 73, 110, 100, 101, 120, 82, 101, 97, 100, 115, 32, 109, 105, 108, 101, 115, 116, 111, 110, 101, 47, 109, 105, 108, 101, 115, 116, 111, 110, 101, 108, 97, 119, 49, 50, 46, 73, 110, 100, 101, 120, 83, 112, 111, 105, 108, 116, 32, 109, 105, 108, 101, 115, 116, 111, 110, 101, 47, 109, 105, 108, 101, 115, 116, 111, 110, 101, 108, 97, 119, 49, 50, 46, 73, 110, 100, 101, 120, 79, 110, 108, 121, 32, 109, 105, 108, 101, 115, 116, 111, 110, 101, 47, 109, 105, 108, 101, 115, 116, 111, 110, 101, 108, 97, 119, 49, 50, 46, 73, 110, 100, 101, 120, 83, 105, 122, 101, 32, 109, 105, 108, 101, 115, 116, 111, 110, 101, 47, 109, 105, 108, 101, 115, 116, 111, 110, 101, 108, 97, 119, 49, 50, 46, 73, 110, 100, 101, 120, 65, 112, 97, 114, 116, 32, 109, 105, 108, 101, 115, 116, 111, 110, 101, 47, 109, 105, 108, 101, 115, 116, 111, 110, 101, 108, 97, 119, 49, 50, 46, 73, 110, 100, 101, 120, 67, 117, 116, 32, 109, 105, 108, 101, 115, 116, 111, 110, 101, 47, 109, 105, 108, 101, 115, 116, 111, 110, 101, 108, 97, 119, 49, 50, 46, 73, 110, 100, 101, 120, 67, 111, 117, 110, 116, 115, 32, 109, 105, 108, 101, 115, 116, 111, 110, 101, 47, 109, 105, 108, 101, 115, 116, 111, 110, 101, 108, 97, 119, 49, 50, 46, 73, 110, 100, 101, 120, 72, 101, 97, 100, 32, 109, 105, 108, 101, 115, 116, 111, 110, 101, 47, 109, 105, 108, 101, 115, 116, 111, 110, 101, 108, 97, 119, 49, 48, 46, 79, 114, 100, 101, 114, 65, 108, 108, 32, 109, 105, 108, 101, 115, 116, 111, 110, 101, 47, 109, 105, 108, 101, 115, 116, 111, 110, 101, 108, 97, 119, 49, 48, 46, 79, 114, 100, 101, 114, 69, 97, 99, 104, 32, 109, 105, 108, 101, 115, 116, 111, 110, 101, 47, 109, 105, 108, 101, 115, 116, 111, 110, 101, 108, 97, 119, 49, 48, 46, 79, 114, 100, 101, 114, 67, 111, 115, 116, 115, 32, 109, 105, 108, 101, 115, 116, 111, 110, 101, 47, 109, 105, 108, 101, 115, 116, 111, 110, 101, 108, 97, 119, 49, 48, 46, 79, 114, 100, 101, 114, 75, 110, 111, 119, 110, 32, 109, 105, 108, 101, 115, 116, 111, 110, 101, 47, 109, 105, 108, 101, 115, 116, 111, 110, 101, 108, 97, 119, 49, 48, 46, 79, 114, 100, 101, 114, 77, 111, 100, 101, 32, 109, 105, 108, 101, 115, 116, 111, 110, 101, 47, 109, 105, 108, 101, 115, 116, 111, 110, 101, 108, 97, 119, 49, 49, 46, 72, 105, 101, 114, 66, 117, 105, 108, 100, 115, 32, 109, 105, 108, 101, 115, 116, 111, 110, 101, 47, 109, 105, 108, 101, 115, 116, 111, 110, 101, 108, 97, 119, 49, 49, 46, 72, 105, 101, 114, 82, 97, 110, 107, 115, 32, 109, 105, 108, 101, 115, 116, 111, 110, 101, 47, 109, 105, 108, 101, 115, 116, 111, 110, 101, 108, 97, 119, 49, 49, 46, 72, 105, 101, 114, 75, 101, 101, 112, 115, 32, 109, 105, 108, 101, 115, 116, 111, 110, 101, 47, 109, 105, 108, 101, 115, 116, 111, 110, 101, 108, 97, 119, 49, 49, 46, 72, 105, 101, 114, 67, 111, 114, 101, 32, 109, 105, 108, 101, 115, 116, 111, 110, 101, 47, 109, 105, 108, 101, 115, 116, 111, 110, 101, 108, 97, 119, 49, 49, 46, 72, 105, 101, 114, 67, 111, 115, 116, 115, 32, 109, 105, 108, 101, 115, 116, 111, 110, 101, 47, 109, 105, 108, 101, 115, 116, 111, 110, 101, 108, 97, 119, 49, 49, 46, 72, 105, 101, 114, 65, 114, 99, 115, 32, 109, 105, 108, 101, 115, 116, 111, 110, 101, 47, 109, 105, 108, 101, 115, 116, 111, 110, 101, 108, 97, 119, 49, 49, 46, 72, 105, 101, 114, 83, 104, 111, 114, 116, 32, 109, 105, 108, 101, 115, 116, 111, 110, 101, 47, 109, 105, 108, 101, 115, 116, 111, 110, 101, 108, 97, 119, 49, 49, 46, 72, 105, 101, 114, 79, 119, 110, 32, 109, 105, 108, 101, 115, 116, 111, 110, 101, 47, 109, 105, 108, 101, 115, 116, 111, 110, 101, 108, 97, 119, 49, 49, 46, 72, 105, 101, 114, 76, 111, 110, 103]
theorem head_eq : Try.prog.initOrder = String.ofList headSigns := by kernel_rfl
theorem head_list : Try.prog.initOrder.toList = headSigns := by rw [head_eq, String.toList_ofList]
theorem head_words : ∃ rest, behindMainWord (wordsSigns headSigns) = "cut".toList :: rest := ⟨(behindMainWord (wordsSigns headSigns)).tail, by kernel_rfl⟩
theorem strip_cut (rest : List (List Char)) : stripLifts liftWords ("cut".toList :: rest) = ([], "cut".toList :: rest) := by kernel_rfl
theorem ne1 : ("cut".toList == "gc".toList) = false := by kernel_rfl
theorem ne2 : ("cut".toList == "spec".toList) = false := by kernel_rfl
theorem ne3 : ("cut".toList == "carried".toList) = false := by kernel_rfl
theorem words_of : ∃ rest, behindMainWord (wordsSigns Try.prog.initOrder.toList) = "cut".toList :: rest := by
 obtain ⟨rest, h⟩ := head_words
 exact ⟨rest, (congrArg (fun l => behindMainWord (wordsSigns l)) head_list).trans h⟩
theorem make_of (P : Program) (rest : List (List Char)) (h : behindMainWord (wordsSigns P.initOrder.toList) = "cut".toList :: rest) : P.make = some .cut := by
 unfold Program.make
 rw [h]
 simp only [ne1, ne2, beq_self_eq_true, Bool.false_or, Bool.true_or, Bool.or_self, Bool.false_eq_true, if_true, if_false]
theorem lifts_of (P : Program) (rest : List (List Char)) (h : behindMainWord (wordsSigns P.initOrder.toList) = "cut".toList :: rest) : P.liftsFinal = false := by
 unfold Program.liftsFinal Program.headLifts
 rw [h]
 have e : ((some "cut".toList : Option (List Char)) == some "carried".toList) = false := by kernel_rfl
 simp only [strip_cut, List.head?_cons, beq_self_eq_true, if_true, e, Bool.false_and, Bool.false_or]
 rfl
theorem enter_of (P : Program) (rest : List (List Char)) (h : behindMainWord (wordsSigns P.initOrder.toList) = "cut".toList :: rest) (h1 : P.laysLater = false) (h2 : P.bearsReflect = false) (h3 : P.doorFits [] = true) : P.mayEnter = true := by
 unfold Program.mayEnter
 rw [h]
 simp only [strip_cut, ne1, ne2, ne3, h1, h2, h3, List.head?_cons, beq_self_eq_true, Bool.false_or, Bool.or_false, Bool.false_and, Bool.true_and, Bool.and_true, Bool.not_false, Bool.or_true, List.contains_nil]
theorem fact_make : Try.prog.make = some .cut := by
 obtain ⟨rest, h⟩ := words_of
 exact make_of _ _ h
theorem fact_lifts : Try.prog.liftsFinal = false := by
 obtain ⟨rest, h⟩ := words_of
 exact lifts_of _ _ h
theorem fact_later : Try.prog.laysLater = false := by kernel_rfl
theorem fact_reflect : Try.prog.bearsReflect = false := by kernel_rfl
theorem fact_door : Try.prog.doorFits [] = true := by kernel_rfl
theorem fact_enter : Try.prog.mayEnter = true := by
 obtain ⟨rest, h⟩ := words_of
 exact enter_of _ _ h fact_later fact_reflect fact_door
theorem fact_laid : laidOutB Try.prog = true := by kernel_rfl
theorem fact_maps : mapsRowed Try.prog = true := by kernel_rfl
theorem fact_heard : Try.prog.stopsHeard = true := by kernel_rfl
theorem own : ownKnob Try.prog.godebug = none := by kernel_rfl
theorem follows : Try.prog.follows .mixedOrders = true := by kernel_rfl
end Go.Proofs.Ytknhlpmmalcchaa

/- Sorting a row of keys: the library's own contract, laid at this program (written out by the kit's lay-plain). -/
namespace Go.Proofs
open Go.Shelf
def Try.sortKey_ren : Go.Shelf.Ren := ⟨fun | 6 => 119 | 15 => 116 | 14 => 142 | 28 => 139 | 29 => 140 | 20 => 149 | 21 => 150 | 22 => 151 | 23 => 152 | 24 => 153 | 25 => 154 | 26 => 155 | 27 => 156 | 46 => 158 | 47 => 145 | 48 => 146 | 49 => 159 | 50 => 160 | 57 => 161 | n => n, fun | 22 => 150 | 24 => 124 | 25 => 153 | 3 => 3 | 39 => 72 | 0 => 0 | 53 => 144 | 55 => 146 | 4 => 4 | 46 => 163 | 45 => 162 | 50 => 151 | 5 => 5 | 9 => 9 | 66 => 170 | 70 => 174 | 76 => 181 | 77 => 182 | n => n, fun | n => n⟩
theorem Try.sortKey : Go.Proofs.SlLaysF0.n6 Try.prog Try.sortKey_ren := {
 mixed := by kernel_rfl
 f6 := ⟨Try.f119.name, by decide, Try.func119.trans (congrArg some (by kernel_rfl))⟩
 f14 := ⟨Try.f142.name, by decide, Try.func142.trans (congrArg some (by kernel_rfl))⟩
 f15 := Try.func116.trans (congrArg some (by kernel_rfl))
 f20 := ⟨Try.f149.name, by decide, Try.func149.trans (congrArg some (by kernel_rfl))⟩
 f21 := ⟨Try.f150.name, by decide, Try.func150.trans (congrArg some (by kernel_rfl))⟩
 f22 := ⟨Try.f151.name, by decide, Try.func151.trans (congrArg some (by kernel_rfl))⟩
 f23 := ⟨Try.f152.name, by decide, Try.func152.trans (congrArg some (by kernel_rfl))⟩
 f24 := ⟨Try.f153.name, by decide, Try.func153.trans (congrArg some (by kernel_rfl))⟩
 f25 := ⟨Try.f154.name, by decide, Try.func154.trans (congrArg some (by kernel_rfl))⟩
 f26 := ⟨Try.f155.name, by decide, Try.func155.trans (congrArg some (by kernel_rfl))⟩
 f27 := ⟨Try.f156.name, by decide, Try.func156.trans (congrArg some (by kernel_rfl))⟩
 f28 := Try.func139.trans (congrArg some (by kernel_rfl))
 f29 := Try.func140.trans (congrArg some (by kernel_rfl))
 f46 := ⟨Try.f158.name, by decide, Try.func158.trans (congrArg some (by kernel_rfl))⟩
 f47 := Try.func145.trans (congrArg some (by kernel_rfl))
 f48 := Try.func146.trans (congrArg some (by kernel_rfl))
 f49 := ⟨Try.f159.name, by decide, Try.func159.trans (congrArg some (by kernel_rfl))⟩
 f50 := ⟨Try.f160.name, by decide, Try.func160.trans (congrArg some (by kernel_rfl))⟩
 f57 := ⟨Try.f161.name, by decide, Try.func161.trans (congrArg some (by kernel_rfl))⟩
 t0 := Try.underlying0
 a0 := Try.isAgg0
 z0 := Try.sizeOf0
 v0 := Try.zeroValue0
 t3 := Try.underlying3
 a3 := Try.isAgg3
 z3 := Try.sizeOf3
 v3 := Try.zeroValue3
 t4 := Try.underlying4
 a4 := Try.isAgg4
 z4 := Try.sizeOf4
 v4 := Try.zeroValue4
 t5 := Try.underlying5
 a5 := Try.isAgg5
 z5 := Try.sizeOf5
 v5 := Try.zeroValue5
 t9 := Try.underlying9
 a9 := Try.isAgg9
 z9 := Try.sizeOf9
 v9 := Try.zeroValue9
 t22 := Try.underlying150
 a22 := Try.isAgg150
 z22 := Try.sizeOf150
 v22 := Try.zeroValue150
 t25 := Try.underlying153
 a25 := Try.isAgg153
 z25 := Try.sizeOf153
 v25 := Try.zeroValue153
 t39 := Try.underlying72
 a39 := Try.isAgg72
 z39 := Try.sizeOf72
 v39 := Try.zeroValue72
 t45 := Try.underlying162
 a45 := Try.isAgg162
 z45 := Try.sizeOf162
 v45 := Try.zeroValue162
 t46 := Try.underlying163
 a46 := Try.isAgg163
 z46 := Try.sizeOf163
 v46 := Try.zeroValue163
 t50 := Try.underlying151
 a50 := Try.isAgg151
 z50 := Try.sizeOf151
 v50 := Try.zeroValue151
 t53 := Try.underlying144
 a53 := Try.isAgg144
 z53 := Try.sizeOf144
 v53 := Try.zeroValue144
 t55 := Try.underlying146
 a55 := Try.isAgg146
 z55 := Try.sizeOf146
 v55 := Try.zeroValue146
 t66 := Try.underlying170
 a66 := Try.isAgg170
 z66 := Try.sizeOf170
 v66 := Try.zeroValue170
 t70 := Try.underlying174
 a70 := Try.isAgg174
 z70 := Try.sizeOf174
 v70 := Try.zeroValue174
 t76 := Try.underlying181
 a76 := Try.isAgg181
 z76 := Try.sizeOf181
 v76 := Try.zeroValue181
 t77 := Try.underlying182
 a77 := Try.isAgg182
 z77 := Try.sizeOf182
 v77 := Try.zeroValue182 }
end Go.Proofs

namespace Go.Proofs.Ytknhlpmmalcchaa
open Go Go.VAI
set_option linter.unusedSimpArgs false

theorem keyCmp_or (x y : Key) : orOf [cmpI x.1 y.1, cmpI x.2.1 y.2.1, cmpI x.2.2 y.2.2] = keyCmp x y := by
 unfold keyCmp
 simp only [orOf, cmpI]
 repeat' split
 all_goals first | rfl | omega
theorem by_ret {x y : Key} {H : AHeap} {Q : AVal → AHeap → Prop} (hq : ∀ H', Keep Nothing H H' → Q (.int .i64 (keyCmp x y)) H') : Ret A 120 [.agg (keyCell x), .agg (keyCell y)] H Q := by
 refine Ret.of (fn := F120) rfl ?_
 unfold keyCell
 simp (disch := first | omega | (simp only [nx] <;> omega) | fail) only [vaw, F120, Nat.reduceAdd, Nat.reduceMul, Nat.reduceLeDiff, Nat.reduceEqDiff, ↓reduceIte]
 refine compare_ret ?_
 simp (disch := first | omega | (simp only [nx] <;> omega) | fail) only [vaw, Nat.reduceAdd, Nat.reduceMul, Nat.reduceLeDiff, Nat.reduceEqDiff, ↓reduceIte]
 refine compare_ret ?_
 simp (disch := first | omega | (simp only [nx] <;> omega) | fail) only [vaw, Nat.reduceAdd, Nat.reduceMul, Nat.reduceLeDiff, Nat.reduceEqDiff, ↓reduceIte]
 refine compare_ret ?_
 simp (disch := first | omega | (simp only [nx] <;> omega) | fail) only [vaw, Nat.reduceAdd, Nat.reduceMul, Nat.reduceLeDiff, Nat.reduceEqDiff, ↓reduceIte]
 refine or_ret (xs := [cmpI x.1 y.1, cmpI x.2.1 y.2.1, cmpI x.2.2 y.2.2]) (.mk (c := ints [cmpI x.1 y.1, cmpI x.2.1 y.2.1, cmpI x.2.2 y.2.2]) (by simp only [next_new]; omega) (by simp (disch := first | omega | (simp only [nx] <;> omega) | fail) only [vaim]; rfl) (by simp [ints_length]) rfl) (by simp) ?_
 simp (disch := first | omega | (simp only [nx] <;> omega) | fail) only [vaw, Nat.reduceAdd, Nat.reduceMul, Nat.reduceLeDiff, Nat.reduceEqDiff, ↓reduceIte]
 rw [keyCmp_or]
 exact hq _ (((Keep.refl _ _).new _).new _ |>.new _)
def encK (k : Key) : List Value := [.int .i64 k.1, .int .i64 k.2.1, .int .i64 k.2.2]
theorem by_lays (x y : Key) (W : World) : Calls Try.prog 120 #[.agg (encK x).toArray, .agg (encK y).toArray] W fun e w' => e = .returned (.int .i64 (keyCmp x y)) ∧ ∃ q os, w' = Go.Sort.grow (W.drewN q) os := by
 obtain ⟨n, ⟨v, H'⟩, h1, h2⟩ := by_ret (x := x) (y := y) (H := ⟨fun _ => none, 0⟩) (Q := fun v _ => v = .int .i64 (keyCmp x y)) (fun _ _ => rfl)
 simp only at h2
 subst h2
 obtain ⟨_, hc⟩ := callA_ok follows tab_ok A_ok n 120 _ _ _ _ h1
 have hus : VRels (fun _ => none) [AVal.agg (keyCell x), .agg (keyCell y)] [.agg (encK x).toArray, .agg (encK y).toArray] := by
  refine .cons ?_ (.cons ?_ .nil) <;>
  ·simp only [VRel]
   refine ⟨_, rfl, .cons (by simp only [VRel]) (.cons (by simp only [VRel]) (.cons (by simp only [VRel]) .nil)), ?_⟩
   intro c hc
   simp only [keyCell, List.mem_cons, List.not_mem_nil, or_false] at hc
   rcases hc with rfl | rfl | rfl <;> rfl
 refine (hc _ _ W _ (hrel_none W) hus).mono fun e w' => ?_
 rintro ⟨v', rfl, ρ', hv, hs⟩
 simp only [VRel] at hv
 subst hv
 exact ⟨rfl, beneath_grow hs.below⟩
end Go.Proofs.Ytknhlpmmalcchaa

namespace Go.Proofs.Ytknhlpmmalcchaa
open Go Go.VAI Go.Sort
set_option linter.unusedSimpArgs false

theorem key_at : ∀ (ks : List Key) (j : Nat), j < ks.length * 3 → ∃ z, (keyCells ks)[j]? = some (.int .i64 z) ∧ (encK (ks.toArray[j / 3]!))[j % 3]! = .int .i64 z
 | [], j, h => by simp at h
 | k :: l, 0, h => ⟨k.1, rfl, rfl⟩
 | k :: l, 1, h => ⟨k.2.1, rfl, rfl⟩
 | k :: l, 2, h => ⟨k.2.2, rfl, rfl⟩
 | k :: l, j + 3, h => by
  obtain ⟨z, h1, h2⟩ := key_at l j (by simp at h; omega)
  have e1 : (j + 3) / 3 = j / 3 + 1 := by omega
  have e2 : (j + 3) % 3 = j % 3 := by omega
  refine ⟨z, h1, ?_⟩
  rw [e1, e2]
  have hl : j / 3 < l.length := by simp at h; omega
  have e3 : (k :: l).toArray[j / 3 + 1]! = l.toArray[j / 3]! := by
   rw [getElem!_pos _ _ (by simp; omega), getElem!_pos _ _ (by simpa using hl)]
   simp
  rw [e3]
  exact h2
theorem keyCells_length (ks : List Key) : (keyCells ks).length = ks.length * 3 := by
 induction ks with
 | nil => rfl
 | cons k l ih =>
  show (keyCell k ++ keyCells l).length = _
  rw [List.length_append, ih]
  simp [keyCell]
  omega
theorem ltOf_keyCmp (x y : Key) : ltOf keyCmp x y = keyLt x y := rfl
theorem keyCmp_neg {x y : Key} : keyCmp x y < 0 ↔ x.1 < y.1 ∨ (x.1 = y.1 ∧ (x.2.1 < y.2.1 ∨ (x.2.1 = y.2.1 ∧ x.2.2 < y.2.2))) := by
 unfold keyCmp
 repeat' split
 all_goals omega
theorem keyLt_iff {x y : Key} : keyLt x y = true ↔ x.1 < y.1 ∨ (x.1 = y.1 ∧ (x.2.1 < y.2.1 ∨ (x.2.1 = y.2.1 ∧ x.2.2 < y.2.2))) := by
 unfold keyLt
 rw [decide_eq_true_iff, keyCmp_neg]
theorem keyLt_not {x y : Key} : keyLt x y = false ↔ ¬ (x.1 < y.1 ∨ (x.1 = y.1 ∧ (x.2.1 < y.2.1 ∨ (x.2.1 = y.2.1 ∧ x.2.2 < y.2.2)))) := by
 rw [← keyLt_iff, Bool.not_eq_true]
theorem key_swo : SWO (ltOf keyCmp) where
 irrefl x := by rw [ltOf_keyCmp, keyLt_not]; omega
 trans x y z h1 h2 := by rw [ltOf_keyCmp] at *; rw [keyLt_iff] at *; omega
 ntrans x y z h1 h2 := by rw [ltOf_keyCmp] at *; rw [keyLt_not] at *; omega
theorem key_one (x y : Key) (h1 : ltOf keyCmp x y = false) (h2 : ltOf keyCmp y x = false) : x = y := by
 rw [ltOf_keyCmp, keyLt_not] at h1 h2
 obtain ⟨a, b, c⟩ := x
 obtain ⟨a', b', c'⟩ := y
 simp only at h1 h2
 have : a = a' ∧ b = b' ∧ c = c' := by omega
 obtain ⟨rfl, rfl, rfl⟩ := this
 rfl
theorem enters120 : ∀ (args : Array Value) (w : World), (callFunc 120 args).run Try.prog w = .ok (.enter 120 args) w := enters_of Try.func120 (by kernel_rfl) rfl
theorem sort_at {H : AHeap} {id len : Nat} {ks : List Key} {cap : ACap} (ho : H.obj id = some (.cells (keyCells ks) true)) (hl : ks.length = len) (h0 : 0 < len) (hsz : len ≤ 1000000) :
  CallAt Try.prog 119 [.slice id 0 len cap, .func (.func 120) [] []] H (.tuple []) (H.upd id (some (.cells (keyCells (sortKeys ks)) true))) := by
 refine ⟨⟨_, _, Try.func119, rfl, by kernel_rfl⟩, fun ρ B w us hH hus => ?_⟩
 obtain ⟨v1, us1, rfl, r1, hus⟩ := hus.cons_inv
 obtain ⟨v2, us2, rfl, r2, hus⟩ := hus.cons_inv
 have := hus.nil_inv
 subst this
 simp only [VRel] at r2
 obtain ⟨x, y, rfl, hx, hy⟩ := r2
 have := hx.nil_inv
 subst this
 have := hy.nil_inv
 subst this
 have hs : ∃ l c, ρ id = some l ∧ v1 = .slice (some ⟨l.b, l.o, none⟩) len c := by
  cases cap with
  | exact n =>
   simp only [VRel] at r1
   obtain ⟨l, p, h1, rfl, h2, h3⟩ := r1
   refine ⟨l, n, h1, ?_⟩
   have : p = l.o := by omega
   rw [this]
  | room s =>
   simp only [VRel] at r1
   obtain ⟨l, c, p, h1, rfl, h2, h3⟩ := r1
   refine ⟨l, c, h1, ?_⟩
   have : p = l.o := by omega
   rw [this]
 obtain ⟨l, c, hid, rfl⟩ := hs
 obtain ⟨hB, hcr, hfit, arr, E, fz, hblk, hsize, hfz⟩ := hH.obj id l _ hid ho
 have hlt := (hH.dom id l hid).2
 have hkl := keyCells_length ks
 have hK : HoldsK encK 3 w l.b l.o ks.toArray := by
  intro j hj
  have hj3 : j < ks.length * 3 := by simpa using hj
  obtain ⟨z, z1, z2⟩ := key_at ks j hj3
  obtain ⟨u, u1, u2⟩ := hcr.2 j _ z1
  simp only [VRel] at u2
  subst u2
  refine ⟨?_, ?_⟩
  ·rw [u1, get_flatK _ _ _ _ (by simpa using hj3)]
   exact congrArg some z2.symm
  ·simp only [World.frozen?, hblk]
   simp only [Bool.and_eq_false_iff, decide_eq_false_iff_not]
   omega
 have hcon := AnyQ.slices_SortFunc_total Try.sortKey 3 Try.isAgg124 Try.sizeOf124 encK (fun _ => rfl) (fun x v hv => by simp only [encK, List.mem_cons, List.not_mem_nil, or_false] at hv; rcases hv with rfl | rfl | rfl <;> rfl) keyCmp key_swo 120 #[] l.b l.o c ks.toArray w enters120 (fun m os dk hdk x y => by_lays x y _) hK hlt (by simp; omega) key_one
 change Calls Try.prog 119 _ _ _ at hcon
 have hsz2 : ks.toArray.size = len := by simp [hl]
 rw [hsz2] at hcon
 refine hcon.mono fun e w' => ?_
 rintro ⟨rfl, n, os, rfl⟩
 refine ⟨_, rfl, ρ, ?_, ?_⟩
 ·simp only [VRel]
  exact ⟨[], rfl, .nil⟩
 have hto : (ks.toArray.toList.mergeSort fun x y => !ltOf keyCmp y x).toArray = (sortKeys ks).toArray := by simp [sortKeys, ltOf_keyCmp]
 rw [hto]
 have hsl : (sortKeys ks).length = ks.length := by simp [sortKeys]
 have hS := holdsK_sortWorldK_c encK 3 w l.b l.o ks.toArray (sortKeys ks).toArray n os hK hlt (by simp [hsl])
 have hz := size_sortWorldK_c encK 3 w l.b l.o n (sortKeys ks).toArray os
 have hold : ∀ k, k < w.heap.size → (sortWorldK encK 3 w l.b l.o n (sortKeys ks).toArray os).heap[k]? = (mapBlock w l.b (putCells _root_.id l.o (flatK encK 3 (sortKeys ks).toArray))).heap[k]? := fun k hk => by
  unfold sortWorldK
  rw [heap_grow_old _ _ (by rw [size_putRowK]; exact hk)]
  rfl
 have hmod : ∀ k, (mapBlock w l.b (putCells _root_.id l.o (flatK encK 3 (sortKeys ks).toArray))).heap[k]? = if l.b = k then (w.heap[k]?).map (onCells (putCells _root_.id l.o (flatK encK 3 (sortKeys ks).toArray))) else w.heap[k]? := fun k => by
  unfold mapBlock
  rw [Array.getElem?_modify]
 refine Step.upd hid (rewrite_rel hH hid ho _ hz (fun k hk hne => ?_) ⟨hB, ⟨?_, ?_⟩, ?_, ?_⟩) ⟨⟨rfl, rfl, rfl, hz, fun k hk => ?_⟩, ?_⟩
 ·rw [hold k hk, hmod, if_neg (fun e => hne e.symm)]
 ·intro x hx
  simp only [keyCells, List.mem_flatMap, keyCell, List.mem_cons, List.not_mem_nil, or_false] at hx
  obtain ⟨k, _, rfl | rfl | rfl⟩ := hx <;> rfl
 ·intro i v hv
  have hi : i < (sortKeys ks).length * 3 := by
   rw [← keyCells_length]
   exact (List.getElem?_eq_some_iff.1 hv).1
  obtain ⟨z, z1, z2⟩ := key_at (sortKeys ks) i hi
  rw [z1] at hv
  injection hv with hv
  subst hv
  refine ⟨.int .i64 z, ?_, by simp only [VRel]⟩
  have h := (hS i (by simpa using hi)).1
  rw [get_flatK _ _ _ _ (by simpa using hi)] at h
  rw [h]
  exact congrArg some z2
 ·rw [keyCells_length, hsl, ← hkl]; exact hfit
 ·refine ⟨_, E, fz, by rw [hold _ hlt, hmod, if_pos rfl, hblk]; rfl, ?_, hfz⟩
  rw [← hsize]
  simp [putCells]
 ·have := hH.base
  rw [hold k (by omega), hmod, if_neg (by omega)]
 ·show w.drawn ≤ w.drawn + n
  omega
end Go.Proofs.Ytknhlpmmalcchaa

namespace Go.Proofs.Ytknhlpmmalcchaa
open Go Go.VAI Go.Sort
set_option linter.unusedSimpArgs false

theorem sort_nil_at {H : AHeap} : CallAt Try.prog 119 [.nilSlice, .func (.func 120) [] []] H (.tuple []) H := by
 refine ⟨⟨_, _, Try.func119, rfl, by kernel_rfl⟩, fun ρ B w us hH hus => ?_⟩
 obtain ⟨v1, us1, rfl, r1, hus⟩ := hus.cons_inv
 obtain ⟨v2, us2, rfl, r2, hus⟩ := hus.cons_inv
 have := hus.nil_inv
 subst this
 simp only [VRel] at r1
 subst r1
 have hcon := AnyF.slices_SortFunc_none Try.sortKey none 0 v2 w
 change Calls Try.prog 119 _ _ _ at hcon
 refine hcon.mono fun e w' => ?_
 rintro ⟨rfl, rfl⟩
 refine ⟨_, rfl, ρ, ?_, .refl hH⟩
 simp only [VRel]
 exact ⟨[], rfl, .nil⟩
theorem sortKeys_nil : sortKeys [] = [] := by simp [sortKeys]
theorem sortKeys_length (ks : List Key) : (sortKeys ks).length = ks.length := by simp [sortKeys]
theorem sortF_slice {H : AHeap} {id len : Nat} {ks : List Key} {cap : ACap} (ho : H.obj id = some (.cells (keyCells ks) true)) (hl : ks.length = len) (h0 : 0 < len) (hsz : len ≤ 1000000) : libF 119 120 92 93 122 123 119 [.slice id 0 len cap, .func (.func 120) [] []] H = some (.tuple [], H.upd id (some (.cells (keyCells (sortKeys ks)) true))) := by
 simp only [libF, sortF, if_pos, ho, keysOf_cells, bnd, hl]
 rw [if_pos ⟨trivial, h0, hsz⟩]
theorem sortKeys_ret {lo : Nat} {v : AVal} {ks : List Key} {H : AHeap} {Q : AVal → AHeap → Prop} (hv : Own lo H v 3 (keyCells ks)) (hn : ks = [] → v = .nilSlice) (hb : ks.length ≤ 1000000)
  (hq : ∀ H', H'.next = H.next → (∀ j, sid v ≠ some j → H'.obj j = H.obj j) → Own lo H' v 3 (keyCells (sortKeys ks)) → Q (.tuple []) H') : Ret A 119 [v, .func (.func 120) [] []] H Q := by
 have hkl := keyCells_length ks
 by_cases h0 : ks = []
 ·rw [hn h0]
  refine Ret.lib rfl (show lawful Try.prog (libF 119 120 92 93 122 123) 119 _ H = _ from lawful_eq rfl sort_nil_at) ?_
  refine hq H rfl (fun _ _ => rfl) ?_
  subst h0
  rw [sortKeys_nil]
  exact hv
 ·have hpos : 0 < ks.length := List.length_pos_iff.2 h0
  obtain ⟨cs, hcs⟩ : ∃ cs, cs = keyCells ks := ⟨_, rfl⟩
  rw [← hcs] at hv hkl
  cases hv with
  | nil => simp at hkl; omega
  | @room id len _ _ hlo hhi ho hlen =>
   rw [hcs] at ho
   have hl : ks.length = len := by omega
   refine Ret.lib rfl (show lawful Try.prog (libF 119 120 92 93 122 123) 119 _ H = _ from lawful_eq (sortF_slice ho hl (by omega) (by omega)) (sort_at ho hl (by omega) (by omega))) ?_
   refine hq _ rfl (fun j hj => ?_) (.room hlo hhi (obj_upd_eq rfl) (by rw [keyCells_length, sortKeys_length]; omega))
   exact obj_upd_ne (fun e => hj (by rw [e]; rfl))
  | @full id len _ _ hlo hhi ho hlen =>
   rw [hcs] at ho
   have hl : ks.length = len := by omega
   refine Ret.lib rfl (show lawful Try.prog (libF 119 120 92 93 122 123) 119 _ H = _ from lawful_eq (sortF_slice ho hl (by omega) (by omega)) (sort_at ho hl (by omega) (by omega))) ?_
   refine hq _ rfl (fun j hj => ?_) (.full hlo hhi (obj_upd_eq rfl) (by rw [keyCells_length, sortKeys_length]; omega))
   exact obj_upd_ne (fun e => hj (by rw [e]; rfl))
end Go.Proofs.Ytknhlpmmalcchaa

/- Function 92 (over a map): its pieces, as the interpreter takes them. -/
namespace Go.Proofs.Ytknhlpmmalcchaa
open Go Go.VAI Go.Proofs
def cSeq1 : Code → Code | .seq a _ => a | _ => .skip
def cSeq2 : Code → Code | .seq _ b => b | _ => .skip
def cIn : Code → Code | .block _ b => b | .loop b => b | _ => .skip
def cOps : Code → Array Oper | .region _ ops _ => ops | _ => #[]
noncomputable def m92 : Code := Try.f92.body.getD .skip
noncomputable def m92r0 : Code := cSeq1 m92
noncomputable def m92r1 : Code := cSeq1 (cSeq2 m92)
noncomputable def m92tail : Code := cSeq2 (cSeq2 (cSeq2 m92))
noncomputable def m92range : Code := cSeq1 (cSeq2 (cSeq2 m92))
noncomputable def m92o2 : Array Oper := cOps (cSeq1 m92range)
noncomputable def m92body : Code := cIn (cIn (cSeq2 m92range))
noncomputable def m92o3 : Array Oper := cOps (cSeq1 m92body)
noncomputable def m92cnd : Code := cSeq1 (cSeq2 m92body)
noncomputable def m92in : Code := cIn (cSeq2 (cSeq2 m92body))
noncomputable def m92o4 : Array Oper := cOps (cSeq1 m92in)
noncomputable def m92rest : Code := cSeq2 m92in
theorem m92_shape : Try.f92.body = some (.seq m92r0 (.seq m92r1 (.seq (.seq (.region 2 m92o2 false) (.block 0 (.loop (.seq (.region 3 m92o3 false) (.seq m92cnd (.block 1 (.seq (.region 4 m92o4 false) m92rest))))))) m92tail))) := by kernel_rfl
def c92r0 : ACode :=
  (.region [⟨some 4, (.move (.con .nilSlice)), none⟩])
def c92r1 : ACode :=
  (.region [⟨some 5, (.move (.con .nilSlice)), none⟩])
def c92rest : ACode :=
  (.seq (.region [⟨some 19, (.move (.tmp 1)), none⟩,
    ⟨some 20, (.loadN 3 (.tmp 6)), none⟩,
    ⟨some 21, (.callv (.tmp 19) [(.tmp 20)]), none⟩])
  (.cond (.tmp 21)
   (.region [⟨some 22, (.move (.tmp 5)), none⟩,
     ⟨some 23, (.loadN 3 (.tmp 6)), none⟩,
     ⟨some 24, (.buildSlice [(.int .i64 0), (.int .i64 0), (.int .i64 0)] 1 [(0, 3, (.tmp 23))]), none⟩,
     ⟨some 25, (.append 3 24 (.tmp 22) (.tmp 24)), none⟩,
     ⟨some 5, (.move (.tmp 25)), none⟩])
   .skip))
def c92cnd : ACode :=
  (.cond (.tmp 16)
   .skip
   (.exit 0))
def c92tail : ACode :=
  (.seq (.region [⟨some 26, (.move (.tmp 5)), none⟩,
    ⟨some 27, (.call 119 [(.tmp 26), (.con (.func (.func 120) [] []))]), none⟩])
  (.seq (.region [⟨some 7, (.move (.con .nilSlice)), none⟩])
  (.seq (.seq (.region [⟨some 28, (.move (.tmp 5)), none⟩,
    ⟨some 29, (.lenS (.tmp 28)), none⟩,
    ⟨some 30, (.move (.con (.int .i64 0))), none⟩])
  (.join [false, false, false, false, true, false, false, true] (.block 2 (.loop [true, false, false, false, false, false, false, true, false, false, false, false, false, false, false, false, false, false, false, false, false, false, false, false, false, false, false, false, true, true, true] [false, false, false, false, true, false, false, true]
     (.seq (.region [⟨some 31, (.bin .lss .prim (.tmp 30) (.tmp 29)), none⟩])
     (.seq (.cond (.tmp 31)
      .skip
      (.exit 2))
     (.seq (.block 3 (.seq (.region [⟨some 32, (.indexAddrS 3 (.tmp 28) (.tmp 30)), none⟩,
        ⟨some 33, (.loadN 3 (.tmp 32)), none⟩,
        ⟨some 9, (.alloc [(.int .i64 0), (.int .i64 0), (.int .i64 0)]), none⟩,
        ⟨none, (.store 3 (.tmp 9) (.tmp 33)), none⟩])
      (.dregion [[], [], [1], [1, 2], [2, 1, 3], [], [5, 3, 1, 2, 4], [4, 2, 1, 3, 5, 6], [6, 5, 3, 1, 2, 4, 7, 0], [0, 7, 4, 2, 1, 3, 5, 6, 8]] [.op 0 ⟨some 34, (.move (.tmp 7)), none⟩,
        .op 1 ⟨some 35, (.move (.tmp 0)), none⟩,
        .op 2 ⟨some 36, (.nilCheck (.tmp 35)), none⟩,
        .op 3 ⟨some 37, (.fieldAddr 6 (.tmp 36)), none⟩,
        .op 4 ⟨some 38, (.load1 (.tmp 37)), none⟩,
        .op 5 ⟨some 39, (.loadN 3 (.tmp 9)), none⟩,
        .op 6 ⟨some 40, (.lookup (.many [.int, .int, .int]) (.int .i64 0) (.tmp 38) (.tmp 39) false), none⟩,
        .op 7 ⟨some 41, (.buildSlice [(.int .i64 0)] 1 [(0, 1, (.tmp 40))]), none⟩,
        .op 8 ⟨some 42, (.append 1 8 (.tmp 34) (.tmp 41)), none⟩,
        .op 9 ⟨some 7, (.move (.tmp 42)), none⟩])))
     (.region [⟨some 43, (.bin .add .prim (.tmp 30) (.con (.int .i64 1))), none⟩,
       ⟨some 30, (.move (.tmp 43)), none⟩]))))))))
  (.seq (.region [⟨some 44, (.move (.tmp 7)), none⟩,
    ⟨some 45, (.call 70 [(.tmp 44)]), none⟩,
    ⟨some 4, (.move (.tmp 45)), none⟩])
  .ret))))

theorem c92r0_ok : ccode tab c92r0 m92r0 = some c92r0 := by kernel_rfl
theorem c92r1_ok : ccode tab c92r1 m92r1 = some c92r1 := by kernel_rfl
theorem c92rest_ok : ccode tab c92rest m92rest = some c92rest := by kernel_rfl
theorem c92cnd_ok : ccode tab c92cnd m92cnd = some c92cnd := by kernel_rfl
theorem c92tail_ok : ccode tab c92tail m92tail = some c92tail := by kernel_rfl
def a92o2 : List AOper := [⟨some 10, (.move (.tmp 0)), none⟩, ⟨some 11, (.nilCheck (.tmp 10)), none⟩, ⟨some 12, (.fieldAddr 6 (.tmp 11)), none⟩, ⟨some 13, (.load1 (.tmp 12)), none⟩]
theorem a92o2_ok : copers tab m92o2 (m92o2.toList.take 4) = some a92o2 := by kernel_rfl
noncomputable def m92range_o : Oper := (m92o2.toList.drop 4).headD default
theorem m92o2_rest : m92o2.toList.drop 4 = [m92range_o] := by kernel_rfl
theorem m92range_op : m92range_o.op = .range 119 (.tmp 13) := by kernel_rfl
theorem m92range_dst : m92range_o.dst = some 14 := by kernel_rfl
theorem m92range_guard : m92range_o.guard = none := by kernel_rfl
noncomputable def m92next_o : Oper := m92o3.toList.headD default
theorem m92o3_all : m92o3.toList = m92next_o :: m92o3.toList.drop 1 := by kernel_rfl
theorem m92next_op : m92next_o.op = .next (.tmp 14) false := by kernel_rfl
theorem m92next_dst : m92next_o.dst = some 15 := by kernel_rfl
theorem m92next_guard : m92next_o.guard = none := by kernel_rfl
def a92o3 : List AOper := [⟨some 16, (.extract (.tmp 15) 0), none⟩]
theorem a92o3_ok : copers tab m92o3 (m92o3.toList.drop 1) = some a92o3 := by kernel_rfl
noncomputable def m92entry_o : Oper := m92o4.toList.headD default
theorem m92o4_all : m92o4.toList = m92entry_o :: m92o4.toList.drop 1 := by kernel_rfl
theorem m92entry_op : m92entry_o.op = .entry (.tmp 14) := by kernel_rfl
theorem m92entry_dst : m92entry_o.dst = some 17 := by kernel_rfl
theorem m92entry_guard : m92entry_o.guard = none := by kernel_rfl
def a92o4 : List AOper := [⟨some 18, (.extract (.tmp 17) 0), none⟩, ⟨some 6, (.alloc [.int .i64 0, .int .i64 0, .int .i64 0]), none⟩, ⟨none, (.store 3 (.tmp 6) (.tmp 18)), none⟩]
theorem a92o4_ok : copers tab m92o4 (m92o4.toList.drop 1) = some a92o4 := by kernel_rfl
theorem f92_results : Try.f92.results.toList = [.tmp 4] := by kernel_rfl
theorem f92_ntmps : Try.f92.ntmps = 46 := by kernel_rfl
theorem f92_name : (Try.f92.name == "runtime.NumGoroutine") = false := by kernel_rfl
theorem under119 : Try.prog.underlying 119 = some (.map 124 3) := by kernel_rfl
end Go.Proofs.Ytknhlpmmalcchaa

namespace Go.Proofs.Ytknhlpmmalcchaa
open Go Go.VAI
set_option linter.unusedSimpArgs false

theorem wp_of_wpx {hint : ACode} {c : Code} {ac : ACode} (hc : ccode tab hint c = some ac) {t : Tmps} {H : AHeap} {R : AExit → Tmps → AHeap → Prop} {ρ : Ren} {B : Nat} {a : Act} {w : World} {Q : Exit → Act → World → Prop}
  (h : wpx (Ret A) ac t H R) (ht : TRel ρ t a.tmps) (hH : HRel ρ B H w)
  (hQ : ∀ e t' H' ρ' a' w', R e t' H' → TRel ρ' t' a'.tmps → Step ρ B H w ρ' H' w' → a'.defers = a.defers → Q (xexit e) a' w') : c.wp Try.prog Q a w := by
 obtain ⟨n, r, h1, h2⟩ := wpx_sound _ h
 refine exec_sound follows tab_ok (callA_ok follows tab_ok A_ok n) hint c ac t H ret3 r ρ B a w Q hc h1 ht hH fun e t' H' ρ' a' w' hk => ?_
 injection hk with hk
 subst hk
 exact hQ e t' H' ρ' a' w' h2
theorem runList_sound {call : CallT} (hcall : CallOk Try.prog call) {ops : Array Oper} {B : Nat} {Q : Exit → Act → World → Prop} {r : Tmps × AHeap} {l2 : List Oper} :
  ∀ (l : List Oper) (al : List AOper) (ρ : Ren) (t : Tmps) (H : AHeap) (a : Act) (w : World), copers tab ops l = some al → runOps call al t H pair2 = some r → TRel ρ t a.tmps → HRel ρ B H w →
   (∀ ρ' a' w', TRel ρ' r.1 a'.tmps → Step ρ B H w ρ' r.2 w' → a'.defers = a.defers → wpList Try.prog ops Q l2 a' w') → wpList Try.prog ops Q (l ++ l2) a w
 | [], al, ρ, t, H, a, w, hc, hr, ht, hH, hk => by
  simp [copers] at hc; subst hc
  have hr : pair2 t H = some r := hr
  injection hr with hr
  subst hr
  exact hk ρ a w ht (.refl hH) rfl
 | o :: l, al, ρ, t, H, a, w, hc, hr, ht, hH, hk => by
  obtain ⟨ao, h1, hc⟩ := bnd_some hc
  obtain ⟨al', h2, hc⟩ := bnd_some hc
  injection hc with hc; subst hc
  obtain ⟨⟨v, H1⟩, h3, hr⟩ := bnd_some hr
  have hd := (coper_inv h1).1
  refine gop_sound tab_ok hcall h1 h3 ht hH (wpList Try.prog ops Q (l ++ l2)) Q (fun v' w' => ?_)
  rintro ⟨ρ', hv, hs⟩
  refine runList_sound hcall l al' ρ' (tput t ao.dst v) H1 (a.put o.dst v') w' h2 hr (by rw [hd]; exact (ht.mono hs.le).put _ hv) hs.heap (fun ρ2 a' w2 g2 g3 g4 => ?_)
  exact hk ρ2 a' w2 g2 (hs.trans g3) (by rw [g4, put_defers])
theorem wpList_of {ops : Array Oper} {l l2 : List Oper} {al : List AOper} (hc : copers tab ops l = some al) {t : Tmps} {H : AHeap} {R : Tmps → AHeap → Prop} {ρ : Ren} {B : Nat} {a : Act} {w : World} {Q : Exit → Act → World → Prop}
  (h : opsW (Ret A) al t H R) (ht : TRel ρ t a.tmps) (hH : HRel ρ B H w)
  (hQ : ∀ t' H' ρ' a' w', R t' H' → TRel ρ' t' a'.tmps → Step ρ B H w ρ' H' w' → a'.defers = a.defers → wpList Try.prog ops Q l2 a' w') : wpList Try.prog ops Q (l ++ l2) a w := by
 obtain ⟨n, r, h1, h2⟩ := opsW_sound h
 exact runList_sound (callA_ok follows tab_ok A_ok n) l al ρ t H a w hc h1 ht hH fun ρ' a' w' g1 g2 g3 => hQ _ _ ρ' a' w' h2 g1 g2 g3
theorem wpList_one {ops : Array Oper} {o : Oper} {l : List Oper} {a : Act} {w w' : World} {v : Value} {Q : Exit → Act → World → Prop} (hg : o.guard = none) (hr : (execOp a.eval o).run Try.prog w = .ok (.value v) w') (hn : wpList Try.prog ops Q l (a.put o.dst v) w') : wpList Try.prog ops Q (o :: l) a w := by
 unfold wpList
 rw [if_pos (by simp [Region.wanted, hg])]
 refine .inl ((RunsTo.value hr (R := fun v1 w1 => v1 = v ∧ w1 = w') ⟨rfl, rfl⟩) _ _ fun v1 w1 h => ?_)
 obtain ⟨rfl, rfl⟩ := h
 exact hn

set_option maxHeartbeats 4000000 in
theorem may_ret {down : Bool} {m : Nat} (hm : (m = 93 ∨ m = 122) ∧ down = false ∨ m = 123 ∧ down = true) {H H1 : AHeap} {caps : List AVal} {k : Key} {p : Bool} (h : mayOf down H caps k = some p)
  (hfr : ∀ id c, H.cells? id = some c → id < H1.next ∧ ∃ rw, H1.obj id = some (.cells c rw)) {Q : AVal → AHeap → Prop} (hq : ∀ H2, Keep Nothing H1 H2 → Q (.bool p) H2) : Ret A m (.agg (keyCell k) :: caps) H1 Q := by
 unfold mayOf at h
 split at h
 ·rename_i vc vo bc bo
  obtain ⟨c1, g1, h⟩ := bnd_some h
  split at h
  ·rename_i v gv
   obtain ⟨c2, g2, h⟩ := bnd_some h
   split at h
   ·rename_i bb bf gb
    obtain ⟨c3, g3, h⟩ := bnd_some h
    split at h
    ·rename_i g gg
     obtain ⟨n1, rw1, o1⟩ := hfr _ _ g1
     obtain ⟨n2, rw2, o2⟩ := hfr _ _ g2
     obtain ⟨n3, rw3, o3⟩ := hfr _ _ g3
     have gone : ∀ i b, goneAt H g i = some b → ∃ id off c4 rw4, aindexAddrS 1 g (.int .i64 i) = some (.ptr id off) ∧ id < H1.next ∧ H1.obj id = some (.cells c4 rw4) ∧ c4[off]? = some (.bool b) := by
      intro i b hg
      unfold goneAt at hg
      split at hg
      ·rename_i id off len cap
       split at hg
       ·rename_i hil
        obtain ⟨c4, g4, hg⟩ := bnd_some hg
        split at hg
        ·rename_i b' gb'
         injection hg with hg; subst hg
         obtain ⟨n4, rw4, o4⟩ := hfr _ _ g4
         exact ⟨id, off + i.toNat, c4, rw4, by rw [aindexAddrS_slice hil]; simp, n4, o4, gb'⟩
        ·cases hg
       ·cases hg
      ·cases hg
     have e1 : (keyCell k).length = 3 := rfl
     obtain ⟨k1, k2, k3⟩ := k
     simp only at h
     rcases hm with ⟨rfl | rfl, rfl⟩ | ⟨rfl, rfl⟩
     ·refine Ret.of (fn := F93) rfl ?_
      simp only [Bool.false_eq_true, if_false] at h
      unfold keyCell
      by_cases hv : k1 = v
      ·subst hv
       rw [if_pos rfl] at h
       obtain ⟨b, hg, h⟩ := bnd_some h
       injection h with h; subst h
       obtain ⟨id, off, c4, rw4, q1, q2, q3, q4⟩ := gone _ _ hg
       simp (disch := first | omega | (simp only [nx] <;> omega) | fail) only [vaw, F93, vaij, o1, o2, o3, gv, gb, gg, q1, q3, q4, Nat.reduceAdd, Nat.reduceMul, Nat.reduceLeDiff, Nat.reduceEqDiff, ↓reduceIte]
       exact hq _ ((Keep.refl _ _).new _)
      ·rw [if_neg hv] at h
       injection h with h; subst h
       simp (disch := first | omega | (simp only [nx] <;> omega) | fail) only [vaw, F93, vaij, o1, o2, o3, gv, gb, gg, hv, Nat.reduceAdd, Nat.reduceMul, Nat.reduceLeDiff, Nat.reduceEqDiff, ↓reduceIte]
       exact hq _ ((Keep.refl _ _).new _)
     ·refine Ret.of (fn := F122) rfl ?_
      simp only [Bool.false_eq_true, if_false] at h
      unfold keyCell
      by_cases hv : k1 = v
      ·subst hv
       rw [if_pos rfl] at h
       obtain ⟨b, hg, h⟩ := bnd_some h
       injection h with h; subst h
       obtain ⟨id, off, c4, rw4, q1, q2, q3, q4⟩ := gone _ _ hg
       simp (disch := first | omega | (simp only [nx] <;> omega) | fail) only [vaw, F122, vaij, o1, o2, o3, gv, gb, gg, q1, q3, q4, Nat.reduceAdd, Nat.reduceMul, Nat.reduceLeDiff, Nat.reduceEqDiff, ↓reduceIte]
       exact hq _ ((Keep.refl _ _).new _)
      ·rw [if_neg hv] at h
       injection h with h; subst h
       simp (disch := first | omega | (simp only [nx] <;> omega) | fail) only [vaw, F122, vaij, o1, o2, o3, gv, gb, gg, hv, Nat.reduceAdd, Nat.reduceMul, Nat.reduceLeDiff, Nat.reduceEqDiff, ↓reduceIte]
       exact hq _ ((Keep.refl _ _).new _)
     ·refine Ret.of (fn := F123) rfl ?_
      simp only [if_true] at h
      unfold keyCell
      by_cases hv : k2 = v
      ·subst hv
       by_cases hw : k1 = k2
       ·rw [if_neg (fun e => e.2 hw)] at h
        injection h with h; subst h
        simp (disch := first | omega | (simp only [nx] <;> omega) | fail) only [vaw, F123, vaij, o1, o2, o3, gv, gb, gg, hw, ne_eq, not_true_eq_false, Nat.reduceAdd, Nat.reduceMul, Nat.reduceLeDiff, Nat.reduceEqDiff, ↓reduceIte]
        exact hq _ ((Keep.refl _ _).new _)
       ·rw [if_pos ⟨rfl, hw⟩] at h
        obtain ⟨b, hg, h⟩ := bnd_some h
        injection h with h; subst h
        obtain ⟨id, off, c4, rw4, q1, q2, q3, q4⟩ := gone _ _ hg
        simp (disch := first | omega | (simp only [nx] <;> omega) | fail) only [vaw, F123, vaij, o1, o2, o3, gv, gb, gg, hw, ne_eq, not_false_eq_true, q1, q3, q4, Nat.reduceAdd, Nat.reduceMul, Nat.reduceLeDiff, Nat.reduceEqDiff, ↓reduceIte]
        exact hq _ ((Keep.refl _ _).new _)
      ·rw [if_neg (fun e => hv e.1)] at h
       injection h with h; subst h
       simp (disch := first | omega | (simp only [nx] <;> omega) | fail) only [vaw, F123, vaij, o1, o2, o3, gv, gb, gg, hv, Nat.reduceAdd, Nat.reduceMul, Nat.reduceLeDiff, Nat.reduceEqDiff, ↓reduceIte]
       exact hq _ ((Keep.refl _ _).new _)
    ·cases h
   ·cases h
  ·cases h
 ·cases h
end Go.Proofs.Ytknhlpmmalcchaa

namespace Go.Proofs.Ytknhlpmmalcchaa
open Go Go.VAI
set_option linter.unusedSimpArgs false

def mapCells (es : List (Key × Int)) : List (AVal × AVal) := es.map fun e => (.agg (keyCell e.1), .int .i64 e.2)
def keyFind (k : Key) : List (Key × Int) → Nat → Option (Nat × AVal)
 | [], _ => none
 | e :: l, i => if k = e.1 then some (i, .int .i64 e.2) else keyFind k l (i + 1)
theorem flatEq_keys (k k' : Key) : flatEq [.int, .int, .int] (keyCell k) (keyCell k') = some (decide (k = k')) := by
 obtain ⟨a, b, c⟩ := k
 obtain ⟨a', b', c'⟩ := k'
 simp [flatEq, keyCell, bnd, Bool.decide_and]
theorem keyEq_keys (k k' : Key) : keyEq (.many [.int, .int, .int]) (.agg (keyCell k)) (.agg (keyCell k')) = some (decide (k = k')) := flatEq_keys k k'
theorem findKey_cells (k : Key) : ∀ (es : List (Key × Int)) (n : Nat), findKey (.many [.int, .int, .int]) (.agg (keyCell k)) (mapCells es) n = some (keyFind k es n)
 | [], n => rfl
 | e :: l, n => by
  show bnd (keyEq (.many [.int, .int, .int]) (.agg (keyCell k)) (.agg (keyCell e.1))) (fun b => if b then some (some (n, AVal.int .i64 e.2)) else findKey (.many [.int, .int, .int]) (.agg (keyCell k)) (mapCells l) (n + 1)) = _
  rw [keyEq_keys, findKey_cells k l (n + 1), keyFind]
  by_cases h : k = e.1
  ·simp [bnd, h]
  ·simp [bnd, h]
theorem isKey_key (k : Key) : isKey (.many [.int, .int, .int]) (.agg (keyCell k)) = true := by
 unfold isKey
 rw [keyEq_keys]
 rfl
def hasKey (es : List (Key × Int)) (k : Key) : Bool := (es.find? fun e => decide (e.1 = k)).isSome
theorem keyFind_val (k : Key) : ∀ (es : List (Key × Int)) (n : Nat), (keyFind k es n = none ∧ hasKey es k = false ∧ valAt es k = 0) ∨ (∃ i, keyFind k es n = some (i, .int .i64 (valAt es k)) ∧ hasKey es k = true)
 | [], n => .inl ⟨rfl, rfl, rfl⟩
 | e :: l, n => by
  by_cases h : k = e.1
  ·subst h
   exact .inr ⟨n, by simp [keyFind, valAt], by simp [hasKey]⟩
  ·have h' : ¬ e.1 = k := fun x => h x.symm
   have e1 : keyFind k (e :: l) n = keyFind k l (n + 1) := by rw [keyFind, if_neg h]
   have e2 : hasKey (e :: l) k = hasKey l k := by simp [hasKey, h']
   have e3 : valAt (e :: l) k = valAt l k := by simp [valAt, h']
   rw [e1, e2, e3]
   exact keyFind_val k l (n + 1)
theorem alookup_keys {H : AHeap} {mid : Nat} {es : List (Key × Int)} (h : H.obj mid = some (.amap (mapCells es))) (k : Key) (ok : Bool) : alookup H (.many [.int, .int, .int]) (.int .i64 0) (.map mid) (.agg (keyCell k)) ok = some (if ok then .tuple [.int .i64 (valAt es k), .bool (hasKey es k)] else .int .i64 (valAt es k)) := by
 have hm : H.map? mid = some (mapCells es) := by unfold AHeap.map?; rw [h]
 unfold alookup
 simp only [isKey_key, Bool.true_eq_false, if_false, hm, bnd, findKey_cells]
 rcases keyFind_val k es 0 with ⟨h1, h2, h3⟩ | ⟨i, h1, h2⟩
 ·rw [h1, h2, h3]
 ·rw [h1, h2]
theorem mayAll_filter {down : Bool} {H : AHeap} {caps : List AVal} : ∀ {es sel : List (Key × Int)}, mayAll down H caps es = some sel → (∀ e ∈ es, mayOf down H caps e.1 = some ((mayOf down H caps e.1).getD false)) ∧ sel = es.filter fun e => (mayOf down H caps e.1).getD false
 | [], sel, h => by
  simp only [mayAll] at h
  injection h with h; subst h
  exact ⟨by simp, rfl⟩
 | e :: l, sel, h => by
  simp only [mayAll] at h
  obtain ⟨b, h1, h⟩ := bnd_some h
  obtain ⟨r, h2, h⟩ := bnd_some h
  injection h with h; subst h
  obtain ⟨i1, i2⟩ := mayAll_filter h2
  refine ⟨fun x hx => ?_, ?_⟩
  ·rcases List.mem_cons.1 hx with rfl | hx
   ·rw [h1]; rfl
   ·exact i1 x hx
  ·rw [List.filter_cons, h1, i2]
   rfl
theorem keyLe_trans (a b c : Key) (h1 : (!keyLt b a) = true) (h2 : (!keyLt c b) = true) : (!keyLt c a) = true := by
 simp only [Bool.not_eq_true'] at *
 rw [keyLt_not] at *
 omega
theorem keyLe_total (a b : Key) : (!keyLt b a || !keyLt a b) = true := by
 rw [Bool.or_eq_true, Bool.not_eq_true', Bool.not_eq_true', keyLt_not, keyLt_not]
 omega
theorem keyLe_anti (a b : Key) (h1 : (!keyLt b a) = true) (h2 : (!keyLt a b) = true) : a = b := by
 simp only [Bool.not_eq_true'] at h1 h2
 exact (key_one b a h1 h2).symm
theorem sortKeys_perm {a b : List Key} (h : a.Perm b) : sortKeys a = sortKeys b := by
 refine List.Perm.eq_of_pairwise (fun x y _ _ => keyLe_anti x y) (List.pairwise_mergeSort keyLe_trans keyLe_total a) (List.pairwise_mergeSort keyLe_trans keyLe_total b) ?_
 exact ((List.mergeSort_perm a _).trans h).trans (List.mergeSort_perm b _).symm
theorem cloneNil_ret {H : AHeap} {Q : AVal → AHeap → Prop} (hq : ∀ H', Keep Nothing H H' → Q .nilSlice H') : Ret A 70 [.nilSlice] H Q := by
 refine Ret.of (fn := F70) rfl ?_
 simp (disch := first | omega | (simp only [nx] <;> omega) | fail) only [vaw, F70, Nat.reduceAdd, Nat.reduceMul, Nat.reduceLeDiff, Nat.reduceEqDiff, ↓reduceIte]
 exact hq _ (.refl _ _)
theorem keyCells_at {ks : List Key} {i : Nat} {k : Key} (h : ks[i]? = some k) : ((keyCells ks).drop (i * 3)).take 3 = keyCell k := by
 induction ks generalizing i with
 | nil => simp at h
 | cons x l ih =>
  cases i with
  | zero =>
   simp at h; subst h
   show ((keyCell x ++ keyCells l).drop 0).take 3 = _
   rfl
  | succ i =>
   have := ih (by simpa using h)
   rw [← this]
   have e : (i + 1) * 3 = i * 3 + 3 := by omega
   rw [e]
   rfl
set_option maxHeartbeats 4000000 in
theorem tail92 {lo b mid : Nat} {cb : List AVal} {rwb : Bool} {es : List (Key × Int)} {ks : List Key} {kv : AVal} {H : AHeap} {R : AExit → Tmps → AHeap → Prop} {t1 : AVal}
  (hb : H.obj b = some (.cells cb rwb)) (hbl : b < lo) (hmb : cb[6]? = some (.map mid)) (hml : mid < lo) (hmap : H.obj mid = some (.amap (mapCells es))) (hlo : lo ≤ H.next)
  (hk : Own lo H kv 3 (keyCells ks)) (hn : ks = [] → kv = .nilSlice) (hks : ks.length ≤ 100000)
  (hR : ∀ v H' t', Own lo H' v 1 (ints ((sortKeys ks).map (valAt es))) → (ks = [] → v = .nilSlice) → (∀ j, j < lo → H'.obj j = H.obj j) → tget t' 4 = v → R .ret t' H') :
  wpx (Ret A) c92tail (.ptr b 0 :: t1 :: bots 3 (kv :: bots 40 [])) H R := by
 have hkl := keyCells_length ks
 simp (disch := first | omega | (simp only [nx] <;> omega) | fail) only [vaw, c92tail, Nat.reduceAdd, Nat.reduceMul, Nat.reduceLeDiff, Nat.reduceEqDiff, ↓reduceIte]
 refine sortKeys_ret hk hn (by omega) fun H1 n1 k1 o1 => ?_
 have hsk : ∀ j, sid kv = some j → lo ≤ j := fun j hj => (hk.sid_ge hj).1
 have q1 : H1.obj b = some (.cells cb rwb) := (k1 b fun e => by have := hsk _ e; omega).trans hb
 have q2 : H1.obj mid = some (.amap (mapCells es)) := (k1 mid fun e => by have := hsk _ e; omega).trans hmap
 have hsl := sortKeys_length ks
 have hl1 := o1.row.len (by omega) (keyCells_length _)
 rw [hsl] at hl1
 have hlt : ∀ j, sid kv = some j → j < H1.next := fun j hj => (o1.sid_ge hj).2
 simp (disch := first | omega | (simp only [nx] <;> omega) | fail) only [vaw, hl1, Nat.reduceAdd, Nat.reduceMul, Nat.reduceLeDiff, Nat.reduceEqDiff, ↓reduceIte]
 refine wpx_loop (fun m t H' => ∃ (i : Nat) (ov : AVal), m = ks.length - i ∧ i ≤ ks.length ∧ t = (.ptr b 0 :: bots 6 (ov :: bots 20 (kv :: .int .i64 ks.length :: .int .i64 i :: bots 15 [])) : Tmps) ∧ H1.next ≤ H'.next ∧ Own lo H' ov 1 (ints (((sortKeys ks).take i).map (valAt es))) ∧ Own lo H' kv 3 (keyCells (sortKeys ks)) ∧ (∀ j, j < lo → H'.obj j = H1.obj j) ∧ (∀ j, sid ov = some j → H1.next ≤ j) ∧ (i = 0 → ov = .nilSlice)) ks.length ?_ ?_
 ·exact ⟨0, .nilSlice, rfl, by omega, rfl, Nat.le_refl _, .nil, o1, fun _ _ => rfl, (fun j hj => by cases hj), fun _ => rfl⟩
 ·rintro m t H2 ⟨i, ov, rfl, hi, rfl, n2, g2, o2, k2, s2, z2⟩
  by_cases hc : (i : Int) < ks.length
  ·have hil : i < (sortKeys ks).length := by omega
   have hk : (sortKeys ks)[i]? = some (sortKeys ks)[i] := by simp [hil]
   have htk := List.take_succ_eq_append_getElem hil
   obtain ⟨id, off, c, h1, h2, h3, h4, h5⟩ := o2.row.at (j := i) (k := .i64) (by omega) (by omega) (by rw [keyCells_length, Int.toNat_natCast]; omega)
   rw [Int.toNat_natCast, keyCells_at hk] at h5
   rw [cells?_of] at h3
   generalize (sortKeys ks)[i] = k at *
   have hld : (bnd (cellsOf (H2.obj id)) fun c => if off + 3 ≤ c.length then some (AVal.agg ((c.drop off).take 3)) else none) = some (AVal.agg [.int .i64 k.1, .int .i64 k.2.1, .int .i64 k.2.2]) := by
    simp only [h3, bnd, if_pos h4, h5]
    rfl
   have p1 := (k2 b hbl).trans q1
   have p2 := (k2 mid hml).trans q2
   have hlk := alookup_keys (H := (H2.new (.cells [.int .i64 0, .int .i64 0, .int .i64 0] true)).upd H2.next (some (.cells [.int .i64 k.1, .int .i64 k.2.1, .int .i64 k.2.2] true))) (mid := mid) (es := es) (by have := hlo; rw [obj_upd_ne (by omega), obj_new_ne (by omega)]; exact p2) k false
   unfold keyCell at hlk
   simp (disch := first | omega | (simp only [nx] <;> omega) | fail) only [vaw, hc, h1, hld, p1, hmb, hlk, Bool.false_eq_true, Nat.reduceAdd, Nat.reduceMul, Nat.reduceLeDiff, Nat.reduceEqDiff, ↓reduceIte]
   have hlen : (ints (((sortKeys ks).take i).map (valAt es))).length = i * 1 := by
    rw [ints_length, List.length_map, List.length_take]
    omega
   refine app_ret (n := i) (k := 1) g2 (by simp (disch := first | omega | (simp only [nx] <;> omega) | fail) only [vaim]; rfl) rfl (by omega) (by omega) hlen (by omega) (by omega) ?_
   intro v6 H6 n6 k6 g6 s6
   simp only [next_new, next_upd] at n6 k6 s6
   have kM : Keep (fun j => sid ov = some j) H2 H6 := ⟨by omega, fun j hj hM => by
    rw [k6 j (by omega) hM]
    simp (disch := first | omega | (simp only [nx] <;> omega) | fail) only [vaim]⟩
   have c6 := g6.cells
   simp (disch := first | omega | (simp only [nx] <;> omega) | fail) only [vaw, c6, Nat.reduceAdd, Nat.reduceMul, Nat.reduceLeDiff, Nat.reduceEqDiff, ↓reduceIte]
   refine ⟨ks.length - (i + 1), by omega, i + 1, v6, rfl, by omega, rfl, by omega, ?_, o2.keepM kM (fun j h1 h2 => by have := hlt j h1; have := s2 j h2; omega), fun j hj => ?_, fun j hj => ?_, fun h => by omega⟩
   ·have e : ints (((sortKeys ks).take (i + 1)).map (valAt es)) = ints (((sortKeys ks).take i).map (valAt es)) ++ [.int .i64 (valAt es k)] := by
     rw [htk, List.map_append, ints_append]
     rfl
    rw [e]
    exact g6.own
   ·rw [kM.obj j (by omega) (fun e => by have := s2 j e; omega)]
    exact k2 j hj
   ·obtain ⟨y, y1, y2⟩ := s6
    rw [y1] at hj
    injection hj with hj
    omega
  ·have : i = ks.length := by omega
   subst this
   have htk : (sortKeys ks).take ks.length = sortKeys ks := List.take_of_length_le (by omega)
   rw [htk] at g2
   simp (disch := first | omega | (simp only [nx] <;> omega) | fail) only [vaw, hc, Nat.reduceAdd, Nat.reduceMul, Nat.reduceLeDiff, Nat.reduceEqDiff, ↓reduceIte]
   by_cases h0 : ks = []
   ·have hov := z2 (by rw [h0]; rfl)
    subst hov
    refine cloneNil_ret fun H3 k3 => ?_
    simp (disch := first | omega | (simp only [nx] <;> omega) | fail) only [vaw, Nat.reduceAdd, Nat.reduceMul, Nat.reduceLeDiff, Nat.reduceEqDiff, ↓reduceIte]
    exact hR .nilSlice H3 _ (by rw [h0, sortKeys_nil]; exact .nil) (fun _ => rfl) (fun j hj => (k3.old (by omega)).trans ((k2 j hj).trans (k1 j fun e => by have := hsk j e; omega))) rfl
   ·refine cloneI_ret g2.row (by rw [List.length_map, sortKeys_length]; omega) fun v H3 k3 o3 => ?_
    have c3 := o3.cells
    simp (disch := first | omega | (simp only [nx] <;> omega) | fail) only [vaw, c3, o3.notBot, Nat.reduceAdd, Nat.reduceMul, Nat.reduceLeDiff, Nat.reduceEqDiff, ↓reduceIte]
    exact hR v H3 _ (o3.lower (by omega)) (fun h => absurd h h0) (fun j hj => (k3.old (by omega)).trans ((k2 j hj).trans (k1 j fun e => by have := hsk j e; omega))) rfl
end Go.Proofs.Ytknhlpmmalcchaa
