/- Steps of the walk. -/
import Derived.Test.YtknhlpmmalcchaaH24Tf
import Derived.Test.YtknhlpmmalcchaaH24Pa
import Derived.Test.YtknhlpmmalcchaaH24Te
import Derived.Test.YtknhlpmmalcchaaH24Tb
set_option linter.all false
set_option linter.unusedVariables false
set_option linter.unusedSimpArgs false
namespace Go.Proofs.Ytknhlpmmalcchaa
open Go Go.VAI
set_option linter.unusedSimpArgs false

theorem built_un {N : Nat} {es : List Edge} {l : List Int} {h : Hier} {cur : List Int} {ex : List (List Int)} (hl : OrderOk N l) (hN : N ≤ 999) (hb : Built N es l h cur ex) : UnOk h.arcs ex := by
 have hel := hb.good.exLen
 simp only at hel
 refine ⟨hel, fun p hp => ?_, fun i a p ha hp => ?_⟩
 ·obtain ⟨i, hi, e⟩ := List.getElem_of_mem hp
  have hp' : ex[i]? = some p := by rw [List.getElem?_eq_getElem hi, e]
  obtain ⟨a, ha⟩ : ∃ a, h.arcs[i]? = some a := ⟨_, List.getElem?_eq_getElem (by omega)⟩
  obtain ⟨w1, _, _, w4, _⟩ := built_walks hl hb ha hp'
  exact ⟨List.length_pos_iff.2 w1, by omega⟩
 ·rcases hb.good.form i a p ha hp with ⟨q1, q2, q3, q4, _⟩ | ⟨q1, q2, q3, q4, q5, p1, q, lp, lq, q6, q7, q8, q9, q10⟩
  ·exact .inl ⟨q1, q4⟩
  ·exact .inr ⟨q1, q2, q3, q4, q5, lp, lq, q8, q9, q10.2.2.2.2.2.2⟩
theorem idx_built {N : Nat} {es : List Edge} (h : NetOk N es) : OrderOk N (orderAll N es) ∧ ∃ cur ex, Built N es (orderAll N es) ⟨(idxOf N es).rank, (idxOf N es).arcs, (idxOf N es).up, (idxOf N es).down⟩ cur ex := by
 refine ⟨orderOf_ok N es _, ?_⟩
 exact built (l := orderAll N es) (fun e he => by
  obtain ⟨a1, a2, a3, a4⟩ := h.2.2.2 e he
  exact ⟨a1, a2, a3, a4.1⟩) (orderOf_ok N es _)

end Go.Proofs.Ytknhlpmmalcchaa

namespace Go.Proofs.Ytknhlpmmalcchaa
open Go Go.VAI
set_option linter.unusedSimpArgs false

set_option maxRecDepth 20000 in
set_option maxHeartbeats 8000000 in
theorem hierOwn_ret {size by_ : Int} {ns : AVal} {xs : List Int} {H : AHeap} (_ : I64 size) (hr : Row H ns 1 (ints xs)) (hx : ∀ x ∈ xs, I64 x) (hx2 : xs.length ≤ 9223372036854775807) (_ : I64 by_) :
  Ret A 24 [.int .i64 size, ns, .int .i64 by_] H (fun v _ => v = .bool true) := by
 refine Ret.of (fn := F24) rfl ?_
 simp (disch := first | omega | (simp only [nx] <;> omega) | fail) only [vaw, F24, Nat.reduceAdd, Nat.reduceMul, Nat.reduceLeDiff, Nat.reduceEqDiff, ↓reduceIte]
 refine known47_ret fun H1 k1 => ?_
 simp (disch := first | omega | (simp only [nx] <;> omega) | fail) only [vaw, Bool.not_true, Nat.reduceAdd, Nat.reduceMul, Nat.reduceLeDiff, Nat.reduceEqDiff, ↓reduceIte]
 refine mk_ret (hr.kept k1) hx hx2 fun ev H2 k2 g2 => ?_
 simp (disch := first | omega | (simp only [nx] <;> omega) | fail) only [vaw, Nat.reduceAdd, Nat.reduceMul, Nat.reduceLeDiff, Nat.reduceEqDiff, ↓reduceIte]
 refine mk_ret ((hr.kept k1).kept k2) hx hx2 fun fv H3 k3 g3 => ?_
 have hnet := mk_net size 0 xs
 have hsm := mk_small size
 have h12 : mkN size ≤ 12 := by unfold mkN; omega
 generalize mkEs size 0 xs = es at *
 generalize mkN size = N at *
 have ce := g2.cells
 have cf := g3.cells
 simp (disch := first | omega | (simp only [nx] <;> omega) | fail) only [vaw, Nat.reduceAdd, Nat.reduceMul, Nat.reduceLeDiff, Nat.reduceEqDiff, ↓reduceIte]
 have kB : Keep Nothing H3 ((((H3.new (.cells [.int .i64 0, .nilSlice] true)).new (.cells [.int .i64 0, .nilSlice] true)).upd H3.next (some (.cells [.int .i64 N, ev] true))).upd (H3.next + 1) (some (.cells [.int .i64 N, fv] true))) := ((((Keep.refl _ _).new _).new _).upd (.inl (Nat.le_refl _)) _).upd (.inl (by omega)) _
 have o1 : ((((H3.new (.cells [.int .i64 0, .nilSlice] true)).new (.cells [.int .i64 0, .nilSlice] true)).upd H3.next (some (.cells [.int .i64 N, ev] true))).upd (H3.next + 1) (some (.cells [.int .i64 N, fv] true))).obj H3.next = some (.cells [.int .i64 N, ev] true) := by simp (disch := first | omega | (simp only [nx] <;> omega) | fail) only [vaim]
 have o2 : ((((H3.new (.cells [.int .i64 0, .nilSlice] true)).new (.cells [.int .i64 0, .nilSlice] true)).upd H3.next (some (.cells [.int .i64 N, ev] true))).upd (H3.next + 1) (some (.cells [.int .i64 N, fv] true))).obj (H3.next + 1) = some (.cells [.int .i64 N, fv] true) := obj_upd_eq rfl
 have nB : ((((H3.new (.cells [.int .i64 0, .nilSlice] true)).new (.cells [.int .i64 0, .nilSlice] true)).upd H3.next (some (.cells [.int .i64 N, ev] true))).upd (H3.next + 1) (some (.cells [.int .i64 N, fv] true))).next = H3.next + 2 := rfl
 generalize (((H3.new (.cells [.int .i64 0, .nilSlice] true)).new (.cells [.int .i64 0, .nilSlice] true)).upd H3.next (some (.cells [.int .i64 N, ev] true))).upd (H3.next + 1) (some (.cells [.int .i64 N, fv] true)) = HB at *
 have n3 := k3.next
 have se : ∀ j, sid ev = some j → j < H2.next := fun j hj => (g2.sid_ge hj).2
 have sf : ∀ j, sid fv = some j → H2.next ≤ j ∧ j < H3.next := fun j hj => g3.sid_ge hj
 have gB := (g2.own.kept k3).kept kB
 have fB := g3.own.kept kB
 have hel := hnet.2.2.1
 generalize H3.next = p at *
 refine hbuild_ret gB.row hnet h12 fun ew rv av uv dv H4 k4 h4 => ?_
 have o1 := (k4.old (by omega)).trans o1
 have o2 := (k4.old (by omega)).trans o2
 have n4 := k4.next
 have hal := idx_allowed hnet hsm
 obtain ⟨sh1, sh2⟩ := allowed_short hal
 obtain ⟨hlo, cur, ex, hb⟩ := idx_built hnet
 have hun := built_un hlo (by omega) hb
 have hac := hal.count
 have cE := h4.es.1.cells
 simp (disch := first | omega | (simp only [nx] <;> omega) | fail) only [vaw, Nat.reduceAdd, Nat.reduceMul, Nat.reduceLeDiff, Nat.reduceEqDiff, ↓reduceIte]
 have kC : Keep Nothing H4 ((H4.new (.cells [.int .i64 0, .nilSlice, .nilSlice, .nilSlice, .nilSlice, .nilSlice] true)).upd H4.next (some (.cells [.int .i64 N, ew, rv, av, uv, dv] true))) := ((Keep.refl _ _).new _).upd (.inl (Nat.le_refl _)) _
 have oC : ((H4.new (.cells [.int .i64 0, .nilSlice, .nilSlice, .nilSlice, .nilSlice, .nilSlice] true)).upd H4.next (some (.cells [.int .i64 N, ew, rv, av, uv, dv] true))).obj H4.next = some (.cells [.int .i64 N, ew, rv, av, uv, dv] true) := obj_upd_eq rfl
 have nC : ((H4.new (.cells [.int .i64 0, .nilSlice, .nilSlice, .nilSlice, .nilSlice, .nilSlice] true)).upd H4.next (some (.cells [.int .i64 N, ew, rv, av, uv, dv] true))).next = H4.next + 1 := rfl
 generalize (H4.new (.cells [.int .i64 0, .nilSlice, .nilSlice, .nilSlice, .nilSlice, .nilSlice] true)).upd H4.next (some (.cells [.int .i64 N, ew, rv, av, uv, dv] true)) = HC at *
 have hC := h4.kept kC
 have gC := (gB.kept k4).kept kC
 have fC := (fB.kept k4).kept kC
 have oN := (kC.old (by omega)).trans o1
 have oM := (kC.old (by omega)).trans o2
 have hHB : HB.next = p + 2 := nB
 clear h4 gB fB o1 o2
 refine wpx_loop (fun m t H' => ∃ (i : Nat) (es' : List Edge), m = es.length - i ∧ i ≤ es.length ∧ es'.length = es.length ∧ t = (bots 2 (.int .i64 by_ :: bots 4 (.ptr p 0 :: .ptr (p + 1) 0 :: .ptr H4.next 0 :: .int .i64 i :: bots 56 ([]))) : Tmps) ∧ Keep (fun j => sid ev = some j) HC H' ∧ Own H1.next H' ev 4 (edgeCells es')) es.length ?_ ?_
 ·exact ⟨0, es, rfl, by omega, rfl, rfl, .refl _ _, gC⟩
 ·rintro m t H5 ⟨i, es', rfl, hi, hle, rfl, k5, g5⟩
  have n5 := k5.next
  have oN5 := (k5.obj p (by omega) (fun e => by have := se _ e; omega)).trans oN
  have oM5 := (k5.obj (p + 1) (by omega) (fun e => by have := se _ e; omega)).trans oM
  have oC5 := (k5.obj H4.next (by omega) (fun e => by have := se _ e; omega)).trans oC
  have hl := g5.row.len (n := es.length) (by omega) (by rw [edgeCells_length, hle])
  by_cases hc : (i : Int) < es.length
  ·have hil : i < es'.length := by omega
   have hei : es'[i]? = some es'[i] := by simp
   generalize es'[i] = e at *
   obtain ⟨id, s1, s2, s3, s4, s5, s6⟩ := Own.edgeSlot g5 (i := i) hil
   have hset := edge_set es' i e (by_ % 9) hei
   have hcl := edgeCells_length es'
   have hle2 : i * 4 + 3 + 1 ≤ (edgeCells es').length := by omega
   have be := g5.beq
   have hid := se _ s1
   simp (disch := first | omega | (simp only [nx] <;> omega) | fail) only [vaw, oN5, hl, hc, Nat.reduceAdd, Nat.reduceMul, Nat.reduceLeDiff, Nat.reduceEqDiff, ↓reduceIte]
   refine within_ret (f := 50) (n := 9) rfl (by omega) (by omega) ?_
   simp (disch := first | omega | (simp only [nx] <;> omega) | fail) only [vaw, reK_same be, oN5, s4, s5, hle2, hset, vaij, Nat.reduceAdd, Nat.reduceMul, Nat.reduceLeDiff, Nat.reduceEqDiff, ↓reduceIte]
   have kV : Keep (fun j => sid ev = some j) H5 (H5.upd id (some (.cells (edgeCells (es'.set i { e with cost := by_ % 9 })) true))) := (Keep.refl (fun j => sid ev = some j) _).upd (.inr s1) _
   have g7 := s6 (H5.upd id (some (.cells (edgeCells (es'.set i { e with cost := by_ % 9 })) true))) _ (by simp only [next_upd]; omega) (obj_upd_eq rfl) (by rw [edgeCells_length, List.length_set, hcl])
   exact ⟨es.length - (i + 1), by omega, i + 1, _, rfl, by omega, by rw [List.length_set]; exact hle, rfl, k5.trans' kV (fun j hj h => h), g7⟩
  ·simp (disch := first | omega | (simp only [nx] <;> omega) | fail) only [vaw, oN5, hl, hc, oM5, Nat.reduceAdd, Nat.reduceMul, Nat.reduceLeDiff, Nat.reduceEqDiff, ↓reduceIte]
   have f5 := fC.keepM k5 (fun j hj e => by have := se _ e; have := sf _ hj; omega)
   have h5 := hC.M k5 (fun j e => by have := se _ e; omega)
   refine build_ret f5.row hnet hsm fun ew2 rv2 av2 uv2 dv2 H6 k6 h6 => ?_
   have n6 := k6.next
   have oC6 := (k6.old (by omega)).trans oC5
   have cE2 := h6.es.cells
   simp (disch := first | omega | (simp only [nx] <;> omega) | fail) only [vaw, Nat.reduceAdd, Nat.reduceMul, Nat.reduceLeDiff, Nat.reduceEqDiff, ↓reduceIte]
   have kD : Keep Nothing H6 ((H6.new (.cells [.int .i64 0, .nilSlice, .nilSlice, .nilSlice, .nilSlice, .nilSlice] true)).upd H6.next (some (.cells [.int .i64 N, ew2, rv2, av2, uv2, dv2] true))) := ((Keep.refl _ _).new _).upd (.inl (Nat.le_refl _)) _
   have oD : ((H6.new (.cells [.int .i64 0, .nilSlice, .nilSlice, .nilSlice, .nilSlice, .nilSlice] true)).upd H6.next (some (.cells [.int .i64 N, ew2, rv2, av2, uv2, dv2] true))).obj H6.next = some (.cells [.int .i64 N, ew2, rv2, av2, uv2, dv2] true) := obj_upd_eq rfl
   have nD : ((H6.new (.cells [.int .i64 0, .nilSlice, .nilSlice, .nilSlice, .nilSlice, .nilSlice] true)).upd H6.next (some (.cells [.int .i64 N, ew2, rv2, av2, uv2, dv2] true))).next = H6.next + 1 := rfl
   have oC7 := (kD.old (by omega)).trans oC6
   generalize (H6.new (.cells [.int .i64 0, .nilSlice, .nilSlice, .nilSlice, .nilSlice, .nilSlice] true)).upd H6.next (some (.cells [.int .i64 N, ew2, rv2, av2, uv2, dv2] true)) = HD at *
   have xD := (h5.kept k6).kept kD
   have yD := h6.kept kD
   simp (disch := first | omega | (simp only [nx] <;> omega) | fail) only [vaw, oC6, oD, Nat.reduceAdd, Nat.reduceMul, Nat.reduceLeDiff, Nat.reduceEqDiff, ↓reduceIte]
   refine same_ret xD.idx yD sh1 sh2 fun b H7 k7 s7 => ?_
   have := s7.2 rfl
   subst this
   simp (disch := first | omega | (simp only [nx] <;> omega) | fail) only [vaw, Bool.not_true, Nat.reduceAdd, Nat.reduceMul, Nat.reduceLeDiff, Nat.reduceEqDiff, ↓reduceIte]
   have n7 := k7.next
   have x7 := (xD.kept k7).idx
   have y7 := yD.kept k7
   have oC8 := (k7.old (by omega)).trans oC7
   have oD8 := (k7.old (by omega)).trans oD
   have x7a := x7.arcs
   have hal2 : (idxOf N es).arcs.length ≤ 300000 := hac
   have hlen0 : (idxOf N es).arcs = (⟨(idxOf N es).rank, (idxOf N es).arcs, (idxOf N es).up, (idxOf N es).down⟩ : Hier).arcs := rfl
   have hun' : UnOk (idxOf N es).arcs ex := hun
   generalize H4.next = q at *
   generalize H6.next = r at *
   have hrl : r < H7.next := by omega
   have hql : q < H7.next := by omega
   refine wpx_loop (fun m t H' => ∃ (i : Nat), m = (idxOf N es).arcs.length - i ∧ i ≤ (idxOf N es).arcs.length ∧ t = (bots 9 (.ptr q 0 :: bots 1 (.ptr r 0 :: .int .i64 i :: bots 54 ([]))) : Tmps) ∧ Keep Nothing H7 H') (idxOf N es).arcs.length ?_ ?_
   ·exact ⟨0, rfl, by omega, rfl, .refl _ _⟩
   ·rintro m t H8 ⟨i, rfl, hi, rfl, k8⟩
    have n8 := k8.next
    have oC9 := (k8.old hql).trans oC8
    have oD9 := (k8.old hrl).trans oD8
    have x8 := x7.kept k8
    have la := x8.arcs.len (n := (idxOf N es).arcs.length) (by omega) (arcCells_length _)
    by_cases hc2 : (i : Int) < (idxOf N es).arcs.length
    ·have hil : i < (idxOf N es).arcs.length := by omega
     have hul := hun'.len
     obtain ⟨l, hl⟩ : ∃ l, ex[i]? = some l := ⟨_, List.getElem?_eq_getElem (by omega)⟩
     have hlp := hun'.pos l (List.mem_of_getElem? hl)
     simp (disch := first | omega | (simp only [nx] <;> omega) | fail) only [vaw, oC9, la, hc2, Nat.reduceAdd, Nat.reduceMul, Nat.reduceLeDiff, Nat.reduceEqDiff, ↓reduceIte]
     refine unpack_ret x8.arcs hun' hl (by omega) fun v9 H9 k9 g9 => ?_
     have n9 := k9.next
     simp (disch := first | omega | (simp only [nx] <;> omega) | fail) only [vaw, g9.notBot, Nat.reduceAdd, Nat.reduceMul, Nat.reduceLeDiff, Nat.reduceEqDiff, ↓reduceIte]
     refine wpx_loop (fun m t H' => ∃ (k : Nat) (l' : List Int), m = l.length - k ∧ k ≤ l.length ∧ l'.length = l.length ∧ t = (bots 9 (.ptr q 0 :: bots 1 (.ptr r 0 :: .int .i64 i :: v9 :: .int .i64 k :: bots 52 ([]))) : Tmps) ∧ Keep Nothing H8 H' ∧ Own H8.next H' v9 1 (ints l')) l.length ?_ ?_
     ·exact ⟨0, l, rfl, by omega, rfl, rfl, k9, g9⟩
     ·rintro m t HA ⟨k, l', rfl, hk, hl', rfl, kA, gA⟩
      have lv := gA.row.len1
      rw [ints_length, hl'] at lv
      by_cases hc3 : (k : Int) < l.length
      ·have hkl : k < (ints l').length := by rw [ints_length]; omega
       obtain ⟨id, s1, s2, s3, s4, s5, s6⟩ := gA.slot (j := k) (k := .i64) hkl
       have hset : splice (ints l') k [.int .i64 (-1)] = ints (l'.set k (-1)) := by
        rw [splice_one hkl]
        simp [ints, List.map_set]
       have hle3 : k + 1 ≤ (ints l').length := hkl
       simp (disch := first | omega | (simp only [nx] <;> omega) | fail) only [vaw, lv, hc3, s4, s5, hle3, hset, Nat.reduceAdd, Nat.reduceMul, Nat.reduceLeDiff, Nat.reduceEqDiff, ↓reduceIte]
       have g7 := s6 (HA.upd id (some (.cells (ints (l'.set k (-1))) true))) _ (by simp only [next_upd]; omega) (obj_upd_eq rfl) (by rw [ints_length, List.length_set, ints_length])
       exact ⟨l.length - (k + 1), by omega, k + 1, _, rfl, by omega, by rw [List.length_set]; exact hl', rfl, kA.upd (.inl s2) _, g7⟩
      ·simp (disch := first | omega | (simp only [nx] <;> omega) | fail) only [vaw, lv, hc3, Nat.reduceAdd, Nat.reduceMul, Nat.reduceLeDiff, Nat.reduceEqDiff, ↓reduceIte]
       exact ⟨(idxOf N es).arcs.length - (i + 1), by omega, i + 1, rfl, by omega, rfl, k8.trans kA⟩
    ·simp (disch := first | omega | (simp only [nx] <;> omega) | fail) only [vaw, oC9, oD9, la, hc2, Nat.reduceAdd, Nat.reduceMul, Nat.reduceLeDiff, Nat.reduceEqDiff, ↓reduceIte]
     refine same_ret x8 (y7.kept k8) sh1 sh2 fun b H9 k9 s9 => ?_
     have := s9.2 rfl
     subst this
     simp (disch := first | omega | (simp only [nx] <;> omega) | fail) only [vaw, Nat.reduceAdd, Nat.reduceMul, Nat.reduceLeDiff, Nat.reduceEqDiff, ↓reduceIte]
end Go.Proofs.Ytknhlpmmalcchaa
