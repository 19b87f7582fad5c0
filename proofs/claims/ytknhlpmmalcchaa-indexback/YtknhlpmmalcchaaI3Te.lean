/- Steps of the walk. -/
import Derived.Test.YtknhlpmmalcchaaI3Td
import Derived.Test.YtknhlpmmalcchaaI3Vba
import Derived.Test.YtknhlpmmalcchaaRows
import Derived.ProofKit
set_option linter.all false
set_option linter.unusedVariables false
set_option linter.unusedSimpArgs false
namespace Go.Proofs.Ytknhlpmmalcchaa
open Go Go.VAI
set_option linter.unusedSimpArgs false

theorem four101_ret {n : Int} {H : AHeap} {Q : AVal → AHeap → Prop} (hq : ∀ v' H', Keep Nothing H H' → Own H.next H' v' 1 (u8s (fourOf n)) → Q v' H') : Ret A 101 [.int .i64 n] H Q := by
  refine Ret.of (fn := F101) rfl ?_
  simp (disch := first | omega | (simp only [next_new, next_upd] <;> omega) | fail) only [vai, vaim, vaic, bots, Bool.not_true, Bool.not_false, decide_true, decide_false, wrap64, F101, Nat.reduceAdd, Nat.reduceMul, Nat.reduceLeDiff, Nat.reduceEqDiff, ↓reduceIte]
  exact hq _ _ ((Keep.refl _ _).new _) (.full (Nat.le_refl _) (by simp only [next_new]; omega) (obj_new_eq rfl) rfl)
theorem put_ret {lo : Nat} {bv sl : AVal} {bs xs : List Int} {H : AHeap} {Q : AVal → AHeap → Prop} (hb : Own lo H bv 1 (u8s bs)) (hlo : lo ≤ H.next) (hr : Row H sl 1 (ints xs)) (hsl : ∀ j, sid sl = some j → sid bv ≠ some j) (hlen : bs.length + 4 * xs.length ≤ 70368744177664)
    (hq : ∀ bv' H', Keep (fun j => sid bv = some j) H H' → Own lo H' bv' 1 (u8s (bs ++ foursOf xs)) → (sid bv' = sid bv ∨ ∃ y, sid bv' = some y ∧ H.next ≤ y) → Q bv' H') : Ret A 73 [bv, sl] H Q := by
  refine Ret.of (fn := F73) rfl ?_
  have hl := hr.len1
  rw [ints_length] at hl
  have nb := hb.notBot
  simp (disch := first | omega | (simp only [next_new, next_upd] <;> omega) | fail) only [vai, vaim, vaic, bots, Bool.not_true, Bool.not_false, decide_true, decide_false, wrap64, F73, Nat.reduceAdd, Nat.reduceMul, Nat.reduceLeDiff, Nat.reduceEqDiff, ↓reduceIte]
  refine wpx_loop (fun m t H' => ∃ (i : Nat) (bv' : AVal), m = xs.length - i ∧ i ≤ xs.length ∧ t = (bv' :: sl :: bots 3 (.int .i64 i :: bots 14 ([])) : Tmps) ∧ Keep (fun j => sid bv = some j) H H' ∧ Own lo H' bv' 1 (u8s (bs ++ foursOf (xs.take i))) ∧ (sid bv' = sid bv ∨ ∃ y, sid bv' = some y ∧ H.next ≤ y)) xs.length ?_ ?_
  · exact ⟨0, bv, rfl, by omega, rfl, .refl _ _, by simpa [foursOf] using hb, .inl rfl⟩
  · rintro m t H1 ⟨i, b1, rfl, hi, rfl, k1, g1, s1⟩
    have n1 := k1.next
    by_cases hc : (i : Int) < xs.length
    · have hil : i < xs.length := by omega
      have hx : xs[i]? = some xs[i] := by simp [hil]
      have hr1 := hr.M k1 (fun j hj e => hsl j hj e)
      obtain ⟨i1, o1, c1, c2, c3⟩ := hr1.int_at (k := .i64) hx
      have hf := foursOf_succ hx
      generalize xs[i] = x at *
      have hfl := foursOf_length (xs.take i)
      rw [List.length_take] at hfl
      simp (disch := first | omega | (simp only [next_new, next_upd] <;> omega) | fail) only [vai, vaim, vaic, bots, Bool.not_true, Bool.not_false, decide_true, decide_false, wrap64, hl, hc, c1, c3, Nat.reduceAdd, Nat.reduceMul, Nat.reduceLeDiff, Nat.reduceEqDiff, ↓reduceIte]
      refine four101_ret fun v2 H2 k2 g2 => ?_
      have n2 := k2.next
      have hfo : (u8s (fourOf x)).length = 4 * 1 := rfl
      simp (disch := first | omega | (simp only [next_new, next_upd] <;> omega) | fail) only [vai, vaim, vaic, bots, Bool.not_true, Bool.not_false, decide_true, decide_false, wrap64, Nat.reduceAdd, Nat.reduceMul, Nat.reduceLeDiff, Nat.reduceEqDiff, ↓reduceIte]
      refine appRow_ret (n := (bs ++ foursOf (xs.take i)).length) (k := 4) (g1.kept k2) g2.row hfo (by omega) (by rw [u8s_length]; omega) (by rw [List.length_append]; omega) (by omega) ?_ (by omega) (Nat.le_refl _) (fun _ _ _ => rfl)
      intro v3 H3 n3 k3 g3 s3
      simp (disch := first | omega | (simp only [next_new, next_upd] <;> omega) | fail) only [vai, vaim, vaic, bots, Bool.not_true, Bool.not_false, decide_true, decide_false, wrap64, Nat.reduceAdd, Nat.reduceMul, Nat.reduceLeDiff, Nat.reduceEqDiff, ↓reduceIte]
      refine ⟨xs.length - (i + 1), by omega, i + 1, v3, rfl, by omega, rfl, ?_, ?_, ?_⟩
      · refine (k1.trans k2.any).trans' (app_keep n3 k3) (fun j hj e => ?_)
        rcases s1 with s1 | ⟨y, s1, hy⟩
        · rw [s1] at e; exact e
        · rw [s1] at e; injection e with e; omega
      · rw [hf, ← List.append_assoc, u8s_append]
        exact g3
      · rcases s3 with ⟨s3, _⟩ | ⟨y, s3, hy⟩
        · rw [s3]; exact s1
        · exact .inr ⟨y, s3, by omega⟩
    · have hi : i = xs.length := by omega
      rw [hi, List.take_length] at g1
      have nb := g1.notBot
      simp (disch := first | omega | (simp only [next_new, next_upd] <;> omega) | fail) only [vai, vaim, vaic, bots, Bool.not_true, Bool.not_false, decide_true, decide_false, wrap64, hl, hc, nb, Nat.reduceAdd, Nat.reduceMul, Nat.reduceLeDiff, Nat.reduceEqDiff, ↓reduceIte]
      exact hq b1 H1 k1 g1 s1
theorem eight74_ret {x : Int} {H : AHeap} {Q : AVal → AHeap → Prop} (hq : ∀ v' H', Keep Nothing H H' → Own H.next H' v' 1 (u8s (foursOf [shrI .i64 x 32, x])) → Q v' H') : Ret A 74 [.int .i64 x] H Q := by
  refine Ret.of (fn := F74) rfl ?_
  simp (disch := first | omega | (simp only [next_new, next_upd] <;> omega) | fail) only [vai, vaim, vaic, bots, Bool.not_true, Bool.not_false, decide_true, decide_false, wrap64, F74, Nat.reduceAdd, Nat.reduceMul, Nat.reduceLeDiff, Nat.reduceEqDiff, ↓reduceIte]
  refine four101_ret fun v1 H1 k1 g1 => ?_
  simp (disch := first | omega | (simp only [next_new, next_upd] <;> omega) | fail) only [vai, vaim, vaic, bots, Bool.not_true, Bool.not_false, decide_true, decide_false, wrap64, Nat.reduceAdd, Nat.reduceMul, Nat.reduceLeDiff, Nat.reduceEqDiff, ↓reduceIte]
  refine four101_ret fun v2 H2 k2 g2 => ?_
  have n1 := k1.next
  have n2 := k2.next
  have hfo : (u8s (fourOf x)).length = 4 * 1 := rfl
  have hfo2 : (u8s (fourOf (shrI .i64 x 32))).length = 4 * 1 := rfl
  simp (disch := first | omega | (simp only [next_new, next_upd] <;> omega) | fail) only [vai, vaim, vaic, bots, Bool.not_true, Bool.not_false, decide_true, decide_false, wrap64, Nat.reduceAdd, Nat.reduceMul, Nat.reduceLeDiff, Nat.reduceEqDiff, ↓reduceIte]
  refine appRow_ret (n := 4) (k := 4) (g1.kept k2) g2.row hfo (by omega) hfo2 (by omega) (by omega) ?_ (by omega) (Nat.le_refl _) (fun _ _ _ => rfl)
  intro v3 H3 n3 k3 g3 s3
  have nb := g3.notBot
  have e : foursOf [shrI .i64 x 32, x] = fourOf (shrI .i64 x 32) ++ fourOf x := by simp [foursOf]
  simp (disch := first | omega | (simp only [next_new, next_upd] <;> omega) | fail) only [vai, vaim, vaic, bots, Bool.not_true, Bool.not_false, decide_true, decide_false, wrap64, nb, Nat.reduceAdd, Nat.reduceMul, Nat.reduceLeDiff, Nat.reduceEqDiff, ↓reduceIte]
  refine hq v3 H3 ((k1.trans k2).trans' (app_keep n3 k3) (fun j hj e => by have := (g1.sid_ge e).1; omega)) ?_
  rw [e, u8s_append]
  exact g3
/-- A writer under way. -/
structure EncR (H0 H : AHeap) (x : List AVal) (bv : AVal) (bs : List Int) : Prop where
  keep : Keep Nothing H0 H
  lt : H0.next < H.next
  box : H.obj H0.next = some (.cells x true)
  own : Own (H0.next + 1) H bv 1 (u8s bs)
theorem EncR.kept {H0 H H' : AHeap} {x : List AVal} {bv : AVal} {bs : List Int} (h : EncR H0 H x bv bs) (hk : Keep Nothing H H') : EncR H0 H' x bv bs := by
  have := h.lt
  exact ⟨h.keep.trans hk, by have := hk.next; omega, by rw [hk.old (by omega)]; exact h.box, h.own.kept hk⟩
theorem EncR.step {H0 H H' : AHeap} {x : List AVal} {bv bv' : AVal} {bs bs' : List Int} (h : EncR H0 H x bv bs) (hk : Keep (fun j => sid bv = some j) H H') (g : Own (H0.next + 1) H' bv' 1 (u8s bs')) : EncR H0 H' x bv' bs' := by
  have hlt := h.lt
  have hs : ∀ j, sid bv = some j → H0.next + 1 ≤ j := fun j hj => (h.own.sid_ge hj).1
  exact ⟨h.keep.trans' hk (fun j hj e => by have := hs j e; omega), by have := hk.next; omega, by rw [hk.obj _ (by omega) (fun e => by have := hs _ e; omega)]; exact h.box, g⟩
theorem putRow_ret {H0 H : AHeap} {x : List AVal} {bv sl : AVal} {bs xs : List Int} {Q : AVal → AHeap → Prop} (h : EncR H0 H x bv bs) (hr : Row H sl 1 (ints xs)) (hsl : ∀ j, sid sl = some j → sid bv ≠ some j)
    (hlen : bs.length + 4 * xs.length ≤ 70368744177664) (hq : ∀ bv' H', EncR H0 H' x bv' (bs ++ foursOf xs) → Keep (fun j => sid bv = some j) H H' → Q bv' H') : Ret A 73 [bv, sl] H Q :=
  put_ret h.own h.lt hr hsl hlen fun bv' H' k g s => hq bv' H' (h.step k g) k
theorem putNew_ret {H0 H1 H : AHeap} {x : List AVal} {bv : AVal} {bs xs : List Int} {y k : Nat} {cap : ACap} {Q : AVal → AHeap → Prop} (h : EncR H0 H1 x bv bs) (hk : Keep Nothing H1 H) (hy : H.obj y = some (.cells (ints xs) true)) (hyn : H1.next ≤ y ∧ y < H.next) (hkk : xs.length = k)
    (hlen : bs.length + 4 * xs.length ≤ 70368744177664) (hq : ∀ bv' H', EncR H0 H' x bv' (bs ++ foursOf xs) → Keep (fun j => sid bv = some j) H H' → Q bv' H') : Ret A 73 [bv, .slice y 0 k cap] H Q := by
  subst hkk
  refine putRow_ret (h.kept hk) (.mk (c := ints xs) hyn.2 (by rw [cells?_of, hy]; rfl) (by rw [ints_length]; omega) (by simp [← ints_length xs])) ?_ hlen hq
  intro j hj
  injection hj with hj
  subst hj
  exact fun e => by have := (h.own.sid_ge e).2; omega
end Go.Proofs.Ytknhlpmmalcchaa

namespace Go.Proofs.Ytknhlpmmalcchaa
open Go Go.VAI
set_option linter.unusedSimpArgs false

set_option maxRecDepth 20000 in
set_option maxHeartbeats 4000000 in
theorem refEncode_ret {ew rv av uv dv : AVal} {x : Idx} {H : AHeap} {Q : AVal → AHeap → Prop} (hx : IdxAt H ew rv av uv dv x) (hrank : ∀ r ∈ x.rank, -1 ≤ r ∧ r ≤ 1000000000) (hedge : ∀ a ∈ x.arcs, -1 ≤ a.edge ∧ a.edge ≤ 1000000000) (hlen : (encodeOf x).length ≤ 70368744177664)
    (hq : ∀ v' H', Keep Nothing H H' → Own H.next H' v' 1 (u8s (encodeOf x)) → Q v' H') : Ret A 31 [.agg [.int .i64 x.n, ew, rv, av, uv, dv]] H Q := by
  refine Ret.of (fn := F31) rfl ?_
  have hle := hx.es.len (by omega) (edgeCells_length x.es)
  have hlr := hx.rank.len1
  rw [ints_length] at hlr
  have hla := hx.arcs.len (by omega) (arcCells_length x.arcs)
  have hlu := hx.up.len
  have hld := hx.down.len
  have hL : (encodeOf x).length = 4 + 8 + (x.es.flatMap edgeB).length + (x.rank.flatMap rankB).length + 4 + (x.arcs.flatMap arcB).length + (x.up.flatMap rowB).length + (x.down.flatMap rowB).length := by
    simp only [encodeOf, List.length_append, foursOf_length, List.length_cons, List.length_nil]
  have hf1 : (x.es.flatMap edgeB).length = 16 * x.es.length := flat_len edgeB_len
  have hf2 : (x.rank.flatMap rankB).length = 4 * x.rank.length := flat_len rankB_len
  have hf3 : (x.arcs.flatMap arcB).length = 32 * x.arcs.length := flat_len arcB_len
  have hf4 : 4 * x.up.length ≤ (x.up.flatMap rowB).length := flat_ge (fun l => by rw [rowB_len]; omega)
  have hf5 : 4 * x.down.length ≤ (x.down.flatMap rowB).length := flat_ge (fun l => by rw [rowB_len]; omega)
  simp (disch := first | omega | (simp only [next_new, next_upd] <;> omega) | fail) only [vai, vaim, vaic, bots, Bool.not_true, Bool.not_false, decide_true, decide_false, wrap64, F31, hle, Nat.reduceAdd, Nat.reduceMul, Nat.reduceLeDiff, Nat.reduceEqDiff, ↓reduceIte]
  have e0 : EncR H ((H.new (.cells [.int .i64 x.n, ew, rv, av, uv, dv] true)).new (.cells [.int .u8 77, .int .u8 73, .int .u8 88, .int .u8 49] true)) [.int .i64 x.n, ew, rv, av, uv, dv] (.slice (H.next + 1) 0 4 (.exact 4)) [77, 73, 88, 49] := by
    refine ⟨((Keep.refl _ _).new _).new _, (by first | omega | (simp only [next_new, next_upd]; omega)), by simp (disch := first | omega | (simp only [next_new, next_upd] <;> omega) | fail) only [vaim], .full (by omega) (by first | omega | (simp only [next_new, next_upd]; omega)) (by simp (disch := first | omega | (simp only [next_new, next_upd] <;> omega) | fail) only [vaim]; rfl) rfl⟩
  refine putNew_ret (xs := [x.n, (x.es.length : Int)]) e0 ((Keep.refl _ _).new _) (by simp (disch := first | omega | (simp only [next_new, next_upd] <;> omega) | fail) only [vaim]; rfl) (by simp only [next_new]; omega) rfl (by simp) ?_
  clear e0
  intro b1 H1 e1 _
  simp (disch := first | omega | (simp only [next_new, next_upd] <;> omega) | fail) only [vai, vaim, vaic, bots, Bool.not_true, Bool.not_false, decide_true, decide_false, wrap64, Nat.reduceAdd, Nat.reduceMul, Nat.reduceLeDiff, Nat.reduceEqDiff, ↓reduceIte]
  refine wpx_loop (fun m t H' => ∃ (i : Nat) (bv : AVal), m = x.es.length - i ∧ i ≤ x.es.length ∧ t = (bots 1 (.ptr H.next 0 :: bots 1 (bv :: .int .i64 i :: bots 145 ([]))) : Tmps) ∧
    EncR H H' [.int .i64 x.n, ew, rv, av, uv, dv] bv ([77, 73, 88, 49] ++ foursOf [x.n, (x.es.length : Int)] ++ (x.es.take i).flatMap edgeB)) x.es.length ?_ ?_
  · exact ⟨0, b1, rfl, by omega, rfl, by simpa using e1⟩
  · clear e1
    rintro m t H2 ⟨i, b2, rfl, hi, rfl, e2⟩
    have hx2 := hx.kept e2.keep
    have hbox := e2.box
    by_cases hc : (i : Int) < x.es.length
    · have hil : i < x.es.length := by omega
      have he : x.es[i]? = some x.es[i] := by simp [hil]
      obtain ⟨id, off, c1, c2, c3, c4, c5, c6, c7⟩ := edge_at hx2.es he
      have hf := flat_succ (f := edgeB) he
      have hfl := flat_le (f := edgeB) (l := x.es) (i := i + 1)
      generalize x.es[i] = e at *
      simp only [Edge.cells] at c7
      simp (disch := first | omega | (simp only [next_new, next_upd] <;> omega) | fail) only [vai, vaim, vaic, bots, Bool.not_true, Bool.not_false, decide_true, decide_false, wrap64, hbox, hle, hc, c1, c7, Nat.reduceAdd, Nat.reduceMul, Nat.reduceLeDiff, Nat.reduceEqDiff, ↓reduceIte]
      refine putNew_ret (xs := [e.src, e.dst, e.mode, e.cost]) e2 ((((Keep.refl _ _).new _).upd (.inl (Nat.le_refl _)) _).new _) (by simp (disch := first | omega | (simp only [next_new, next_upd] <;> omega) | fail) only [vaim]; rfl) (by simp only [next_new, next_upd]; omega) rfl (by rw [hf] at hfl; simp only [edgeB, List.length_append, foursOf_length, List.length_cons, List.length_nil] at hfl ⊢; omega) ?_
      intro b3 H3 e3 _
      simp (disch := first | omega | (simp only [next_new, next_upd] <;> omega) | fail) only [vai, vaim, vaic, bots, Bool.not_true, Bool.not_false, decide_true, decide_false, wrap64, Nat.reduceAdd, Nat.reduceMul, Nat.reduceLeDiff, Nat.reduceEqDiff, ↓reduceIte]
      refine ⟨x.es.length - (i + 1), by omega, i + 1, b3, rfl, by omega, rfl, ?_⟩
      rw [hf, ← List.append_assoc]
      exact e3
    · have hi : i = x.es.length := by omega
      rw [hi, List.take_length] at e2
      clear hi
      simp (disch := first | omega | (simp only [next_new, next_upd] <;> omega) | fail) only [vai, vaim, vaic, bots, Bool.not_true, Bool.not_false, decide_true, decide_false, wrap64, hbox, hle, hc, Nat.reduceAdd, Nat.reduceMul, Nat.reduceLeDiff, Nat.reduceEqDiff, ↓reduceIte]
      generalize hE2 : [77, 73, 88, 49] ++ foursOf [x.n, (x.es.length : Int)] ++ x.es.flatMap edgeB = E2 at *
      have hE2l : E2.length = 12 + (x.es.flatMap edgeB).length := by rw [← hE2]; simp [foursOf_length]; omega
      refine wpx_loop (fun m t H' => ∃ (i : Nat) (bv : AVal), m = x.rank.length - i ∧ i ≤ x.rank.length ∧ t = (bots 1 (.ptr H.next 0 :: bots 1 (bv :: bots 2 (.int .i64 i :: bots 143 ([])))) : Tmps) ∧
        EncR H H' [.int .i64 x.n, ew, rv, av, uv, dv] bv (E2 ++ (x.rank.take i).flatMap rankB)) x.rank.length ?_ ?_
      · exact ⟨0, b2, rfl, by omega, rfl, by simpa using e2⟩
      · clear e2 hx2 hbox hc
        rintro m t H2 ⟨i, b2, rfl, hi, rfl, e2⟩
        have hx2 := hx.kept e2.keep
        have hbox := e2.box
        by_cases hc : (i : Int) < x.rank.length
        · have hil : i < x.rank.length := by omega
          have he : x.rank[i]? = some x.rank[i] := by simp [hil]
          have hb := hrank _ (List.getElem_mem hil)
          obtain ⟨id, off, c1, c2, c3⟩ := hx2.rank.int_at (k := .i64) he
          have hf := flat_succ (f := rankB) he
          have hfl := flat_le (f := rankB) (l := x.rank) (i := i + 1)
          generalize x.rank[i] = r at *
          simp (disch := first | omega | (simp only [next_new, next_upd] <;> omega) | fail) only [vai, vaim, vaic, bots, Bool.not_true, Bool.not_false, decide_true, decide_false, wrap64, hbox, hlr, hc, c1, c3, Nat.reduceAdd, Nat.reduceMul, Nat.reduceLeDiff, Nat.reduceEqDiff, ↓reduceIte]
          refine putNew_ret (xs := [r + 1]) e2 ((Keep.refl _ _).new _) (by simp (disch := first | omega | (simp only [next_new, next_upd] <;> omega) | fail) only [vaim]; rfl) (by simp only [next_new, next_upd]; omega) rfl (by rw [hf] at hfl; simp only [rankB, List.length_append, foursOf_length, List.length_cons, List.length_nil] at hfl ⊢; omega) ?_
          intro b3 H3 e3 _
          simp (disch := first | omega | (simp only [next_new, next_upd] <;> omega) | fail) only [vai, vaim, vaic, bots, Bool.not_true, Bool.not_false, decide_true, decide_false, wrap64, Nat.reduceAdd, Nat.reduceMul, Nat.reduceLeDiff, Nat.reduceEqDiff, ↓reduceIte]
          refine ⟨x.rank.length - (i + 1), by omega, i + 1, b3, rfl, by omega, rfl, ?_⟩
          rw [hf, ← List.append_assoc]
          exact e3
        · have hi : i = x.rank.length := by omega
          rw [hi, List.take_length] at e2
          clear hi
          simp (disch := first | omega | (simp only [next_new, next_upd] <;> omega) | fail) only [vai, vaim, vaic, bots, Bool.not_true, Bool.not_false, decide_true, decide_false, wrap64, hbox, hlr, hc, hla, Nat.reduceAdd, Nat.reduceMul, Nat.reduceLeDiff, Nat.reduceEqDiff, ↓reduceIte]
          generalize hE3 : E2 ++ x.rank.flatMap rankB = E3 at *
          have hE3l : E3.length = E2.length + (x.rank.flatMap rankB).length := by rw [← hE3]; simp
          refine putNew_ret (xs := [(x.arcs.length : Int)]) e2 ((Keep.refl _ _).new _) (by simp (disch := first | omega | (simp only [next_new, next_upd] <;> omega) | fail) only [vaim]; rfl) (by simp only [next_new, next_upd]; omega) rfl (by simp; omega) ?_
          clear e2 hx2 hbox hc
          intro b2 H2 e2 _
          simp (disch := first | omega | (simp only [next_new, next_upd] <;> omega) | fail) only [vai, vaim, vaic, bots, Bool.not_true, Bool.not_false, decide_true, decide_false, wrap64, Nat.reduceAdd, Nat.reduceMul, Nat.reduceLeDiff, Nat.reduceEqDiff, ↓reduceIte]
          generalize hE4 : E3 ++ foursOf [(x.arcs.length : Int)] = E4 at *
          have hE4l : E4.length = E3.length + 4 := by rw [← hE4]; simp [foursOf_length]
          refine wpx_loop (fun m t H' => ∃ (i : Nat) (bv : AVal), m = x.arcs.length - i ∧ i ≤ x.arcs.length ∧ t = (bots 1 (.ptr H.next 0 :: bots 1 (bv :: bots 3 (.int .i64 i :: bots 142 ([])))) : Tmps) ∧
            EncR H H' [.int .i64 x.n, ew, rv, av, uv, dv] bv (E4 ++ (x.arcs.take i).flatMap arcB)) x.arcs.length ?_ ?_
          · exact ⟨0, b2, rfl, by omega, rfl, by simpa using e2⟩
          · clear e2
            rintro m t H2 ⟨i, b2, rfl, hi, rfl, e2⟩
            have hx2 := hx.kept e2.keep
            have hbox := e2.box
            by_cases hc : (i : Int) < x.arcs.length
            · have hil : i < x.arcs.length := by omega
              have he : x.arcs[i]? = some x.arcs[i] := by simp [hil]
              have hb := hedge _ (List.getElem_mem hil)
              obtain ⟨id, off, c1, c2, c3, c4⟩ := arc_at hx2.arcs he
              have hf := flat_succ (f := arcB) he
              have hfl := flat_le (f := arcB) (l := x.arcs) (i := i + 1)
              generalize x.arcs[i] = a at *
              simp only [Arc.cells] at c4
              rw [hf] at hfl
              simp only [arcB, List.length_append, foursOf_length, List.length_cons, List.length_nil] at hfl
              simp (disch := first | omega | (simp only [next_new, next_upd] <;> omega) | fail) only [vai, vaim, vaic, bots, Bool.not_true, Bool.not_false, decide_true, decide_false, wrap64, hbox, hla, hc, c1, c4, Nat.reduceAdd, Nat.reduceMul, Nat.reduceLeDiff, Nat.reduceEqDiff, ↓reduceIte]
              have kk : Keep Nothing H2 (((H2.new (.cells [.int .i64 0, .int .i64 0, .int .i64 0, .int .i64 0, .int .i64 0, .int .i64 0, .int .i64 0] true)).upd H2.next (some (.cells [.int .i64 a.src, .int .i64 a.dst, .int .i64 a.mode, .int .i64 a.cost, .int .i64 a.edge, .int .i64 a.a, .int .i64 a.b] true))).new (.cells [.int .i64 a.src, .int .i64 a.dst, .int .i64 a.mode] true)) := (((Keep.refl _ _).new _).upd (.inl (Nat.le_refl _)) _).new _
              have bl : ∀ j, sid b2 = some j → j < H2.next := fun j hj => (e2.own.sid_ge hj).2
              have elt := e2.lt
              refine putNew_ret (xs := [a.src, a.dst, a.mode]) e2 kk (by simp (disch := first | omega | (simp only [next_new, next_upd] <;> omega) | fail) only [vaim]; rfl) (by simp only [next_new, next_upd]; omega) rfl (by simp only [List.length_append, List.length_cons, List.length_nil]; omega) ?_
              intro b3 H3 e3 k3
              have n3 := k3.next
              simp only [next_new, next_upd] at n3
              have q3 : H3.obj H2.next = some (.cells [.int .i64 a.src, .int .i64 a.dst, .int .i64 a.mode, .int .i64 a.cost, .int .i64 a.edge, .int .i64 a.a, .int .i64 a.b] true) := by
                rw [k3.obj _ (by simp only [next_new, next_upd]; omega) (fun e => by have := bl _ e; omega)]
                simp (disch := first | omega | (simp only [next_new, next_upd] <;> omega) | fail) only [vaim]
              have bl3 : ∀ j, sid b3 = some j → j ≠ H2.next := fun j hj e => by
                subst e
                have ho := e3.own.obj hj
                rw [q3] at ho; injection ho with ho; injection ho with ho
                exact u8s_ne ho.symm
              simp (disch := first | omega | (simp only [next_new, next_upd] <;> omega) | fail) only [vai, vaim, vaic, bots, Bool.not_true, Bool.not_false, decide_true, decide_false, wrap64, q3, Nat.reduceAdd, Nat.reduceMul, Nat.reduceLeDiff, Nat.reduceEqDiff, ↓reduceIte]
              refine eight74_ret fun v4 H4 k4 g4 => ?_
              have n4 := k4.next
              have e4 := e3.kept k4
              have q4 : H4.obj H2.next = some (.cells [.int .i64 a.src, .int .i64 a.dst, .int .i64 a.mode, .int .i64 a.cost, .int .i64 a.edge, .int .i64 a.a, .int .i64 a.b] true) := by
                rw [k4.old (by omega)]
                exact q3
              have hl8 : (u8s (foursOf [shrI .i64 a.cost 32, a.cost])).length = 8 * 1 := by rw [u8s_length, foursOf_length]; rfl
              simp (disch := first | omega | (simp only [next_new, next_upd] <;> omega) | fail) only [vai, vaim, vaic, bots, Bool.not_true, Bool.not_false, decide_true, decide_false, wrap64, Nat.reduceAdd, Nat.reduceMul, Nat.reduceLeDiff, Nat.reduceEqDiff, ↓reduceIte]
              refine appRow_ret (n := (E4 ++ (x.arcs.take i).flatMap arcB ++ foursOf [a.src, a.dst, a.mode]).length) (k := 8) e4.own g4.row hl8 (by omega) (by rw [u8s_length]; omega) (by simp only [List.length_append, foursOf_length, List.length_cons, List.length_nil]; omega) (by omega) ?_ (by omega) (Nat.le_refl _) (fun _ _ _ => rfl)
              intro b5 H5 n5 k5 g5 s5
              rw [← u8s_append] at g5
              have e5 := e4.step (app_keep n5 k5) g5
              have q5 : H5.obj H2.next = some (.cells [.int .i64 a.src, .int .i64 a.dst, .int .i64 a.mode, .int .i64 a.cost, .int .i64 a.edge, .int .i64 a.a, .int .i64 a.b] true) := by
                rw [k5 _ (by omega) (fun e => bl3 _ e rfl)]
                exact q4
              simp (disch := first | omega | (simp only [next_new, next_upd] <;> omega) | fail) only [vai, vaim, vaic, bots, Bool.not_true, Bool.not_false, decide_true, decide_false, wrap64, q5, Nat.reduceAdd, Nat.reduceMul, Nat.reduceLeDiff, Nat.reduceEqDiff, ↓reduceIte]
              refine putNew_ret (xs := [a.edge + 1, a.a, a.b]) e5 ((Keep.refl _ _).new _) (by simp (disch := first | omega | (simp only [next_new, next_upd] <;> omega) | fail) only [vaim]; rfl) (by simp only [next_new, next_upd]; omega) rfl (by simp only [List.length_append, foursOf_length, List.length_cons, List.length_nil]; omega) ?_
              intro b6 H6 e6 _
              simp (disch := first | omega | (simp only [next_new, next_upd] <;> omega) | fail) only [vai, vaim, vaic, bots, Bool.not_true, Bool.not_false, decide_true, decide_false, wrap64, Nat.reduceAdd, Nat.reduceMul, Nat.reduceLeDiff, Nat.reduceEqDiff, ↓reduceIte]
              refine ⟨x.arcs.length - (i + 1), by omega, i + 1, b6, rfl, by omega, rfl, ?_⟩
              rw [hf]
              simpa [arcB, List.append_assoc] using e6
            · have hi : i = x.arcs.length := by omega
              rw [hi, List.take_length] at e2
              clear hi
              simp (disch := first | omega | (simp only [next_new, next_upd] <;> omega) | fail) only [vai, vaim, vaic, bots, Bool.not_true, Bool.not_false, decide_true, decide_false, wrap64, hbox, hla, hc, Nat.reduceAdd, Nat.reduceMul, Nat.reduceLeDiff, Nat.reduceEqDiff, ↓reduceIte]
              generalize hE5 : E4 ++ x.arcs.flatMap arcB = E5 at *
              have hE5l : E5.length = E4.length + (x.arcs.flatMap arcB).length := by rw [← hE5]; simp
              refine wpx_loop (fun m t H' => ∃ (j : Nat) (bv : AVal), m = x.up.length - j ∧ j ≤ x.up.length ∧ t = (bots 1 (.ptr H.next 0 :: bots 1 (bv :: bots 5 (.int .i64 j :: bots 140 ([])))) : Tmps) ∧
                EncR H H' [.int .i64 x.n, ew, rv, av, uv, dv] bv (E5 ++ (x.up.take j).flatMap rowB)) x.up.length ?_ ?_
              · exact ⟨0, b2, rfl, by omega, rfl, by simpa using e2⟩
              · clear e2 hx2 hbox hc
                rintro m t H3 ⟨j, b3, rfl, hj, rfl, e3⟩
                have hbox := e3.box
                by_cases hc : (j : Int) < x.up.length
                · have hjl : j < x.up.length := by omega
                  have he : x.up[j]? = some x.up[j] := by simp [hjl]
                  obtain ⟨id, off, r, c1, c2, c3, c4⟩ := hx.up.at (k := .i64) he
                  have c3' : ∀ {H' : AHeap}, Keep Nothing H H' → (bnd (cellsOf (H'.obj id)) fun c => c[off]?) = some r := fun k => by rw [k.old c2]; exact c3
                  have hf := flat_succ (f := rowB) he
                  have hfl := flat_le (f := rowB) (l := x.up) (i := j + 1)
                  generalize x.up[j] = rl at *
                  rw [hf] at hfl
                  simp only [rowB, List.length_append, foursOf_length, List.length_cons, List.length_nil] at hfl
                  have hrl := (c4.kept e3.keep).len1
                  rw [ints_length] at hrl
                  have bu := hx.up.beq
                  have hlt3 := e3.lt
                  have br := c4.beq
                  simp (disch := first | omega | (simp only [next_new, next_upd] <;> omega) | fail) only [vai, vaim, vaic, bots, Bool.not_true, Bool.not_false, decide_true, decide_false, wrap64, hbox, hlu, hc, c1, c3' e3.keep, hrl, Nat.reduceAdd, Nat.reduceMul, Nat.reduceLeDiff, Nat.reduceEqDiff, ↓reduceIte]
                  refine putNew_ret (xs := [(rl.length : Int)]) e3 ((Keep.refl _ _).new _) (by simp (disch := first | omega | (simp only [next_new, next_upd] <;> omega) | fail) only [vaim]; rfl) (by simp only [next_new, next_upd]; omega) rfl (by simp only [List.length_append, List.length_cons, List.length_nil]; omega) ?_
                  intro b4 H4 e4 _
                  have hbox4 := e4.box
                  simp (disch := first | omega | (simp only [next_new, next_upd] <;> omega) | fail) only [vai, vaim, vaic, bots, Bool.not_true, Bool.not_false, decide_true, decide_false, wrap64, hbox4, reK_same bu, reK_same br, c3' e4.keep, Nat.reduceAdd, Nat.reduceMul, Nat.reduceLeDiff, Nat.reduceEqDiff, ↓reduceIte]
                  refine putRow_ret e4 (c4.kept e4.keep) (fun j hj => fun e => by have := c4.sid_lt hj; have := (e4.own.sid_ge e).1; omega) (by simp only [List.length_append, foursOf_length, List.length_cons, List.length_nil]; omega) ?_
                  intro b5 H5 e5 _
                  simp (disch := first | omega | (simp only [next_new, next_upd] <;> omega) | fail) only [vai, vaim, vaic, bots, Bool.not_true, Bool.not_false, decide_true, decide_false, wrap64, Nat.reduceAdd, Nat.reduceMul, Nat.reduceLeDiff, Nat.reduceEqDiff, ↓reduceIte]
                  refine ⟨x.up.length - (j + 1), by omega, j + 1, b5, rfl, by omega, rfl, ?_⟩
                  rw [hf]
                  simpa [rowB, List.append_assoc] using e5
                · have hj : j = x.up.length := by omega
                  rw [hj, List.take_length] at e3
                  clear hj
                  simp (disch := first | omega | (simp only [next_new, next_upd] <;> omega) | fail) only [vai, vaim, vaic, bots, Bool.not_true, Bool.not_false, decide_true, decide_false, wrap64, hbox, hlu, hc, Nat.reduceAdd, Nat.reduceMul, Nat.reduceLeDiff, Nat.reduceEqDiff, ↓reduceIte]
                  generalize hE6 : E5 ++ x.up.flatMap rowB = E6 at *
                  have hE6l : E6.length = E5.length + (x.up.flatMap rowB).length := by rw [← hE6]; simp
                  refine wpx_loop (fun m t H' => ∃ (j : Nat) (bv : AVal), m = x.down.length - j ∧ j ≤ x.down.length ∧ t = (bots 1 (.ptr H.next 0 :: bots 1 (bv :: bots 6 (.int .i64 j :: bots 139 ([])))) : Tmps) ∧
                    EncR H H' [.int .i64 x.n, ew, rv, av, uv, dv] bv (E6 ++ (x.down.take j).flatMap rowB)) x.down.length ?_ ?_
                  · exact ⟨0, b3, rfl, by omega, rfl, by simpa using e3⟩
                  · clear e3 hbox hc
                    rintro m t H3 ⟨j, b3, rfl, hj, rfl, e3⟩
                    have hbox := e3.box
                    by_cases hc : (j : Int) < x.down.length
                    · have hjl : j < x.down.length := by omega
                      have he : x.down[j]? = some x.down[j] := by simp [hjl]
                      obtain ⟨id, off, r, c1, c2, c3, c4⟩ := hx.down.at (k := .i64) he
                      have c3' : ∀ {H' : AHeap}, Keep Nothing H H' → (bnd (cellsOf (H'.obj id)) fun c => c[off]?) = some r := fun k => by rw [k.old c2]; exact c3
                      have hf := flat_succ (f := rowB) he
                      have hfl := flat_le (f := rowB) (l := x.down) (i := j + 1)
                      generalize x.down[j] = rl at *
                      rw [hf] at hfl
                      simp only [rowB, List.length_append, foursOf_length, List.length_cons, List.length_nil] at hfl
                      have hrl := (c4.kept e3.keep).len1
                      rw [ints_length] at hrl
                      have bu := hx.down.beq
                      have hlt3 := e3.lt
                      have br := c4.beq
                      simp (disch := first | omega | (simp only [next_new, next_upd] <;> omega) | fail) only [vai, vaim, vaic, bots, Bool.not_true, Bool.not_false, decide_true, decide_false, wrap64, hbox, hld, hc, c1, c3' e3.keep, hrl, Nat.reduceAdd, Nat.reduceMul, Nat.reduceLeDiff, Nat.reduceEqDiff, ↓reduceIte]
                      refine putNew_ret (xs := [(rl.length : Int)]) e3 ((Keep.refl _ _).new _) (by simp (disch := first | omega | (simp only [next_new, next_upd] <;> omega) | fail) only [vaim]; rfl) (by simp only [next_new, next_upd]; omega) rfl (by simp only [List.length_append, List.length_cons, List.length_nil]; omega) ?_
                      intro b4 H4 e4 _
                      have hbox4 := e4.box
                      simp (disch := first | omega | (simp only [next_new, next_upd] <;> omega) | fail) only [vai, vaim, vaic, bots, Bool.not_true, Bool.not_false, decide_true, decide_false, wrap64, hbox4, reK_same bu, reK_same br, c3' e4.keep, Nat.reduceAdd, Nat.reduceMul, Nat.reduceLeDiff, Nat.reduceEqDiff, ↓reduceIte]
                      refine putRow_ret e4 (c4.kept e4.keep) (fun j hj => fun e => by have := c4.sid_lt hj; have := (e4.own.sid_ge e).1; omega) (by simp only [List.length_append, foursOf_length, List.length_cons, List.length_nil]; omega) ?_
                      intro b5 H5 e5 _
                      simp (disch := first | omega | (simp only [next_new, next_upd] <;> omega) | fail) only [vai, vaim, vaic, bots, Bool.not_true, Bool.not_false, decide_true, decide_false, wrap64, Nat.reduceAdd, Nat.reduceMul, Nat.reduceLeDiff, Nat.reduceEqDiff, ↓reduceIte]
                      refine ⟨x.down.length - (j + 1), by omega, j + 1, b5, rfl, by omega, rfl, ?_⟩
                      rw [hf]
                      simpa [rowB, List.append_assoc] using e5
                    · have hj : j = x.down.length := by omega
                      rw [hj, List.take_length] at e3
                      have hfin : E6 ++ x.down.flatMap rowB = encodeOf x := by
                        rw [← hE6, ← hE5, ← hE4, ← hE3, ← hE2]
                        simp [encodeOf, List.append_assoc]
                      rw [hfin] at e3
                      have nb := e3.own.notBot
                      simp (disch := first | omega | (simp only [next_new, next_upd] <;> omega) | fail) only [vai, vaim, vaic, bots, Bool.not_true, Bool.not_false, decide_true, decide_false, wrap64, hbox, hld, hc, nb, Nat.reduceAdd, Nat.reduceMul, Nat.reduceLeDiff, Nat.reduceEqDiff, ↓reduceIte]
                      exact hq b3 H3 e3.keep (e3.own.lower (by omega))
end Go.Proofs.Ytknhlpmmalcchaa

namespace Go.Proofs.Ytknhlpmmalcchaa
open Go Go.VAI
set_option linter.unusedSimpArgs false

end Go.Proofs.Ytknhlpmmalcchaa

namespace Go.Proofs.Ytknhlpmmalcchaa
open Go Go.VAI
set_option linter.unusedSimpArgs false

/-- Reading under way. -/
structure RdgAt (H0 : AHeap) (q w : Nat) (src : Option Nat) (H : AHeap) (cs : List AVal) (s : RS) : Prop where
  keep : Keep (fun j => j = w) H0 H
  op : H.obj H0.next = some (.cells [.int .i64 0, .nilSlice, .nilSlice, .nilSlice, .nilSlice, .nilSlice] true)
  ob : H.obj q = some (.cells cs true)
  rd : RdAt H w src s
  len : s.left.length ≤ 1000000000
  lq : H0.next < q
  lh : q < H.next
  lw : w < H0.next
  ls : ∀ j, src = some j → j < H0.next
theorem RdgAt.grow {H0 : AHeap} {q w : Nat} {src : Option Nat} {H H' : AHeap} {cs : List AVal} {s : RS} {M : Nat → Prop} (h : RdgAt H0 q w src H cs s) (hk : Keep M H H') (hM : ∀ j, M j → q < j) : RdgAt H0 q w src H' cs s := by
  have h2 := h.lq
  have h3 := h.lw
  have h4 := h.lh
  have h5 := h.keep.next
  have hm : ∀ j, j ≤ q → ¬ M j := fun j hj hm => by have := hM j hm; omega
  exact ⟨⟨by have := hk.next; omega, fun j hj hw => by rw [hk.obj j (by omega) (hm j (by omega)), h.keep.obj j hj hw]⟩, by rw [hk.obj _ (by omega) (hm _ (by omega))]; exact h.op, by rw [hk.obj _ (by omega) (hm _ (by omega))]; exact h.ob, h.rd.M hk (hm w (by omega)) (fun j hj => hm j (by have := h.ls j hj; omega)), h.len, h2, by have := hk.next; omega, h3, h.ls⟩
theorem RdgAt.kept {H0 : AHeap} {q w : Nat} {src : Option Nat} {H H' : AHeap} {cs : List AVal} {s : RS} (h : RdgAt H0 q w src H cs s) (hk : Keep Nothing H H') : RdgAt H0 q w src H' cs s := h.grow hk (fun _ h => h.elim)
theorem RdgAt.upd {H0 : AHeap} {q w y : Nat} {src : Option Nat} {H : AHeap} {cs : List AVal} {s : RS} (h : RdgAt H0 q w src H cs s) (hy : q < y) (o : Option AObj) : RdgAt H0 q w src (H.upd y o) cs s :=
  h.grow (M := fun j => j = y) ((Keep.refl (fun j => j = y) _).upd (.inr rfl) _) (fun j e => by omega)
theorem RdgAt.read {H0 : AHeap} {q w : Nat} {src : Option Nat} {H H' : AHeap} {cs : List AVal} {s s' : RS} (h : RdgAt H0 q w src H cs s) (hk : Keep (fun j => j = w) H H') (hr : RdAt H' w src s') (hl : s'.left.length ≤ s.left.length) : RdgAt H0 q w src H' cs s' := by
  have h2 := h.lq
  have h3 := h.lw
  have h4 := h.lh
  have h5 := h.keep.next
  have h6 := h.len
  exact ⟨⟨by have := hk.next; omega, fun j hj hw => by rw [hk.obj j (by omega) hw, h.keep.obj j hj hw]⟩, by rw [hk.obj _ (by omega) (by omega)]; exact h.op, by rw [hk.obj _ (by omega) (by omega)]; exact h.ob, hr, by omega, h2, by have := hk.next; omega, h3, h.ls⟩
theorem RdgAt.put {H0 : AHeap} {q w : Nat} {src : Option Nat} {H : AHeap} {cs : List AVal} {s : RS} (h : RdgAt H0 q w src H cs s) (cs' : List AVal) : RdgAt H0 q w src (H.upd q (some (.cells cs' true))) cs' s := by
  have h2 := h.lq
  have h3 := h.lw
  have h4 := h.lh
  have h5 := h.keep.next
  have kk : Keep (fun j => j = q) H (H.upd q (some (.cells cs' true))) := (Keep.refl (fun j => j = q) _).upd (.inr rfl) _
  exact ⟨h.keep.upd (.inl (by omega)) _, by rw [obj_upd_ne (by omega)]; exact h.op, obj_upd_eq rfl, h.rd.M kk (by omega) (fun j hj => by have := h.ls j hj; omega), h.len, h2, h4, h3, h.ls⟩
theorem RdgAt.set {H0 : AHeap} {q w y : Nat} {src : Option Nat} {Ha H : AHeap} {cs zs : List AVal} {s : RS} (h : RdgAt H0 q w src H cs s) (hk : Keep (fun j => j = w) Ha H) (hy : Ha.next ≤ y ∧ y < H.next) (hqa : q < Ha.next) :
    RdgAt H0 q w src (H.upd y (some (.cells zs true))) cs s ∧ Keep (fun j => j = w) Ha (H.upd y (some (.cells zs true))) ∧ (H.upd y (some (.cells zs true))).obj y = some (.cells zs true) ∧ (H.upd y (some (.cells zs true))).next = H.next :=
  ⟨h.upd (by omega) _, hk.upd (.inl (by omega)) _, obj_upd_eq rfl, by simp only [next_upd]⟩
end Go.Proofs.Ytknhlpmmalcchaa

namespace Go.Proofs.Ytknhlpmmalcchaa
open Go Go.VAI
set_option linter.unusedSimpArgs false

end Go.Proofs.Ytknhlpmmalcchaa

namespace Go.Proofs.Ytknhlpmmalcchaa
open Go Go.VAI
set_option linter.unusedSimpArgs false

end Go.Proofs.Ytknhlpmmalcchaa

namespace Go.Proofs.Ytknhlpmmalcchaa
open Go Go.VAI
set_option linter.unusedSimpArgs false

/-! ### the other reader reads the same -/
end Go.Proofs.Ytknhlpmmalcchaa

namespace Go.Proofs.Ytknhlpmmalcchaa
open Go Go.VAI
set_option linter.unusedSimpArgs false

theorem mk_ret {size modes : Int} {ns : AVal} {xs : List Int} {H : AHeap} {Q : AVal → AHeap → Prop} (hr : Row H ns 1 (ints xs)) (hx : ∀ x ∈ xs, I64 x) (hx2 : xs.length ≤ 9223372036854775807)
    (hq : ∀ ev H', Keep Nothing H H' → Grown H.next H' ev 4 (edgeCells (mkEs size modes xs)) → Q (.agg [.int .i64 (mkN size), ev]) H') : Ret A 28 [.int .i64 size, ns, .int .i64 modes] H Q := by
  refine make_ret hr hx hx2 fun ev H' k g => ?_
  have h := hq ev H' k g
  rw [mkN_eq] at h
  exact h
theorem IdxAt.beq {H : AHeap} {ew rv av uv dv : AVal} {x : Idx} (h : IdxAt H ew rv av uv dv x) {n : Int} : AVal.beq (.agg [.int .i64 n, ew, rv, av, uv, dv]) (.agg [.int .i64 n, ew, rv, av, uv, dv]) = true := by
  simp [AVal.beq, AVal.beqs, h.es.beq, h.rank.beq, h.arcs.beq, h.up.beq, h.down.beq]
theorem allowed_short {x : Idx} (h : Allowed x) : Short62 x ∧ x.up.length = x.down.length := by
  obtain ⟨n1, n2, n3, n4⟩ := h.net
  have hrl := h.rankLen
  have hul := h.upLen
  have hdl := h.downLen
  have hac := h.count
  have hu : ∀ l ∈ x.up, l.length ≤ 300000 := fun l hl => by
    obtain ⟨v, hv, e⟩ := List.getElem_of_mem hl
    obtain ⟨h1, h2⟩ := h.up v l (by rw [List.getElem?_eq_getElem hv, e])
    have := few_below x.arcs.length l h1 (fun y hy => by
      obtain ⟨h3, a, h4, _⟩ := h2 y hy
      have := (List.getElem?_eq_some_iff.1 h4).1
      omega)
    omega
  have hd : ∀ l ∈ x.down, l.length ≤ 300000 := fun l hl => by
    obtain ⟨v, hv, e⟩ := List.getElem_of_mem hl
    obtain ⟨h1, h2⟩ := h.down v l (by rw [List.getElem?_eq_getElem hv, e])
    have := few_below x.arcs.length l h1 (fun y hy => by
      obtain ⟨h3, a, h4, _⟩ := h2 y hy
      have := (List.getElem?_eq_some_iff.1 h4).1
      omega)
    omega
  exact ⟨⟨by omega, by omega, by omega, by omega, fun l hl => by have := hu l hl; omega, fun l hl => by have := hd l hl; omega⟩, by omega⟩
end Go.Proofs.Ytknhlpmmalcchaa

namespace Go.Proofs.Ytknhlpmmalcchaa
open Go Go.VAI
set_option linter.unusedSimpArgs false

set_option maxRecDepth 20000 in
set_option maxHeartbeats 4000000 in
theorem indexBack_ret {size modes : Int} {ns : AVal} {xs : List Int} {f : Nat → Option AObj} (_ : I64 size) (hr : Row ⟨f, 1⟩ ns 1 (ints xs)) (hx : ∀ x ∈ xs, I64 x) (hx2 : xs.length ≤ 9223372036854775807) (_ : I64 modes) :
    Ret A 3 [.int .i64 size, ns, .int .i64 modes] ⟨f, 1⟩ (fun v _ => v = .bool true) := by
  refine Ret.of (fn := F3) rfl ?_
  simp (disch := first | omega | (simp only [next_new, next_upd] <;> omega) | fail) only [vai, vaim, vaic, bots, Bool.not_true, Bool.not_false, decide_true, decide_false, wrap64, F3, Nat.reduceAdd, Nat.reduceMul, Nat.reduceLeDiff, Nat.reduceEqDiff, ↓reduceIte]
  refine known26_ret fun H1 k1 => ?_
  simp (disch := first | omega | (simp only [next_new, next_upd] <;> omega) | fail) only [vai, vaim, vaic, bots, Bool.not_true, Bool.not_false, decide_true, decide_false, wrap64, Bool.not_true, Nat.reduceAdd, Nat.reduceMul, Nat.reduceLeDiff, Nat.reduceEqDiff, ↓reduceIte]
  refine mk_ret (hr.kept k1) hx hx2 fun ev H2 k2 g2 => ?_
  have hnet := mk_net size modes xs
  have hsm := mk_small size
  generalize mkEs size modes xs = es at *
  generalize mkN size = N at *
  simp (disch := first | omega | (simp only [next_new, next_upd] <;> omega) | fail) only [vai, vaim, vaic, bots, Bool.not_true, Bool.not_false, decide_true, decide_false, wrap64, Nat.reduceAdd, Nat.reduceMul, Nat.reduceLeDiff, Nat.reduceEqDiff, ↓reduceIte]
  refine build_ret g2.row hnet hsm fun ew rv av uv dv H3 k3 h3 => ?_
  have hal := idx_allowed hnet hsm
  obtain ⟨p1, p2, p3⟩ := allowed_enc hal
  have p4 := allowed_small hal
  have hn : (idxOf N es).n = N := rfl
  have hraw := raw_encode hal
  have hbytes := encode_bytes (idxOf N es)
  obtain ⟨hs1, hs2⟩ := allowed_short hal
  generalize hid : idxOf N es = x at *
  rw [← hn]
  simp (disch := first | omega | (simp only [next_new, next_upd] <;> omega) | fail) only [vai, vaim, vaic, bots, Bool.not_true, Bool.not_false, decide_true, decide_false, wrap64, Nat.reduceAdd, Nat.reduceMul, Nat.reduceLeDiff, Nat.reduceEqDiff, ↓reduceIte]
  have k4 : Keep Nothing H3 ((H3.new (.cells [.int .i64 0, .nilSlice, .nilSlice, .nilSlice, .nilSlice, .nilSlice] true)).upd H3.next (some (.cells [.int .i64 x.n, ew, rv, av, uv, dv] true))) := ((Keep.refl _ _).new _).upd (.inl (Nat.le_refl _)) _
  have o4 : ((H3.new (.cells [.int .i64 0, .nilSlice, .nilSlice, .nilSlice, .nilSlice, .nilSlice] true)).upd H3.next (some (.cells [.int .i64 x.n, ew, rv, av, uv, dv] true))).obj H3.next = some (.cells [.int .i64 x.n, ew, rv, av, uv, dv] true) := obj_upd_eq rfl
  have l4 : H3.next < ((H3.new (.cells [.int .i64 0, .nilSlice, .nilSlice, .nilSlice, .nilSlice, .nilSlice] true)).upd H3.next (some (.cells [.int .i64 x.n, ew, rv, av, uv, dv] true))).next := (by first | omega | (simp only [next_new, next_upd]; omega))
  have h4 := h3.kept k4
  generalize (H3.new (.cells [.int .i64 0, .nilSlice, .nilSlice, .nilSlice, .nilSlice, .nilSlice] true)).upd H3.next (some (.cells [.int .i64 x.n, ew, rv, av, uv, dv] true)) = H4 at *
  generalize H3.next = q at *
  refine encode_ret h4 p1 p2 (by omega) fun bv H5 k5 g5 => ?_
  simp (disch := first | omega | (simp only [next_new, next_upd] <;> omega) | fail) only [vai, vaim, vaic, bots, Bool.not_true, Bool.not_false, decide_true, decide_false, wrap64, Nat.reduceAdd, Nat.reduceMul, Nat.reduceLeDiff, Nat.reduceEqDiff, ↓reduceIte]
  refine decode_ret g5.rowC hbytes (by omega) (fun hno H6 k6 => (hno x hraw hal).elim) (fun x' hx' hal' e2 r2 a2 u2 d2 H6 k6 h6 => ?_)
  have : x' = x := by rw [hraw] at hx'; injection hx' with hx'; exact hx'.symm
  subst this
  simp (disch := first | omega | (simp only [next_new, next_upd] <;> omega) | fail) only [vai, vaim, vaic, bots, Bool.not_true, Bool.not_false, decide_true, decide_false, wrap64, Nat.reduceAdd, Nat.reduceMul, Nat.reduceLeDiff, Nat.reduceEqDiff, ↓reduceIte]
  have k7 : Keep Nothing H6 ((H6.new (.cells [.int .i64 0, .nilSlice, .nilSlice, .nilSlice, .nilSlice, .nilSlice] true)).upd H6.next (some (.cells [.int .i64 x'.n, e2, r2, a2, u2, d2] true))) := ((Keep.refl _ _).new _).upd (.inl (Nat.le_refl _)) _
  have o7 : ((H6.new (.cells [.int .i64 0, .nilSlice, .nilSlice, .nilSlice, .nilSlice, .nilSlice] true)).upd H6.next (some (.cells [.int .i64 x'.n, e2, r2, a2, u2, d2] true))).obj H6.next = some (.cells [.int .i64 x'.n, e2, r2, a2, u2, d2] true) := obj_upd_eq rfl
  have l7 : H6.next < ((H6.new (.cells [.int .i64 0, .nilSlice, .nilSlice, .nilSlice, .nilSlice, .nilSlice] true)).upd H6.next (some (.cells [.int .i64 x'.n, e2, r2, a2, u2, d2] true))).next := (by first | omega | (simp only [next_new, next_upd]; omega))
  have h7 := h6.kept k7
  generalize (H6.new (.cells [.int .i64 0, .nilSlice, .nilSlice, .nilSlice, .nilSlice, .nilSlice] true)).upd H6.next (some (.cells [.int .i64 x'.n, e2, r2, a2, u2, d2] true)) = H7 at *
  generalize H6.next = q2 at *
  have k57 := (k5.trans k6).trans k7
  have st7 := row_str ((g5.kept k6).kept k7).row
  have o47 : H7.obj q = some (.cells [.int .i64 x'.n, ew, rv, av, uv, dv] true) := by rw [k57.old l4]; exact o4
  have n57 := k57.next
  simp (disch := first | omega | (simp only [next_new, next_upd] <;> omega) | fail) only [vai, vaim, vaic, bots, Bool.not_true, Bool.not_false, decide_true, decide_false, wrap64, st7, o47, Nat.reduceAdd, Nat.reduceMul, Nat.reduceLeDiff, Nat.reduceEqDiff, ↓reduceIte]
  refine refEncode_ret (h4.kept k57) p1 p2 (by omega) fun cv H8 k8 g8 => ?_
  have st8 := row_str (((g5.kept k6).kept k7).kept k8).row
  have st9 := row_str g8.row
  have o48 : H8.obj q = some (.cells [.int .i64 x'.n, ew, rv, av, uv, dv] true) := by rw [k8.old (by omega)]; exact o47
  have o78 : H8.obj q2 = some (.cells [.int .i64 x'.n, e2, r2, a2, u2, d2] true) := by rw [k8.old l7]; exact o7
  have heq := abin_eql_str hbytes hbytes
  simp (disch := first | omega | (simp only [next_new, next_upd] <;> omega) | fail) only [vai, vaim, vaic, bots, Bool.not_true, Bool.not_false, decide_true, decide_false, wrap64, st8, st9, o48, o78, heq, vaij, Nat.reduceAdd, Nat.reduceMul, Nat.reduceLeDiff, Nat.reduceEqDiff, ↓reduceIte]
  refine same_ret (h7.kept k8) ((h4.kept k57).kept k8) hs1 hs2 fun b H9 k9 c9 => ?_
  have hb : b = true := c9.2 rfl
  subst hb
  simp (disch := first | omega | (simp only [next_new, next_upd] <;> omega) | fail) only [vai, vaim, vaic, bots, Bool.not_true, Bool.not_false, decide_true, decide_false, wrap64, Nat.reduceAdd, Nat.reduceMul, Nat.reduceLeDiff, Nat.reduceEqDiff, ↓reduceIte]
end Go.Proofs.Ytknhlpmmalcchaa

/- Closed facts of the program: what its head says, read as a list of signs (the kernel is slow at a long text's own signs). -/
namespace Go.Proofs.Ytknhlpmmalcchaa
open Go Go.ChangeShapes Go.WideShapes Go.ChangeAt Go.RowKit
set_option maxRecDepth 100000
def headSigns : List Char := List.map Char.ofNat [104, 97, 114, 110, 101, 115, 115, 32, 55, 99, 56, 99, 100, 51, 98, 49, 52, 101, 49, 49, 99, 55, 53, 54, 51, 54, 100, 97, 101, 56, 55, 98, 55, 54, 100, 50, 48, 98, 53, 57, 56, 97, 56, 56, 56, 55, 99, 98, 51, 49, 48, 98, 100, 53, 97, 55, 54, 53, 102, 100, 48, 102, 49, 102, 50, 57, 53, 50, 52, 102, 57, 50, 32, 99, 117, 116, 32, 97, 116, 32, 109, 105, 108, 101, 115, 116, 111, 110, 101, 47, 109, 105, 108, 101, 115, 116, 111, 110, 101, 108, 97, 119, 49, 50, 46, 73, 110, 100, 101, 120, 66, 97, 99, 107, 32, 109, 105, 108, 101, 115, 116, 111, 110, 101, 47, 109, 105, 108, 101, 115, 116, 111, 110, 101, 108, 97, 119, 49, 50, 46, 73, 110, 100, 101, 120, 82, 101, 97, 100, 115, 32, 109, 105, 108, 101, 115, 116, 111, 110, 101, 47, 109, 105, 108, 101, 115, 116, 111, 110, 101, 108, 97, 119, 49, 50, 46, 73, 110, 100, 101, 120, 83, 112, 111, 105, 108, 116, 32, 109, 105, 108, 101, 115, 116, 111, 110, 101, 47, 109, 105, 108, 101, 115, 116, 111, 110, 101, 108, 97, 119, 49, 50, 46, 73, 110, 100, 101, 120, 79, 110, 108, 121, 32, 109, 105, 108, 101, 115, 116, 111, 110, 101, 47, 109, 105, 108, 101, 115, 116, 111, 110, 101, 108, 97, 119, 49, 50, 46, 73, 110, 100, 101, 120, 83, 105, 122, 101, 32, 109, 105, 108, 101, 115, 116, 111, 110, 101, 47, 109, 105, 108, 101, 115, 116, 111, 110, 101, 108, 97, 119, 49, 50, 46, 73, 110, 100, 101, 120, 65, 112, 97, 114, 116, 32, 109, 105, 108, 101, 115, 116, 111, 110, 101, 47, 109, 105, 108, 101, 115, 116, 111, 110, 101, 108, 97, 119, 49, 50, 46, 73, 110, 100, 101, 120, 67, 117, 116, 32, 109, 105, 108, 101, 115, 116, 111, 110, 101, 47, 109, 105, 108, 101, 115, 116, 111, 110, 101, 108, 97, 119, 49, 50, 46, 73, 110, 100, 101, 120, 67, 111, 117, 110, 116, 115, 32, 109, 105, 108, 101, 115, 116, 111, 110, 101, 47, 109, 105, 108, 101, 115, 116, 111, 110, 101, 108, 97, 119, 49, 50, 46, 73, 110, 100, 101, 120, 72, 101, 97, 100, 32, 109, 105, 108, 101, 115, 116, 111, 110, 101, 47, 109, 105, 108, 101, 115, 116, 111, 110, 101, 108, 97, 119, 49, 48, 46, 79, 114, 100, 101, 114, 65, 108, 108, 32, 109, 105, 108, 101, 115, 116, 111, 110, 101, 47, 109, 105, 108, 101, 115, 116, 111, 110, 101, 108, 97, 119, 49, 48, 46, 79, 114, 100, 101, 114, 69, 97, 99, 104, 32, 109, 105, 108, 101, 115, 116, 111, 110, 101, 47, 109, 105, 108, 101, 115, 116, 111, 110, 101, 108, 97, 119, 49, 48, 46, 79, 114, 100, 101, 114, 67, 111, 115, 116, 115, 32, 109, 105, 108, 101, 115, 116, 111, 110, 101, 47, 109, 105, 108, 101, 115, 116, 111, 110, 101, 108, 97, 119, 49, 48, 46, 79, 114, 100, 101, 114, 75, 110, 111, 119, 110, 32, 109, 105, 108, 101, 115, 116, 111, 110, 101, 47, 109, 105, 108, 101, 115, 116, 111, 110, 101, 108, 97, 119, 49, 48, 46, 79, 114, 100, 101, 114, 77, 111, 100, 101, 32, 109, 105, 108, 101, 115, 116, 111, 110, 101, 47, 109, 105, 108, 101, 115, 116, 111, 110, 101, 108, 97, 119, 49, 49, 46, 72, 105, 101, 114, 66, 117, 105, 108, 100, 115, 32, 109, 105, 108, 101, 115, 116, 111, 110, 101, 47, 109, 105, 108, 101, 115, 116, 111, 110, 101, 108, 97, 119, 49, 49, 46, 72, 105, 101, 114, 82, 97, 110, 107, 115, 32, 109, 105, 108, 101, 115, 116, 111, 110, 101, 47, 109, 105, 108, 101, 115, 116, 111, 110, 101, 108, 97, 119, 49, 49, 46, 72, 105, 101, 114, 75, 101, 101, 112, 115, 32, 109, 105, 108, 101, 115, 116, 111, 110, 101, 47, 109, 105, 108, 101, 115, 116, 111, 110, 101, 108, 97, 119, 49, 49, 46, 72, 105, 101, 114, 67, 111, 114, 101, 32, 109, 105, 108, 101, 115, 116, 111, 110, 101, 47, 109, 105, 108, 101, 115, 116, 111, 110, 101, 108, 97, 119, 49, 49, 46, 72, 105, 101, 114, 67, 111, 115, 116, 115, 32, 109, 105, 108, 101, 115, 116, 111, 110, 101, 47, 109, 105, 108, 101, 115, 116, 111, 110, 101, 108, 97, 119, 49, 49, 46, 72, 105, 101, 114, 65, 114, 99, 115, 32, 109, 105, 108, 101, 115, 116, 111, 110, 101, 47, 109, 105, 108, 101, 115, 116, 111, 110, 101, 108, 97, 119, 49, 49, 46, 72, 105, 101, 114, 83, 104, 111, 114, 116, 32, 109, 105, 108, 101, 115, 116, 111, 110, 101, 47, 109, 105, 108, 101, 115, 116, 111, 110, 101, 108, 97, 119, 49, 49, 46, 72, 105, 101, 114, 79, 119, 110, 32, 109, 105, 108, 101, 115, 116, 111, 110, 101, 47, 109, 105, 108, 101, 115, 116, 111, 110, 101, 108, 97, 119, 49, 49, 46, 72, 105, 101, 114, 76, 111, 110, 103]
theorem head_eq : Try.prog.initOrder = String.ofList headSigns := by kernel_rfl
theorem head_list : Try.prog.initOrder.toList = headSigns := by rw [head_eq, String.toList_ofList]
theorem head_words : ∃ rest, behindMainWord (wordsSigns headSigns) = "cut".toList :: rest := ⟨(behindMainWord (wordsSigns headSigns)).tail, by kernel_rfl⟩
theorem strip_cut (rest : List (List Char)) : stripLifts liftWords ("cut".toList :: rest) = ([], "cut".toList :: rest) := by kernel_rfl
theorem ne1 : ("cut".toList == "gc".toList) = false := by kernel_rfl
theorem ne2 : ("cut".toList == "spec".toList) = false := by kernel_rfl
theorem ne3 : ("cut".toList == "carried".toList) = false := by kernel_rfl
theorem words_of : ∃ rest, behindMainWord (wordsSigns Try.prog.initOrder.toList) = "cut".toList :: rest := by
  obtain ⟨rest, h⟩ := head_words
  exact ⟨rest, (congrArg (fun l => behindMainWord (wordsSigns l)) head_list).trans h⟩
theorem make_of (P : Program) (rest : List (List Char)) (h : behindMainWord (wordsSigns P.initOrder.toList) = "cut".toList :: rest) : P.make = some .cut := by
  unfold Program.make
  rw [h]
  simp only [ne1, ne2, beq_self_eq_true, Bool.false_or, Bool.true_or, Bool.or_self, Bool.false_eq_true, if_true, if_false]
theorem lifts_of (P : Program) (rest : List (List Char)) (h : behindMainWord (wordsSigns P.initOrder.toList) = "cut".toList :: rest) : P.liftsFinal = false := by
  unfold Program.liftsFinal Program.headLifts
  rw [h]
  have e : ((some "cut".toList : Option (List Char)) == some "carried".toList) = false := by kernel_rfl
  simp only [strip_cut, List.head?_cons, beq_self_eq_true, if_true, e, Bool.false_and, Bool.false_or]
  rfl
theorem enter_of (P : Program) (rest : List (List Char)) (h : behindMainWord (wordsSigns P.initOrder.toList) = "cut".toList :: rest) (h1 : P.laysLater = false) (h2 : P.bearsReflect = false) (h3 : P.doorFits [] = true) : P.mayEnter = true := by
  unfold Program.mayEnter
  rw [h]
  simp only [strip_cut, ne1, ne2, ne3, h1, h2, h3, List.head?_cons, beq_self_eq_true, Bool.false_or, Bool.or_false, Bool.false_and, Bool.true_and, Bool.and_true, Bool.not_false, Bool.or_true, List.contains_nil]
theorem fact_make : Try.prog.make = some .cut := by
  obtain ⟨rest, h⟩ := words_of
  exact make_of _ _ h
theorem fact_lifts : Try.prog.liftsFinal = false := by
  obtain ⟨rest, h⟩ := words_of
  exact lifts_of _ _ h
theorem fact_later : Try.prog.laysLater = false := by kernel_rfl
theorem fact_reflect : Try.prog.bearsReflect = false := by kernel_rfl
theorem fact_door : Try.prog.doorFits [] = true := by kernel_rfl
theorem fact_enter : Try.prog.mayEnter = true := by
  obtain ⟨rest, h⟩ := words_of
  exact enter_of _ _ h fact_later fact_reflect fact_door
theorem fact_laid : laidOutB Try.prog = true := by kernel_rfl
theorem fact_maps : mapsRowed Try.prog = true := by kernel_rfl
theorem fact_heard : Try.prog.stopsHeard = true := by kernel_rfl
theorem own : ownKnob Try.prog.godebug = none := by kernel_rfl
theorem follows : Try.prog.follows .mixedOrders = true := by kernel_rfl
end Go.Proofs.Ytknhlpmmalcchaa
