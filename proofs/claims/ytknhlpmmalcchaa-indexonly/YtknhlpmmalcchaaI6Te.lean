/- Steps of the walk. -/
import Derived.Test.YtknhlpmmalcchaaI6Td
import Derived.Test.YtknhlpmmalcchaaI6Vba
import Derived.Test.YtknhlpmmalcchaaRows
import Derived.ProofKit
set_option linter.all false
set_option linter.unusedVariables false
set_option linter.unusedSimpArgs false
namespace Go.Proofs.Ytknhlpmmalcchaa
open Go Go.VAI
set_option linter.unusedSimpArgs false

set_option maxRecDepth 20000 in
set_option maxHeartbeats 4000000 in
theorem refEncode_ret {ew rv av uv dv : AVal} {x : Idx} {H : AHeap} {Q : AVal → AHeap → Prop} (hx : IdxAt H ew rv av uv dv x) (hrank : ∀ r ∈ x.rank, -1 ≤ r ∧ r ≤ 1000000000) (hedge : ∀ a ∈ x.arcs, -1 ≤ a.edge ∧ a.edge ≤ 1000000000) (hlen : (encodeOf x).length ≤ 70368744177664)
    (hq : ∀ v' H', Keep Nothing H H' → Own H.next H' v' 1 (u8s (encodeOf x)) → Q v' H') : Ret A 31 [.agg [.int .i64 x.n, ew, rv, av, uv, dv]] H Q := by
  refine Ret.of (fn := F31) rfl ?_
  have hle := hx.es.len (by omega) (edgeCells_length x.es)
  have hlr := hx.rank.len1
  rw [ints_length] at hlr
  have hla := hx.arcs.len (by omega) (arcCells_length x.arcs)
  have hlu := hx.up.len
  have hld := hx.down.len
  have hL : (encodeOf x).length = 4 + 8 + (x.es.flatMap edgeB).length + (x.rank.flatMap rankB).length + 4 + (x.arcs.flatMap arcB).length + (x.up.flatMap rowB).length + (x.down.flatMap rowB).length := by
    simp only [encodeOf, List.length_append, foursOf_length, List.length_cons, List.length_nil]
  have hf1 : (x.es.flatMap edgeB).length = 16 * x.es.length := flat_len edgeB_len
  have hf2 : (x.rank.flatMap rankB).length = 4 * x.rank.length := flat_len rankB_len
  have hf3 : (x.arcs.flatMap arcB).length = 32 * x.arcs.length := flat_len arcB_len
  have hf4 : 4 * x.up.length ≤ (x.up.flatMap rowB).length := flat_ge (fun l => by rw [rowB_len]; omega)
  have hf5 : 4 * x.down.length ≤ (x.down.flatMap rowB).length := flat_ge (fun l => by rw [rowB_len]; omega)
  simp (disch := first | omega | (simp only [next_new, next_upd] <;> omega) | fail) only [vai, vaim, vaic, bots, Bool.not_true, Bool.not_false, decide_true, decide_false, wrap64, F31, hle, Nat.reduceAdd, Nat.reduceMul, Nat.reduceLeDiff, Nat.reduceEqDiff, ↓reduceIte]
  have e0 : EncR H ((H.new (.cells [.int .i64 x.n, ew, rv, av, uv, dv] true)).new (.cells [.int .u8 77, .int .u8 73, .int .u8 88, .int .u8 49] true)) [.int .i64 x.n, ew, rv, av, uv, dv] (.slice (H.next + 1) 0 4 (.exact 4)) [77, 73, 88, 49] := by
    refine ⟨((Keep.refl _ _).new _).new _, (by first | omega | (simp only [next_new, next_upd]; omega)), by simp (disch := first | omega | (simp only [next_new, next_upd] <;> omega) | fail) only [vaim], .full (by omega) (by first | omega | (simp only [next_new, next_upd]; omega)) (by simp (disch := first | omega | (simp only [next_new, next_upd] <;> omega) | fail) only [vaim]; rfl) rfl⟩
  refine putNew_ret (xs := [x.n, (x.es.length : Int)]) e0 ((Keep.refl _ _).new _) (by simp (disch := first | omega | (simp only [next_new, next_upd] <;> omega) | fail) only [vaim]; rfl) (by simp only [next_new]; omega) rfl (by simp) ?_
  clear e0
  intro b1 H1 e1 _
  simp (disch := first | omega | (simp only [next_new, next_upd] <;> omega) | fail) only [vai, vaim, vaic, bots, Bool.not_true, Bool.not_false, decide_true, decide_false, wrap64, Nat.reduceAdd, Nat.reduceMul, Nat.reduceLeDiff, Nat.reduceEqDiff, ↓reduceIte]
  refine wpx_loop (fun m t H' => ∃ (i : Nat) (bv : AVal), m = x.es.length - i ∧ i ≤ x.es.length ∧ t = (bots 1 (.ptr H.next 0 :: bots 1 (bv :: .int .i64 i :: bots 145 ([]))) : Tmps) ∧
    EncR H H' [.int .i64 x.n, ew, rv, av, uv, dv] bv ([77, 73, 88, 49] ++ foursOf [x.n, (x.es.length : Int)] ++ (x.es.take i).flatMap edgeB)) x.es.length ?_ ?_
  · exact ⟨0, b1, rfl, by omega, rfl, by simpa using e1⟩
  · clear e1
    rintro m t H2 ⟨i, b2, rfl, hi, rfl, e2⟩
    have hx2 := hx.kept e2.keep
    have hbox := e2.box
    by_cases hc : (i : Int) < x.es.length
    · have hil : i < x.es.length := by omega
      have he : x.es[i]? = some x.es[i] := by simp [hil]
      obtain ⟨id, off, c1, c2, c3, c4, c5, c6, c7⟩ := edge_at hx2.es he
      have hf := flat_succ (f := edgeB) he
      have hfl := flat_le (f := edgeB) (l := x.es) (i := i + 1)
      generalize x.es[i] = e at *
      simp only [Edge.cells] at c7
      simp (disch := first | omega | (simp only [next_new, next_upd] <;> omega) | fail) only [vai, vaim, vaic, bots, Bool.not_true, Bool.not_false, decide_true, decide_false, wrap64, hbox, hle, hc, c1, c7, Nat.reduceAdd, Nat.reduceMul, Nat.reduceLeDiff, Nat.reduceEqDiff, ↓reduceIte]
      refine putNew_ret (xs := [e.src, e.dst, e.mode, e.cost]) e2 ((((Keep.refl _ _).new _).upd (.inl (Nat.le_refl _)) _).new _) (by simp (disch := first | omega | (simp only [next_new, next_upd] <;> omega) | fail) only [vaim]; rfl) (by simp only [next_new, next_upd]; omega) rfl (by rw [hf] at hfl; simp only [edgeB, List.length_append, foursOf_length, List.length_cons, List.length_nil] at hfl ⊢; omega) ?_
      intro b3 H3 e3 _
      simp (disch := first | omega | (simp only [next_new, next_upd] <;> omega) | fail) only [vai, vaim, vaic, bots, Bool.not_true, Bool.not_false, decide_true, decide_false, wrap64, Nat.reduceAdd, Nat.reduceMul, Nat.reduceLeDiff, Nat.reduceEqDiff, ↓reduceIte]
      refine ⟨x.es.length - (i + 1), by omega, i + 1, b3, rfl, by omega, rfl, ?_⟩
      rw [hf, ← List.append_assoc]
      exact e3
    · have hi : i = x.es.length := by omega
      rw [hi, List.take_length] at e2
      clear hi
      simp (disch := first | omega | (simp only [next_new, next_upd] <;> omega) | fail) only [vai, vaim, vaic, bots, Bool.not_true, Bool.not_false, decide_true, decide_false, wrap64, hbox, hle, hc, Nat.reduceAdd, Nat.reduceMul, Nat.reduceLeDiff, Nat.reduceEqDiff, ↓reduceIte]
      generalize hE2 : [77, 73, 88, 49] ++ foursOf [x.n, (x.es.length : Int)] ++ x.es.flatMap edgeB = E2 at *
      have hE2l : E2.length = 12 + (x.es.flatMap edgeB).length := by rw [← hE2]; simp [foursOf_length]; omega
      refine wpx_loop (fun m t H' => ∃ (i : Nat) (bv : AVal), m = x.rank.length - i ∧ i ≤ x.rank.length ∧ t = (bots 1 (.ptr H.next 0 :: bots 1 (bv :: bots 2 (.int .i64 i :: bots 143 ([])))) : Tmps) ∧
        EncR H H' [.int .i64 x.n, ew, rv, av, uv, dv] bv (E2 ++ (x.rank.take i).flatMap rankB)) x.rank.length ?_ ?_
      · exact ⟨0, b2, rfl, by omega, rfl, by simpa using e2⟩
      · clear e2 hx2 hbox hc
        rintro m t H2 ⟨i, b2, rfl, hi, rfl, e2⟩
        have hx2 := hx.kept e2.keep
        have hbox := e2.box
        by_cases hc : (i : Int) < x.rank.length
        · have hil : i < x.rank.length := by omega
          have he : x.rank[i]? = some x.rank[i] := by simp [hil]
          have hb := hrank _ (List.getElem_mem hil)
          obtain ⟨id, off, c1, c2, c3⟩ := hx2.rank.int_at (k := .i64) he
          have hf := flat_succ (f := rankB) he
          have hfl := flat_le (f := rankB) (l := x.rank) (i := i + 1)
          generalize x.rank[i] = r at *
          simp (disch := first | omega | (simp only [next_new, next_upd] <;> omega) | fail) only [vai, vaim, vaic, bots, Bool.not_true, Bool.not_false, decide_true, decide_false, wrap64, hbox, hlr, hc, c1, c3, Nat.reduceAdd, Nat.reduceMul, Nat.reduceLeDiff, Nat.reduceEqDiff, ↓reduceIte]
          refine putNew_ret (xs := [r + 1]) e2 ((Keep.refl _ _).new _) (by simp (disch := first | omega | (simp only [next_new, next_upd] <;> omega) | fail) only [vaim]; rfl) (by simp only [next_new, next_upd]; omega) rfl (by rw [hf] at hfl; simp only [rankB, List.length_append, foursOf_length, List.length_cons, List.length_nil] at hfl ⊢; omega) ?_
          intro b3 H3 e3 _
          simp (disch := first | omega | (simp only [next_new, next_upd] <;> omega) | fail) only [vai, vaim, vaic, bots, Bool.not_true, Bool.not_false, decide_true, decide_false, wrap64, Nat.reduceAdd, Nat.reduceMul, Nat.reduceLeDiff, Nat.reduceEqDiff, ↓reduceIte]
          refine ⟨x.rank.length - (i + 1), by omega, i + 1, b3, rfl, by omega, rfl, ?_⟩
          rw [hf, ← List.append_assoc]
          exact e3
        · have hi : i = x.rank.length := by omega
          rw [hi, List.take_length] at e2
          clear hi
          simp (disch := first | omega | (simp only [next_new, next_upd] <;> omega) | fail) only [vai, vaim, vaic, bots, Bool.not_true, Bool.not_false, decide_true, decide_false, wrap64, hbox, hlr, hc, hla, Nat.reduceAdd, Nat.reduceMul, Nat.reduceLeDiff, Nat.reduceEqDiff, ↓reduceIte]
          generalize hE3 : E2 ++ x.rank.flatMap rankB = E3 at *
          have hE3l : E3.length = E2.length + (x.rank.flatMap rankB).length := by rw [← hE3]; simp
          refine putNew_ret (xs := [(x.arcs.length : Int)]) e2 ((Keep.refl _ _).new _) (by simp (disch := first | omega | (simp only [next_new, next_upd] <;> omega) | fail) only [vaim]; rfl) (by simp only [next_new, next_upd]; omega) rfl (by simp; omega) ?_
          clear e2 hx2 hbox hc
          intro b2 H2 e2 _
          simp (disch := first | omega | (simp only [next_new, next_upd] <;> omega) | fail) only [vai, vaim, vaic, bots, Bool.not_true, Bool.not_false, decide_true, decide_false, wrap64, Nat.reduceAdd, Nat.reduceMul, Nat.reduceLeDiff, Nat.reduceEqDiff, ↓reduceIte]
          generalize hE4 : E3 ++ foursOf [(x.arcs.length : Int)] = E4 at *
          have hE4l : E4.length = E3.length + 4 := by rw [← hE4]; simp [foursOf_length]
          refine wpx_loop (fun m t H' => ∃ (i : Nat) (bv : AVal), m = x.arcs.length - i ∧ i ≤ x.arcs.length ∧ t = (bots 1 (.ptr H.next 0 :: bots 1 (bv :: bots 3 (.int .i64 i :: bots 142 ([])))) : Tmps) ∧
            EncR H H' [.int .i64 x.n, ew, rv, av, uv, dv] bv (E4 ++ (x.arcs.take i).flatMap arcB)) x.arcs.length ?_ ?_
          · exact ⟨0, b2, rfl, by omega, rfl, by simpa using e2⟩
          · clear e2
            rintro m t H2 ⟨i, b2, rfl, hi, rfl, e2⟩
            have hx2 := hx.kept e2.keep
            have hbox := e2.box
            by_cases hc : (i : Int) < x.arcs.length
            · have hil : i < x.arcs.length := by omega
              have he : x.arcs[i]? = some x.arcs[i] := by simp [hil]
              have hb := hedge _ (List.getElem_mem hil)
              obtain ⟨id, off, c1, c2, c3, c4⟩ := arc_at hx2.arcs he
              have hf := flat_succ (f := arcB) he
              have hfl := flat_le (f := arcB) (l := x.arcs) (i := i + 1)
              generalize x.arcs[i] = a at *
              simp only [Arc.cells] at c4
              rw [hf] at hfl
              simp only [arcB, List.length_append, foursOf_length, List.length_cons, List.length_nil] at hfl
              simp (disch := first | omega | (simp only [next_new, next_upd] <;> omega) | fail) only [vai, vaim, vaic, bots, Bool.not_true, Bool.not_false, decide_true, decide_false, wrap64, hbox, hla, hc, c1, c4, Nat.reduceAdd, Nat.reduceMul, Nat.reduceLeDiff, Nat.reduceEqDiff, ↓reduceIte]
              have kk : Keep Nothing H2 (((H2.new (.cells [.int .i64 0, .int .i64 0, .int .i64 0, .int .i64 0, .int .i64 0, .int .i64 0, .int .i64 0] true)).upd H2.next (some (.cells [.int .i64 a.src, .int .i64 a.dst, .int .i64 a.mode, .int .i64 a.cost, .int .i64 a.edge, .int .i64 a.a, .int .i64 a.b] true))).new (.cells [.int .i64 a.src, .int .i64 a.dst, .int .i64 a.mode] true)) := (((Keep.refl _ _).new _).upd (.inl (Nat.le_refl _)) _).new _
              have bl : ∀ j, sid b2 = some j → j < H2.next := fun j hj => (e2.own.sid_ge hj).2
              have elt := e2.lt
              refine putNew_ret (xs := [a.src, a.dst, a.mode]) e2 kk (by simp (disch := first | omega | (simp only [next_new, next_upd] <;> omega) | fail) only [vaim]; rfl) (by simp only [next_new, next_upd]; omega) rfl (by simp only [List.length_append, List.length_cons, List.length_nil]; omega) ?_
              intro b3 H3 e3 k3
              have n3 := k3.next
              simp only [next_new, next_upd] at n3
              have q3 : H3.obj H2.next = some (.cells [.int .i64 a.src, .int .i64 a.dst, .int .i64 a.mode, .int .i64 a.cost, .int .i64 a.edge, .int .i64 a.a, .int .i64 a.b] true) := by
                rw [k3.obj _ (by simp only [next_new, next_upd]; omega) (fun e => by have := bl _ e; omega)]
                simp (disch := first | omega | (simp only [next_new, next_upd] <;> omega) | fail) only [vaim]
              have bl3 : ∀ j, sid b3 = some j → j ≠ H2.next := fun j hj e => by
                subst e
                have ho := e3.own.obj hj
                rw [q3] at ho; injection ho with ho; injection ho with ho
                exact u8s_ne ho.symm
              simp (disch := first | omega | (simp only [next_new, next_upd] <;> omega) | fail) only [vai, vaim, vaic, bots, Bool.not_true, Bool.not_false, decide_true, decide_false, wrap64, q3, Nat.reduceAdd, Nat.reduceMul, Nat.reduceLeDiff, Nat.reduceEqDiff, ↓reduceIte]
              refine eight74_ret fun v4 H4 k4 g4 => ?_
              have n4 := k4.next
              have e4 := e3.kept k4
              have q4 : H4.obj H2.next = some (.cells [.int .i64 a.src, .int .i64 a.dst, .int .i64 a.mode, .int .i64 a.cost, .int .i64 a.edge, .int .i64 a.a, .int .i64 a.b] true) := by
                rw [k4.old (by omega)]
                exact q3
              have hl8 : (u8s (foursOf [shrI .i64 a.cost 32, a.cost])).length = 8 * 1 := by rw [u8s_length, foursOf_length]; rfl
              simp (disch := first | omega | (simp only [next_new, next_upd] <;> omega) | fail) only [vai, vaim, vaic, bots, Bool.not_true, Bool.not_false, decide_true, decide_false, wrap64, Nat.reduceAdd, Nat.reduceMul, Nat.reduceLeDiff, Nat.reduceEqDiff, ↓reduceIte]
              refine appRow_ret (n := (E4 ++ (x.arcs.take i).flatMap arcB ++ foursOf [a.src, a.dst, a.mode]).length) (k := 8) e4.own g4.row hl8 (by omega) (by rw [u8s_length]; omega) (by simp only [List.length_append, foursOf_length, List.length_cons, List.length_nil]; omega) (by omega) ?_ (by omega) (Nat.le_refl _) (fun _ _ _ => rfl)
              intro b5 H5 n5 k5 g5 s5
              rw [← u8s_append] at g5
              have e5 := e4.step (app_keep n5 k5) g5
              have q5 : H5.obj H2.next = some (.cells [.int .i64 a.src, .int .i64 a.dst, .int .i64 a.mode, .int .i64 a.cost, .int .i64 a.edge, .int .i64 a.a, .int .i64 a.b] true) := by
                rw [k5 _ (by omega) (fun e => bl3 _ e rfl)]
                exact q4
              simp (disch := first | omega | (simp only [next_new, next_upd] <;> omega) | fail) only [vai, vaim, vaic, bots, Bool.not_true, Bool.not_false, decide_true, decide_false, wrap64, q5, Nat.reduceAdd, Nat.reduceMul, Nat.reduceLeDiff, Nat.reduceEqDiff, ↓reduceIte]
              refine putNew_ret (xs := [a.edge + 1, a.a, a.b]) e5 ((Keep.refl _ _).new _) (by simp (disch := first | omega | (simp only [next_new, next_upd] <;> omega) | fail) only [vaim]; rfl) (by simp only [next_new, next_upd]; omega) rfl (by simp only [List.length_append, foursOf_length, List.length_cons, List.length_nil]; omega) ?_
              intro b6 H6 e6 _
              simp (disch := first | omega | (simp only [next_new, next_upd] <;> omega) | fail) only [vai, vaim, vaic, bots, Bool.not_true, Bool.not_false, decide_true, decide_false, wrap64, Nat.reduceAdd, Nat.reduceMul, Nat.reduceLeDiff, Nat.reduceEqDiff, ↓reduceIte]
              refine ⟨x.arcs.length - (i + 1), by omega, i + 1, b6, rfl, by omega, rfl, ?_⟩
              rw [hf]
              simpa [arcB, List.append_assoc] using e6
            · have hi : i = x.arcs.length := by omega
              rw [hi, List.take_length] at e2
              clear hi
              simp (disch := first | omega | (simp only [next_new, next_upd] <;> omega) | fail) only [vai, vaim, vaic, bots, Bool.not_true, Bool.not_false, decide_true, decide_false, wrap64, hbox, hla, hc, Nat.reduceAdd, Nat.reduceMul, Nat.reduceLeDiff, Nat.reduceEqDiff, ↓reduceIte]
              generalize hE5 : E4 ++ x.arcs.flatMap arcB = E5 at *
              have hE5l : E5.length = E4.length + (x.arcs.flatMap arcB).length := by rw [← hE5]; simp
              refine wpx_loop (fun m t H' => ∃ (j : Nat) (bv : AVal), m = x.up.length - j ∧ j ≤ x.up.length ∧ t = (bots 1 (.ptr H.next 0 :: bots 1 (bv :: bots 5 (.int .i64 j :: bots 140 ([])))) : Tmps) ∧
                EncR H H' [.int .i64 x.n, ew, rv, av, uv, dv] bv (E5 ++ (x.up.take j).flatMap rowB)) x.up.length ?_ ?_
              · exact ⟨0, b2, rfl, by omega, rfl, by simpa using e2⟩
              · clear e2 hx2 hbox hc
                rintro m t H3 ⟨j, b3, rfl, hj, rfl, e3⟩
                have hbox := e3.box
                by_cases hc : (j : Int) < x.up.length
                · have hjl : j < x.up.length := by omega
                  have he : x.up[j]? = some x.up[j] := by simp [hjl]
                  obtain ⟨id, off, r, c1, c2, c3, c4⟩ := hx.up.at (k := .i64) he
                  have c3' : ∀ {H' : AHeap}, Keep Nothing H H' → (bnd (cellsOf (H'.obj id)) fun c => c[off]?) = some r := fun k => by rw [k.old c2]; exact c3
                  have hf := flat_succ (f := rowB) he
                  have hfl := flat_le (f := rowB) (l := x.up) (i := j + 1)
                  generalize x.up[j] = rl at *
                  rw [hf] at hfl
                  simp only [rowB, List.length_append, foursOf_length, List.length_cons, List.length_nil] at hfl
                  have hrl := (c4.kept e3.keep).len1
                  rw [ints_length] at hrl
                  have bu := hx.up.beq
                  have hlt3 := e3.lt
                  have br := c4.beq
                  simp (disch := first | omega | (simp only [next_new, next_upd] <;> omega) | fail) only [vai, vaim, vaic, bots, Bool.not_true, Bool.not_false, decide_true, decide_false, wrap64, hbox, hlu, hc, c1, c3' e3.keep, hrl, Nat.reduceAdd, Nat.reduceMul, Nat.reduceLeDiff, Nat.reduceEqDiff, ↓reduceIte]
                  refine putNew_ret (xs := [(rl.length : Int)]) e3 ((Keep.refl _ _).new _) (by simp (disch := first | omega | (simp only [next_new, next_upd] <;> omega) | fail) only [vaim]; rfl) (by simp only [next_new, next_upd]; omega) rfl (by simp only [List.length_append, List.length_cons, List.length_nil]; omega) ?_
                  intro b4 H4 e4 _
                  have hbox4 := e4.box
                  simp (disch := first | omega | (simp only [next_new, next_upd] <;> omega) | fail) only [vai, vaim, vaic, bots, Bool.not_true, Bool.not_false, decide_true, decide_false, wrap64, hbox4, reK_same bu, reK_same br, c3' e4.keep, Nat.reduceAdd, Nat.reduceMul, Nat.reduceLeDiff, Nat.reduceEqDiff, ↓reduceIte]
                  refine putRow_ret e4 (c4.kept e4.keep) (fun j hj => fun e => by have := c4.sid_lt hj; have := (e4.own.sid_ge e).1; omega) (by simp only [List.length_append, foursOf_length, List.length_cons, List.length_nil]; omega) ?_
                  intro b5 H5 e5 _
                  simp (disch := first | omega | (simp only [next_new, next_upd] <;> omega) | fail) only [vai, vaim, vaic, bots, Bool.not_true, Bool.not_false, decide_true, decide_false, wrap64, Nat.reduceAdd, Nat.reduceMul, Nat.reduceLeDiff, Nat.reduceEqDiff, ↓reduceIte]
                  refine ⟨x.up.length - (j + 1), by omega, j + 1, b5, rfl, by omega, rfl, ?_⟩
                  rw [hf]
                  simpa [rowB, List.append_assoc] using e5
                · have hj : j = x.up.length := by omega
                  rw [hj, List.take_length] at e3
                  clear hj
                  simp (disch := first | omega | (simp only [next_new, next_upd] <;> omega) | fail) only [vai, vaim, vaic, bots, Bool.not_true, Bool.not_false, decide_true, decide_false, wrap64, hbox, hlu, hc, Nat.reduceAdd, Nat.reduceMul, Nat.reduceLeDiff, Nat.reduceEqDiff, ↓reduceIte]
                  generalize hE6 : E5 ++ x.up.flatMap rowB = E6 at *
                  have hE6l : E6.length = E5.length + (x.up.flatMap rowB).length := by rw [← hE6]; simp
                  refine wpx_loop (fun m t H' => ∃ (j : Nat) (bv : AVal), m = x.down.length - j ∧ j ≤ x.down.length ∧ t = (bots 1 (.ptr H.next 0 :: bots 1 (bv :: bots 6 (.int .i64 j :: bots 139 ([])))) : Tmps) ∧
                    EncR H H' [.int .i64 x.n, ew, rv, av, uv, dv] bv (E6 ++ (x.down.take j).flatMap rowB)) x.down.length ?_ ?_
                  · exact ⟨0, b3, rfl, by omega, rfl, by simpa using e3⟩
                  · clear e3 hbox hc
                    rintro m t H3 ⟨j, b3, rfl, hj, rfl, e3⟩
                    have hbox := e3.box
                    by_cases hc : (j : Int) < x.down.length
                    · have hjl : j < x.down.length := by omega
                      have he : x.down[j]? = some x.down[j] := by simp [hjl]
                      obtain ⟨id, off, r, c1, c2, c3, c4⟩ := hx.down.at (k := .i64) he
                      have c3' : ∀ {H' : AHeap}, Keep Nothing H H' → (bnd (cellsOf (H'.obj id)) fun c => c[off]?) = some r := fun k => by rw [k.old c2]; exact c3
                      have hf := flat_succ (f := rowB) he
                      have hfl := flat_le (f := rowB) (l := x.down) (i := j + 1)
                      generalize x.down[j] = rl at *
                      rw [hf] at hfl
                      simp only [rowB, List.length_append, foursOf_length, List.length_cons, List.length_nil] at hfl
                      have hrl := (c4.kept e3.keep).len1
                      rw [ints_length] at hrl
                      have bu := hx.down.beq
                      have hlt3 := e3.lt
                      have br := c4.beq
                      simp (disch := first | omega | (simp only [next_new, next_upd] <;> omega) | fail) only [vai, vaim, vaic, bots, Bool.not_true, Bool.not_false, decide_true, decide_false, wrap64, hbox, hld, hc, c1, c3' e3.keep, hrl, Nat.reduceAdd, Nat.reduceMul, Nat.reduceLeDiff, Nat.reduceEqDiff, ↓reduceIte]
                      refine putNew_ret (xs := [(rl.length : Int)]) e3 ((Keep.refl _ _).new _) (by simp (disch := first | omega | (simp only [next_new, next_upd] <;> omega) | fail) only [vaim]; rfl) (by simp only [next_new, next_upd]; omega) rfl (by simp only [List.length_append, List.length_cons, List.length_nil]; omega) ?_
                      intro b4 H4 e4 _
                      have hbox4 := e4.box
                      simp (disch := first | omega | (simp only [next_new, next_upd] <;> omega) | fail) only [vai, vaim, vaic, bots, Bool.not_true, Bool.not_false, decide_true, decide_false, wrap64, hbox4, reK_same bu, reK_same br, c3' e4.keep, Nat.reduceAdd, Nat.reduceMul, Nat.reduceLeDiff, Nat.reduceEqDiff, ↓reduceIte]
                      refine putRow_ret e4 (c4.kept e4.keep) (fun j hj => fun e => by have := c4.sid_lt hj; have := (e4.own.sid_ge e).1; omega) (by simp only [List.length_append, foursOf_length, List.length_cons, List.length_nil]; omega) ?_
                      intro b5 H5 e5 _
                      simp (disch := first | omega | (simp only [next_new, next_upd] <;> omega) | fail) only [vai, vaim, vaic, bots, Bool.not_true, Bool.not_false, decide_true, decide_false, wrap64, Nat.reduceAdd, Nat.reduceMul, Nat.reduceLeDiff, Nat.reduceEqDiff, ↓reduceIte]
                      refine ⟨x.down.length - (j + 1), by omega, j + 1, b5, rfl, by omega, rfl, ?_⟩
                      rw [hf]
                      simpa [rowB, List.append_assoc] using e5
                    · have hj : j = x.down.length := by omega
                      rw [hj, List.take_length] at e3
                      have hfin : E6 ++ x.down.flatMap rowB = encodeOf x := by
                        rw [← hE6, ← hE5, ← hE4, ← hE3, ← hE2]
                        simp [encodeOf, List.append_assoc]
                      rw [hfin] at e3
                      have nb := e3.own.notBot
                      simp (disch := first | omega | (simp only [next_new, next_upd] <;> omega) | fail) only [vai, vaim, vaic, bots, Bool.not_true, Bool.not_false, decide_true, decide_false, wrap64, hbox, hld, hc, nb, Nat.reduceAdd, Nat.reduceMul, Nat.reduceLeDiff, Nat.reduceEqDiff, ↓reduceIte]
                      exact hq b3 H3 e3.keep (e3.own.lower (by omega))
end Go.Proofs.Ytknhlpmmalcchaa

namespace Go.Proofs.Ytknhlpmmalcchaa
open Go Go.VAI
set_option linter.unusedSimpArgs false

end Go.Proofs.Ytknhlpmmalcchaa

namespace Go.Proofs.Ytknhlpmmalcchaa
open Go Go.VAI
set_option linter.unusedSimpArgs false

/-- Reading under way. -/
structure RdgAt (H0 : AHeap) (q w : Nat) (src : Option Nat) (H : AHeap) (cs : List AVal) (s : RS) : Prop where
  keep : Keep (fun j => j = w) H0 H
  op : H.obj H0.next = some (.cells [.int .i64 0, .nilSlice, .nilSlice, .nilSlice, .nilSlice, .nilSlice] true)
  ob : H.obj q = some (.cells cs true)
  rd : RdAt H w src s
  len : s.left.length ≤ 1000000000
  lq : H0.next < q
  lh : q < H.next
  lw : w < H0.next
  ls : ∀ j, src = some j → j < H0.next
theorem RdgAt.grow {H0 : AHeap} {q w : Nat} {src : Option Nat} {H H' : AHeap} {cs : List AVal} {s : RS} {M : Nat → Prop} (h : RdgAt H0 q w src H cs s) (hk : Keep M H H') (hM : ∀ j, M j → q < j) : RdgAt H0 q w src H' cs s := by
  have h2 := h.lq
  have h3 := h.lw
  have h4 := h.lh
  have h5 := h.keep.next
  have hm : ∀ j, j ≤ q → ¬ M j := fun j hj hm => by have := hM j hm; omega
  exact ⟨⟨by have := hk.next; omega, fun j hj hw => by rw [hk.obj j (by omega) (hm j (by omega)), h.keep.obj j hj hw]⟩, by rw [hk.obj _ (by omega) (hm _ (by omega))]; exact h.op, by rw [hk.obj _ (by omega) (hm _ (by omega))]; exact h.ob, h.rd.M hk (hm w (by omega)) (fun j hj => hm j (by have := h.ls j hj; omega)), h.len, h2, by have := hk.next; omega, h3, h.ls⟩
theorem RdgAt.kept {H0 : AHeap} {q w : Nat} {src : Option Nat} {H H' : AHeap} {cs : List AVal} {s : RS} (h : RdgAt H0 q w src H cs s) (hk : Keep Nothing H H') : RdgAt H0 q w src H' cs s := h.grow hk (fun _ h => h.elim)
theorem RdgAt.upd {H0 : AHeap} {q w y : Nat} {src : Option Nat} {H : AHeap} {cs : List AVal} {s : RS} (h : RdgAt H0 q w src H cs s) (hy : q < y) (o : Option AObj) : RdgAt H0 q w src (H.upd y o) cs s :=
  h.grow (M := fun j => j = y) ((Keep.refl (fun j => j = y) _).upd (.inr rfl) _) (fun j e => by omega)
theorem RdgAt.read {H0 : AHeap} {q w : Nat} {src : Option Nat} {H H' : AHeap} {cs : List AVal} {s s' : RS} (h : RdgAt H0 q w src H cs s) (hk : Keep (fun j => j = w) H H') (hr : RdAt H' w src s') (hl : s'.left.length ≤ s.left.length) : RdgAt H0 q w src H' cs s' := by
  have h2 := h.lq
  have h3 := h.lw
  have h4 := h.lh
  have h5 := h.keep.next
  have h6 := h.len
  exact ⟨⟨by have := hk.next; omega, fun j hj hw => by rw [hk.obj j (by omega) hw, h.keep.obj j hj hw]⟩, by rw [hk.obj _ (by omega) (by omega)]; exact h.op, by rw [hk.obj _ (by omega) (by omega)]; exact h.ob, hr, by omega, h2, by have := hk.next; omega, h3, h.ls⟩
theorem RdgAt.put {H0 : AHeap} {q w : Nat} {src : Option Nat} {H : AHeap} {cs : List AVal} {s : RS} (h : RdgAt H0 q w src H cs s) (cs' : List AVal) : RdgAt H0 q w src (H.upd q (some (.cells cs' true))) cs' s := by
  have h2 := h.lq
  have h3 := h.lw
  have h4 := h.lh
  have h5 := h.keep.next
  have kk : Keep (fun j => j = q) H (H.upd q (some (.cells cs' true))) := (Keep.refl (fun j => j = q) _).upd (.inr rfl) _
  exact ⟨h.keep.upd (.inl (by omega)) _, by rw [obj_upd_ne (by omega)]; exact h.op, obj_upd_eq rfl, h.rd.M kk (by omega) (fun j hj => by have := h.ls j hj; omega), h.len, h2, h4, h3, h.ls⟩
theorem RdgAt.set {H0 : AHeap} {q w y : Nat} {src : Option Nat} {Ha H : AHeap} {cs zs : List AVal} {s : RS} (h : RdgAt H0 q w src H cs s) (hk : Keep (fun j => j = w) Ha H) (hy : Ha.next ≤ y ∧ y < H.next) (hqa : q < Ha.next) :
    RdgAt H0 q w src (H.upd y (some (.cells zs true))) cs s ∧ Keep (fun j => j = w) Ha (H.upd y (some (.cells zs true))) ∧ (H.upd y (some (.cells zs true))).obj y = some (.cells zs true) ∧ (H.upd y (some (.cells zs true))).next = H.next :=
  ⟨h.upd (by omega) _, hk.upd (.inl (by omega)) _, obj_upd_eq rfl, by simp only [next_upd]⟩
end Go.Proofs.Ytknhlpmmalcchaa

namespace Go.Proofs.Ytknhlpmmalcchaa
open Go Go.VAI
set_option linter.unusedSimpArgs false

end Go.Proofs.Ytknhlpmmalcchaa

namespace Go.Proofs.Ytknhlpmmalcchaa
open Go Go.VAI
set_option linter.unusedSimpArgs false

end Go.Proofs.Ytknhlpmmalcchaa

namespace Go.Proofs.Ytknhlpmmalcchaa
open Go Go.VAI
set_option linter.unusedSimpArgs false

/-! ### the other reader reads the same -/
end Go.Proofs.Ytknhlpmmalcchaa

namespace Go.Proofs.Ytknhlpmmalcchaa
open Go Go.VAI
set_option linter.unusedSimpArgs false

theorem mk_ret {size modes : Int} {ns : AVal} {xs : List Int} {H : AHeap} {Q : AVal → AHeap → Prop} (hr : Row H ns 1 (ints xs)) (hx : ∀ x ∈ xs, I64 x) (hx2 : xs.length ≤ 9223372036854775807)
    (hq : ∀ ev H', Keep Nothing H H' → Grown H.next H' ev 4 (edgeCells (mkEs size modes xs)) → Q (.agg [.int .i64 (mkN size), ev]) H') : Ret A 28 [.int .i64 size, ns, .int .i64 modes] H Q := by
  refine make_ret hr hx hx2 fun ev H' k g => ?_
  have h := hq ev H' k g
  rw [mkN_eq] at h
  exact h
theorem IdxAt.beq {H : AHeap} {ew rv av uv dv : AVal} {x : Idx} (h : IdxAt H ew rv av uv dv x) {n : Int} : AVal.beq (.agg [.int .i64 n, ew, rv, av, uv, dv]) (.agg [.int .i64 n, ew, rv, av, uv, dv]) = true := by
  simp [AVal.beq, AVal.beqs, h.es.beq, h.rank.beq, h.arcs.beq, h.up.beq, h.down.beq]
end Go.Proofs.Ytknhlpmmalcchaa

namespace Go.Proofs.Ytknhlpmmalcchaa
open Go Go.VAI
set_option linter.unusedSimpArgs false

theorem set_byte {l : List Int} (h : Bytes l) {j : Nat} {b : Int} (hb : 0 ≤ b ∧ b < 256) : Bytes (l.set j b) := fun x hx => by
  rcases List.mem_or_eq_of_mem_set hx with h1 | h1
  · exact h x h1
  · subst h1; exact hb
set_option maxRecDepth 20000 in
set_option maxHeartbeats 4000000 in
theorem indexOnly_ret {size : Int} {ns : AVal} {xs : List Int} {at_ by_ : Int} {f : Nat → Option AObj} (_ : I64 size) (hr : Row ⟨f, 1⟩ ns 1 (ints xs)) (hx : ∀ x ∈ xs, I64 x) (hx2 : xs.length ≤ 9223372036854775807) (_ : I64 at_) (hby : 0 ≤ by_ ∧ by_ < 256) :
    Ret A 6 [.int .i64 size, ns, .int .i64 at_, .int .u8 by_] ⟨f, 1⟩ (fun v _ => v = .bool true) := by
  refine Ret.of (fn := F6) rfl ?_
  simp (disch := first | omega | (simp only [next_new, next_upd] <;> omega) | fail) only [vai, vaim, vaic, bots, Bool.not_true, Bool.not_false, decide_true, decide_false, wrap64, F6, Nat.reduceAdd, Nat.reduceMul, Nat.reduceLeDiff, Nat.reduceEqDiff, ↓reduceIte]
  refine known26_ret fun H1 k1 => ?_
  simp (disch := first | omega | (simp only [next_new, next_upd] <;> omega) | fail) only [vai, vaim, vaic, bots, Bool.not_true, Bool.not_false, decide_true, decide_false, wrap64, Bool.not_true, Nat.reduceAdd, Nat.reduceMul, Nat.reduceLeDiff, Nat.reduceEqDiff, ↓reduceIte]
  refine mk_ret (hr.kept k1) hx hx2 fun ev H2 k2 g2 => ?_
  have hnet := mk_net size 1 xs
  have hsm := mk_small size
  generalize mkEs size 1 xs = es at *
  generalize mkN size = N at *
  simp (disch := first | omega | (simp only [next_new, next_upd] <;> omega) | fail) only [vai, vaim, vaic, bots, Bool.not_true, Bool.not_false, decide_true, decide_false, wrap64, Nat.reduceAdd, Nat.reduceMul, Nat.reduceLeDiff, Nat.reduceEqDiff, ↓reduceIte]
  refine build_ret g2.row hnet hsm fun ew rv av uv dv H3 k3 h3 => ?_
  have hal := idx_allowed hnet hsm
  obtain ⟨p1, p2, p3⟩ := allowed_enc hal
  have hn : (idxOf N es).n = N := rfl
  have hbytes := encode_bytes (idxOf N es)
  have hlpos : 28 ≤ (encodeOf (idxOf N es)).length := by
    have h1 := encodeOf_len (idxOf N es)
    have := hal.net.1
    have h2 := hal.rankLen
    have h3 := hal.upLen
    have h4 := hal.downLen
    have h5 := flat_ge (f := rowB) (n := 4) (l := (idxOf N es).up) (fun a => by rw [rowB_len]; omega)
    have h6 := flat_ge (f := rowB) (n := 4) (l := (idxOf N es).down) (fun a => by rw [rowB_len]; omega)
    omega
  generalize hid : idxOf N es = x at *
  rw [← hn]
  simp (disch := first | omega | (simp only [next_new, next_upd] <;> omega) | fail) only [vai, vaim, vaic, bots, Bool.not_true, Bool.not_false, decide_true, decide_false, wrap64, Nat.reduceAdd, Nat.reduceMul, Nat.reduceLeDiff, Nat.reduceEqDiff, ↓reduceIte]
  refine refEncode_ret h3 p1 p2 (by omega) fun bv H4 k4 g4 => ?_
  have hlen : (u8s (encodeOf x)).length = (encodeOf x).length := u8s_length _
  have hll := g4.row.len1
  rw [hlen] at hll
  simp (disch := first | omega | (simp only [next_new, next_upd] <;> omega) | fail) only [vai, vaim, vaic, bots, Bool.not_true, Bool.not_false, decide_true, decide_false, wrap64, hll, Nat.reduceAdd, Nat.reduceMul, Nat.reduceLeDiff, Nat.reduceEqDiff, ↓reduceIte]
  refine within_ret (n := (encodeOf x).length) rfl (by omega) (by omega) ?_
  have e1 := Int.emod_nonneg at_ (show ((encodeOf x).length : Int) ≠ 0 by omega)
  have e2 := Int.emod_lt_of_pos at_ (show 0 < ((encodeOf x).length : Int) by omega)
  obtain ⟨j, hj⟩ : ∃ j : Nat, at_ % ((encodeOf x).length : Int) = j := ⟨(at_ % ((encodeOf x).length : Int)).toNat, by omega⟩
  rw [hj] at e2 ⊢
  have hjl : j < (encodeOf x).length := by omega
  obtain ⟨id, q1, q2, q3, q4, q5, q6⟩ := g4.slot (j := j) (k := .i64) (by rw [hlen]; exact hjl)
  have hgj : (encodeOf x)[j]? = some (encodeOf x)[j] := by simp [hjl]
  have hgu : (u8s (encodeOf x))[j]? = some (.int .u8 (encodeOf x)[j]) := by simp [u8s, hgj]
  have hset : splice (u8s (encodeOf x)) j [.int .u8 (((encodeOf x)[j] + by_) % 256)] = u8s ((encodeOf x).set j (((encodeOf x)[j] + by_) % 256)) := by
    rw [splice_one (by rw [hlen]; exact hjl)]
    simp [u8s, List.map_set]
  have hby2 : Bytes ((encodeOf x).set j (((encodeOf x)[j] + by_) % 256)) := set_byte hbytes (by omega)
  have hlen2 : ((encodeOf x).set j (((encodeOf x)[j] + by_) % 256)).length ≤ 1000000000 := by rw [List.length_set]; exact p3
  generalize hb' : (encodeOf x).set j (((encodeOf x)[j] + by_) % 256) = b' at *
  have hb'l : (u8s b').length = (u8s (encodeOf x)).length := by rw [u8s_length, ← hb', List.length_set, u8s_length]
  generalize (encodeOf x)[j] = bj at *
  have hjl2 : j + 1 ≤ (encodeOf x).length := hjl
  simp (disch := first | omega | (simp only [next_new, next_upd] <;> omega) | fail) only [vai, vaim, vaic, bots, Bool.not_true, Bool.not_false, decide_true, decide_false, wrap64, q4, q5, hgu, hset, wrap8, hlen, hjl2, Nat.reduceAdd, Nat.reduceMul, Nat.reduceLeDiff, Nat.reduceEqDiff, ↓reduceIte]
  have g7 := q6 (H4.upd id (some (.cells (u8s b') true))) (u8s b') (by simp only [next_upd]; omega) (obj_upd_eq rfl) hb'l
  generalize H4.upd id (some (.cells (u8s b') true)) = H5 at *
  refine decode_ret g7.rowC hby2 hlen2 (fun hno H6 k6 => ?_) (fun x' hx' hal' e2 r2 a2 u2 d2 H6 k6 h6 => ?_)
  · have n90 : ¬ ((9 : Int) = 0) := by omega
    simp (disch := first | omega | (simp only [next_new, next_upd] <;> omega) | fail) only [vai, vaim, vaic, bots, Bool.not_true, Bool.not_false, decide_true, decide_false, wrap64, vaij, n90, ne_eq, not_false_eq_true, not_true_eq_false, Nat.reduceAdd, Nat.reduceMul, Nat.reduceLeDiff, Nat.reduceEqDiff, ↓reduceIte]
  · have c1 := h6.es.cells
    have c2 := h6.rank.cells
    have c3 := h6.arcs.cells
    have c4 := h6.up.cells
    have c5 := h6.down.cells
    have k8 : Keep Nothing H6 ((H6.new (.cells [.int .i64 0, .nilSlice, .nilSlice, .nilSlice, .nilSlice, .nilSlice] true)).upd H6.next (some (.cells [.int .i64 x'.n, e2, r2, a2, u2, d2] true))) := ((Keep.refl _ _).new _).upd (.inl (Nat.le_refl _)) _
    have st8 := row_str ((g7.kept k6).kept k8).row
    have hw := raw_only hby2 hx'
    obtain ⟨p1', p2', p3'⟩ := allowed_enc hal'
    simp (disch := first | omega | (simp only [next_new, next_upd] <;> omega) | fail) only [vai, vaim, vaic, bots, Bool.not_true, Bool.not_false, decide_true, decide_false, wrap64, vaij, st8, ne_eq, not_false_eq_true, not_true_eq_false, Nat.reduceAdd, Nat.reduceMul, Nat.reduceLeDiff, Nat.reduceEqDiff, ↓reduceIte]
    refine encode_ret (h6.kept k8) p1' p2' (by omega) fun cv H9 k9 g9 => ?_
    have st9 := row_str (((g7.kept k6).kept k8).kept k9).row
    have st10 := row_str g9.row
    rw [hw] at st10
    have heq := abin_eql_str hby2 hby2
    simp (disch := first | omega | (simp only [next_new, next_upd] <;> omega) | fail) only [vai, vaim, vaic, bots, Bool.not_true, Bool.not_false, decide_true, decide_false, wrap64, vaij, st9, st10, heq, Nat.reduceAdd, Nat.reduceMul, Nat.reduceLeDiff, Nat.reduceEqDiff, ↓reduceIte]
end Go.Proofs.Ytknhlpmmalcchaa

/- Closed facts of the program: what its head says, read as a list of signs (the kernel is slow at a long text's own signs). -/
namespace Go.Proofs.Ytknhlpmmalcchaa
open Go Go.ChangeShapes Go.WideShapes Go.ChangeAt Go.RowKit
set_option maxRecDepth 100000
def headSigns : List Char := List.map Char.ofNat [104, 97, 114, 110, 101, 115, 115, 32, 55, 99, 56, 99, 100, 51, 98, 49, 52, 101, 49, 49, 99, 55, 53, 54, 51, 54, 100, 97, 101, 56, 55, 98, 55, 54, 100, 50, 48, 98, 53, 57, 56, 97, 56, 56, 56, 55, 99, 98, 51, 49, 48, 98, 100, 53, 97, 55, 54, 53, 102, 100, 48, 102, 49, 102, 50, 57, 53, 50, 52, 102, 57, 50, 32, 99, 117, 116, 32, 97, 116, 32, 109, 105, 108, 101, 115, 116, 111, 110, 101, 47, 109, 105, 108, 101, 115, 116, 111, 110, 101, 108, 97, 119, 49, 50, 46, 73, 110, 100, 101, 120, 66, 97, 99, 107, 32, 109, 105, 108, 101, 115, 116, 111, 110, 101, 47, 109, 105, 108, 101, 115, 116, 111, 110, 101, 108, 97, 119, 49, 50, 46, 73, 110, 100, 101, 120, 82, 101, 97, 100, 115, 32, 109, 105, 108, 101, 115, 116, 111, 110, 101, 47, 109, 105, 108, 101, 115, 116, 111, 110, 101, 108, 97, 119, 49, 50, 46, 73, 110, 100, 101, 120, 83, 112, 111, 105, 108, 116, 32, 109, 105, 108, 101, 115, 116, 111, 110, 101, 47, 109, 105, 108, 101, 115, 116, 111, 110, 101, 108, 97, 119, 49, 50, 46, 73, 110, 100, 101, 120, 79, 110, 108, 121, 32, 109, 105, 108, 101, 115, 116, 111, 110, 101, 47, 109, 105, 108, 101, 115, 116, 111, 110, 101, 108, 97, 119, 49, 50, 46, 73, 110, 100, 101, 120, 83, 105, 122, 101, 32, 109, 105, 108, 101, 115, 116, 111, 110, 101, 47, 109, 105, 108, 101, 115, 116, 111, 110, 101, 108, 97, 119, 49, 50, 46, 73, 110, 100, 101, 120, 65, 112, 97, 114, 116, 32, 109, 105, 108, 101, 115, 116, 111, 110, 101, 47, 109, 105, 108, 101, 115, 116, 111, 110, 101, 108, 97, 119, 49, 50, 46, 73, 110, 100, 101, 120, 67, 117, 116, 32, 109, 105, 108, 101, 115, 116, 111, 110, 101, 47, 109, 105, 108, 101, 115, 116, 111, 110, 101, 108, 97, 119, 49, 50, 46, 73, 110, 100, 101, 120, 67, 111, 117, 110, 116, 115, 32, 109, 105, 108, 101, 115, 116, 111, 110, 101, 47, 109, 105, 108, 101, 115, 116, 111, 110, 101, 108, 97, 119, 49, 50, 46, 73, 110, 100, 101, 120, 72, 101, 97, 100, 32, 109, 105, 108, 101, 115, 116, 111, 110, 101, 47, 109, 105, 108, 101, 115, 116, 111, 110, 101, 108, 97, 119, 49, 48, 46, 79, 114, 100, 101, 114, 65, 108, 108, 32, 109, 105, 108, 101, 115, 116, 111, 110, 101, 47, 109, 105, 108, 101, 115, 116, 111, 110, 101, 108, 97, 119, 49, 48, 46, 79, 114, 100, 101, 114, 69, 97, 99, 104, 32, 109, 105, 108, 101, 115, 116, 111, 110, 101, 47, 109, 105, 108, 101, 115, 116, 111, 110, 101, 108, 97, 119, 49, 48, 46, 79, 114, 100, 101, 114, 67, 111, 115, 116, 115, 32, 109, 105, 108, 101, 115, 116, 111, 110, 101, 47, 109, 105, 108, 101, 115, 116, 111, 110, 101, 108, 97, 119, 49, 48, 46, 79, 114, 100, 101, 114, 75, 110, 111, 119, 110, 32, 109, 105, 108, 101, 115, 116, 111, 110, 101, 47, 109, 105, 108, 101, 115, 116, 111, 110, 101, 108, 97, 119, 49, 48, 46, 79, 114, 100, 101, 114, 77, 111, 100, 101, 32, 109, 105, 108, 101, 115, 116, 111, 110, 101, 47, 109, 105, 108, 101, 115, 116, 111, 110, 101, 108, 97, 119, 49, 49, 46, 72, 105, 101, 114, 66, 117, 105, 108, 100, 115, 32, 109, 105, 108, 101, 115, 116, 111, 110, 101, 47, 109, 105, 108, 101, 115, 116, 111, 110, 101, 108, 97, 119, 49, 49, 46, 72, 105, 101, 114, 82, 97, 110, 107, 115, 32, 109, 105, 108, 101, 115, 116, 111, 110, 101, 47, 109, 105, 108, 101, 115, 116, 111, 110, 101, 108, 97, 119, 49, 49, 46, 72, 105, 101, 114, 75, 101, 101, 112, 115, 32, 109, 105, 108, 101, 115, 116, 111, 110, 101, 47, 109, 105, 108, 101, 115, 116, 111, 110, 101, 108, 97, 119, 49, 49, 46, 72, 105, 101, 114, 67, 111, 114, 101, 32, 109, 105, 108, 101, 115, 116, 111, 110, 101, 47, 109, 105, 108, 101, 115, 116, 111, 110, 101, 108, 97, 119, 49, 49, 46, 72, 105, 101, 114, 67, 111, 115, 116, 115, 32, 109, 105, 108, 101, 115, 116, 111, 110, 101, 47, 109, 105, 108, 101, 115, 116, 111, 110, 101, 108, 97, 119, 49, 49, 46, 72, 105, 101, 114, 65, 114, 99, 115, 32, 109, 105, 108, 101, 115, 116, 111, 110, 101, 47, 109, 105, 108, 101, 115, 116, 111, 110, 101, 108, 97, 119, 49, 49, 46, 72, 105, 101, 114, 83, 104, 111, 114, 116, 32, 109, 105, 108, 101, 115, 116, 111, 110, 101, 47, 109, 105, 108, 101, 115, 116, 111, 110, 101, 108, 97, 119, 49, 49, 46, 72, 105, 101, 114, 79, 119, 110, 32, 109, 105, 108, 101, 115, 116, 111, 110, 101, 47, 109, 105, 108, 101, 115, 116, 111, 110, 101, 108, 97, 119, 49, 49, 46, 72, 105, 101, 114, 76, 111, 110, 103]
theorem head_eq : Try.prog.initOrder = String.ofList headSigns := by kernel_rfl
theorem head_list : Try.prog.initOrder.toList = headSigns := by rw [head_eq, String.toList_ofList]
theorem head_words : ∃ rest, behindMainWord (wordsSigns headSigns) = "cut".toList :: rest := ⟨(behindMainWord (wordsSigns headSigns)).tail, by kernel_rfl⟩
theorem strip_cut (rest : List (List Char)) : stripLifts liftWords ("cut".toList :: rest) = ([], "cut".toList :: rest) := by kernel_rfl
theorem ne1 : ("cut".toList == "gc".toList) = false := by kernel_rfl
theorem ne2 : ("cut".toList == "spec".toList) = false := by kernel_rfl
theorem ne3 : ("cut".toList == "carried".toList) = false := by kernel_rfl
theorem words_of : ∃ rest, behindMainWord (wordsSigns Try.prog.initOrder.toList) = "cut".toList :: rest := by
  obtain ⟨rest, h⟩ := head_words
  exact ⟨rest, (congrArg (fun l => behindMainWord (wordsSigns l)) head_list).trans h⟩
theorem make_of (P : Program) (rest : List (List Char)) (h : behindMainWord (wordsSigns P.initOrder.toList) = "cut".toList :: rest) : P.make = some .cut := by
  unfold Program.make
  rw [h]
  simp only [ne1, ne2, beq_self_eq_true, Bool.false_or, Bool.true_or, Bool.or_self, Bool.false_eq_true, if_true, if_false]
theorem lifts_of (P : Program) (rest : List (List Char)) (h : behindMainWord (wordsSigns P.initOrder.toList) = "cut".toList :: rest) : P.liftsFinal = false := by
  unfold Program.liftsFinal Program.headLifts
  rw [h]
  have e : ((some "cut".toList : Option (List Char)) == some "carried".toList) = false := by kernel_rfl
  simp only [strip_cut, List.head?_cons, beq_self_eq_true, if_true, e, Bool.false_and, Bool.false_or]
  rfl
theorem enter_of (P : Program) (rest : List (List Char)) (h : behindMainWord (wordsSigns P.initOrder.toList) = "cut".toList :: rest) (h1 : P.laysLater = false) (h2 : P.bearsReflect = false) (h3 : P.doorFits [] = true) : P.mayEnter = true := by
  unfold Program.mayEnter
  rw [h]
  simp only [strip_cut, ne1, ne2, ne3, h1, h2, h3, List.head?_cons, beq_self_eq_true, Bool.false_or, Bool.or_false, Bool.false_and, Bool.true_and, Bool.and_true, Bool.not_false, Bool.or_true, List.contains_nil]
theorem fact_make : Try.prog.make = some .cut := by
  obtain ⟨rest, h⟩ := words_of
  exact make_of _ _ h
theorem fact_lifts : Try.prog.liftsFinal = false := by
  obtain ⟨rest, h⟩ := words_of
  exact lifts_of _ _ h
theorem fact_later : Try.prog.laysLater = false := by kernel_rfl
theorem fact_reflect : Try.prog.bearsReflect = false := by kernel_rfl
theorem fact_door : Try.prog.doorFits [] = true := by kernel_rfl
theorem fact_enter : Try.prog.mayEnter = true := by
  obtain ⟨rest, h⟩ := words_of
  exact enter_of _ _ h fact_later fact_reflect fact_door
theorem fact_laid : laidOutB Try.prog = true := by kernel_rfl
theorem fact_maps : mapsRowed Try.prog = true := by kernel_rfl
theorem fact_heard : Try.prog.stopsHeard = true := by kernel_rfl
theorem own : ownKnob Try.prog.godebug = none := by kernel_rfl
theorem follows : Try.prog.follows .mixedOrders = true := by kernel_rfl
end Go.Proofs.Ytknhlpmmalcchaa
