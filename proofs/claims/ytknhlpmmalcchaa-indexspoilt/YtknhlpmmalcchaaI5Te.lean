/- Steps of the walk. -/
import Derived.Test.YtknhlpmmalcchaaI5Td
import Derived.Test.YtknhlpmmalcchaaI5Tb
import Derived.KernelRfl
import Derived.Test.YtknhlpmmalcchaaI5Vba
set_option linter.all false
set_option linter.unusedVariables false
set_option linter.unusedSimpArgs false
namespace Go.Proofs.Ytknhlpmmalcchaa
open Go Go.VAI
set_option linter.unusedSimpArgs false

theorem own_notNil {lo : Nat} {H : AHeap} {v : AVal} {cs : List AVal} (h : Own lo H v 1 cs) (hc : cs ≠ []) : abin .eql .nilS v .nilSlice = some (.bool false) := by
  cases h with
  | nil => exact absurd rfl hc
  | room => rfl
  | full => rfl
theorem take_snoc {l : List Int} {i : Nat} {x : Int} (h : l[i]? = some x) : l.take (i + 1) = l.take i ++ [x] := by
  obtain ⟨h1, h2⟩ := List.getElem?_eq_some_iff.1 h
  rw [List.take_succ_eq_append_getElem h1, h2]
structure LongAt (H0 H : AHeap) (n : Int) (ew rv av uv dv ov : AVal) (es : List Edge) (arcs : List Arc) (i : Nat) : Prop where
  keep : Keep Nothing H0 H
  lt : H0.next < H.next
  box : H.obj H0.next = some (.cells [.int .i64 n, ew, rv, av, uv, dv] true)
  own : Own (H0.next + 1) H ov 1 (ints ((sizesOf arcs).take i))
theorem LongAt.kept {H0 H H' : AHeap} {n : Int} {ew rv av uv dv ov : AVal} {es : List Edge} {arcs : List Arc} {i : Nat} (h : LongAt H0 H n ew rv av uv dv ov es arcs i) (hk : Keep Nothing H H') : LongAt H0 H' n ew rv av uv dv ov es arcs i :=
  ⟨h.keep.trans hk, by have := h.lt; have := hk.next; omega, by rw [hk.old h.lt]; exact h.box, h.own.kept hk⟩
set_option maxRecDepth 20000 in
set_option maxHeartbeats 8000000 in
theorem reflong_ret {n : Int} {ew rv av uv dv : AVal} {es : List Edge} {arcs : List Arc} {H : AHeap} {Q : AVal → AHeap → Prop} (hnet : NetOk n es) (he : Row H ew 4 (edgeCells es)) (hr : Row H av 7 (arcCells arcs)) (hlen : arcs.length ≤ 1000000)
    (hq0 : ¬ ArcsOk es arcs → ∀ H', Keep Nothing H H' → Q .nilSlice H') (hq1 : ArcsOk es arcs → ∀ v' H', Keep Nothing H H' → Own (H.next + 1) H' v' 1 (ints (sizesOf arcs)) → Q v' H') (hx : AVal.beq (.agg [.int .i64 n, ew, rv, av, uv, dv]) (.agg [.int .i64 n, ew, rv, av, uv, dv]) = true) : Ret A 78 [.agg [.int .i64 n, ew, rv, av, uv, dv]] H Q := by
  refine Ret.of (fn := F78) rfl ?_
  have hl := hr.len (by omega) (arcCells_length arcs)
  have hsl := sizesOf_length _ arcs rfl
  have bav : AVal.beq av av = true := hr.beq
  simp (disch := first | omega | (simp only [nx] <;> omega) | fail) only [vaw, F78, Nat.reduceAdd, Nat.reduceMul, Nat.reduceLeDiff, Nat.reduceEqDiff, ↓reduceIte]
  refine wpx_loop (fun m t H' => ∃ (i : Nat) (ov : AVal), m = arcs.length - i ∧ i ≤ arcs.length ∧ t = (bots 1 (.ptr H.next 0 :: bots 1 (ov :: .int .i64 i :: bots 160 ([]))) : Tmps) ∧ LongAt H H' n ew rv av uv dv ov es arcs i ∧ (∀ (j : Nat) a, j < i → arcs[j]? = some a → ArcOk es arcs j a) ∧ ∀ j : Nat, j < i → (sizesOf arcs).getD j 0 ≤ 1000) arcs.length ?_ ?_
  · exact ⟨0, .nilSlice, rfl, by omega, rfl, ⟨(Keep.refl _ _).new _, (by first | omega | (simp only [next_new, next_upd]; omega)), obj_new_eq rfl, by simpa [ints] using Own.nil⟩, fun j a hj => by omega, fun j hj => by omega⟩
  · rintro m t H1 ⟨i, ov, rfl, hi, rfl, L1, hok, hsz⟩
    by_cases hc : (i : Int) < arcs.length
    · have hil : i < arcs.length := by omega
      have ha : arcs[i]? = some arcs[i] := by simp [hil]
      obtain ⟨id, off, e1, e2, e3, e4⟩ := arc_at (hr.kept L1.keep) ha
      have hat := fun h => sizesOf_at ha h
      have hbd : ArcsOk es arcs → ((0 ≤ arcs[i].src ∧ arcs[i].src < n) ∧ (0 ≤ arcs[i].dst ∧ arcs[i].dst < n)) ∧ (0 ≤ arcs[i].mode ∧ arcs[i].mode < 5) ∧ (0 ≤ arcs[i].cost ∧ arcs[i].cost ≤ 4398046511104) := fun h => ⟨arc_ends hnet h.1 (i + 1) i _ (by omega) ha, arc_mode hnet h.1 (i + 1) i _ (by omega) ha, (h.1 i _ ha).1⟩
      have hthis : ArcsOk es arcs → ArcOk es arcs i arcs[i] := fun h => h.1 i _ ha
      generalize arcs[i] = a at *
      simp only [Arc.cells] at e4
      have o1 := L1.box
      simp (disch := first | omega | (simp only [nx] <;> omega) | fail) only [vaw, o1, hl, hc, e1, e4, Nat.reduceAdd, Nat.reduceMul, Nat.reduceLeDiff, Nat.reduceEqDiff, ↓reduceIte]
      have k2 : Keep Nothing H1 ((H1.new (.cells [.int .i64 0, .int .i64 0, .int .i64 0, .int .i64 0, .int .i64 0, .int .i64 0, .int .i64 0] true)).upd H1.next (some (.cells [.int .i64 a.src, .int .i64 a.dst, .int .i64 a.mode, .int .i64 a.cost, .int .i64 a.edge, .int .i64 a.a, .int .i64 a.b] true))) := ((Keep.refl _ _).new _).upd (.inl (Nat.le_refl _)) _
      have q2 : ((H1.new (.cells [.int .i64 0, .int .i64 0, .int .i64 0, .int .i64 0, .int .i64 0, .int .i64 0, .int .i64 0] true)).upd H1.next (some (.cells [.int .i64 a.src, .int .i64 a.dst, .int .i64 a.mode, .int .i64 a.cost, .int .i64 a.edge, .int .i64 a.a, .int .i64 a.b] true))).obj H1.next = some (.cells [.int .i64 a.src, .int .i64 a.dst, .int .i64 a.mode, .int .i64 a.cost, .int .i64 a.edge, .int .i64 a.a, .int .i64 a.b] true) := obj_upd_eq rfl
      have n2 : H1.next < ((H1.new (.cells [.int .i64 0, .int .i64 0, .int .i64 0, .int .i64 0, .int .i64 0, .int .i64 0, .int .i64 0] true)).upd H1.next (some (.cells [.int .i64 a.src, .int .i64 a.dst, .int .i64 a.mode, .int .i64 a.cost, .int .i64 a.edge, .int .i64 a.a, .int .i64 a.b] true))).next := (by first | omega | (simp only [next_new, next_upd]; omega))
      have L2 := L1.kept k2
      have hlt1 := L1.lt
      generalize (H1.new (.cells [.int .i64 0, .int .i64 0, .int .i64 0, .int .i64 0, .int .i64 0, .int .i64 0, .int .i64 0] true)).upd H1.next (some (.cells [.int .i64 a.src, .int .i64 a.dst, .int .i64 a.mode, .int .i64 a.cost, .int .i64 a.edge, .int .i64 a.a, .int .i64 a.b] true)) = H2 at *
      generalize H1.next = y at *
      have o2 := L2.box
      by_cases c1 : a.src < 0
      · simp (disch := first | omega | (simp only [nx] <;> omega) | fail) only [vaw, q2, o2, c1, Nat.reduceAdd, Nat.reduceMul, Nat.reduceLeDiff, Nat.reduceEqDiff, ↓reduceIte]
        exact hq0 (fun h => by have := hbd h; omega) _ L2.keep
      by_cases c2 : n ≤ a.src
      · simp (disch := first | omega | (simp only [nx] <;> omega) | fail) only [vaw, q2, o2, c1, c2, Nat.reduceAdd, Nat.reduceMul, Nat.reduceLeDiff, Nat.reduceEqDiff, ↓reduceIte]
        exact hq0 (fun h => by have := hbd h; omega) _ L2.keep
      by_cases c3 : a.dst < 0
      · simp (disch := first | omega | (simp only [nx] <;> omega) | fail) only [vaw, q2, o2, c1, c2, c3, Nat.reduceAdd, Nat.reduceMul, Nat.reduceLeDiff, Nat.reduceEqDiff, ↓reduceIte]
        exact hq0 (fun h => by have := hbd h; omega) _ L2.keep
      by_cases c4 : n ≤ a.dst
      · simp (disch := first | omega | (simp only [nx] <;> omega) | fail) only [vaw, q2, o2, c1, c2, c3, c4, Nat.reduceAdd, Nat.reduceMul, Nat.reduceLeDiff, Nat.reduceEqDiff, ↓reduceIte]
        exact hq0 (fun h => by have := hbd h; omega) _ L2.keep
      by_cases c5 : a.mode < 0
      · simp (disch := first | omega | (simp only [nx] <;> omega) | fail) only [vaw, q2, o2, c1, c2, c3, c4, c5, Nat.reduceAdd, Nat.reduceMul, Nat.reduceLeDiff, Nat.reduceEqDiff, ↓reduceIte]
        exact hq0 (fun h => by have := hbd h; omega) _ L2.keep
      by_cases c6 : 5 ≤ a.mode
      · simp (disch := first | omega | (simp only [nx] <;> omega) | fail) only [vaw, q2, o2, c1, c2, c3, c4, c5, c6, Nat.reduceAdd, Nat.reduceMul, Nat.reduceLeDiff, Nat.reduceEqDiff, ↓reduceIte]
        exact hq0 (fun h => by have := hbd h; omega) _ L2.keep
      by_cases c7 : a.cost < 0
      · simp (disch := first | omega | (simp only [nx] <;> omega) | fail) only [vaw, q2, o2, c1, c2, c3, c4, c5, c6, c7, Nat.reduceAdd, Nat.reduceMul, Nat.reduceLeDiff, Nat.reduceEqDiff, ↓reduceIte]
        exact hq0 (fun h => by have := hbd h; omega) _ L2.keep
      by_cases c8 : 4398046511104 < a.cost
      · simp (disch := first | omega | (simp only [nx] <;> omega) | fail) only [vaw, q2, o2, c1, c2, c3, c4, c5, c6, c7, c8, Nat.reduceAdd, Nat.reduceMul, Nat.reduceLeDiff, Nat.reduceEqDiff, ↓reduceIte]
        exact hq0 (fun h => by have := hbd h; omega) _ L2.keep
      simp (disch := first | omega | (simp only [nx] <;> omega) | fail) only [vaw, q2, o2, c1, c2, c3, c4, c5, c6, c7, c8, Nat.reduceAdd, Nat.reduceMul, Nat.reduceLeDiff, Nat.reduceEqDiff, ↓reduceIte]
      refine condK_cut (fun t H' => ∃ k : Int, t = bots 1 (.ptr H.next 0 :: .bot :: ov :: .int .i64 i :: .bot :: .int .i64 k :: bots 158 []) ∧ LongAt H H' n ew rv av uv dv ov es arcs i ∧ (sizesOf arcs)[i]? = some k ∧ ArcOk es arcs i a ∧ 0 ≤ k ∧ k ≤ 2000) ?_ ?_
      · refine condK_split (fun h1 => ?_) (fun h1 => ?_)
        · have noTwo : ¬ IsTwo arcs i a → ¬ ArcsOk es arcs := fun h g => by
            rcases (hthis g).2 with h2 | h2
            · have := h2.1; omega
            · exact h h2
          by_cases h2 : a.a < 0
          · simp (disch := first | omega | (simp only [nx] <;> omega) | fail) only [vaw, q2, o2, h2, Nat.reduceAdd, Nat.reduceMul, Nat.reduceLeDiff, Nat.reduceEqDiff, ↓reduceIte]
            exact hq0 (noTwo fun h => by have := h.2.1; omega) _ L2.keep
          by_cases h3 : (i : Int) ≤ a.a
          · simp (disch := first | omega | (simp only [nx] <;> omega) | fail) only [vaw, q2, o2, h2, h3, Nat.reduceAdd, Nat.reduceMul, Nat.reduceLeDiff, Nat.reduceEqDiff, ↓reduceIte]
            exact hq0 (noTwo fun h => by have := h.2.2.1; omega) _ L2.keep
          by_cases h4 : a.b < 0
          · simp (disch := first | omega | (simp only [nx] <;> omega) | fail) only [vaw, q2, o2, h2, h3, h4, Nat.reduceAdd, Nat.reduceMul, Nat.reduceLeDiff, Nat.reduceEqDiff, ↓reduceIte]
            exact hq0 (noTwo fun h => by have := h.2.2.2.1; omega) _ L2.keep
          by_cases h5 : (i : Int) ≤ a.b
          · simp (disch := first | omega | (simp only [nx] <;> omega) | fail) only [vaw, q2, o2, h2, h3, h4, h5, Nat.reduceAdd, Nat.reduceMul, Nat.reduceLeDiff, Nat.reduceEqDiff, ↓reduceIte]
            exact hq0 (noTwo fun h => by have := h.2.2.2.2.1; omega) _ L2.keep
          have hpa : a.a.toNat < arcs.length := by omega
          have hpb : a.b.toNat < arcs.length := by omega
          have hp : arcs[a.a.toNat]? = some arcs[a.a.toNat] := by simp [hpa]
          have hqq : arcs[a.b.toNat]? = some arcs[a.b.toNat] := by simp [hpb]
          have bp := (hok _ _ (by omega) hp).1
          have bq := (hok _ _ (by omega) hqq).1
          generalize arcs[a.a.toNat] = p at *
          generalize arcs[a.b.toNat] = q at *
          have key : IsTwo arcs i a ↔ (p.mode = a.mode ∧ q.mode = a.mode ∧ p.src = a.src ∧ p.dst = q.src ∧ q.dst = a.dst ∧ p.cost + q.cost = a.cost) := by
            unfold IsTwo
            rw [hp, hqq]
            constructor
            · rintro ⟨_, _, _, _, _, p', q', g1, g2, g3⟩
              injection g1 with g1; injection g2 with g2
              subst g1; subst g2; exact ⟨g3.1, g3.2.1, g3.2.2.1, g3.2.2.2.1, g3.2.2.2.2.1, g3.2.2.2.2.2.symm⟩
            · intro g
              exact ⟨h1, by omega, by omega, by omega, by omega, p, q, rfl, rfl, g.1, g.2.1, g.2.2.1, g.2.2.2.1, g.2.2.2.2.1, g.2.2.2.2.2.symm⟩
          obtain ⟨ip, op, p1, p2, p3, p4⟩ := arc_at (hr.kept L2.keep) hp
          obtain ⟨iq, oq, q1, q5, q3, q4⟩ := arc_at (hr.kept L2.keep) hqq
          rw [Int.toNat_of_nonneg (by omega)] at p1 q1
          simp only [Arc.cells] at p4 q4
          have hbp : AVal.beq (.agg [.int .i64 q.src, .int .i64 q.dst, .int .i64 q.mode, .int .i64 q.cost, .int .i64 q.edge, .int .i64 q.a, .int .i64 q.b]) (.agg [.int .i64 q.src, .int .i64 q.dst, .int .i64 q.mode, .int .i64 q.cost, .int .i64 q.edge, .int .i64 q.a, .int .i64 q.b]) = true := by simp [AVal.beq, AVal.beqs]
          have z7 : Keep Nothing H2 ((((H2.new (.cells [.int .i64 0, .int .i64 0, .int .i64 0, .int .i64 0, .int .i64 0, .int .i64 0, .int .i64 0] true)).new (.cells [.int .i64 0, .int .i64 0, .int .i64 0, .int .i64 0, .int .i64 0, .int .i64 0, .int .i64 0] true)).upd H2.next (some (.cells [.int .i64 p.src, .int .i64 p.dst, .int .i64 p.mode, .int .i64 p.cost, .int .i64 p.edge, .int .i64 p.a, .int .i64 p.b] true))).upd (H2.next + 1) (some (.cells [.int .i64 q.src, .int .i64 q.dst, .int .i64 q.mode, .int .i64 q.cost, .int .i64 q.edge, .int .i64 q.a, .int .i64 q.b] true))) := ((((Keep.refl _ _).new _).new _).upd (.inl (by omega)) _).upd (.inl (by omega)) _
          have w1 : ((((H2.new (.cells [.int .i64 0, .int .i64 0, .int .i64 0, .int .i64 0, .int .i64 0, .int .i64 0, .int .i64 0] true)).new (.cells [.int .i64 0, .int .i64 0, .int .i64 0, .int .i64 0, .int .i64 0, .int .i64 0, .int .i64 0] true)).upd H2.next (some (.cells [.int .i64 p.src, .int .i64 p.dst, .int .i64 p.mode, .int .i64 p.cost, .int .i64 p.edge, .int .i64 p.a, .int .i64 p.b] true))).upd (H2.next + 1) (some (.cells [.int .i64 q.src, .int .i64 q.dst, .int .i64 q.mode, .int .i64 q.cost, .int .i64 q.edge, .int .i64 q.a, .int .i64 q.b] true))).obj H2.next = some (.cells [.int .i64 p.src, .int .i64 p.dst, .int .i64 p.mode, .int .i64 p.cost, .int .i64 p.edge, .int .i64 p.a, .int .i64 p.b] true) := by simp (disch := first | omega | (simp only [nx] <;> omega) | fail) only [vaim]
          have w2 : ((((H2.new (.cells [.int .i64 0, .int .i64 0, .int .i64 0, .int .i64 0, .int .i64 0, .int .i64 0, .int .i64 0] true)).new (.cells [.int .i64 0, .int .i64 0, .int .i64 0, .int .i64 0, .int .i64 0, .int .i64 0, .int .i64 0] true)).upd H2.next (some (.cells [.int .i64 p.src, .int .i64 p.dst, .int .i64 p.mode, .int .i64 p.cost, .int .i64 p.edge, .int .i64 p.a, .int .i64 p.b] true))).upd (H2.next + 1) (some (.cells [.int .i64 q.src, .int .i64 q.dst, .int .i64 q.mode, .int .i64 q.cost, .int .i64 q.edge, .int .i64 q.a, .int .i64 q.b] true))).obj (H2.next + 1) = some (.cells [.int .i64 q.src, .int .i64 q.dst, .int .i64 q.mode, .int .i64 q.cost, .int .i64 q.edge, .int .i64 q.a, .int .i64 q.b] true) := by simp (disch := first | omega | (simp only [nx] <;> omega) | fail) only [vaim]
          have w3 := (z7.old n2).trans q2
          have L3 := L2.kept z7
          simp (disch := first | omega | (simp only [nx] <;> omega) | fail) only [vaw, q2, o2, h2, h3, h4, h5, p1, p4, q1, q4, reK_same bav, reK_same hbp, Nat.reduceAdd, Nat.reduceMul, Nat.reduceLeDiff, Nat.reduceEqDiff, ↓reduceIte]
          generalize ((((H2.new (.cells [.int .i64 0, .int .i64 0, .int .i64 0, .int .i64 0, .int .i64 0, .int .i64 0, .int .i64 0] true)).new (.cells [.int .i64 0, .int .i64 0, .int .i64 0, .int .i64 0, .int .i64 0, .int .i64 0, .int .i64 0] true)).upd H2.next (some (.cells [.int .i64 p.src, .int .i64 p.dst, .int .i64 p.mode, .int .i64 p.cost, .int .i64 p.edge, .int .i64 p.a, .int .i64 p.b] true))).upd (H2.next + 1) (some (.cells [.int .i64 q.src, .int .i64 q.dst, .int .i64 q.mode, .int .i64 q.cost, .int .i64 q.edge, .int .i64 q.a, .int .i64 q.b] true))) = H3 at *
          by_cases g1 : p.mode = a.mode
          · by_cases g2 : q.mode = a.mode
            · by_cases g3 : p.src = a.src
              · by_cases g4 : p.dst = q.src
                · by_cases g5 : q.dst = a.dst
                  · by_cases g6 : p.cost + q.cost = a.cost
                    · have hT : IsTwo arcs i a := key.2 ⟨g1, g2, g3, g4, g5, g6⟩
                      have hv : (sizesOf arcs)[i]? = some ((sizesOf arcs).getD a.a.toNat 0 + (sizesOf arcs).getD a.b.toNat 0) := by
                        rw [hat (fun _ => ⟨by omega, by omega, by omega, by omega⟩), if_pos h1]
                      have ba := hsz a.a.toNat (by omega)
                      have bb := hsz a.b.toNat (by omega)
                      have pa := sizes_pos (m := i) (fun j p hj hp => hok j p hj hp) i a.a.toNat (by omega) (by omega) (by omega)
                      have pb := sizes_pos (m := i) (fun j p hj hp => hok j p hj hp) i a.b.toNat (by omega) (by omega) (by omega)
                      have ga : ((sizesOf arcs).take i)[a.a.toNat]? = some ((sizesOf arcs).getD a.a.toNat 0) := by
                        rw [List.getElem?_take, if_pos (by omega), List.getD_eq_getElem?_getD, List.getElem?_eq_getElem (by omega)]; rfl
                      have gb : ((sizesOf arcs).take i)[a.b.toNat]? = some ((sizesOf arcs).getD a.b.toNat 0) := by
                        rw [List.getElem?_take, if_pos (by omega), List.getD_eq_getElem?_getD, List.getElem?_eq_getElem (by omega)]; rfl
                      obtain ⟨ia, oa, a1, a2, a3⟩ := L3.own.row.int_at (k := .i64) ga
                      obtain ⟨ib, ob, b1, b2, b3⟩ := L3.own.row.int_at (k := .i64) gb
                      rw [Int.toNat_of_nonneg (by omega)] at a1 b1
                      generalize (sizesOf arcs).getD a.a.toNat 0 = sa at *
                      generalize (sizesOf arcs).getD a.b.toNat 0 = sb at *
                      simp (disch := first | omega | (simp only [nx] <;> omega) | fail) only [vaw, g1, g2, g3, g4, g5, g6, ne_eq, not_true_eq_false, w1, w2, w3, a1, a3, b1, b3, vaij, Nat.reduceAdd, Nat.reduceMul, Nat.reduceLeDiff, Nat.reduceEqDiff, ↓reduceIte]
                      exact ⟨sa + sb, rfl, L3, hv, ⟨⟨by omega, by omega⟩, .inr hT⟩, by omega, by omega⟩
                    · simp (disch := first | omega | (simp only [nx] <;> omega) | fail) only [vaw, g1, g2, g3, g4, g5, g6, ne_eq, not_true_eq_false, not_false_eq_true, w1, w2, w3, Nat.reduceAdd, Nat.reduceMul, Nat.reduceLeDiff, Nat.reduceEqDiff, ↓reduceIte]
                      exact hq0 (noTwo fun h => g6 (key.1 h).2.2.2.2.2) _ L3.keep
                  · simp (disch := first | omega | (simp only [nx] <;> omega) | fail) only [vaw, g1, g2, g3, g4, g5, ne_eq, not_true_eq_false, not_false_eq_true, w1, w2, w3, Nat.reduceAdd, Nat.reduceMul, Nat.reduceLeDiff, Nat.reduceEqDiff, ↓reduceIte]
                    exact hq0 (noTwo fun h => g5 (key.1 h).2.2.2.2.1) _ L3.keep
                · simp (disch := first | omega | (simp only [nx] <;> omega) | fail) only [vaw, g1, g2, g3, g4, ne_eq, not_true_eq_false, not_false_eq_true, w1, w2, w3, Nat.reduceAdd, Nat.reduceMul, Nat.reduceLeDiff, Nat.reduceEqDiff, ↓reduceIte]
                  exact hq0 (noTwo fun h => g4 (key.1 h).2.2.2.1) _ L3.keep
              · simp (disch := first | omega | (simp only [nx] <;> omega) | fail) only [vaw, g1, g2, g3, ne_eq, not_true_eq_false, not_false_eq_true, w1, w2, w3, Nat.reduceAdd, Nat.reduceMul, Nat.reduceLeDiff, Nat.reduceEqDiff, ↓reduceIte]
                exact hq0 (noTwo fun h => g3 (key.1 h).2.2.1) _ L3.keep
            · simp (disch := first | omega | (simp only [nx] <;> omega) | fail) only [vaw, g1, g2, ne_eq, not_true_eq_false, not_false_eq_true, w1, w2, w3, Nat.reduceAdd, Nat.reduceMul, Nat.reduceLeDiff, Nat.reduceEqDiff, ↓reduceIte]
              exact hq0 (noTwo fun h => g2 (key.1 h).2.1) _ L3.keep
          · simp (disch := first | omega | (simp only [nx] <;> omega) | fail) only [vaw, g1, ne_eq, not_true_eq_false, not_false_eq_true, w1, w2, w3, Nat.reduceAdd, Nat.reduceMul, Nat.reduceLeDiff, Nat.reduceEqDiff, ↓reduceIte]
            exact hq0 (noTwo fun h => g1 (key.1 h).1) _ L3.keep
        · simp (disch := first | omega | (simp only [nx] <;> omega) | fail) only [vaw, q2, o2, Nat.reduceAdd, Nat.reduceMul, Nat.reduceLeDiff, Nat.reduceEqDiff, ↓reduceIte]
          refine refedge_ret (a := a) (he.kept L2.keep) fun b H3 k3 s3 => ?_
          have L3 := L2.kept k3
          cases b with
          | false =>
            simp (disch := first | omega | (simp only [nx] <;> omega) | fail) only [vaw, Nat.reduceAdd, Nat.reduceMul, Nat.reduceLeDiff, Nat.reduceEqDiff, ↓reduceIte]
            refine hq0 (fun g => ?_) _ L3.keep
            rcases (hthis g).2 with h2 | h2
            · have := s3.2 h2; cases this
            · exact h1 h2.1
          | true =>
            have hE := s3.1 rfl
            simp (disch := first | omega | (simp only [nx] <;> omega) | fail) only [vaw, vaij, Nat.reduceAdd, Nat.reduceMul, Nat.reduceLeDiff, Nat.reduceEqDiff, ↓reduceIte]
            refine ⟨1, rfl, L3, ?_, ⟨⟨by omega, by omega⟩, .inl hE⟩, by omega, by omega⟩
            rw [hat (fun he => absurd he h1), if_neg h1]
      · rintro t H3 ⟨k, rfl, L3, hk, hokA, hk0, hk2⟩
        have hgd : (sizesOf arcs).getD i 0 = k := getD_of hk
        by_cases d3 : 1000 < k
        · simp (disch := first | omega | (simp only [nx] <;> omega) | fail) only [vaw, d3, Nat.reduceAdd, Nat.reduceMul, Nat.reduceLeDiff, Nat.reduceEqDiff, ↓reduceIte]
          refine hq0 (fun g => ?_) _ L3.keep
          have := g.2 _ (size_mem hil)
          rw [hgd] at this; omega
        · simp (disch := first | omega | (simp only [nx] <;> omega) | fail) only [vaw, d3, Nat.reduceAdd, Nat.reduceMul, Nat.reduceLeDiff, Nat.reduceEqDiff, ↓reduceIte]
          refine app_ret (n := i) (k := 1) L3.own (y := H3.next) (by simp (disch := first | omega | (simp only [nx] <;> omega) | fail) only [vaim]; rfl) rfl (by omega) (by omega) (by rw [ints_length, List.length_take]; omega) (by omega) (by omega) ?_ (by simp only [next_new]; have := L3.lt; omega) (by first | omega | (simp only [next_new, next_upd]; omega)) (by intro j h1 h2; rw [obj_new_ne (by omega)])
          intro v' H4 n4 k4 g4 s4
          have hs := take_snoc hk
          have L4 : LongAt H H4 n ew rv av uv dv v' es arcs (i + 1) := by
            simp only [next_new] at n4 k4
            have hl3 := L3.lt
            have hn3 := L3.keep.next
            refine ⟨⟨by omega, fun j hj _ => ?_⟩, by omega, ?_, ?_⟩
            · rw [k4 j (by omega) (fun e => by have := (L3.own.sid_ge e).1; omega), obj_new_ne (by omega), L3.keep.old hj]
            · rw [k4 _ (by omega) (fun e => by have := (L3.own.sid_ge e).1; omega), obj_new_ne (by omega)]; exact L3.box
            · rw [hs, ints_append]; exact g4.own
          simp (disch := first | omega | (simp only [nx] <;> omega) | fail) only [vaw, Nat.reduceAdd, Nat.reduceMul, Nat.reduceLeDiff, Nat.reduceEqDiff, ↓reduceIte]
          refine ⟨arcs.length - (i + 1), by omega, i + 1, v', rfl, by omega, rfl, L4, ?_, ?_⟩
          · intro j p hj hp
            by_cases hji : j = i
            · subst hji
              rw [ha] at hp; injection hp with hp; subst hp
              exact hokA
            · exact hok j p (by omega) hp
          · intro j hj
            by_cases hji : j = i
            · subst hji; rw [hgd]; omega
            · exact hsz j (by omega)
    · have hi : i = arcs.length := by omega
      subst hi
      have hall : ArcsOk es arcs := by
        refine ⟨fun j a ha => hok j a (List.getElem?_eq_some_iff.1 ha).1 ha, fun s hs => ?_⟩
        obtain ⟨j, hj, e⟩ := List.getElem_of_mem hs
        have := hsz j (by omega)
        rw [List.getD_eq_getElem?_getD, List.getElem?_eq_getElem hj, e] at this
        exact this
      have o1 := L1.box
      have g1 := L1.own
      rw [List.take_of_length_le (by omega)] at g1
      have nb := g1.notBot
      simp (disch := first | omega | (simp only [nx] <;> omega) | fail) only [vaw, o1, hl, hc, nb, Nat.reduceAdd, Nat.reduceMul, Nat.reduceLeDiff, Nat.reduceEqDiff, ↓reduceIte]
      exact hq1 hall _ _ L1.keep g1
end Go.Proofs.Ytknhlpmmalcchaa

namespace Go.Proofs.Ytknhlpmmalcchaa
open Go Go.VAI
set_option linter.unusedSimpArgs false

theorem Bytes.drop' {a b : List Int} (h : Bytes (a ++ b)) : Bytes b := fun x hx => h x (by simp [hx])
theorem nbad {α : Type} {f : RS → α × RS} (hf : Reads f) {s : RS} (h : (f s).2.bad = false) : s.bad = false := by
  cases hx : s.bad with
  | false => rfl
  | true => have := hf.bad s hx; rw [h] at this; cases this
def Writes {α : Type} (f : RS → α × RS) (B : α → List Int) : Prop := ∀ s, Bytes s.left → (f s).2.bad = false → s.left = B (f s).1 ++ (f s).2.left
theorem Writes.bytes {α : Type} {f : RS → α × RS} {B : α → List Int} (h : Writes f B) {s : RS} (hb : Bytes s.left) (hn : (f s).2.bad = false) : Bytes (f s).2.left := by
  have := h s hb hn
  rw [this] at hb
  exact hb.drop'
theorem Writes.bind {α β : Type} {f : RS → α × RS} {g : α → RS → β × RS} {B : α → List Int} {C : α → β → List Int} (hf : Writes f B) (hg : ∀ a, Writes (g a) (C a)) (hr : ∀ a, Reads (g a)) : ∀ s, Bytes s.left → (andThen f g s).2.bad = false → s.left = B (f s).1 ++ (C (f s).1 (andThen f g s).1 ++ (andThen f g s).2.left) := by
  intro s hb hn
  have h1 : (f s).2.bad = false := nbad (hr _) hn
  have h2 := hf s hb h1
  have h3 := hg (f s).1 (f s).2 (hf.bytes hb h1) hn
  conv => lhs; rw [h2]
  congr 1
def Takes {β : Type} (h : RS → β × RS) (R : β → List Int → Prop) : Prop := ∀ s, Bytes s.left → (h s).2.bad = false → ∃ l, R (h s).1 l ∧ s.left = l ++ (h s).2.left
theorem Takes.done {β : Type} (x : β) : Takes (fun s : RS => (x, s)) (fun r l => r = x ∧ l = []) := fun s _ _ => ⟨[], ⟨rfl, rfl⟩, rfl⟩
theorem Takes.bind {α β : Type} {f : RS → α × RS} {g : α → RS → β × RS} {R1 : α → List Int → Prop} {R2 : α → β → List Int → Prop} (hf : Takes f R1) (hg : ∀ a, Takes (g a) (R2 a)) (hr : ∀ a, Reads (g a)) : Takes (andThen f g) (fun r l => ∃ a l1 l2, R1 a l1 ∧ R2 a r l2 ∧ l = l1 ++ l2) := by
  intro s hb hn
  have h1 : (f s).2.bad = false := nbad (hr _) hn
  obtain ⟨l1, q1, e1⟩ := hf s hb h1
  have hb2 : Bytes (f s).2.left := by
    rw [e1] at hb
    exact hb.drop'
  obtain ⟨l2, q2, e2⟩ := hg (f s).1 (f s).2 hb2 hn
  refine ⟨l1 ++ l2, ⟨(f s).1, l1, l2, q1, q2, rfl⟩, ?_⟩
  rw [e1, e2, List.append_assoc]
  rfl
end Go.Proofs.Ytknhlpmmalcchaa

namespace Go.Proofs.Ytknhlpmmalcchaa
open Go Go.VAI
set_option linter.unusedSimpArgs false

def look1 (x : Option (AVal × AHeap)) : Option (Bool × Nat × Option AObj) :=
  match x with
  | some (.bool b, H) => some (b, H.next, H.obj 0)
  | _ => none
def known26N : Nat := match look1 (callA A 100 26 [] ⟨fun _ => none, 1⟩) with | some (_, n, _) => n | none => 0
theorem e26 (f : Nat → Option AObj) : look1 (callA A 100 26 [] ⟨f, 1⟩) = some (true, known26N, f 0) := by kernel_rfl
theorem known26N_ge : 1 ≤ known26N := by decide +kernel
theorem known26_ret {f : Nat → Option AObj} {Q : AVal → AHeap → Prop} (hq : ∀ H', Keep Nothing ⟨f, 1⟩ H' → Q (.bool true) H') : Ret A 26 [] ⟨f, 1⟩ Q := by
  have h := e26 f
  unfold look1 at h
  split at h
  · rename_i b H' e
    injection h with h
    injection h with h1 h2
    injection h2 with h2 h3
    subst h1
    refine Ret.test (n := 100) (.bool true, H') e (hq H' ⟨by rw [h2]; exact known26N_ge, fun i hi _ => ?_⟩)
    have : i = 0 := by simpa using hi
    subst this; exact h3
  · cases h
end Go.Proofs.Ytknhlpmmalcchaa

namespace Go.Proofs.Ytknhlpmmalcchaa
open Go Go.VAI
set_option linter.unusedSimpArgs false

end Go.Proofs.Ytknhlpmmalcchaa

namespace Go.Proofs.Ytknhlpmmalcchaa
open Go Go.VAI
set_option linter.unusedSimpArgs false

theorem fourOf_bytes (v : Int) : Bytes (fourOf v) := by
  intro b hb
  unfold fourOf at hb
  rw [wrap8, wrap8, wrap8, wrap8] at hb
  simp only [List.mem_cons, List.not_mem_nil, or_false] at hb
  omega
theorem Bytes.app {a b : List Int} (ha : Bytes a) (hb : Bytes b) : Bytes (a ++ b) := fun x hx => (List.mem_append.1 hx).elim (ha x) (hb x)
theorem Bytes.flat {α : Type} {f : α → List Int} {l : List α} (h : ∀ a, Bytes (f a)) : Bytes (l.flatMap f) := fun x hx => by
  obtain ⟨a, _, ha⟩ := List.mem_flatMap.1 hx
  exact h a x ha
theorem foursOf_bytes (l : List Int) : Bytes (foursOf l) := Bytes.flat fourOf_bytes
theorem encode_bytes (x : Idx) : Bytes (encodeOf x) := by
  unfold encodeOf
  have hm : Bytes [77, 73, 88, 49] := by intro b hb; simp at hb; omega
  exact ((((((hm.app (foursOf_bytes _)).app (Bytes.flat fun e => foursOf_bytes _)).app (Bytes.flat fun e => foursOf_bytes _)).app (foursOf_bytes _)).app (Bytes.flat fun a => ((foursOf_bytes _).app (foursOf_bytes _)).app (foursOf_bytes _))).app (Bytes.flat fun e => (foursOf_bytes _).app (foursOf_bytes _))).app (Bytes.flat fun e => (foursOf_bytes _).app (foursOf_bytes _))
end Go.Proofs.Ytknhlpmmalcchaa

namespace Go.Proofs.Ytknhlpmmalcchaa
open Go Go.VAI
set_option linter.unusedSimpArgs false

end Go.Proofs.Ytknhlpmmalcchaa

namespace Go.Proofs.Ytknhlpmmalcchaa
open Go Go.VAI
set_option linter.unusedSimpArgs false

end Go.Proofs.Ytknhlpmmalcchaa

namespace Go.Proofs.Ytknhlpmmalcchaa
open Go Go.VAI
set_option linter.unusedSimpArgs false

theorem take_eq_succ {α : Type} {l m : List α} {i : Nat} {x : α} (h : l.take i = m.take i) (hl : l[i]? = some x) (hm : m[i]? = some x) : l.take (i + 1) = m.take (i + 1) := by
  obtain ⟨a, b⟩ := List.getElem?_eq_some_iff.1 hl
  obtain ⟨c, d⟩ := List.getElem?_eq_some_iff.1 hm
  rw [List.take_succ_eq_append_getElem a, List.take_succ_eq_append_getElem c, h, b, d]
theorem take_all_eq {α : Type} {l m : List α} (hn : l.length = m.length) (h : l.take l.length = m.take l.length) : l = m := by
  rw [List.take_length, hn, List.take_length] at h
  exact h
set_option maxRecDepth 20000 in
theorem ints_ret {lv mv : AVal} {l m : List Int} {H : AHeap} {Q : AVal → AHeap → Prop} (hl : Row H lv 1 (ints l)) (hm : Row H mv 1 (ints m)) (hlen : l.length ≤ 4611686018427387904) (hq : ∀ b, Says b (l = m) → Q (.bool b) H) : Ret A 40 [lv, mv] H Q := by
  refine Ret.of (fn := F40) rfl ?_
  have h1 := hl.len1
  have h2 := hm.len1
  rw [ints_length] at h1 h2
  by_cases hn : (l.length : Int) = m.length
  · simp (disch := first | omega | (simp only [nx] <;> omega) | fail) only [vaw, F40, h1, h2, hn, ne_eq, not_true_eq_false, Nat.reduceAdd, Nat.reduceMul, Nat.reduceLeDiff, Nat.reduceEqDiff, ↓reduceIte]
    refine wpx_loop (fun k t H' => ∃ (i : Nat), k = l.length - i ∧ i ≤ l.length ∧ t = (lv :: mv :: bots 3 (.int .i64 i :: bots 20 ([])) : Tmps) ∧ H' = H ∧ l.take i = m.take i) l.length ?_ ?_
    · exact ⟨0, rfl, by omega, rfl, rfl, by simp⟩
    · rintro k t H1 ⟨i, rfl, hi, rfl, rfl, hin⟩
      by_cases hc : (i : Int) < m.length
      · have hil : i < l.length := by omega
        have him : i < m.length := by omega
        have ex : l[i]? = some l[i] := by simp [hil]
        have ey : m[i]? = some m[i] := by simp [him]
        obtain ⟨ix, ox, x1, x2, x3⟩ := hl.int_at (k := .i64) ex
        obtain ⟨iy, oy, y1, y2, y3⟩ := hm.int_at (k := .i64) ey
        have hne : l[i] ≠ m[i] → l ≠ m := fun h e => h (by subst e; rfl)
        generalize l[i] = x at *
        generalize m[i] = y at *
        by_cases hxy : x = y
        · subst hxy
          simp (disch := first | omega | (simp only [nx] <;> omega) | fail) only [vaw, h1, hn, hc, x1, x3, y1, y3, ne_eq, not_true_eq_false, Nat.reduceAdd, Nat.reduceMul, Nat.reduceLeDiff, Nat.reduceEqDiff, ↓reduceIte]
          exact ⟨l.length - (i + 1), by omega, i + 1, rfl, by omega, rfl, take_eq_succ hin ex ey⟩
        · simp (disch := first | omega | (simp only [nx] <;> omega) | fail) only [vaw, h1, hn, hc, x1, x3, y1, y3, hxy, ne_eq, not_true_eq_false, not_false_eq_true, Nat.reduceAdd, Nat.reduceMul, Nat.reduceLeDiff, Nat.reduceEqDiff, ↓reduceIte]
          exact hq _ (says_no (hne hxy))
      · have : i = l.length := by omega
        subst this
        simp (disch := first | omega | (simp only [nx] <;> omega) | fail) only [vaw, h1, hn, hc, Int.lt_irrefl, Nat.reduceAdd, Nat.reduceMul, Nat.reduceLeDiff, Nat.reduceEqDiff, ↓reduceIte]
        exact hq _ (says_yes (take_all_eq (by omega) hin))
  · simp (disch := first | omega | (simp only [nx] <;> omega) | fail) only [vaw, F40, h1, h2, hn, ne_eq, not_false_eq_true, Nat.reduceAdd, Nat.reduceMul, Nat.reduceLeDiff, Nat.reduceEqDiff, ↓reduceIte]
    exact hq _ (says_no fun e => hn (by rw [e]))
theorem nflat4 {a b c d e f g h : Int} : abin .neq (.flat [.int, .int, .int, .int]) (.agg [.int .i64 a, .int .i64 b, .int .i64 c, .int .i64 d]) (.agg [.int .i64 e, .int .i64 f, .int .i64 g, .int .i64 h]) = some (.bool (!(decide (a = e) && (decide (b = f) && (decide (c = g) && (decide (d = h) && true)))))) := rfl
theorem nflat7 {a b c d e f g a' b' c' d' e' f' g' : Int} : abin .neq (.flat [.int, .int, .int, .int, .int, .int, .int]) (.agg [.int .i64 a, .int .i64 b, .int .i64 c, .int .i64 d, .int .i64 e, .int .i64 f, .int .i64 g]) (.agg [.int .i64 a', .int .i64 b', .int .i64 c', .int .i64 d', .int .i64 e', .int .i64 f', .int .i64 g']) = some (.bool (!(decide (a = a') && (decide (b = b') && (decide (c = c') && (decide (d = d') && (decide (e = e') && (decide (f = f') && (decide (g = g') && true))))))))) := rfl
theorem edge_neq {x y : Edge} : abin .neq (.flat [.int, .int, .int, .int]) (.agg x.cells) (.agg y.cells) = some (.bool (decide (x ≠ y))) := by
  obtain ⟨a, b, c, d⟩ := x
  obtain ⟨e, f, g, h⟩ := y
  simp only [Edge.cells, nflat4]
  congr 2
  by_cases h1 : a = e <;> by_cases h2 : b = f <;> by_cases h3 : c = g <;> by_cases h4 : d = h <;> simp [h1, h2, h3, h4]
theorem arc_neq {x y : Arc} : abin .neq (.flat [.int, .int, .int, .int, .int, .int, .int]) (.agg x.cells) (.agg y.cells) = some (.bool (decide (x ≠ y))) := by
  obtain ⟨a, b, c, d, e, f, g⟩ := x
  obtain ⟨a', b', c', d', e', f', g'⟩ := y
  simp only [Arc.cells, nflat7]
  congr 2
  simp only [ne_eq, Arc.mk.injEq, Bool.and_true, ← Bool.decide_and, ← decide_not]
set_option maxRecDepth 20000 in
theorem netSame_ret {n m : Int} {ev fv : AVal} {es fs : List Edge} {H : AHeap} {Q : AVal → AHeap → Prop} (he : Row H ev 4 (edgeCells es)) (hf : Row H fv 4 (edgeCells fs)) (hlen : es.length ≤ 4611686018427387904)
    (hq : ∀ b H', Keep Nothing H H' → Says b (n = m ∧ es = fs) → Q (.bool b) H') : Ret A 49 [.agg [.int .i64 n, ev], .agg [.int .i64 m, fv]] H Q := by
  refine Ret.of (fn := F49) rfl ?_
  have h1 := he.len (by omega) (edgeCells_length es)
  have h2 := hf.len (by omega) (edgeCells_length fs)
  have be := he.beq
  have bf := hf.beq
  have k0 : Keep Nothing H ((H.new (.cells [.int .i64 n, ev] true)).new (.cells [.int .i64 m, fv] true)) := ((Keep.refl _ _).new _).new _
  by_cases hnm : n = m
  · by_cases hn : (es.length : Int) = fs.length
    · simp (disch := first | omega | (simp only [nx] <;> omega) | fail) only [vaw, F49, h1, h2, hnm, hn, ne_eq, not_true_eq_false, Nat.reduceAdd, Nat.reduceMul, Nat.reduceLeDiff, Nat.reduceEqDiff, ↓reduceIte]
      refine wpx_loop (fun k t H' => ∃ (i : Nat), k = es.length - i ∧ i ≤ es.length ∧ t = (bots 2 (.ptr H.next 0 :: .ptr (H.next + 1) 0 :: bots 1 (.int .i64 i :: bots 32 ([]))) : Tmps) ∧ H' = (H.new (.cells [.int .i64 m, ev] true)).new (.cells [.int .i64 m, fv] true) ∧ es.take i = fs.take i) es.length ?_ ?_
      · exact ⟨0, rfl, by omega, rfl, rfl, by simp⟩
      · rintro k t H1 ⟨i, rfl, hi, rfl, rfl, hin⟩
        by_cases hc : (i : Int) < fs.length
        · have hil : i < es.length := by omega
          have him : i < fs.length := by omega
          have ex : es[i]? = some es[i] := by simp [hil]
          have ey : fs[i]? = some fs[i] := by simp [him]
          obtain ⟨ix, ox, x1, _, x2, _, _, _, x3⟩ := edge_at he ex
          obtain ⟨iy, oy, y1, _, y2, _, _, _, y3⟩ := edge_at hf ey
          have hne : es[i] ≠ fs[i] → es ≠ fs := fun h e => h (by subst e; rfl)
          generalize es[i] = x at *
          generalize fs[i] = y at *
          by_cases hxy : x = y
          · simp (disch := first | omega | (simp only [nx] <;> omega) | fail) only [vaw, h1, hn, hc, x1, x3, y1, y3, edge_neq, hxy, ne_eq, not_true_eq_false, Nat.reduceAdd, Nat.reduceMul, Nat.reduceLeDiff, Nat.reduceEqDiff, ↓reduceIte]
            subst hxy
            exact ⟨es.length - (i + 1), by omega, i + 1, rfl, by omega, rfl, take_eq_succ hin ex ey⟩
          · simp (disch := first | omega | (simp only [nx] <;> omega) | fail) only [vaw, h1, hn, hc, x1, x3, y1, y3, edge_neq, hxy, ne_eq, not_true_eq_false, not_false_eq_true, Nat.reduceAdd, Nat.reduceMul, Nat.reduceLeDiff, Nat.reduceEqDiff, ↓reduceIte]
            subst hnm
            exact hq _ _ k0 (says_no fun e => hne hxy e.2)
        · have : i = es.length := by omega
          subst this
          simp (disch := first | omega | (simp only [nx] <;> omega) | fail) only [vaw, h1, hn, hc, Int.lt_irrefl, Nat.reduceAdd, Nat.reduceMul, Nat.reduceLeDiff, Nat.reduceEqDiff, ↓reduceIte]
          subst hnm
          exact hq _ _ k0 (says_yes ⟨rfl, take_all_eq (by omega) hin⟩)
    · simp (disch := first | omega | (simp only [nx] <;> omega) | fail) only [vaw, F49, h1, h2, hnm, hn, ne_eq, not_true_eq_false, not_false_eq_true, Nat.reduceAdd, Nat.reduceMul, Nat.reduceLeDiff, Nat.reduceEqDiff, ↓reduceIte]
      subst hnm
      exact hq _ _ k0 (says_no fun e => hn (by rw [e.2]))
  · simp (disch := first | omega | (simp only [nx] <;> omega) | fail) only [vaw, F49, h1, h2, hnm, ne_eq, not_false_eq_true, Nat.reduceAdd, Nat.reduceMul, Nat.reduceLeDiff, Nat.reduceEqDiff, ↓reduceIte]
    exact hq _ _ k0 (says_no fun e => hnm e.1)
end Go.Proofs.Ytknhlpmmalcchaa

namespace Go.Proofs.Ytknhlpmmalcchaa
open Go Go.VAI
set_option linter.unusedSimpArgs false

def Short62 (x : Idx) : Prop := x.es.length ≤ 4611686018427387904 ∧ x.rank.length ≤ 4611686018427387904 ∧ x.arcs.length ≤ 4611686018427387904 ∧ x.up.length ≤ 4611686018427387904 ∧ (∀ l ∈ x.up, l.length ≤ 4611686018427387904) ∧ ∀ l ∈ x.down, l.length ≤ 4611686018427387904
set_option maxRecDepth 20000 in
set_option maxHeartbeats 4000000 in
theorem same_ret {ew rv av uv dv ew' rv' av' uv' dv' : AVal} {x y : Idx} {H : AHeap} {Q : AVal → AHeap → Prop} (hx : IdxAt H ew rv av uv dv x) (hy : IdxAt H ew' rv' av' uv' dv' y) (hs : Short62 x) (hud : x.up.length = x.down.length)
    (hq : ∀ b H', Keep Nothing H H' → Says b (x = y) → Q (.bool b) H') : Ret A 32 [.agg [.int .i64 x.n, ew, rv, av, uv, dv], .agg [.int .i64 y.n, ew', rv', av', uv', dv']] H Q := by
  refine Ret.of (fn := F32) rfl ?_
  obtain ⟨s1, s2, s3, s4, s5, s6⟩ := hs
  have a1 := hx.arcs.len (by omega) (arcCells_length x.arcs)
  have a2 := hy.arcs.len (by omega) (arcCells_length y.arcs)
  have u1 := hx.up.len
  have u2 := hy.up.len
  have d1 := hx.down.len
  have d2 := hy.down.len
  simp (disch := first | omega | (simp only [nx] <;> omega) | fail) only [vaw, F32, Nat.reduceAdd, Nat.reduceMul, Nat.reduceLeDiff, Nat.reduceEqDiff, ↓reduceIte]
  have k0 : Keep Nothing H ((H.new (.cells [.int .i64 x.n, ew, rv, av, uv, dv] true)).new (.cells [.int .i64 y.n, ew', rv', av', uv', dv'] true)) := ((Keep.refl _ _).new _).new _
  refine netSame_ret (hx.es.kept k0) (hy.es.kept k0) s1 fun b H1 k1 c1 => ?_
  have n1 := k1.next
  simp only [next_new] at n1
  have o1 : H1.obj H.next = some (.cells [.int .i64 x.n, ew, rv, av, uv, dv] true) := by rw [k1.old (by simp only [next_new]; omega)]; simp (disch := first | omega | (simp only [nx] <;> omega) | fail) only [vaim]
  have o2 : H1.obj (H.next + 1) = some (.cells [.int .i64 y.n, ew', rv', av', uv', dv'] true) := by rw [k1.old (by simp only [next_new]; omega)]; simp (disch := first | omega | (simp only [nx] <;> omega) | fail) only [vaim]
  have kA := k0.trans k1
  have hx1 := hx.kept kA
  have hy1 := hy.kept kA
  cases b with
  | false =>
    simp (disch := first | omega | (simp only [nx] <;> omega) | fail) only [vaw, Nat.reduceAdd, Nat.reduceMul, Nat.reduceLeDiff, Nat.reduceEqDiff, ↓reduceIte]
    exact hq _ _ kA (says_no fun e => by have := c1.2 ⟨by rw [e], by rw [e]⟩; cases this)
  | true =>
    have e1 := c1.1 rfl
    simp (disch := first | omega | (simp only [nx] <;> omega) | fail) only [vaw, o1, o2, Nat.reduceAdd, Nat.reduceMul, Nat.reduceLeDiff, Nat.reduceEqDiff, ↓reduceIte]
    refine ints_ret hx1.rank hy1.rank s2 fun b c2 => ?_
    cases b with
    | false =>
      simp (disch := first | omega | (simp only [nx] <;> omega) | fail) only [vaw, Nat.reduceAdd, Nat.reduceMul, Nat.reduceLeDiff, Nat.reduceEqDiff, ↓reduceIte]
      exact hq _ _ kA (says_no fun e => by have := c2.2 (by rw [e]); cases this)
    | true =>
      have e2 := c2.1 rfl
      by_cases g1 : (x.arcs.length : Int) = y.arcs.length
      · by_cases g2 : (x.up.length : Int) = y.up.length
        · by_cases g3 : (x.down.length : Int) = y.down.length
          · simp (disch := first | omega | (simp only [nx] <;> omega) | fail) only [vaw, o1, o2, a1, a2, u1, u2, d1, d2, g1, g2, g3, ne_eq, not_true_eq_false, Nat.reduceAdd, Nat.reduceMul, Nat.reduceLeDiff, Nat.reduceEqDiff, ↓reduceIte]
            refine wpx_loop (fun k t H' => ∃ (i : Nat), k = x.arcs.length - i ∧ i ≤ x.arcs.length ∧ t = (bots 2 (.ptr H.next 0 :: .ptr (H.next + 1) 0 :: bots 1 (.int .i64 i :: bots 100 ([]))) : Tmps) ∧ H' = H1 ∧ x.arcs.take i = y.arcs.take i) x.arcs.length ?_ ?_
            · exact ⟨0, rfl, by omega, rfl, rfl, by simp⟩
            · rintro k t H2 ⟨i, rfl, hi, rfl, rfl, hin⟩
              by_cases hc : (i : Int) < y.arcs.length
              · have hil : i < x.arcs.length := by omega
                have him : i < y.arcs.length := by omega
                have ex : x.arcs[i]? = some x.arcs[i] := by simp [hil]
                have ey : y.arcs[i]? = some y.arcs[i] := by simp [him]
                obtain ⟨ix, ox, x1, _, _, x3⟩ := arc_at hx1.arcs ex
                obtain ⟨iy, oy, y1, _, _, y3⟩ := arc_at hy1.arcs ey
                have hne : x.arcs[i] ≠ y.arcs[i] → x ≠ y := fun h e => h (by subst e; rfl)
                generalize x.arcs[i] = p at *
                generalize y.arcs[i] = q at *
                by_cases hxy : p = q
                · simp (disch := first | omega | (simp only [nx] <;> omega) | fail) only [vaw, o1, o2, a1, a2, g1, hc, x1, x3, y1, y3, arc_neq, hxy, ne_eq, not_true_eq_false, Nat.reduceAdd, Nat.reduceMul, Nat.reduceLeDiff, Nat.reduceEqDiff, ↓reduceIte]
                  subst hxy
                  exact ⟨x.arcs.length - (i + 1), by omega, i + 1, rfl, by omega, rfl, take_eq_succ hin ex ey⟩
                · simp (disch := first | omega | (simp only [nx] <;> omega) | fail) only [vaw, o1, o2, a1, a2, g1, hc, x1, x3, y1, y3, arc_neq, hxy, ne_eq, not_true_eq_false, not_false_eq_true, Nat.reduceAdd, Nat.reduceMul, Nat.reduceLeDiff, Nat.reduceEqDiff, ↓reduceIte]
                  exact hq _ _ kA (says_no fun e => hne hxy e)
              · have : i = x.arcs.length := by omega
                subst this
                have e3 := take_all_eq (by omega) hin
                simp (disch := first | omega | (simp only [nx] <;> omega) | fail) only [vaw, o1, a1, g1, hc, Int.lt_irrefl, Nat.reduceAdd, Nat.reduceMul, Nat.reduceLeDiff, Nat.reduceEqDiff, ↓reduceIte]
                refine wpx_loop (fun k t H' => ∃ (i : Nat), k = x.up.length - i ∧ i ≤ x.up.length ∧ t = (bots 2 (.ptr H.next 0 :: .ptr (H.next + 1) 0 :: bots 2 (.int .i64 i :: bots 99 ([]))) : Tmps) ∧ H' = H2 ∧ x.up.take i = y.up.take i ∧ x.down.take i = y.down.take i) x.up.length ?_ ?_
                · exact ⟨0, rfl, by omega, rfl, rfl, by simp, by simp⟩
                · rintro k t H3 ⟨i, rfl, hi, rfl, rfl, hin1, hin2⟩
                  by_cases hc : (i : Int) < y.up.length
                  · have hil : i < x.up.length := by omega
                    have him : i < y.up.length := by omega
                    have hdl : i < x.down.length := by omega
                    have hdm : i < y.down.length := by omega
                    have ex : x.up[i]? = some x.up[i] := by simp [hil]
                    have ey : y.up[i]? = some y.up[i] := by simp [him]
                    have fx : x.down[i]? = some x.down[i] := by simp [hdl]
                    have fy : y.down[i]? = some y.down[i] := by simp [hdm]
                    obtain ⟨ix, ox, rx, x1, _, x3, x4⟩ := hx1.up.at (k := .i64) ex
                    obtain ⟨iy, oy, ry, y1, _, y3, y4⟩ := hy1.up.at (k := .i64) ey
                    obtain ⟨jx, px, qx, z1, _, z3, z4⟩ := hx1.down.at (k := .i64) fx
                    obtain ⟨jy, py, qy, w1, _, w3, w4⟩ := hy1.down.at (k := .i64) fy
                    have hne : x.up[i] ≠ y.up[i] → x ≠ y := fun h e => h (by subst e; rfl)
                    have hne2 : x.down[i] ≠ y.down[i] → x ≠ y := fun h e => h (by subst e; rfl)
                    have l1 := s5 _ (List.getElem_mem hil)
                    have l2 := s6 _ (List.getElem_mem hdl)
                    have hcd : ¬ (y.down.length : Int) ≤ i := by omega
                    generalize x.up[i] = p at *
                    generalize y.up[i] = q at *
                    generalize x.down[i] = p' at *
                    generalize y.down[i] = q' at *
                    simp (disch := first | omega | (simp only [nx] <;> omega) | fail) only [vaw, o1, o2, u1, u2, g2, hc, x1, x3, y1, y3, Nat.reduceAdd, Nat.reduceMul, Nat.reduceLeDiff, Nat.reduceEqDiff, ↓reduceIte]
                    refine ints_ret x4 y4 l1 fun b c3 => ?_
                    cases b with
                    | false =>
                      simp (disch := first | omega | (simp only [nx] <;> omega) | fail) only [vaw, Nat.reduceAdd, Nat.reduceMul, Nat.reduceLeDiff, Nat.reduceEqDiff, ↓reduceIte]
                      exact hq _ _ kA (says_no fun e => hne (fun h => by have := c3.2 h; cases this) e)
                    | true =>
                      have e4 := c3.1 rfl
                      subst e4
                      simp (disch := first | omega | (simp only [nx] <;> omega) | fail) only [vaw, o1, o2, d1, d2, g3, hcd, z1, z3, w1, w3, Nat.reduceAdd, Nat.reduceMul, Nat.reduceLeDiff, Nat.reduceEqDiff, ↓reduceIte]
                      refine ints_ret z4 w4 l2 fun b c4 => ?_
                      cases b with
                      | false =>
                        simp (disch := first | omega | (simp only [nx] <;> omega) | fail) only [vaw, Nat.reduceAdd, Nat.reduceMul, Nat.reduceLeDiff, Nat.reduceEqDiff, ↓reduceIte]
                        exact hq _ _ kA (says_no fun e => hne2 (fun h => by have := c4.2 h; cases this) e)
                      | true =>
                        have e5 := c4.1 rfl
                        subst e5
                        simp (disch := first | omega | (simp only [nx] <;> omega) | fail) only [vaw, Nat.reduceAdd, Nat.reduceMul, Nat.reduceLeDiff, Nat.reduceEqDiff, ↓reduceIte]
                        exact ⟨x.up.length - (i + 1), by omega, i + 1, rfl, by omega, rfl, take_eq_succ hin1 ex ey, take_eq_succ hin2 fx fy⟩
                  · have : i = x.up.length := by omega
                    subst this
                    have e4 := take_all_eq (by omega) hin1
                    have e5 : x.down = y.down := by
                      rw [hud] at hin2
                      exact take_all_eq (by omega) hin2
                    simp (disch := first | omega | (simp only [nx] <;> omega) | fail) only [vaw, o1, u1, g2, hc, Int.lt_irrefl, Nat.reduceAdd, Nat.reduceMul, Nat.reduceLeDiff, Nat.reduceEqDiff, ↓reduceIte]
                    refine hq _ _ kA (says_yes ?_)
                    obtain ⟨xn, xe, xr, xa, xu, xd⟩ := x
                    obtain ⟨yn, ye, yr, ya, yu, yd⟩ := y
                    simp only at e1 e2 e3 e4 e5
                    obtain ⟨rfl, rfl⟩ := e1
                    subst e2; subst e3; subst e4; subst e5
                    rfl
          · simp (disch := first | omega | (simp only [nx] <;> omega) | fail) only [vaw, o1, o2, a1, a2, u1, u2, d1, d2, g1, g2, g3, ne_eq, not_true_eq_false, not_false_eq_true, Nat.reduceAdd, Nat.reduceMul, Nat.reduceLeDiff, Nat.reduceEqDiff, ↓reduceIte]
            exact hq _ _ kA (says_no fun e => g3 (by rw [e]))
        · simp (disch := first | omega | (simp only [nx] <;> omega) | fail) only [vaw, o1, o2, a1, a2, u1, u2, g1, g2, ne_eq, not_true_eq_false, not_false_eq_true, Nat.reduceAdd, Nat.reduceMul, Nat.reduceLeDiff, Nat.reduceEqDiff, ↓reduceIte]
          exact hq _ _ kA (says_no fun e => g2 (by rw [e]))
      · simp (disch := first | omega | (simp only [nx] <;> omega) | fail) only [vaw, o1, o2, a1, a2, g1, ne_eq, not_true_eq_false, not_false_eq_true, Nat.reduceAdd, Nat.reduceMul, Nat.reduceLeDiff, Nat.reduceEqDiff, ↓reduceIte]
        exact hq _ _ kA (says_no fun e => g1 (by rw [e]))
end Go.Proofs.Ytknhlpmmalcchaa

namespace Go.Proofs.Ytknhlpmmalcchaa
open Go Go.VAI
set_option linter.unusedSimpArgs false

structure EncR (H0 H : AHeap) (x : List AVal) (bv : AVal) (bs : List Int) : Prop where
  keep : Keep Nothing H0 H
  lt : H0.next < H.next
  box : H.obj H0.next = some (.cells x true)
  own : Own (H0.next + 1) H bv 1 (u8s bs)
theorem EncR.kept {H0 H H' : AHeap} {x : List AVal} {bv : AVal} {bs : List Int} (h : EncR H0 H x bv bs) (hk : Keep Nothing H H') : EncR H0 H' x bv bs := by
  have := h.lt
  exact ⟨h.keep.trans hk, by have := hk.next; omega, by rw [hk.old (by omega)]; exact h.box, h.own.kept hk⟩
theorem EncR.step {H0 H H' : AHeap} {x : List AVal} {bv bv' : AVal} {bs bs' : List Int} (h : EncR H0 H x bv bs) (hk : Keep (fun j => sid bv = some j) H H') (g : Own (H0.next + 1) H' bv' 1 (u8s bs')) : EncR H0 H' x bv' bs' := by
  have hlt := h.lt
  have hs : ∀ j, sid bv = some j → H0.next + 1 ≤ j := fun j hj => (h.own.sid_ge hj).1
  exact ⟨h.keep.trans' hk (fun j hj e => by have := hs j e; omega), by have := hk.next; omega, by rw [hk.obj _ (by omega) (fun e => by have := hs _ e; omega)]; exact h.box, g⟩
end Go.Proofs.Ytknhlpmmalcchaa

namespace Go.Proofs.Ytknhlpmmalcchaa
open Go Go.VAI
set_option linter.unusedSimpArgs false

end Go.Proofs.Ytknhlpmmalcchaa

namespace Go.Proofs.Ytknhlpmmalcchaa
open Go Go.VAI
set_option linter.unusedSimpArgs false

end Go.Proofs.Ytknhlpmmalcchaa

namespace Go.Proofs.Ytknhlpmmalcchaa
open Go Go.VAI
set_option linter.unusedSimpArgs false

structure RdgAt (H0 : AHeap) (q w : Nat) (src : Option Nat) (H : AHeap) (cs : List AVal) (s : RS) : Prop where
  keep : Keep (fun j => j = w) H0 H
  op : H.obj H0.next = some (.cells [.int .i64 0, .nilSlice, .nilSlice, .nilSlice, .nilSlice, .nilSlice] true)
  ob : H.obj q = some (.cells cs true)
  rd : RdAt H w src s
  len : s.left.length ≤ 1000000000
  lq : H0.next < q
  lh : q < H.next
  lw : w < H0.next
  ls : ∀ j, src = some j → j < H0.next
theorem RdgAt.grow {H0 : AHeap} {q w : Nat} {src : Option Nat} {H H' : AHeap} {cs : List AVal} {s : RS} {M : Nat → Prop} (h : RdgAt H0 q w src H cs s) (hk : Keep M H H') (hM : ∀ j, M j → q < j) : RdgAt H0 q w src H' cs s := by
  have h2 := h.lq
  have h3 := h.lw
  have h4 := h.lh
  have h5 := h.keep.next
  have hm : ∀ j, j ≤ q → ¬ M j := fun j hj hm => by have := hM j hm; omega
  exact ⟨⟨by have := hk.next; omega, fun j hj hw => by rw [hk.obj j (by omega) (hm j (by omega)), h.keep.obj j hj hw]⟩, by rw [hk.obj _ (by omega) (hm _ (by omega))]; exact h.op, by rw [hk.obj _ (by omega) (hm _ (by omega))]; exact h.ob, h.rd.M hk (hm w (by omega)) (fun j hj => hm j (by have := h.ls j hj; omega)), h.len, h2, by have := hk.next; omega, h3, h.ls⟩
theorem RdgAt.kept {H0 : AHeap} {q w : Nat} {src : Option Nat} {H H' : AHeap} {cs : List AVal} {s : RS} (h : RdgAt H0 q w src H cs s) (hk : Keep Nothing H H') : RdgAt H0 q w src H' cs s := h.grow hk (fun _ h => h.elim)
theorem RdgAt.upd {H0 : AHeap} {q w y : Nat} {src : Option Nat} {H : AHeap} {cs : List AVal} {s : RS} (h : RdgAt H0 q w src H cs s) (hy : q < y) (o : Option AObj) : RdgAt H0 q w src (H.upd y o) cs s :=
  h.grow (M := fun j => j = y) ((Keep.refl (fun j => j = y) _).upd (.inr rfl) _) (fun j e => by omega)
theorem RdgAt.read {H0 : AHeap} {q w : Nat} {src : Option Nat} {H H' : AHeap} {cs : List AVal} {s s' : RS} (h : RdgAt H0 q w src H cs s) (hk : Keep (fun j => j = w) H H') (hr : RdAt H' w src s') (hl : s'.left.length ≤ s.left.length) : RdgAt H0 q w src H' cs s' := by
  have h2 := h.lq
  have h3 := h.lw
  have h4 := h.lh
  have h5 := h.keep.next
  have h6 := h.len
  exact ⟨⟨by have := hk.next; omega, fun j hj hw => by rw [hk.obj j (by omega) hw, h.keep.obj j hj hw]⟩, by rw [hk.obj _ (by omega) (by omega)]; exact h.op, by rw [hk.obj _ (by omega) (by omega)]; exact h.ob, hr, by omega, h2, by have := hk.next; omega, h3, h.ls⟩
theorem RdgAt.put {H0 : AHeap} {q w : Nat} {src : Option Nat} {H : AHeap} {cs : List AVal} {s : RS} (h : RdgAt H0 q w src H cs s) (cs' : List AVal) : RdgAt H0 q w src (H.upd q (some (.cells cs' true))) cs' s := by
  have h2 := h.lq
  have h3 := h.lw
  have h4 := h.lh
  have h5 := h.keep.next
  have kk : Keep (fun j => j = q) H (H.upd q (some (.cells cs' true))) := (Keep.refl (fun j => j = q) _).upd (.inr rfl) _
  exact ⟨h.keep.upd (.inl (by omega)) _, by rw [obj_upd_ne (by omega)]; exact h.op, obj_upd_eq rfl, h.rd.M kk (by omega) (fun j hj => by have := h.ls j hj; omega), h.len, h2, h4, h3, h.ls⟩
theorem RdgAt.set {H0 : AHeap} {q w y : Nat} {src : Option Nat} {Ha H : AHeap} {cs zs : List AVal} {s : RS} (h : RdgAt H0 q w src H cs s) (hk : Keep (fun j => j = w) Ha H) (hy : Ha.next ≤ y ∧ y < H.next) (hqa : q < Ha.next) :
    RdgAt H0 q w src (H.upd y (some (.cells zs true))) cs s ∧ Keep (fun j => j = w) Ha (H.upd y (some (.cells zs true))) ∧ (H.upd y (some (.cells zs true))).obj y = some (.cells zs true) ∧ (H.upd y (some (.cells zs true))).next = H.next :=
  ⟨h.upd (by omega) _, hk.upd (.inl (by omega)) _, obj_upd_eq rfl, by simp only [next_upd]⟩
end Go.Proofs.Ytknhlpmmalcchaa

namespace Go.Proofs.Ytknhlpmmalcchaa
open Go Go.VAI
set_option linter.unusedSimpArgs false

end Go.Proofs.Ytknhlpmmalcchaa

namespace Go.Proofs.Ytknhlpmmalcchaa
open Go Go.VAI
set_option linter.unusedSimpArgs false

end Go.Proofs.Ytknhlpmmalcchaa

namespace Go.Proofs.Ytknhlpmmalcchaa
open Go Go.VAI
set_option linter.unusedSimpArgs false

end Go.Proofs.Ytknhlpmmalcchaa

namespace Go.Proofs.Ytknhlpmmalcchaa
open Go Go.VAI
set_option linter.unusedSimpArgs false

theorem mk_ret {size modes : Int} {ns : AVal} {xs : List Int} {H : AHeap} {Q : AVal → AHeap → Prop} (hr : Row H ns 1 (ints xs)) (hx : ∀ x ∈ xs, I64 x) (hx2 : xs.length ≤ 9223372036854775807)
    (hq : ∀ ev H', Keep Nothing H H' → Grown H.next H' ev 4 (edgeCells (mkEs size modes xs)) → Q (.agg [.int .i64 (mkN size), ev]) H') : Ret A 28 [.int .i64 size, ns, .int .i64 modes] H Q := by
  refine make_ret hr hx hx2 fun ev H' k g => ?_
  have h := hq ev H' k g
  rw [mkN_eq] at h
  exact h
theorem IdxAt.beq {H : AHeap} {ew rv av uv dv : AVal} {x : Idx} (h : IdxAt H ew rv av uv dv x) {n : Int} : AVal.beq (.agg [.int .i64 n, ew, rv, av, uv, dv]) (.agg [.int .i64 n, ew, rv, av, uv, dv]) = true := by
  simp [AVal.beq, AVal.beqs, h.es.beq, h.rank.beq, h.arcs.beq, h.up.beq, h.down.beq]
theorem allowed_short {x : Idx} (h : Allowed x) : Short62 x ∧ x.up.length = x.down.length := by
  obtain ⟨n1, n2, n3, n4⟩ := h.net
  have hrl := h.rankLen
  have hul := h.upLen
  have hdl := h.downLen
  have hac := h.count
  have hu : ∀ l ∈ x.up, l.length ≤ 300000 := fun l hl => by
    obtain ⟨v, hv, e⟩ := List.getElem_of_mem hl
    obtain ⟨h1, h2⟩ := h.up v l (by rw [List.getElem?_eq_getElem hv, e])
    have := few_below x.arcs.length l h1 (fun y hy => by
      obtain ⟨h3, a, h4, _⟩ := h2 y hy
      have := (List.getElem?_eq_some_iff.1 h4).1
      omega)
    omega
  have hd : ∀ l ∈ x.down, l.length ≤ 300000 := fun l hl => by
    obtain ⟨v, hv, e⟩ := List.getElem_of_mem hl
    obtain ⟨h1, h2⟩ := h.down v l (by rw [List.getElem?_eq_getElem hv, e])
    have := few_below x.arcs.length l h1 (fun y hy => by
      obtain ⟨h3, a, h4, _⟩ := h2 y hy
      have := (List.getElem?_eq_some_iff.1 h4).1
      omega)
    omega
  exact ⟨⟨by omega, by omega, by omega, by omega, fun l hl => by have := hu l hl; omega, fun l hl => by have := hd l hl; omega⟩, by omega⟩
end Go.Proofs.Ytknhlpmmalcchaa

namespace Go.Proofs.Ytknhlpmmalcchaa
open Go Go.VAI
set_option linter.unusedSimpArgs false

theorem rowOk_up {rank : List Int} {arcs : List Arc} {v : Int} {l : List Int} : RowOk true rank arcs v l ↔ UpOk rank arcs v l := Iff.rfl
theorem rowOk_down {rank : List Int} {arcs : List Arc} {v : Int} {l : List Int} : RowOk false rank arcs v l ↔ DownOk rank arcs v l := Iff.rfl
set_option maxRecDepth 20000 in
set_option maxHeartbeats 8000000 in
theorem refcheck_ret {ew rv av uv dv : AVal} {x : Idx} {H : AHeap} {Q : AVal → AHeap → Prop} (hx : IdxAt H ew rv av uv dv x) (hrk : x.rank.length ≤ 1000000000) (hnu : ∀ l ∈ x.up, l.length ≤ 4611686018427387904) (hnd : ∀ l ∈ x.down, l.length ≤ 4611686018427387904)
    (hq : ∀ b H', Keep Nothing H H' → Says b (Allowed x) → Q (.bool b) H') : Ret A 35 [.agg [.int .i64 x.n, ew, rv, av, uv, dv]] H Q := by
  refine Ret.of (fn := F35) rfl ?_
  have la := hx.arcs.len (by omega) (arcCells_length x.arcs)
  have bx := hx.beq (n := x.n)
  simp (disch := first | omega | (simp only [nx] <;> omega) | fail) only [vaw, F35, Nat.reduceAdd, Nat.reduceMul, Nat.reduceLeDiff, Nat.reduceEqDiff, ↓reduceIte]
  have k0 : Keep Nothing H (H.new (.cells [.int .i64 x.n, ew, rv, av, uv, dv] true)) := (Keep.refl _ _).new _
  have q0 : (H.new (.cells [.int .i64 x.n, ew, rv, av, uv, dv] true)).obj H.next = some (.cells [.int .i64 x.n, ew, rv, av, uv, dv] true) := obj_new_eq rfl
  refine refnet_ret (hx.es.kept k0) fun b H1 k1 s1 => ?_
  have n1 := k1.next
  simp only [next_new] at n1
  have q1 := (k1.old (i := H.next) (by simp only [next_new]; omega)).trans q0
  have kA := k0.trans k1
  cases b with
  | false =>
    simp (disch := first | omega | (simp only [nx] <;> omega) | fail) only [vaw, q1, Nat.reduceAdd, Nat.reduceMul, Nat.reduceLeDiff, Nat.reduceEqDiff, ↓reduceIte]
    exact hq _ _ kA (says_no fun h => by have := s1.2 h.net; cases this)
  | true =>
    have hnet := s1.1 rfl
    have hn60 := hnet.2.1
    simp (disch := first | omega | (simp only [nx] <;> omega) | fail) only [vaw, q1, Nat.reduceAdd, Nat.reduceMul, Nat.reduceLeDiff, Nat.reduceEqDiff, ↓reduceIte]
    refine refranks_ret (hx.kept kA) hrk fun b H2 k2 s2 => ?_
    have n2 := k2.next
    have q2 := (k2.old (i := H.next) (by omega)).trans q1
    have kB := kA.trans k2
    cases b with
    | false =>
      simp (disch := first | omega | (simp only [nx] <;> omega) | fail) only [vaw, q2, Nat.reduceAdd, Nat.reduceMul, Nat.reduceLeDiff, Nat.reduceEqDiff, ↓reduceIte]
      exact hq _ _ kB (says_no fun h => by have := s2.2 ⟨h.rankLen, h.upLen, h.downLen, h.ranks⟩; cases this)
    | true =>
      obtain ⟨c1, c2, c3, hrnk⟩ := s2.1 rfl
      by_cases c4 : (300000 : Int) < x.arcs.length
      · simp (disch := first | omega | (simp only [nx] <;> omega) | fail) only [vaw, q2, la, c4, Nat.reduceAdd, Nat.reduceMul, Nat.reduceLeDiff, Nat.reduceEqDiff, ↓reduceIte]
        exact hq _ _ kB (says_no fun h => by have := h.count; omega)
      by_cases c5 : x.arcs = []
      · have c5' : ¬ (0 : Int) < x.arcs.length := by rw [c5]; simp
        have harc : ArcsOk x.es x.arcs := by rw [c5]; exact ⟨fun i a h => by simp at h, fun s h => by simp [sizesOf] at h⟩
        have hends := fun i a h => arc_ends hnet harc.1 (i + 1) i a (by omega) h
        simp (disch := first | omega | (simp only [nx] <;> omega) | fail) only [vaw, q2, la, c4, c5', Nat.reduceAdd, Nat.reduceMul, Nat.reduceLeDiff, Nat.reduceEqDiff, ↓reduceIte]
        have kk := kB
        have qq := q2
        have nn : H.next < H2.next := by omega
        refine wpx_loop (fun m t H' => ∃ (i : Nat), m = x.rank.length - i ∧ i ≤ x.rank.length ∧ t = (bots 1 (.ptr H.next 0 :: bots 1 (.int .i64 i :: bots 53 ([]))) : Tmps) ∧ Keep Nothing H H' ∧ H.next < H'.next ∧ H'.obj H.next = some (.cells [.int .i64 x.n, ew, rv, av, uv, dv] true) ∧ (∀ (v : Nat) l, v < i → x.up[v]? = some l → UpOk x.rank x.arcs v l) ∧ ∀ (v : Nat) l, v < i → x.down[v]? = some l → DownOk x.rank x.arcs v l) x.rank.length ?_ ?_
        · exact ⟨0, rfl, by omega, rfl, kk, nn, qq, fun v l h => by omega, fun v l h => by omega⟩
        · rintro m t H5 ⟨i, rfl, hi, rfl, k5, n5, q5, hU, hD⟩
          by_cases hc : (i : Int) < x.n
          · have hil : i < x.rank.length := by omega
            obtain ⟨lup, hlu, mlu⟩ := at_some (l := x.up) (i := i) (by omega)
            obtain ⟨ldn, hld, mld⟩ := at_some (l := x.down) (i := i) (by omega)
            obtain ⟨iu, ou, ru, u1, u2, u3, u4⟩ := (hx.up.kept k5).at (k := .i64) hlu
            simp (disch := first | omega | (simp only [nx] <;> omega) | fail) only [vaw, hc, q5, u1, u3, Nat.reduceAdd, Nat.reduceMul, Nat.reduceLeDiff, Nat.reduceEqDiff, ↓reduceIte]
            refine refrow_ret (up := true) (hx.es.kept k5) (hx.rank.kept k5) (hx.arcs.kept k5) hx.up.beq hx.down.beq u4 hil (hnu _ mlu) (by omega) (fun j a h => by rw [c1]; exact hends j a h) fun b H6 k6 s6 => ?_
            have n6 := k6.next
            have q6 := (k6.old n5).trans q5
            cases b with
            | false =>
              simp (disch := first | omega | (simp only [nx] <;> omega) | fail) only [vaw, q6, Nat.reduceAdd, Nat.reduceMul, Nat.reduceLeDiff, Nat.reduceEqDiff, ↓reduceIte]
              exact hq _ _ (k5.trans k6) (says_no fun h => by have := s6.2 (rowOk_up.2 (h.up i _ hlu)); cases this)
            | true =>
              have hb := rowOk_up.1 (s6.1 rfl)
              obtain ⟨id, od, rd, d1, d2, d3, d4⟩ := ((hx.down.kept k5).kept k6).at (k := .i64) hld
              simp (disch := first | omega | (simp only [nx] <;> omega) | fail) only [vaw, q6, d1, d3, Nat.reduceAdd, Nat.reduceMul, Nat.reduceLeDiff, Nat.reduceEqDiff, ↓reduceIte]
              refine refrow_ret (up := false) ((hx.es.kept k5).kept k6) ((hx.rank.kept k5).kept k6) ((hx.arcs.kept k5).kept k6) hx.up.beq hx.down.beq d4 hil (hnd _ mld) (by omega) (fun j a h => by rw [c1]; exact hends j a h) fun b H7 k7 s7 => ?_
              have n7 := k7.next
              have q7 := (k7.old (i := H.next) (by omega)).trans q6
              cases b with
              | false =>
                simp (disch := first | omega | (simp only [nx] <;> omega) | fail) only [vaw, q7, Nat.reduceAdd, Nat.reduceMul, Nat.reduceLeDiff, Nat.reduceEqDiff, ↓reduceIte]
                exact hq _ _ ((k5.trans k6).trans k7) (says_no fun h => by have := s7.2 (rowOk_down.2 (h.down i _ hld)); cases this)
              | true =>
                have hb2 := rowOk_down.1 (s7.1 rfl)
                simp (disch := first | omega | (simp only [nx] <;> omega) | fail) only [vaw, q7, Nat.reduceAdd, Nat.reduceMul, Nat.reduceLeDiff, Nat.reduceEqDiff, ↓reduceIte]
                refine ⟨x.rank.length - (i + 1), by omega, i + 1, rfl, by omega, rfl, (k5.trans k6).trans k7, by omega, fun v l hv hl => ?_, fun v l hv hl => ?_⟩
                · by_cases hvi : v = i
                  · subst hvi; rw [hlu] at hl; injection hl with hl; subst hl; exact hb
                  · exact hU v l (by omega) hl
                · by_cases hvi : v = i
                  · subst hvi; rw [hld] at hl; injection hl with hl; subst hl; exact hb2
                  · exact hD v l (by omega) hl
          · simp (disch := first | omega | (simp only [nx] <;> omega) | fail) only [vaw, hc, q5, Nat.reduceAdd, Nat.reduceMul, Nat.reduceLeDiff, Nat.reduceEqDiff, ↓reduceIte]
            refine hq _ _ k5 (says_yes ⟨hnet, c1, c2, c3, hrnk, by omega, harc.1, harc.2, fun v l hl => hU v l ?_ hl, fun v l hl => hD v l ?_ hl⟩)
            · have := (List.getElem?_eq_some_iff.1 hl).1; omega
            · have := (List.getElem?_eq_some_iff.1 hl).1; omega
      · have c5' : (0 : Int) < x.arcs.length := by
          have := List.length_pos_iff.2 c5
          omega
        simp (disch := first | omega | (simp only [nx] <;> omega) | fail) only [vaw, q2, la, c4, c5', Nat.reduceAdd, Nat.reduceMul, Nat.reduceLeDiff, Nat.reduceEqDiff, ↓reduceIte]
        refine reflong_ret hnet (hx.es.kept kB) (hx.arcs.kept kB) (by omega) (fun hno H3 k3 => ?_) (fun hok v' H3 k3 g3 => ?_) bx
        · simp (disch := first | omega | (simp only [nx] <;> omega) | fail) only [vaw, Nat.reduceAdd, Nat.reduceMul, Nat.reduceLeDiff, Nat.reduceEqDiff, ↓reduceIte]
          exact hq _ _ (kB.trans k3) (says_no fun h => hno ⟨h.arcs, h.sizes⟩)
        · have hnn := own_notNil g3 (by
            intro e
            have := congrArg List.length e
            rw [ints_length, sizesOf_length _ _ rfl] at this
            simp at this
            exact c5 this)
          have q3 := (k3.old (i := H.next) (by omega)).trans q2
          have n3 := k3.next
          have harc := hok
          have hends := fun i a h => arc_ends hnet harc.1 (i + 1) i a (by omega) h
          simp (disch := first | omega | (simp only [nx] <;> omega) | fail) only [vaw, hnn, Nat.reduceAdd, Nat.reduceMul, Nat.reduceLeDiff, Nat.reduceEqDiff, ↓reduceIte]
          have kk := kB.trans k3
          have qq := q3
          have nn : H.next < H3.next := by omega
          refine wpx_loop (fun m t H' => ∃ (i : Nat), m = x.rank.length - i ∧ i ≤ x.rank.length ∧ t = (bots 1 (.ptr H.next 0 :: bots 1 (.int .i64 i :: bots 53 ([]))) : Tmps) ∧ Keep Nothing H H' ∧ H.next < H'.next ∧ H'.obj H.next = some (.cells [.int .i64 x.n, ew, rv, av, uv, dv] true) ∧ (∀ (v : Nat) l, v < i → x.up[v]? = some l → UpOk x.rank x.arcs v l) ∧ ∀ (v : Nat) l, v < i → x.down[v]? = some l → DownOk x.rank x.arcs v l) x.rank.length ?_ ?_
          · exact ⟨0, rfl, by omega, rfl, kk, nn, qq, fun v l h => by omega, fun v l h => by omega⟩
          · rintro m t H5 ⟨i, rfl, hi, rfl, k5, n5, q5, hU, hD⟩
            by_cases hc : (i : Int) < x.n
            · have hil : i < x.rank.length := by omega
              obtain ⟨lup, hlu, mlu⟩ := at_some (l := x.up) (i := i) (by omega)
              obtain ⟨ldn, hld, mld⟩ := at_some (l := x.down) (i := i) (by omega)
              obtain ⟨iu, ou, ru, u1, u2, u3, u4⟩ := (hx.up.kept k5).at (k := .i64) hlu
              simp (disch := first | omega | (simp only [nx] <;> omega) | fail) only [vaw, hc, q5, u1, u3, Nat.reduceAdd, Nat.reduceMul, Nat.reduceLeDiff, Nat.reduceEqDiff, ↓reduceIte]
              refine refrow_ret (up := true) (hx.es.kept k5) (hx.rank.kept k5) (hx.arcs.kept k5) hx.up.beq hx.down.beq u4 hil (hnu _ mlu) (by omega) (fun j a h => by rw [c1]; exact hends j a h) fun b H6 k6 s6 => ?_
              have n6 := k6.next
              have q6 := (k6.old n5).trans q5
              cases b with
              | false =>
                simp (disch := first | omega | (simp only [nx] <;> omega) | fail) only [vaw, q6, Nat.reduceAdd, Nat.reduceMul, Nat.reduceLeDiff, Nat.reduceEqDiff, ↓reduceIte]
                exact hq _ _ (k5.trans k6) (says_no fun h => by have := s6.2 (rowOk_up.2 (h.up i _ hlu)); cases this)
              | true =>
                have hb := rowOk_up.1 (s6.1 rfl)
                obtain ⟨id, od, rd, d1, d2, d3, d4⟩ := ((hx.down.kept k5).kept k6).at (k := .i64) hld
                simp (disch := first | omega | (simp only [nx] <;> omega) | fail) only [vaw, q6, d1, d3, Nat.reduceAdd, Nat.reduceMul, Nat.reduceLeDiff, Nat.reduceEqDiff, ↓reduceIte]
                refine refrow_ret (up := false) ((hx.es.kept k5).kept k6) ((hx.rank.kept k5).kept k6) ((hx.arcs.kept k5).kept k6) hx.up.beq hx.down.beq d4 hil (hnd _ mld) (by omega) (fun j a h => by rw [c1]; exact hends j a h) fun b H7 k7 s7 => ?_
                have n7 := k7.next
                have q7 := (k7.old (i := H.next) (by omega)).trans q6
                cases b with
                | false =>
                  simp (disch := first | omega | (simp only [nx] <;> omega) | fail) only [vaw, q7, Nat.reduceAdd, Nat.reduceMul, Nat.reduceLeDiff, Nat.reduceEqDiff, ↓reduceIte]
                  exact hq _ _ ((k5.trans k6).trans k7) (says_no fun h => by have := s7.2 (rowOk_down.2 (h.down i _ hld)); cases this)
                | true =>
                  have hb2 := rowOk_down.1 (s7.1 rfl)
                  simp (disch := first | omega | (simp only [nx] <;> omega) | fail) only [vaw, q7, Nat.reduceAdd, Nat.reduceMul, Nat.reduceLeDiff, Nat.reduceEqDiff, ↓reduceIte]
                  refine ⟨x.rank.length - (i + 1), by omega, i + 1, rfl, by omega, rfl, (k5.trans k6).trans k7, by omega, fun v l hv hl => ?_, fun v l hv hl => ?_⟩
                  · by_cases hvi : v = i
                    · subst hvi; rw [hlu] at hl; injection hl with hl; subst hl; exact hb
                    · exact hU v l (by omega) hl
                  · by_cases hvi : v = i
                    · subst hvi; rw [hld] at hl; injection hl with hl; subst hl; exact hb2
                    · exact hD v l (by omega) hl
            · simp (disch := first | omega | (simp only [nx] <;> omega) | fail) only [vaw, hc, q5, Nat.reduceAdd, Nat.reduceMul, Nat.reduceLeDiff, Nat.reduceEqDiff, ↓reduceIte]
              refine hq _ _ k5 (says_yes ⟨hnet, c1, c2, c3, hrnk, by omega, harc.1, harc.2, fun v l hl => hU v l ?_ hl, fun v l hl => hD v l ?_ hl⟩)
              · have := (List.getElem?_eq_some_iff.1 hl).1; omega
              · have := (List.getElem?_eq_some_iff.1 hl).1; omega
end Go.Proofs.Ytknhlpmmalcchaa

namespace Go.Proofs.Ytknhlpmmalcchaa
open Go Go.VAI
set_option linter.unusedSimpArgs false

end Go.Proofs.Ytknhlpmmalcchaa

namespace Go.Proofs.Ytknhlpmmalcchaa
open Go Go.VAI
set_option linter.unusedSimpArgs false

end Go.Proofs.Ytknhlpmmalcchaa

namespace Go.Proofs.Ytknhlpmmalcchaa
open Go Go.VAI
set_option linter.unusedSimpArgs false

structure BRow (H : AHeap) (v : AVal) (b : List Int) : Prop where
  row : RowC H v 1 (u8s b)
  bytes : Bytes b
  len : b.length ≤ 1000000000
theorem BRow.kept {H H' : AHeap} {v : AVal} {b : List Int} (h : BRow H v b) (hk : Keep Nothing H H') : BRow H' v b := ⟨h.row.kept hk, h.bytes, h.len⟩
end Go.Proofs.Ytknhlpmmalcchaa

namespace Go.Proofs.Ytknhlpmmalcchaa
open Go Go.VAI
set_option linter.unusedSimpArgs false

def In (a b : Nat) (v : AVal) : Prop := ∀ j, sid v = some j → a ≤ j ∧ j < b
structure OwnRows (a b : Nat) (H : AHeap) (av : AVal) (us : List AVal) (ul : List (List Int)) : Prop where
  own : Own a H av 1 us
  len : us.length = ul.length
  rows : ∀ (i : Nat) r l, us[i]? = some r → ul[i]? = some l → Own a H r 1 (ints l)
  apart : ∀ (i : Nat) r j, us[i]? = some r → sid r = some j → sid av ≠ some j
  two : ∀ (i i' : Nat) r r' j, us[i]? = some r → us[i']? = some r' → sid r = some j → sid r' = some j → i = i'
  inA : In a b av
  inR : ∀ (i : Nat) r, us[i]? = some r → In a b r
theorem OwnRows.M {a b : Nat} {M : Nat → Prop} {H H' : AHeap} {av : AVal} {us : List AVal} {ul : List (List Int)} (h : OwnRows a b H av us ul) (hk : Keep M H H') (hM : ∀ j, a ≤ j → j < b → ¬ M j) : OwnRows a b H' av us ul :=
  ⟨h.own.keepM hk (fun j hj => hM j (h.inA j hj).1 (h.inA j hj).2), h.len, fun i r l e1 e2 => (h.rows i r l e1 e2).keepM hk (fun j hj => hM j (h.inR i r e1 j hj).1 (h.inR i r e1 j hj).2), h.apart, h.two, h.inA, h.inR⟩
theorem OwnRows.from {a b lo : Nat} {H : AHeap} {av : AVal} {us : List AVal} {ul : List (List Int)} (h : OwnRows a b H av us ul) (hlo : lo ≤ a) : FromRows lo H av ul :=
  ⟨us, ⟨h.own.row, fun j hj => by have := (h.inA j hj).1; omega⟩, h.len, fun i r l e1 e2 => ⟨(h.rows i r l e1 e2).row, fun j hj => by have := (h.inR i r e1 j hj).1; omega⟩⟩
set_option maxRecDepth 20000 in
set_option maxHeartbeats 4000000 in
theorem rows_ret {lv : AVal} {ll : List (List Int)} {H : AHeap} {Q : AVal → AHeap → Prop} (hl : RowsOf H lv ll) (hlen : ll.length ≤ 1000000) (hle : ∀ l ∈ ll, l.length ≤ 1000000)
    (hq : ∀ v' us H', Keep Nothing H H' → OwnRows H.next H'.next H' v' us ll → Q v' H') : Ret A 80 [lv] H Q := by
  refine Ret.of (fn := F80) rfl ?_
  have hll := hl.len
  simp (disch := first | omega | (simp only [nx] <;> omega) | fail) only [vaw, F80, Nat.reduceAdd, Nat.reduceMul, Nat.reduceLeDiff, Nat.reduceEqDiff, ↓reduceIte]
  refine wpx_loop (fun m t H' => ∃ (i : Nat) (ov : AVal) (us : List AVal), m = ll.length - i ∧ i ≤ ll.length ∧ t = (lv :: bots 2 (ov :: .int .i64 i :: bots 16 ([])) : Tmps) ∧ Keep Nothing H H' ∧ OwnRows H.next H'.next H' ov us (ll.take i)) ll.length ?_ ?_
  · exact ⟨0, .nilSlice, [], rfl, by omega, rfl, .refl _ _, ⟨.nil, by simp, fun i r l h => by simp at h, fun i r j h => by simp at h, fun i i' r r' j h => by simp at h, fun j hj => (by cases hj), fun i r h => by simp at h⟩⟩
  · rintro m t H1 ⟨i, ov, us, rfl, hi, rfl, k1, g1⟩
    have n1 := k1.next
    by_cases hc : (i : Int) < ll.length
    · have hil : i < ll.length := by omega
      have hx : ll[i]? = some ll[i] := by simp [hil]
      have htk := List.take_succ_eq_append_getElem hil
      have hml := hle _ (List.getElem_mem hil)
      obtain ⟨id, off, r, a1, a2, a3, a4⟩ := (hl.kept k1).at (k := .i64) hx
      generalize ll[i] = l at *
      simp (disch := first | omega | (simp only [nx] <;> omega) | fail) only [vaw, hll, hc, a1, a3, Nat.reduceAdd, Nat.reduceMul, Nat.reduceLeDiff, Nat.reduceEqDiff, ↓reduceIte]
      have kA : Keep Nothing H1 (H1.new (.cells [] true)) := (Keep.refl _ _).new _
      refine copy_ret (n := l.length) (obj_new_eq rfl) (by first | omega | (simp only [next_new, next_upd]; omega)) (a4.kept kA) (by rw [ints_length]; omega) (by omega) (by omega) (by omega) ?_
      intro c H2 k2 g2 s2
      have n2 := k2.next
      simp only [next_new] at n2
      have cc := g2.cells
      simp (disch := first | omega | (simp only [nx] <;> omega) | fail) only [vaw, cc, Nat.reduceAdd, Nat.reduceMul, Nat.reduceLeDiff, Nat.reduceEqDiff, ↓reduceIte]
      have g1' := (g1.M kA (fun _ _ _ h => h)).M k2 (fun _ _ _ h => h)
      have hul : us.length = i := by have := g1.len; rw [List.length_take] at this; omega
      refine app_ret (n := i) (k := 1) g1'.own (y := H2.next) (by simp (disch := first | omega | (simp only [nx] <;> omega) | fail) only [vaim]; rfl) rfl (by omega) (by omega) (by omega) (by omega) (by omega) ?_ (by simp only [next_new]; omega) (by first | omega | (simp only [next_new, next_upd]; omega)) (by intro j h1 h2; rw [obj_new_ne (by omega)])
      intro v' H3 n3 k3 g3 s3
      simp only [next_new] at n3 k3
      have hcid : ∀ j, sid c = some j → H1.next ≤ j ∧ j < H2.next := fun j hj => g2.sid_ge hj
      have hoid : ∀ j, sid ov = some j → j < H1.next := fun j hj => (g1.inA j hj).2
      obtain ⟨y', s3, hy'⟩ := s3
      simp only [next_new] at hy'
      have kM : Keep (fun j => sid ov = some j) H2 H3 := ⟨by omega, fun j hj hm => by rw [k3 j (by omega) hm, obj_new_ne (by omega)]⟩
      simp (disch := first | omega | (simp only [nx] <;> omega) | fail) only [vaw, Nat.reduceAdd, Nat.reduceMul, Nat.reduceLeDiff, Nat.reduceEqDiff, ↓reduceIte]
      refine ⟨ll.length - (i + 1), by omega, i + 1, v', us ++ [c], rfl, by omega, rfl, ⟨by omega, fun j hj _ => ?_⟩, ?_⟩
      · have hne : ¬ sid ov = some j := fun e => by have := (g1.inA j e).1; omega
        rw [kM.obj j (by omega) hne, k2.old (by simp only [next_new]; omega), obj_new_ne (by omega), k1.old hj]
      · have cell : ∀ (q : Nat) r, (us ++ [c])[q]? = some r → (q < i ∧ us[q]? = some r) ∨ (q = i ∧ r = c) := fun q r h => by
          by_cases hq : q < us.length
          · rw [List.getElem?_append_left hq] at h
            exact .inl ⟨by omega, h⟩
          · have := (List.getElem?_eq_some_iff.1 h).1
            simp at this
            have e : q = us.length := by omega
            subst e
            rw [List.getElem?_append_right (by omega), Nat.sub_self] at h
            simp at h
            exact .inr ⟨by omega, h.symm⟩
        refine ⟨g3.own, by simp; omega, fun q r l' e1 e2 => ?_, fun q r j e1 e2 e3 => ?_, fun q q' r r' j e1 e2 e3 e4 => ?_, fun j hj => ?_, fun q r e1 j hj => ?_⟩
        · rcases cell q r e1 with ⟨hq, h1⟩ | ⟨hqe, rfl⟩
          · refine (g1'.rows q r l' h1 ?_).keepM kM (fun j hj e => g1.apart q r j h1 hj e)
            rw [htk, List.getElem?_append_left (by rw [List.length_take]; omega)] at e2
            exact e2
          · rw [hqe, htk, List.getElem?_append_right (by rw [List.length_take]; omega), List.length_take] at e2
            have : i - min i ll.length = 0 := by omega
            rw [this] at e2
            simp at e2
            subst e2
            exact (g2.lower (by omega)).keepM kM (fun j hj e => by have := hcid j hj; have := hoid j e; omega)
        · rw [s3] at e3
          injection e3 with e3
          rcases cell q r e1 with ⟨hq, h1⟩ | ⟨hqe, rfl⟩
          · have := (g1.inR q r h1 j e2).2; omega
          · have := hcid j e2; omega
        · rcases cell q r e1 with ⟨hq, h1⟩ | ⟨hqe, rfl⟩ <;> rcases cell q' r' e2 with ⟨hq', h1'⟩ | ⟨hqe', hre'⟩
          · exact g1.two q q' r r' j h1 h1' e3 e4
          · subst hre'; have := (g1.inR q r h1 j e3).2; have := hcid j e4; omega
          · have := (g1.inR q' r' h1' j e4).2; have := hcid j e3; omega
          · omega
        · exact ⟨(g3.sid_ge hj).1, (g3.sid_ge hj).2⟩
        · rcases cell q r e1 with ⟨hq, h1⟩ | ⟨hqe, rfl⟩
          · have := g1.inR q r h1 j hj; omega
          · have := hcid j hj; omega
    · have : i = ll.length := by omega
      subst this
      rw [List.take_length] at g1
      have nb := g1.own.notBot
      simp (disch := first | omega | (simp only [nx] <;> omega) | fail) only [vaw, hll, hc, nb, Nat.reduceAdd, Nat.reduceMul, Nat.reduceLeDiff, Nat.reduceEqDiff, ↓reduceIte]
      exact hq _ _ _ k1 g1
end Go.Proofs.Ytknhlpmmalcchaa

namespace Go.Proofs.Ytknhlpmmalcchaa
open Go Go.VAI
set_option linter.unusedSimpArgs false

def Small (y : Idx) : Prop := y.rank.length ≤ 1000 ∧ (∀ l ∈ y.up, l.length ≤ 1000000) ∧ ∀ l ∈ y.down, l.length ≤ 1000000
structure Sp (a0 a1 a2 a3 a4 a5 : Nat) (H : AHeap) (ew rv av uv dv : AVal) (LE R LA : List Int) (us ds : List AVal) (up down : List (List Int)) : Prop where
  er : Own a4 H ew 4 (ints LE)
  ei : In a4 a5 ew
  rr : Own a0 H rv 1 (ints R)
  ri : In a0 a1 rv
  ar : Own a1 H av 7 (ints LA)
  ai : In a1 a2 av
  ur : OwnRows a2 a3 H uv us up
  dr : OwnRows a3 a4 H dv ds down
  o : a0 ≤ a1 ∧ a1 ≤ a2 ∧ a2 ≤ a3 ∧ a3 ≤ a4 ∧ a4 ≤ a5 ∧ a5 ≤ H.next
theorem arc_of : ∀ (n : Nat) (L : List Int), L.length = 7 * n → ∃ arcs : List Arc, arcCells arcs = ints L ∧ arcs.length = n
  | 0, L, h => by
    have := List.eq_nil_of_length_eq_zero (by omega : L.length = 0)
    subst this
    exact ⟨[], rfl, rfl⟩
  | n + 1, L, h => by
    match L, h with
    | a :: b :: c :: d :: e :: f :: g :: L', h =>
      obtain ⟨arcs, h1, h2⟩ := arc_of n L' (by simp at h; omega)
      refine ⟨⟨a, b, c, d, e, f, g⟩ :: arcs, ?_, by simp [h2]⟩
      have e1 : arcCells (⟨a, b, c, d, e, f, g⟩ :: arcs) = (⟨a, b, c, d, e, f, g⟩ : Arc).cells ++ arcCells arcs := by simp [arcCells]
      rw [e1, h1]
      simp [Arc.cells, ints]
theorem edge_of : ∀ (n : Nat) (L : List Int), L.length = 4 * n → ∃ es : List Edge, edgeCells es = ints L ∧ es.length = n
  | 0, L, h => by
    have := List.eq_nil_of_length_eq_zero (by omega : L.length = 0)
    subst this
    exact ⟨[], rfl, rfl⟩
  | n + 1, L, h => by
    match L, h with
    | a :: b :: c :: d :: L', h =>
      obtain ⟨es, h1, h2⟩ := edge_of n L' (by simp at h; omega)
      refine ⟨⟨a, b, c, d⟩ :: es, ?_, by simp [h2]⟩
      have e1 : edgeCells (⟨a, b, c, d⟩ :: es) = (⟨a, b, c, d⟩ : Edge).cells ++ edgeCells es := by simp [edgeCells]
      rw [e1, h1]
      simp [Edge.cells, ints]
theorem arcs_ints : ∀ arcs : List Arc, ∃ L : List Int, arcCells arcs = ints L ∧ L.length = 7 * arcs.length
  | [] => ⟨[], rfl, rfl⟩
  | a :: arcs => by
    obtain ⟨L, h1, h2⟩ := arcs_ints arcs
    refine ⟨a.src :: a.dst :: a.mode :: a.cost :: a.edge :: a.a :: a.b :: L, ?_, by simp [h2]; omega⟩
    have e1 : arcCells (a :: arcs) = a.cells ++ arcCells arcs := by simp [arcCells]
    rw [e1, h1]
    simp [Arc.cells, ints]
theorem edges_ints : ∀ es : List Edge, ∃ L : List Int, edgeCells es = ints L ∧ L.length = 4 * es.length
  | [] => ⟨[], rfl, rfl⟩
  | a :: es => by
    obtain ⟨L, h1, h2⟩ := edges_ints es
    refine ⟨a.src :: a.dst :: a.mode :: a.cost :: L, ?_, by simp [h2]; omega⟩
    have e1 : edgeCells (a :: es) = a.cells ++ edgeCells es := by simp [edgeCells]
    rw [e1, h1]
    simp [Edge.cells, ints]
theorem idx_of {lo ne na : Nat} {n : Int} {H : AHeap} {ew rv av uv dv : AVal} {LE R LA : List Int} {up down : List (List Int)} (he : From lo H ew 4 (ints LE)) (hle : LE.length = 4 * ne) (hr : From lo H rv 1 (ints R)) (ha : From lo H av 7 (ints LA)) (hla : LA.length = 7 * na) (hu : FromRows lo H uv up) (hd : FromRows lo H dv down) :
    ∃ y : Idx, y.n = n ∧ y.rank = R ∧ y.up = up ∧ y.down = down ∧ IdxFrom lo H ew rv av uv dv y := by
  obtain ⟨es, e1, _⟩ := edge_of ne LE hle
  obtain ⟨arcs, e2, _⟩ := arc_of na LA hla
  exact ⟨⟨n, es, R, arcs, up, down⟩, rfl, rfl, rfl, rfl, ⟨by rw [e1]; exact he, hr, by rw [e2]; exact ha, hu, hd⟩⟩
theorem Own.slotN {lo sz n : Nat} {H : AHeap} {v : AVal} {cs : List AVal} (h : Own lo H v sz cs) (hsz : 0 < sz) (hn : cs.length = n * sz) {j : Nat} (hj : j < n) {k : IntKind} : ∃ id, sid v = some id ∧ lo ≤ id ∧ id < H.next ∧ aindexAddrS sz v (.int k (j : Int)) = some (.ptr id (j * sz)) ∧ H.obj id = some (.cells cs true) ∧
    ∀ (H' : AHeap) c', H.next ≤ H'.next → H'.obj id = some (.cells c' true) → c'.length = cs.length → Own lo H' v sz c' := by
  cases h with
  | nil =>
    have := Nat.mul_pos (show 0 < n by omega) hsz
    simp at hn; omega
  | @room id len _ _ hlo hhi ho hlen =>
    have : len = n := Nat.eq_of_mul_eq_mul_right hsz (by omega)
    subst this
    exact ⟨id, rfl, hlo, hhi, by rw [aindexAddrS_slice ⟨by omega, by omega⟩]; simp, ho, fun H' c' h1 h2 h3 => .room hlo (by omega) h2 (by omega)⟩
  | @full id len _ _ hlo hhi ho hlen =>
    have : len = n := Nat.eq_of_mul_eq_mul_right hsz (by omega)
    subst this
    exact ⟨id, rfl, hlo, hhi, by rw [aindexAddrS_slice ⟨by omega, by omega⟩]; simp, ho, fun H' c' h1 h2 h3 => .full hlo (by omega) h2 (by omega)⟩
theorem splice_ints {L : List Int} {p : Nat} {x : Int} (h : p < L.length) : splice (ints L) p [.int .i64 x] = ints (L.set p x) := by
  rw [splice_one (by rw [ints_length]; exact h)]
  simp [ints, List.map_set]
section
variable {a0 a1 a2 a3 a4 a5 ne na : Nat} {H : AHeap} {ew rv av uv dv : AVal} {LE R LA : List Int} {us ds : List AVal} {up down : List (List Int)} {n : Int}
theorem Sp.M (h : Sp a0 a1 a2 a3 a4 a5 H ew rv av uv dv LE R LA us ds up down) {M : Nat → Prop} {H' : AHeap} (hk : Keep M H H') (hM : ∀ j, M j → j < a0 ∨ a5 ≤ j) : Sp a0 a1 a2 a3 a4 a5 H' ew rv av uv dv LE R LA us ds up down := by
  have o := h.o
  have nm : ∀ j, a0 ≤ j → j < a5 → ¬ M j := fun j h1 h2 hm => by have := hM j hm; omega
  exact ⟨h.er.keepM hk (fun j hj => nm j (by have := h.ei j hj; omega) (by have := h.ei j hj; omega)), h.ei, h.rr.keepM hk (fun j hj => nm j (by have := h.ri j hj; omega) (by have := h.ri j hj; omega)), h.ri, h.ar.keepM hk (fun j hj => nm j (by have := h.ai j hj; omega) (by have := h.ai j hj; omega)), h.ai,
    h.ur.M hk (fun j h1 h2 => nm j (by omega) (by omega)), h.dr.M hk (fun j h1 h2 => nm j (by omega) (by omega)), by have := hk.next; omega⟩
theorem Sp.kept (h : Sp a0 a1 a2 a3 a4 a5 H ew rv av uv dv LE R LA us ds up down) {H' : AHeap} (hk : Keep Nothing H H') : Sp a0 a1 a2 a3 a4 a5 H' ew rv av uv dv LE R LA us ds up down := h.M hk (fun _ h => h.elim)
theorem Sp.end (h : Sp a0 a1 a2 a3 a4 a5 H ew rv av uv dv LE R LA us ds up down) (hle : LE.length = 4 * ne) (hla : LA.length = 7 * na) : ∃ y : Idx, y.n = n ∧ y.rank = R ∧ y.up = up ∧ y.down = down ∧ IdxFrom a0 H ew rv av uv dv y := by
  have o := h.o
  exact idx_of ⟨h.er.row, fun j hj => by have := h.ei j hj; omega⟩ hle ⟨h.rr.row, fun j hj => by have := h.ri j hj; omega⟩ ⟨h.ar.row, fun j hj => by have := h.ai j hj; omega⟩ hla (h.ur.from (by omega)) (h.dr.from (by omega))
theorem Sp.endR (h : Sp a0 a1 a2 a3 a4 a5 H ew rv av uv dv LE R LA us ds up down) (hle : LE.length = 4 * ne) (hla : LA.length = 7 * na) {H' : AHeap} {rv' : AVal} {R' : List Int} (hk : Keep (fun j => a0 ≤ j ∧ j < a1) H H') (hr : From a0 H' rv' 1 (ints R')) : ∃ y : Idx, y.n = n ∧ y.rank = R' ∧ y.up = up ∧ y.down = down ∧ IdxFrom a0 H' ew rv' av uv dv y := by
  have o := h.o
  exact idx_of ⟨(h.er.keepM hk (fun j hj e => by have := h.ei j hj; omega)).row, fun j hj => by have := h.ei j hj; omega⟩ hle hr ⟨(h.ar.keepM hk (fun j hj e => by have := h.ai j hj; omega)).row, fun j hj => by have := h.ai j hj; omega⟩ hla ((h.ur.M hk (fun j h1 h2 e => by omega)).from (by omega)) ((h.dr.M hk (fun j h1 h2 e => by omega)).from (by omega))
theorem Sp.endA (h : Sp a0 a1 a2 a3 a4 a5 H ew rv av uv dv LE R LA us ds up down) (hle : LE.length = 4 * ne) {H' : AHeap} {av' : AVal} {LA' : List Int} {na' : Nat} (hla : LA'.length = 7 * na') (hk : Keep (fun j => a1 ≤ j ∧ j < a2) H H') (hr : From a0 H' av' 7 (ints LA')) : ∃ y : Idx, y.n = n ∧ y.rank = R ∧ y.up = up ∧ y.down = down ∧ IdxFrom a0 H' ew rv av' uv dv y := by
  have o := h.o
  exact idx_of ⟨(h.er.keepM hk (fun j hj e => by have := h.ei j hj; omega)).row, fun j hj => by have := h.ei j hj; omega⟩ hle ⟨(h.rr.keepM hk (fun j hj e => by have := h.ri j hj; omega)).row, fun j hj => by have := h.ri j hj; omega⟩ hr hla ((h.ur.M hk (fun j h1 h2 e => by omega)).from (by omega)) ((h.dr.M hk (fun j h1 h2 e => by omega)).from (by omega))
theorem Sp.endE (h : Sp a0 a1 a2 a3 a4 a5 H ew rv av uv dv LE R LA us ds up down) (hla : LA.length = 7 * na) {H' : AHeap} {LE' : List Int} (hle : LE'.length = 4 * ne) (hk : Keep (fun j => a4 ≤ j ∧ j < a5) H H') (hr : From a0 H' ew 4 (ints LE')) : ∃ y : Idx, y.n = n ∧ y.rank = R ∧ y.up = up ∧ y.down = down ∧ IdxFrom a0 H' ew rv av uv dv y := by
  have o := h.o
  exact idx_of hr hle ⟨(h.rr.keepM hk (fun j hj e => by have := h.ri j hj; omega)).row, fun j hj => by have := h.ri j hj; omega⟩ ⟨(h.ar.keepM hk (fun j hj e => by have := h.ai j hj; omega)).row, fun j hj => by have := h.ai j hj; omega⟩ hla ((h.ur.M hk (fun j h1 h2 e => by omega)).from (by omega)) ((h.dr.M hk (fun j h1 h2 e => by omega)).from (by omega))
theorem Sp.endU (h : Sp a0 a1 a2 a3 a4 a5 H ew rv av uv dv LE R LA us ds up down) (hle : LE.length = 4 * ne) (hla : LA.length = 7 * na) {H' : AHeap} {uv' : AVal} {up' : List (List Int)} (hk : Keep (fun j => a2 ≤ j ∧ j < a3) H H') (hr : FromRows a0 H' uv' up') : ∃ y : Idx, y.n = n ∧ y.rank = R ∧ y.up = up' ∧ y.down = down ∧ IdxFrom a0 H' ew rv av uv' dv y := by
  have o := h.o
  exact idx_of ⟨(h.er.keepM hk (fun j hj e => by have := h.ei j hj; omega)).row, fun j hj => by have := h.ei j hj; omega⟩ hle ⟨(h.rr.keepM hk (fun j hj e => by have := h.ri j hj; omega)).row, fun j hj => by have := h.ri j hj; omega⟩ ⟨(h.ar.keepM hk (fun j hj e => by have := h.ai j hj; omega)).row, fun j hj => by have := h.ai j hj; omega⟩ hla hr ((h.dr.M hk (fun j h1 h2 e => by omega)).from (by omega))
theorem Sp.endD (h : Sp a0 a1 a2 a3 a4 a5 H ew rv av uv dv LE R LA us ds up down) (hle : LE.length = 4 * ne) (hla : LA.length = 7 * na) {H' : AHeap} {dv' : AVal} {down' : List (List Int)} (hk : Keep (fun j => a3 ≤ j ∧ j < a4) H H') (hr : FromRows a0 H' dv' down') : ∃ y : Idx, y.n = n ∧ y.rank = R ∧ y.up = up ∧ y.down = down' ∧ IdxFrom a0 H' ew rv av uv dv' y := by
  have o := h.o
  exact idx_of ⟨(h.er.keepM hk (fun j hj e => by have := h.ei j hj; omega)).row, fun j hj => by have := h.ei j hj; omega⟩ hle ⟨(h.rr.keepM hk (fun j hj e => by have := h.ri j hj; omega)).row, fun j hj => by have := h.ri j hj; omega⟩ ⟨(h.ar.keepM hk (fun j hj e => by have := h.ai j hj; omega)).row, fun j hj => by have := h.ai j hj; omega⟩ hla ((h.ur.M hk (fun j h1 h2 e => by omega)).from (by omega)) hr
end
theorem OwnRows.put {a b lo : Nat} {H H' : AHeap} {M : Nat → Prop} {av r' : AVal} {us : List AVal} {ul : List (List Int)} (h : OwnRows a b H av us ul) (hlo : lo ≤ a) {k : Nat} {l' : List Int} {r : AVal} (hr : us[k]? = some r)
    (hk : Keep M H H') (hM : ∀ j, M j → sid r = some j ∨ sid av = some j) (ho : Own a H' av 1 (us.set k r')) (hn : Row H' r' 1 (ints l')) (hs : ∀ j, sid r' = some j → lo ≤ j) : FromRows lo H' av (ul.set k l') := by
  refine ⟨us.set k r', ⟨ho.row, fun j hj => by have := (h.inA j hj).1; omega⟩, by simp [h.len], fun i r1 l1 e1 e2 => ?_⟩
  by_cases hik : k = i
  · subst hik
    have h1 : k < us.length := (List.getElem?_eq_some_iff.1 hr).1
    rw [List.getElem?_set, if_pos rfl, if_pos h1] at e1
    rw [List.getElem?_set, if_pos rfl, if_pos (by rw [← h.len]; exact h1)] at e2
    injection e1 with e1; injection e2 with e2
    subst e1; subst e2
    exact ⟨hn, hs⟩
  · rw [List.getElem?_set, if_neg hik] at e1 e2
    refine ⟨((h.rows i r1 l1 e1 e2).keepM hk (fun j hj hm => ?_)).row, fun j hj => by have := (h.inR i r1 e1 j hj).1; omega⟩
    rcases hM j hm with h1 | h1
    · exact hik (h.two k i r r1 j hr e1 h1 hj)
    · exact h.apart i r1 j e1 hj h1
end Go.Proofs.Ytknhlpmmalcchaa
