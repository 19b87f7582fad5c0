/- Steps of the walk. -/
import Derived.Test.YtknhlpmmalcchaaI10Td
import Derived.Test.YtknhlpmmalcchaaI10Tb
import Derived.KernelRfl
set_option linter.all false
set_option linter.unusedVariables false
set_option linter.unusedSimpArgs false
namespace Go.Proofs.Ytknhlpmmalcchaa
open Go Go.VAI
set_option linter.unusedSimpArgs false

theorem own_notNil {lo : Nat} {H : AHeap} {v : AVal} {cs : List AVal} (h : Own lo H v 1 cs) (hc : cs ≠ []) : abin .eql .nilS v .nilSlice = some (.bool false) := by
  cases h with
  | nil => exact absurd rfl hc
  | room => rfl
  | full => rfl
theorem take_snoc {l : List Int} {i : Nat} {x : Int} (h : l[i]? = some x) : l.take (i + 1) = l.take i ++ [x] := by
  obtain ⟨h1, h2⟩ := List.getElem?_eq_some_iff.1 h
  rw [List.take_succ_eq_append_getElem h1, h2]
structure LongAt (H0 H : AHeap) (n : Int) (ew rv av uv dv ov : AVal) (es : List Edge) (arcs : List Arc) (i : Nat) : Prop where
  keep : Keep Nothing H0 H
  lt : H0.next < H.next
  box : H.obj H0.next = some (.cells [.int .i64 n, ew, rv, av, uv, dv] true)
  own : Own (H0.next + 1) H ov 1 (ints ((sizesOf arcs).take i))
theorem LongAt.kept {H0 H H' : AHeap} {n : Int} {ew rv av uv dv ov : AVal} {es : List Edge} {arcs : List Arc} {i : Nat} (h : LongAt H0 H n ew rv av uv dv ov es arcs i) (hk : Keep Nothing H H') : LongAt H0 H' n ew rv av uv dv ov es arcs i :=
  ⟨h.keep.trans hk, by have := h.lt; have := hk.next; omega, by rw [hk.old h.lt]; exact h.box, h.own.kept hk⟩
set_option maxRecDepth 20000 in
set_option maxHeartbeats 8000000 in
theorem reflong_ret {n : Int} {ew rv av uv dv : AVal} {es : List Edge} {arcs : List Arc} {H : AHeap} {Q : AVal → AHeap → Prop} (hnet : NetOk n es) (he : Row H ew 4 (edgeCells es)) (hr : Row H av 7 (arcCells arcs)) (hlen : arcs.length ≤ 1000000)
    (hq0 : ¬ ArcsOk es arcs → ∀ H', Keep Nothing H H' → Q .nilSlice H') (hq1 : ArcsOk es arcs → ∀ v' H', Keep Nothing H H' → Own (H.next + 1) H' v' 1 (ints (sizesOf arcs)) → Q v' H') (hx : AVal.beq (.agg [.int .i64 n, ew, rv, av, uv, dv]) (.agg [.int .i64 n, ew, rv, av, uv, dv]) = true) : Ret A 78 [.agg [.int .i64 n, ew, rv, av, uv, dv]] H Q := by
  refine Ret.of (fn := F78) rfl ?_
  have hl := hr.len (by omega) (arcCells_length arcs)
  have hsl := sizesOf_length _ arcs rfl
  have bav : AVal.beq av av = true := hr.beq
  simp (disch := first | omega | (simp only [nx] <;> omega) | fail) only [vaw, F78, Nat.reduceAdd, Nat.reduceMul, Nat.reduceLeDiff, Nat.reduceEqDiff, ↓reduceIte]
  refine wpx_loop (fun m t H' => ∃ (i : Nat) (ov : AVal), m = arcs.length - i ∧ i ≤ arcs.length ∧ t = (bots 1 (.ptr H.next 0 :: bots 1 (ov :: .int .i64 i :: bots 160 ([]))) : Tmps) ∧ LongAt H H' n ew rv av uv dv ov es arcs i ∧ (∀ (j : Nat) a, j < i → arcs[j]? = some a → ArcOk es arcs j a) ∧ ∀ j : Nat, j < i → (sizesOf arcs).getD j 0 ≤ 1000) arcs.length ?_ ?_
  · exact ⟨0, .nilSlice, rfl, by omega, rfl, ⟨(Keep.refl _ _).new _, (by first | omega | (simp only [next_new, next_upd]; omega)), obj_new_eq rfl, by simpa [ints] using Own.nil⟩, fun j a hj => by omega, fun j hj => by omega⟩
  · rintro m t H1 ⟨i, ov, rfl, hi, rfl, L1, hok, hsz⟩
    by_cases hc : (i : Int) < arcs.length
    · have hil : i < arcs.length := by omega
      have ha : arcs[i]? = some arcs[i] := by simp [hil]
      obtain ⟨id, off, e1, e2, e3, e4⟩ := arc_at (hr.kept L1.keep) ha
      have hat := fun h => sizesOf_at ha h
      have hbd : ArcsOk es arcs → ((0 ≤ arcs[i].src ∧ arcs[i].src < n) ∧ (0 ≤ arcs[i].dst ∧ arcs[i].dst < n)) ∧ (0 ≤ arcs[i].mode ∧ arcs[i].mode < 5) ∧ (0 ≤ arcs[i].cost ∧ arcs[i].cost ≤ 4398046511104) := fun h => ⟨arc_ends hnet h.1 (i + 1) i _ (by omega) ha, arc_mode hnet h.1 (i + 1) i _ (by omega) ha, (h.1 i _ ha).1⟩
      have hthis : ArcsOk es arcs → ArcOk es arcs i arcs[i] := fun h => h.1 i _ ha
      generalize arcs[i] = a at *
      simp only [Arc.cells] at e4
      have o1 := L1.box
      simp (disch := first | omega | (simp only [nx] <;> omega) | fail) only [vaw, o1, hl, hc, e1, e4, Nat.reduceAdd, Nat.reduceMul, Nat.reduceLeDiff, Nat.reduceEqDiff, ↓reduceIte]
      have k2 : Keep Nothing H1 ((H1.new (.cells [.int .i64 0, .int .i64 0, .int .i64 0, .int .i64 0, .int .i64 0, .int .i64 0, .int .i64 0] true)).upd H1.next (some (.cells [.int .i64 a.src, .int .i64 a.dst, .int .i64 a.mode, .int .i64 a.cost, .int .i64 a.edge, .int .i64 a.a, .int .i64 a.b] true))) := ((Keep.refl _ _).new _).upd (.inl (Nat.le_refl _)) _
      have q2 : ((H1.new (.cells [.int .i64 0, .int .i64 0, .int .i64 0, .int .i64 0, .int .i64 0, .int .i64 0, .int .i64 0] true)).upd H1.next (some (.cells [.int .i64 a.src, .int .i64 a.dst, .int .i64 a.mode, .int .i64 a.cost, .int .i64 a.edge, .int .i64 a.a, .int .i64 a.b] true))).obj H1.next = some (.cells [.int .i64 a.src, .int .i64 a.dst, .int .i64 a.mode, .int .i64 a.cost, .int .i64 a.edge, .int .i64 a.a, .int .i64 a.b] true) := obj_upd_eq rfl
      have n2 : H1.next < ((H1.new (.cells [.int .i64 0, .int .i64 0, .int .i64 0, .int .i64 0, .int .i64 0, .int .i64 0, .int .i64 0] true)).upd H1.next (some (.cells [.int .i64 a.src, .int .i64 a.dst, .int .i64 a.mode, .int .i64 a.cost, .int .i64 a.edge, .int .i64 a.a, .int .i64 a.b] true))).next := (by first | omega | (simp only [next_new, next_upd]; omega))
      have L2 := L1.kept k2
      have hlt1 := L1.lt
      generalize (H1.new (.cells [.int .i64 0, .int .i64 0, .int .i64 0, .int .i64 0, .int .i64 0, .int .i64 0, .int .i64 0] true)).upd H1.next (some (.cells [.int .i64 a.src, .int .i64 a.dst, .int .i64 a.mode, .int .i64 a.cost, .int .i64 a.edge, .int .i64 a.a, .int .i64 a.b] true)) = H2 at *
      generalize H1.next = y at *
      have o2 := L2.box
      by_cases c1 : a.src < 0
      · simp (disch := first | omega | (simp only [nx] <;> omega) | fail) only [vaw, q2, o2, c1, Nat.reduceAdd, Nat.reduceMul, Nat.reduceLeDiff, Nat.reduceEqDiff, ↓reduceIte]
        exact hq0 (fun h => by have := hbd h; omega) _ L2.keep
      by_cases c2 : n ≤ a.src
      · simp (disch := first | omega | (simp only [nx] <;> omega) | fail) only [vaw, q2, o2, c1, c2, Nat.reduceAdd, Nat.reduceMul, Nat.reduceLeDiff, Nat.reduceEqDiff, ↓reduceIte]
        exact hq0 (fun h => by have := hbd h; omega) _ L2.keep
      by_cases c3 : a.dst < 0
      · simp (disch := first | omega | (simp only [nx] <;> omega) | fail) only [vaw, q2, o2, c1, c2, c3, Nat.reduceAdd, Nat.reduceMul, Nat.reduceLeDiff, Nat.reduceEqDiff, ↓reduceIte]
        exact hq0 (fun h => by have := hbd h; omega) _ L2.keep
      by_cases c4 : n ≤ a.dst
      · simp (disch := first | omega | (simp only [nx] <;> omega) | fail) only [vaw, q2, o2, c1, c2, c3, c4, Nat.reduceAdd, Nat.reduceMul, Nat.reduceLeDiff, Nat.reduceEqDiff, ↓reduceIte]
        exact hq0 (fun h => by have := hbd h; omega) _ L2.keep
      by_cases c5 : a.mode < 0
      · simp (disch := first | omega | (simp only [nx] <;> omega) | fail) only [vaw, q2, o2, c1, c2, c3, c4, c5, Nat.reduceAdd, Nat.reduceMul, Nat.reduceLeDiff, Nat.reduceEqDiff, ↓reduceIte]
        exact hq0 (fun h => by have := hbd h; omega) _ L2.keep
      by_cases c6 : 5 ≤ a.mode
      · simp (disch := first | omega | (simp only [nx] <;> omega) | fail) only [vaw, q2, o2, c1, c2, c3, c4, c5, c6, Nat.reduceAdd, Nat.reduceMul, Nat.reduceLeDiff, Nat.reduceEqDiff, ↓reduceIte]
        exact hq0 (fun h => by have := hbd h; omega) _ L2.keep
      by_cases c7 : a.cost < 0
      · simp (disch := first | omega | (simp only [nx] <;> omega) | fail) only [vaw, q2, o2, c1, c2, c3, c4, c5, c6, c7, Nat.reduceAdd, Nat.reduceMul, Nat.reduceLeDiff, Nat.reduceEqDiff, ↓reduceIte]
        exact hq0 (fun h => by have := hbd h; omega) _ L2.keep
      by_cases c8 : 4398046511104 < a.cost
      · simp (disch := first | omega | (simp only [nx] <;> omega) | fail) only [vaw, q2, o2, c1, c2, c3, c4, c5, c6, c7, c8, Nat.reduceAdd, Nat.reduceMul, Nat.reduceLeDiff, Nat.reduceEqDiff, ↓reduceIte]
        exact hq0 (fun h => by have := hbd h; omega) _ L2.keep
      simp (disch := first | omega | (simp only [nx] <;> omega) | fail) only [vaw, q2, o2, c1, c2, c3, c4, c5, c6, c7, c8, Nat.reduceAdd, Nat.reduceMul, Nat.reduceLeDiff, Nat.reduceEqDiff, ↓reduceIte]
      refine condK_cut (fun t H' => ∃ k : Int, t = bots 1 (.ptr H.next 0 :: .bot :: ov :: .int .i64 i :: .bot :: .int .i64 k :: bots 158 []) ∧ LongAt H H' n ew rv av uv dv ov es arcs i ∧ (sizesOf arcs)[i]? = some k ∧ ArcOk es arcs i a ∧ 0 ≤ k ∧ k ≤ 2000) ?_ ?_
      · refine condK_split (fun h1 => ?_) (fun h1 => ?_)
        · have noTwo : ¬ IsTwo arcs i a → ¬ ArcsOk es arcs := fun h g => by
            rcases (hthis g).2 with h2 | h2
            · have := h2.1; omega
            · exact h h2
          by_cases h2 : a.a < 0
          · simp (disch := first | omega | (simp only [nx] <;> omega) | fail) only [vaw, q2, o2, h2, Nat.reduceAdd, Nat.reduceMul, Nat.reduceLeDiff, Nat.reduceEqDiff, ↓reduceIte]
            exact hq0 (noTwo fun h => by have := h.2.1; omega) _ L2.keep
          by_cases h3 : (i : Int) ≤ a.a
          · simp (disch := first | omega | (simp only [nx] <;> omega) | fail) only [vaw, q2, o2, h2, h3, Nat.reduceAdd, Nat.reduceMul, Nat.reduceLeDiff, Nat.reduceEqDiff, ↓reduceIte]
            exact hq0 (noTwo fun h => by have := h.2.2.1; omega) _ L2.keep
          by_cases h4 : a.b < 0
          · simp (disch := first | omega | (simp only [nx] <;> omega) | fail) only [vaw, q2, o2, h2, h3, h4, Nat.reduceAdd, Nat.reduceMul, Nat.reduceLeDiff, Nat.reduceEqDiff, ↓reduceIte]
            exact hq0 (noTwo fun h => by have := h.2.2.2.1; omega) _ L2.keep
          by_cases h5 : (i : Int) ≤ a.b
          · simp (disch := first | omega | (simp only [nx] <;> omega) | fail) only [vaw, q2, o2, h2, h3, h4, h5, Nat.reduceAdd, Nat.reduceMul, Nat.reduceLeDiff, Nat.reduceEqDiff, ↓reduceIte]
            exact hq0 (noTwo fun h => by have := h.2.2.2.2.1; omega) _ L2.keep
          have hpa : a.a.toNat < arcs.length := by omega
          have hpb : a.b.toNat < arcs.length := by omega
          have hp : arcs[a.a.toNat]? = some arcs[a.a.toNat] := by simp [hpa]
          have hqq : arcs[a.b.toNat]? = some arcs[a.b.toNat] := by simp [hpb]
          have bp := (hok _ _ (by omega) hp).1
          have bq := (hok _ _ (by omega) hqq).1
          generalize arcs[a.a.toNat] = p at *
          generalize arcs[a.b.toNat] = q at *
          have key : IsTwo arcs i a ↔ (p.mode = a.mode ∧ q.mode = a.mode ∧ p.src = a.src ∧ p.dst = q.src ∧ q.dst = a.dst ∧ p.cost + q.cost = a.cost) := by
            unfold IsTwo
            rw [hp, hqq]
            constructor
            · rintro ⟨_, _, _, _, _, p', q', g1, g2, g3⟩
              injection g1 with g1; injection g2 with g2
              subst g1; subst g2; exact ⟨g3.1, g3.2.1, g3.2.2.1, g3.2.2.2.1, g3.2.2.2.2.1, g3.2.2.2.2.2.symm⟩
            · intro g
              exact ⟨h1, by omega, by omega, by omega, by omega, p, q, rfl, rfl, g.1, g.2.1, g.2.2.1, g.2.2.2.1, g.2.2.2.2.1, g.2.2.2.2.2.symm⟩
          obtain ⟨ip, op, p1, p2, p3, p4⟩ := arc_at (hr.kept L2.keep) hp
          obtain ⟨iq, oq, q1, q5, q3, q4⟩ := arc_at (hr.kept L2.keep) hqq
          rw [Int.toNat_of_nonneg (by omega)] at p1 q1
          simp only [Arc.cells] at p4 q4
          have hbp : AVal.beq (.agg [.int .i64 q.src, .int .i64 q.dst, .int .i64 q.mode, .int .i64 q.cost, .int .i64 q.edge, .int .i64 q.a, .int .i64 q.b]) (.agg [.int .i64 q.src, .int .i64 q.dst, .int .i64 q.mode, .int .i64 q.cost, .int .i64 q.edge, .int .i64 q.a, .int .i64 q.b]) = true := by simp [AVal.beq, AVal.beqs]
          have z7 : Keep Nothing H2 ((((H2.new (.cells [.int .i64 0, .int .i64 0, .int .i64 0, .int .i64 0, .int .i64 0, .int .i64 0, .int .i64 0] true)).new (.cells [.int .i64 0, .int .i64 0, .int .i64 0, .int .i64 0, .int .i64 0, .int .i64 0, .int .i64 0] true)).upd H2.next (some (.cells [.int .i64 p.src, .int .i64 p.dst, .int .i64 p.mode, .int .i64 p.cost, .int .i64 p.edge, .int .i64 p.a, .int .i64 p.b] true))).upd (H2.next + 1) (some (.cells [.int .i64 q.src, .int .i64 q.dst, .int .i64 q.mode, .int .i64 q.cost, .int .i64 q.edge, .int .i64 q.a, .int .i64 q.b] true))) := ((((Keep.refl _ _).new _).new _).upd (.inl (by omega)) _).upd (.inl (by omega)) _
          have w1 : ((((H2.new (.cells [.int .i64 0, .int .i64 0, .int .i64 0, .int .i64 0, .int .i64 0, .int .i64 0, .int .i64 0] true)).new (.cells [.int .i64 0, .int .i64 0, .int .i64 0, .int .i64 0, .int .i64 0, .int .i64 0, .int .i64 0] true)).upd H2.next (some (.cells [.int .i64 p.src, .int .i64 p.dst, .int .i64 p.mode, .int .i64 p.cost, .int .i64 p.edge, .int .i64 p.a, .int .i64 p.b] true))).upd (H2.next + 1) (some (.cells [.int .i64 q.src, .int .i64 q.dst, .int .i64 q.mode, .int .i64 q.cost, .int .i64 q.edge, .int .i64 q.a, .int .i64 q.b] true))).obj H2.next = some (.cells [.int .i64 p.src, .int .i64 p.dst, .int .i64 p.mode, .int .i64 p.cost, .int .i64 p.edge, .int .i64 p.a, .int .i64 p.b] true) := by simp (disch := first | omega | (simp only [nx] <;> omega) | fail) only [vaim]
          have w2 : ((((H2.new (.cells [.int .i64 0, .int .i64 0, .int .i64 0, .int .i64 0, .int .i64 0, .int .i64 0, .int .i64 0] true)).new (.cells [.int .i64 0, .int .i64 0, .int .i64 0, .int .i64 0, .int .i64 0, .int .i64 0, .int .i64 0] true)).upd H2.next (some (.cells [.int .i64 p.src, .int .i64 p.dst, .int .i64 p.mode, .int .i64 p.cost, .int .i64 p.edge, .int .i64 p.a, .int .i64 p.b] true))).upd (H2.next + 1) (some (.cells [.int .i64 q.src, .int .i64 q.dst, .int .i64 q.mode, .int .i64 q.cost, .int .i64 q.edge, .int .i64 q.a, .int .i64 q.b] true))).obj (H2.next + 1) = some (.cells [.int .i64 q.src, .int .i64 q.dst, .int .i64 q.mode, .int .i64 q.cost, .int .i64 q.edge, .int .i64 q.a, .int .i64 q.b] true) := by simp (disch := first | omega | (simp only [nx] <;> omega) | fail) only [vaim]
          have w3 := (z7.old n2).trans q2
          have L3 := L2.kept z7
          simp (disch := first | omega | (simp only [nx] <;> omega) | fail) only [vaw, q2, o2, h2, h3, h4, h5, p1, p4, q1, q4, reK_same bav, reK_same hbp, Nat.reduceAdd, Nat.reduceMul, Nat.reduceLeDiff, Nat.reduceEqDiff, ↓reduceIte]
          generalize ((((H2.new (.cells [.int .i64 0, .int .i64 0, .int .i64 0, .int .i64 0, .int .i64 0, .int .i64 0, .int .i64 0] true)).new (.cells [.int .i64 0, .int .i64 0, .int .i64 0, .int .i64 0, .int .i64 0, .int .i64 0, .int .i64 0] true)).upd H2.next (some (.cells [.int .i64 p.src, .int .i64 p.dst, .int .i64 p.mode, .int .i64 p.cost, .int .i64 p.edge, .int .i64 p.a, .int .i64 p.b] true))).upd (H2.next + 1) (some (.cells [.int .i64 q.src, .int .i64 q.dst, .int .i64 q.mode, .int .i64 q.cost, .int .i64 q.edge, .int .i64 q.a, .int .i64 q.b] true))) = H3 at *
          by_cases g1 : p.mode = a.mode
          · by_cases g2 : q.mode = a.mode
            · by_cases g3 : p.src = a.src
              · by_cases g4 : p.dst = q.src
                · by_cases g5 : q.dst = a.dst
                  · by_cases g6 : p.cost + q.cost = a.cost
                    · have hT : IsTwo arcs i a := key.2 ⟨g1, g2, g3, g4, g5, g6⟩
                      have hv : (sizesOf arcs)[i]? = some ((sizesOf arcs).getD a.a.toNat 0 + (sizesOf arcs).getD a.b.toNat 0) := by
                        rw [hat (fun _ => ⟨by omega, by omega, by omega, by omega⟩), if_pos h1]
                      have ba := hsz a.a.toNat (by omega)
                      have bb := hsz a.b.toNat (by omega)
                      have pa := sizes_pos (m := i) (fun j p hj hp => hok j p hj hp) i a.a.toNat (by omega) (by omega) (by omega)
                      have pb := sizes_pos (m := i) (fun j p hj hp => hok j p hj hp) i a.b.toNat (by omega) (by omega) (by omega)
                      have ga : ((sizesOf arcs).take i)[a.a.toNat]? = some ((sizesOf arcs).getD a.a.toNat 0) := by
                        rw [List.getElem?_take, if_pos (by omega), List.getD_eq_getElem?_getD, List.getElem?_eq_getElem (by omega)]; rfl
                      have gb : ((sizesOf arcs).take i)[a.b.toNat]? = some ((sizesOf arcs).getD a.b.toNat 0) := by
                        rw [List.getElem?_take, if_pos (by omega), List.getD_eq_getElem?_getD, List.getElem?_eq_getElem (by omega)]; rfl
                      obtain ⟨ia, oa, a1, a2, a3⟩ := L3.own.row.int_at (k := .i64) ga
                      obtain ⟨ib, ob, b1, b2, b3⟩ := L3.own.row.int_at (k := .i64) gb
                      rw [Int.toNat_of_nonneg (by omega)] at a1 b1
                      generalize (sizesOf arcs).getD a.a.toNat 0 = sa at *
                      generalize (sizesOf arcs).getD a.b.toNat 0 = sb at *
                      simp (disch := first | omega | (simp only [nx] <;> omega) | fail) only [vaw, g1, g2, g3, g4, g5, g6, ne_eq, not_true_eq_false, w1, w2, w3, a1, a3, b1, b3, vaij, Nat.reduceAdd, Nat.reduceMul, Nat.reduceLeDiff, Nat.reduceEqDiff, ↓reduceIte]
                      exact ⟨sa + sb, rfl, L3, hv, ⟨⟨by omega, by omega⟩, .inr hT⟩, by omega, by omega⟩
                    · simp (disch := first | omega | (simp only [nx] <;> omega) | fail) only [vaw, g1, g2, g3, g4, g5, g6, ne_eq, not_true_eq_false, not_false_eq_true, w1, w2, w3, Nat.reduceAdd, Nat.reduceMul, Nat.reduceLeDiff, Nat.reduceEqDiff, ↓reduceIte]
                      exact hq0 (noTwo fun h => g6 (key.1 h).2.2.2.2.2) _ L3.keep
                  · simp (disch := first | omega | (simp only [nx] <;> omega) | fail) only [vaw, g1, g2, g3, g4, g5, ne_eq, not_true_eq_false, not_false_eq_true, w1, w2, w3, Nat.reduceAdd, Nat.reduceMul, Nat.reduceLeDiff, Nat.reduceEqDiff, ↓reduceIte]
                    exact hq0 (noTwo fun h => g5 (key.1 h).2.2.2.2.1) _ L3.keep
                · simp (disch := first | omega | (simp only [nx] <;> omega) | fail) only [vaw, g1, g2, g3, g4, ne_eq, not_true_eq_false, not_false_eq_true, w1, w2, w3, Nat.reduceAdd, Nat.reduceMul, Nat.reduceLeDiff, Nat.reduceEqDiff, ↓reduceIte]
                  exact hq0 (noTwo fun h => g4 (key.1 h).2.2.2.1) _ L3.keep
              · simp (disch := first | omega | (simp only [nx] <;> omega) | fail) only [vaw, g1, g2, g3, ne_eq, not_true_eq_false, not_false_eq_true, w1, w2, w3, Nat.reduceAdd, Nat.reduceMul, Nat.reduceLeDiff, Nat.reduceEqDiff, ↓reduceIte]
                exact hq0 (noTwo fun h => g3 (key.1 h).2.2.1) _ L3.keep
            · simp (disch := first | omega | (simp only [nx] <;> omega) | fail) only [vaw, g1, g2, ne_eq, not_true_eq_false, not_false_eq_true, w1, w2, w3, Nat.reduceAdd, Nat.reduceMul, Nat.reduceLeDiff, Nat.reduceEqDiff, ↓reduceIte]
              exact hq0 (noTwo fun h => g2 (key.1 h).2.1) _ L3.keep
          · simp (disch := first | omega | (simp only [nx] <;> omega) | fail) only [vaw, g1, ne_eq, not_true_eq_false, not_false_eq_true, w1, w2, w3, Nat.reduceAdd, Nat.reduceMul, Nat.reduceLeDiff, Nat.reduceEqDiff, ↓reduceIte]
            exact hq0 (noTwo fun h => g1 (key.1 h).1) _ L3.keep
        · simp (disch := first | omega | (simp only [nx] <;> omega) | fail) only [vaw, q2, o2, Nat.reduceAdd, Nat.reduceMul, Nat.reduceLeDiff, Nat.reduceEqDiff, ↓reduceIte]
          refine refedge_ret (a := a) (he.kept L2.keep) fun b H3 k3 s3 => ?_
          have L3 := L2.kept k3
          cases b with
          | false =>
            simp (disch := first | omega | (simp only [nx] <;> omega) | fail) only [vaw, Nat.reduceAdd, Nat.reduceMul, Nat.reduceLeDiff, Nat.reduceEqDiff, ↓reduceIte]
            refine hq0 (fun g => ?_) _ L3.keep
            rcases (hthis g).2 with h2 | h2
            · have := s3.2 h2; cases this
            · exact h1 h2.1
          | true =>
            have hE := s3.1 rfl
            simp (disch := first | omega | (simp only [nx] <;> omega) | fail) only [vaw, vaij, Nat.reduceAdd, Nat.reduceMul, Nat.reduceLeDiff, Nat.reduceEqDiff, ↓reduceIte]
            refine ⟨1, rfl, L3, ?_, ⟨⟨by omega, by omega⟩, .inl hE⟩, by omega, by omega⟩
            rw [hat (fun he => absurd he h1), if_neg h1]
      · rintro t H3 ⟨k, rfl, L3, hk, hokA, hk0, hk2⟩
        have hgd : (sizesOf arcs).getD i 0 = k := getD_of hk
        by_cases d3 : 1000 < k
        · simp (disch := first | omega | (simp only [nx] <;> omega) | fail) only [vaw, d3, Nat.reduceAdd, Nat.reduceMul, Nat.reduceLeDiff, Nat.reduceEqDiff, ↓reduceIte]
          refine hq0 (fun g => ?_) _ L3.keep
          have := g.2 _ (size_mem hil)
          rw [hgd] at this; omega
        · simp (disch := first | omega | (simp only [nx] <;> omega) | fail) only [vaw, d3, Nat.reduceAdd, Nat.reduceMul, Nat.reduceLeDiff, Nat.reduceEqDiff, ↓reduceIte]
          refine app_ret (n := i) (k := 1) L3.own (y := H3.next) (by simp (disch := first | omega | (simp only [nx] <;> omega) | fail) only [vaim]; rfl) rfl (by omega) (by omega) (by rw [ints_length, List.length_take]; omega) (by omega) (by omega) ?_ (by simp only [next_new]; have := L3.lt; omega) (by first | omega | (simp only [next_new, next_upd]; omega)) (by intro j h1 h2; rw [obj_new_ne (by omega)])
          intro v' H4 n4 k4 g4 s4
          have hs := take_snoc hk
          have L4 : LongAt H H4 n ew rv av uv dv v' es arcs (i + 1) := by
            simp only [next_new] at n4 k4
            have hl3 := L3.lt
            have hn3 := L3.keep.next
            refine ⟨⟨by omega, fun j hj _ => ?_⟩, by omega, ?_, ?_⟩
            · rw [k4 j (by omega) (fun e => by have := (L3.own.sid_ge e).1; omega), obj_new_ne (by omega), L3.keep.old hj]
            · rw [k4 _ (by omega) (fun e => by have := (L3.own.sid_ge e).1; omega), obj_new_ne (by omega)]; exact L3.box
            · rw [hs, ints_append]; exact g4.own
          simp (disch := first | omega | (simp only [nx] <;> omega) | fail) only [vaw, Nat.reduceAdd, Nat.reduceMul, Nat.reduceLeDiff, Nat.reduceEqDiff, ↓reduceIte]
          refine ⟨arcs.length - (i + 1), by omega, i + 1, v', rfl, by omega, rfl, L4, ?_, ?_⟩
          · intro j p hj hp
            by_cases hji : j = i
            · subst hji
              rw [ha] at hp; injection hp with hp; subst hp
              exact hokA
            · exact hok j p (by omega) hp
          · intro j hj
            by_cases hji : j = i
            · subst hji; rw [hgd]; omega
            · exact hsz j (by omega)
    · have hi : i = arcs.length := by omega
      subst hi
      have hall : ArcsOk es arcs := by
        refine ⟨fun j a ha => hok j a (List.getElem?_eq_some_iff.1 ha).1 ha, fun s hs => ?_⟩
        obtain ⟨j, hj, e⟩ := List.getElem_of_mem hs
        have := hsz j (by omega)
        rw [List.getD_eq_getElem?_getD, List.getElem?_eq_getElem hj, e] at this
        exact this
      have o1 := L1.box
      have g1 := L1.own
      rw [List.take_of_length_le (by omega)] at g1
      have nb := g1.notBot
      simp (disch := first | omega | (simp only [nx] <;> omega) | fail) only [vaw, o1, hl, hc, nb, Nat.reduceAdd, Nat.reduceMul, Nat.reduceLeDiff, Nat.reduceEqDiff, ↓reduceIte]
      exact hq1 hall _ _ L1.keep g1
end Go.Proofs.Ytknhlpmmalcchaa

namespace Go.Proofs.Ytknhlpmmalcchaa
open Go Go.VAI
set_option linter.unusedSimpArgs false

theorem Bytes.drop' {a b : List Int} (h : Bytes (a ++ b)) : Bytes b := fun x hx => h x (by simp [hx])
theorem nbad {α : Type} {f : RS → α × RS} (hf : Reads f) {s : RS} (h : (f s).2.bad = false) : s.bad = false := by
  cases hx : s.bad with
  | false => rfl
  | true => have := hf.bad s hx; rw [h] at this; cases this
def Writes {α : Type} (f : RS → α × RS) (B : α → List Int) : Prop := ∀ s, Bytes s.left → (f s).2.bad = false → s.left = B (f s).1 ++ (f s).2.left
theorem Writes.bytes {α : Type} {f : RS → α × RS} {B : α → List Int} (h : Writes f B) {s : RS} (hb : Bytes s.left) (hn : (f s).2.bad = false) : Bytes (f s).2.left := by
  have := h s hb hn
  rw [this] at hb
  exact hb.drop'
theorem Writes.bind {α β : Type} {f : RS → α × RS} {g : α → RS → β × RS} {B : α → List Int} {C : α → β → List Int} (hf : Writes f B) (hg : ∀ a, Writes (g a) (C a)) (hr : ∀ a, Reads (g a)) : ∀ s, Bytes s.left → (andThen f g s).2.bad = false → s.left = B (f s).1 ++ (C (f s).1 (andThen f g s).1 ++ (andThen f g s).2.left) := by
  intro s hb hn
  have h1 : (f s).2.bad = false := nbad (hr _) hn
  have h2 := hf s hb h1
  have h3 := hg (f s).1 (f s).2 (hf.bytes hb h1) hn
  conv => lhs; rw [h2]
  congr 1
theorem fourOf_num {a b c d : Int} (ha : 0 ≤ a ∧ a < 256) (hb : 0 ≤ b ∧ b < 256) (hc : 0 ≤ c ∧ c < 256) (hd : 0 ≤ d ∧ d < 256) : fourOf (a * 16777216 + b * 65536 + c * 256 + d) = [a, b, c, d] := by
  generalize hv : a * 16777216 + b * 65536 + c * 256 + d = v
  have s24 : shrI .i64 v 24 = v / 16777216 := by
    show v.fdiv (2 ^ (Nat.min (24 : Int).toNat 64)) = _
    rw [show (2 ^ (Nat.min (24 : Int).toNat 64) : Int) = 16777216 from by decide, Int.fdiv_eq_ediv_of_nonneg _ (by omega)]
  have s16 : shrI .i64 v 16 = v / 65536 := by
    show v.fdiv (2 ^ (Nat.min (16 : Int).toNat 64)) = _
    rw [show (2 ^ (Nat.min (16 : Int).toNat 64) : Int) = 65536 from by decide, Int.fdiv_eq_ediv_of_nonneg _ (by omega)]
  have s8 : shrI .i64 v 8 = v / 256 := by
    show v.fdiv (2 ^ (Nat.min (8 : Int).toNat 64)) = _
    rw [show (2 ^ (Nat.min (8 : Int).toNat 64) : Int) = 256 from by decide, Int.fdiv_eq_ediv_of_nonneg _ (by omega)]
  unfold fourOf
  rw [wrap8, wrap8, wrap8, wrap8, s24, s16, s8]
  simp only [List.cons.injEq, and_true]
  omega
theorem writes_four : Writes rFour fourOf := by
  intro s hb hn
  obtain ⟨left, bad⟩ := s
  match left, hb, hn with
  | [], hb, hn => simp [rFour] at hn
  | [_], hb, hn => simp [rFour] at hn
  | [_, _], hb, hn => simp [rFour] at hn
  | [_, _, _], hb, hn => simp [rFour] at hn
  | a :: b :: c :: d :: l, hb, hn =>
    have d0 := hb a (by simp)
    have d1 := hb b (by simp)
    have d2 := hb c (by simp)
    have d3 := hb d (by simp)
    show _ = fourOf (numOf a b c d) ++ l
    rw [numOf_eq d0 d1 d2 d3, fourOf_num d0 d1 d2 d3]
    rfl
theorem writes_count (size : Nat) : Writes (rCount size) fourOf := by
  intro s hb hn
  unfold rCount at hn ⊢
  simp only at hn ⊢
  by_cases hc : (((rFour s).2.left.length / size : Nat) : Int) < (rFour s).1
  · rw [if_pos hc] at hn; cases hn
  · rw [if_neg hc] at hn ⊢
    exact writes_four s hb hn
theorem writes_rank : Writes rRank rankB := by
  intro s hb hn
  have := writes_four s hb hn
  show _ = foursOf [(rFour s).1 - 1 + 1] ++ (rFour s).2.left
  rw [Int.sub_add_cancel]
  simpa [foursOf] using this
theorem writes_edge : Writes rEdge edgeB := by
  intro s hb hn
  have n4 : (rFour (rFour (rFour (rFour s).2).2).2).2.bad = false := hn
  have n3 := nbad reads_four n4
  have n2 := nbad reads_four n3
  have n1 := nbad reads_four n2
  have e1 := writes_four s hb n1
  have b1 := writes_four.bytes hb n1
  have e2 := writes_four _ b1 n2
  have b2 := writes_four.bytes b1 n2
  have e3 := writes_four _ b2 n3
  have b3 := writes_four.bytes b2 n3
  have e4 := writes_four _ b3 n4
  show _ = foursOf [(rFour s).1, (rFour (rFour s).2).1, (rFour (rFour (rFour s).2).2).1, (rFour (rFour (rFour (rFour s).2).2).2).1] ++ (rFour (rFour (rFour (rFour s).2).2).2).2.left
  rw [foursOf_cons, foursOf_cons, foursOf_cons, foursOf_cons, foursOf_nil, ← e4, ← e3, ← e2, ← e1]
theorem hiLo {h l : Int} (hh : 0 ≤ h ∧ h < 4294967296) (hl : 0 ≤ l ∧ l < 4294967296) : orI .i64 (shlI .i64 h 32) l = IntKind.i64.wrap (h * 4294967296 + l) := by
  obtain ⟨m, rfl⟩ : ∃ m : Nat, h = m := ⟨h.toNat, by omega⟩
  obtain ⟨n, rfl⟩ : ∃ n : Nat, l = n := ⟨l.toNat, by omega⟩
  have hm : m < 4294967296 := by omega
  have hn : n < 4294967296 := by omega
  have e32 : (2 : Int) ^ (Nat.min (32 : Int).toNat IntKind.i64.bits) = 4294967296 := by decide
  unfold shlI orI
  rw [e32]
  have e64 : (2 : Int) ^ 64 = 18446744073709551616 := by decide
  have e63 : (2 : Int) ^ (64 - 1) = 9223372036854775808 := by decide
  have t1 : (BitVec.ofInt IntKind.i64.bits (IntKind.i64.wrap ((m : Int) * 4294967296))).toNat = m * 4294967296 := by
    show (BitVec.ofInt 64 (IntKind.i64.wrap ((m : Int) * 4294967296))).toNat = m * 4294967296
    rw [BitVec.toNat_ofInt]
    have : IntKind.i64.wrap ((m : Int) * 4294967296) % ((2 ^ 64 : Nat) : Int) = ((m * 4294967296 : Nat) : Int) := by
      simp only [IntKind.wrap, IntKind.bits, IntKind.signed, Bool.true_and, e64, e63, decide_eq_true_eq]
      have : ((2 ^ 64 : Nat) : Int) = 18446744073709551616 := by decide
      rw [this]
      split <;> omega
    rw [this, Int.toNat_natCast]
  have t2 : (BitVec.ofInt IntKind.i64.bits ((n : Nat) : Int)).toNat = n := by
    show (BitVec.ofInt 64 ((n : Nat) : Int)).toNat = n
    rw [BitVec.ofInt_natCast, BitVec.toNat_ofNat]
    exact Nat.mod_eq_of_lt (Nat.lt_trans hn (by decide))
  rw [BitVec.toNat_or, t1, t2]
  have e2 : m * 4294967296 ||| n = m * 4294967296 + n := by
    have := Nat.shiftLeft_add_eq_or_of_lt (i := 32) (b := n) (by simpa using hn) m
    rw [Nat.shiftLeft_eq] at this
    exact this.symm
  rw [e2]
  congr 1
theorem sh24 (z : Int) : shrI .i64 z 24 = z / 16777216 := by
  show z.fdiv (2 ^ (Nat.min (24 : Int).toNat 64)) = _
  rw [show (2 ^ (Nat.min (24 : Int).toNat 64) : Int) = 16777216 from by decide, Int.fdiv_eq_ediv_of_nonneg _ (by omega)]
theorem sh16 (z : Int) : shrI .i64 z 16 = z / 65536 := by
  show z.fdiv (2 ^ (Nat.min (16 : Int).toNat 64)) = _
  rw [show (2 ^ (Nat.min (16 : Int).toNat 64) : Int) = 65536 from by decide, Int.fdiv_eq_ediv_of_nonneg _ (by omega)]
theorem sh8 (z : Int) : shrI .i64 z 8 = z / 256 := by
  show z.fdiv (2 ^ (Nat.min (8 : Int).toNat 64)) = _
  rw [show (2 ^ (Nat.min (8 : Int).toNat 64) : Int) = 256 from by decide, Int.fdiv_eq_ediv_of_nonneg _ (by omega)]
theorem sh32 (z : Int) : shrI .i64 z 32 = z / 4294967296 := by
  show z.fdiv (2 ^ (Nat.min (32 : Int).toNat 64)) = _
  rw [show (2 ^ (Nat.min (32 : Int).toNat 64) : Int) = 4294967296 from by decide, Int.fdiv_eq_ediv_of_nonneg _ (by omega)]
theorem fourOf_div (z : Int) : fourOf z = [z / 16777216 % 256, z / 65536 % 256, z / 256 % 256, z % 256] := by
  unfold fourOf
  rw [wrap8, wrap8, wrap8, wrap8, sh24, sh16, sh8]
theorem fourOf_cong {a b k : Int} (h : a = b + 4294967296 * k) : fourOf a = fourOf b := by
  rw [fourOf_div, fourOf_div]
  have h1 : a / 16777216 % 256 = b / 16777216 % 256 := by omega
  have h2 : a / 65536 % 256 = b / 65536 % 256 := by omega
  have h3 : a / 256 % 256 = b / 256 % 256 := by omega
  have h4 : a % 256 = b % 256 := by omega
  rw [h1, h2, h3, h4]
theorem foursOf_hiLo {h l : Int} (hh : 0 ≤ h ∧ h < 4294967296) (hl : 0 ≤ l ∧ l < 4294967296) : foursOf [shrI .i64 (orI .i64 (shlI .i64 h 32) l) 32, orI .i64 (shlI .i64 h 32) l] = foursOf [h, l] := by
  rw [hiLo hh hl]
  generalize hv : IntKind.i64.wrap (h * 4294967296 + l) = v
  have e64 : (2 : Int) ^ 64 = 18446744073709551616 := by decide
  have e63 : (2 : Int) ^ (64 - 1) = 9223372036854775808 := by decide
  have hv2 : v = h * 4294967296 + l ∨ v = h * 4294967296 + l - 18446744073709551616 := by
    rw [← hv]
    simp only [IntKind.wrap, IntKind.bits, IntKind.signed, Bool.true_and, e64, e63, decide_eq_true_eq]
    split <;> omega
  rw [sh32]
  have f1 : fourOf (v / 4294967296) = fourOf h := by
    rcases hv2 with e | e
    · exact fourOf_cong (k := 0) (by omega)
    · exact fourOf_cong (k := -1) (by omega)
  have f2 : fourOf v = fourOf l := by
    rcases hv2 with e | e
    · exact fourOf_cong (k := h) (by omega)
    · exact fourOf_cong (k := h - 4294967296) (by omega)
  simp only [foursOf, List.flatMap_cons, List.flatMap_nil, f1, f2]
def Takes {β : Type} (h : RS → β × RS) (R : β → List Int → Prop) : Prop := ∀ s, Bytes s.left → (h s).2.bad = false → ∃ l, R (h s).1 l ∧ s.left = l ++ (h s).2.left
theorem Takes.done {β : Type} (x : β) : Takes (fun s : RS => (x, s)) (fun r l => r = x ∧ l = []) := fun s _ _ => ⟨[], ⟨rfl, rfl⟩, rfl⟩
theorem Takes.bind {α β : Type} {f : RS → α × RS} {g : α → RS → β × RS} {R1 : α → List Int → Prop} {R2 : α → β → List Int → Prop} (hf : Takes f R1) (hg : ∀ a, Takes (g a) (R2 a)) (hr : ∀ a, Reads (g a)) : Takes (andThen f g) (fun r l => ∃ a l1 l2, R1 a l1 ∧ R2 a r l2 ∧ l = l1 ++ l2) := by
  intro s hb hn
  have h1 : (f s).2.bad = false := nbad (hr _) hn
  obtain ⟨l1, q1, e1⟩ := hf s hb h1
  have hb2 : Bytes (f s).2.left := by
    rw [e1] at hb
    exact hb.drop'
  obtain ⟨l2, q2, e2⟩ := hg (f s).1 (f s).2 hb2 hn
  refine ⟨l1 ++ l2, ⟨(f s).1, l1, l2, q1, q2, rfl⟩, ?_⟩
  rw [e1, e2, List.append_assoc]
  rfl
theorem takes_four : Takes rFour (fun a l => l = fourOf a ∧ 0 ≤ a ∧ a < 4294967296) := fun s hb hn => ⟨_, ⟨rfl, rFour_bd hb⟩, writes_four s hb hn⟩
theorem takes_arc : Takes rArc (fun r l => ∃ a b c d e f g h, r = ⟨a, b, c, orI .i64 (shlI .i64 d 32) e, f - 1, g, h⟩ ∧ (0 ≤ d ∧ d < 4294967296) ∧ (0 ≤ e ∧ e < 4294967296) ∧ l = fourOf a ++ (fourOf b ++ (fourOf c ++ (fourOf d ++ (fourOf e ++ (fourOf f ++ (fourOf g ++ fourOf h))))))) := by
  rw [rArc_eq]
  have key := takes_four.bind (fun a => takes_four.bind (fun b => takes_four.bind (fun c => takes_four.bind (fun d => takes_four.bind (fun e => takes_four.bind (fun f => takes_four.bind (fun g => takes_four.bind (fun h => Takes.done (⟨a, b, c, orI .i64 (shlI .i64 d 32) e, f - 1, g, h⟩ : Arc))
    (fun h => Reads.done _)) (fun g => reads_four.bind fun h => Reads.done _)) (fun f => reads_four.bind fun g => reads_four.bind fun h => Reads.done _)) (fun e => reads_four.bind fun f => reads_four.bind fun g => reads_four.bind fun h => Reads.done _)) (fun d => reads_four.bind fun e => reads_four.bind fun f => reads_four.bind fun g => reads_four.bind fun h => Reads.done _)) (fun c => reads_four.bind fun d => reads_four.bind fun e => reads_four.bind fun f => reads_four.bind fun g => reads_four.bind fun h => Reads.done _)) (fun b => reads_four.bind fun c => reads_four.bind fun d => reads_four.bind fun e => reads_four.bind fun f => reads_four.bind fun g => reads_four.bind fun h => Reads.done _)) (fun a => reads_four.bind fun b => reads_four.bind fun c => reads_four.bind fun d => reads_four.bind fun e => reads_four.bind fun f => reads_four.bind fun g => reads_four.bind fun h => Reads.done _)
  intro s hb hn
  obtain ⟨l, ⟨a, l1, m1, ⟨rfl, _⟩, ⟨b, l2, m2, ⟨rfl, _⟩, ⟨c, l3, m3, ⟨rfl, _⟩, ⟨d, l4, m4, ⟨rfl, hd⟩, ⟨e, l5, m5, ⟨rfl, he⟩, ⟨f, l6, m6, ⟨rfl, _⟩, ⟨g, l7, m7, ⟨rfl, _⟩, ⟨h, l8, m8, ⟨rfl, _⟩, ⟨hr, rfl⟩, rfl⟩, rfl⟩, rfl⟩, rfl⟩, rfl⟩, rfl⟩, rfl⟩, rfl⟩, hl⟩ := key s hb hn
  refine ⟨_, ⟨a, b, c, d, e, f, g, h, hr, hd, he, rfl⟩, ?_⟩
  simpa only [List.append_nil] using hl
theorem writes_arc : Writes rArc arcB := by
  intro s hb hn
  obtain ⟨l, ⟨a, b, c, d, e, f, g, h, hr, hd, he, rfl⟩, hl⟩ := takes_arc s hb hn
  rw [hr, hl]
  have hh := foursOf_hiLo hd he
  simp only [arcB, hh, Int.sub_add_cancel, List.append_assoc, foursOf_cons, foursOf_nil]
theorem writes_rep {α : Type} {f : RS → α × RS} {B : α → List Int} (hf : Writes f B) (hr : Reads f) : ∀ n, Writes (rep f n) (fun l => l.flatMap B)
  | 0 => fun s _ _ => rfl
  | n + 1 => by
    intro s hb hn
    have n1 : (rep f n s).2.bad = false := nbad hr hn
    have e1 := writes_rep hf hr n s hb n1
    have b1 := (writes_rep hf hr n).bytes hb n1
    have e2 := hf _ b1 hn
    show _ = ((rep f n s).1 ++ [(f (rep f n s).2).1]).flatMap B ++ (f (rep f n s).2).2.left
    rw [List.flatMap_append, List.append_assoc]
    simp only [List.flatMap_cons, List.flatMap_nil, List.append_nil]
    rw [← e2]
    exact e1
end Go.Proofs.Ytknhlpmmalcchaa

namespace Go.Proofs.Ytknhlpmmalcchaa
open Go Go.VAI
set_option linter.unusedSimpArgs false

end Go.Proofs.Ytknhlpmmalcchaa

namespace Go.Proofs.Ytknhlpmmalcchaa
open Go Go.VAI
set_option linter.unusedSimpArgs false

end Go.Proofs.Ytknhlpmmalcchaa

namespace Go.Proofs.Ytknhlpmmalcchaa
open Go Go.VAI
set_option linter.unusedSimpArgs false

theorem fourOf_bytes (v : Int) : Bytes (fourOf v) := by
  intro b hb
  unfold fourOf at hb
  rw [wrap8, wrap8, wrap8, wrap8] at hb
  simp only [List.mem_cons, List.not_mem_nil, or_false] at hb
  omega
theorem Bytes.app {a b : List Int} (ha : Bytes a) (hb : Bytes b) : Bytes (a ++ b) := fun x hx => (List.mem_append.1 hx).elim (ha x) (hb x)
theorem Bytes.flat {α : Type} {f : α → List Int} {l : List α} (h : ∀ a, Bytes (f a)) : Bytes (l.flatMap f) := fun x hx => by
  obtain ⟨a, _, ha⟩ := List.mem_flatMap.1 hx
  exact h a x ha
theorem foursOf_bytes (l : List Int) : Bytes (foursOf l) := Bytes.flat fourOf_bytes
theorem encode_bytes (x : Idx) : Bytes (encodeOf x) := by
  unfold encodeOf
  have hm : Bytes [77, 73, 88, 49] := by intro b hb; simp at hb; omega
  exact ((((((hm.app (foursOf_bytes _)).app (Bytes.flat fun e => foursOf_bytes _)).app (Bytes.flat fun e => foursOf_bytes _)).app (foursOf_bytes _)).app (Bytes.flat fun a => ((foursOf_bytes _).app (foursOf_bytes _)).app (foursOf_bytes _))).app (Bytes.flat fun e => (foursOf_bytes _).app (foursOf_bytes _))).app (Bytes.flat fun e => (foursOf_bytes _).app (foursOf_bytes _))
end Go.Proofs.Ytknhlpmmalcchaa

namespace Go.Proofs.Ytknhlpmmalcchaa
open Go Go.VAI
set_option linter.unusedSimpArgs false

def look2 (x : Option (AVal × AHeap)) : Option (Bool × Nat × List (Option AObj)) :=
  match x with
  | some (.bool b, H) => some (b, H.next, [H.obj 0, H.obj 1])
  | _ => none
def known26N2 : Nat := match look2 (callA A 100 26 [] ⟨fun _ => none, 2⟩) with | some (_, n, _) => n | none => 0
theorem e26x2 (f : Nat → Option AObj) : look2 (callA A 100 26 [] ⟨f, 2⟩) = some (true, known26N2, [f 0, f 1]) := by kernel_rfl
theorem known26N2_ge : 2 ≤ known26N2 := by decide +kernel
theorem known26x2_ret {f : Nat → Option AObj} {Q : AVal → AHeap → Prop} (hq : ∀ H', Keep Nothing ⟨f, 2⟩ H' → Q (.bool true) H') : Ret A 26 [] ⟨f, 2⟩ Q := by
  have h := e26x2 f
  unfold look2 at h
  split at h
  · rename_i b H' e
    injection h with h
    injection h with h1 h2
    injection h2 with h2 h3
    subst h1
    refine Ret.test (n := 100) (.bool true, H') e (hq H' ⟨by rw [h2]; exact known26N2_ge, fun i hi _ => ?_⟩)
    simp only [List.cons.injEq, and_true] at h3
    have hi : i < 2 := hi
    match i, hi with
    | 0, _ => exact h3.1
    | 1, _ => exact h3.2
  · cases h

end Go.Proofs.Ytknhlpmmalcchaa

namespace Go.Proofs.Ytknhlpmmalcchaa
open Go Go.VAI
set_option linter.unusedSimpArgs false

end Go.Proofs.Ytknhlpmmalcchaa

namespace Go.Proofs.Ytknhlpmmalcchaa
open Go Go.VAI
set_option linter.unusedSimpArgs false

theorem take_eq_succ {α : Type} {l m : List α} {i : Nat} {x : α} (h : l.take i = m.take i) (hl : l[i]? = some x) (hm : m[i]? = some x) : l.take (i + 1) = m.take (i + 1) := by
  obtain ⟨a, b⟩ := List.getElem?_eq_some_iff.1 hl
  obtain ⟨c, d⟩ := List.getElem?_eq_some_iff.1 hm
  rw [List.take_succ_eq_append_getElem a, List.take_succ_eq_append_getElem c, h, b, d]
theorem take_all_eq {α : Type} {l m : List α} (hn : l.length = m.length) (h : l.take l.length = m.take l.length) : l = m := by
  rw [List.take_length, hn, List.take_length] at h
  exact h
set_option maxRecDepth 20000 in
theorem ints_ret {lv mv : AVal} {l m : List Int} {H : AHeap} {Q : AVal → AHeap → Prop} (hl : Row H lv 1 (ints l)) (hm : Row H mv 1 (ints m)) (hlen : l.length ≤ 4611686018427387904) (hq : ∀ b, Says b (l = m) → Q (.bool b) H) : Ret A 40 [lv, mv] H Q := by
  refine Ret.of (fn := F40) rfl ?_
  have h1 := hl.len1
  have h2 := hm.len1
  rw [ints_length] at h1 h2
  by_cases hn : (l.length : Int) = m.length
  · simp (disch := first | omega | (simp only [nx] <;> omega) | fail) only [vaw, F40, h1, h2, hn, ne_eq, not_true_eq_false, Nat.reduceAdd, Nat.reduceMul, Nat.reduceLeDiff, Nat.reduceEqDiff, ↓reduceIte]
    refine wpx_loop (fun k t H' => ∃ (i : Nat), k = l.length - i ∧ i ≤ l.length ∧ t = (lv :: mv :: bots 3 (.int .i64 i :: bots 20 ([])) : Tmps) ∧ H' = H ∧ l.take i = m.take i) l.length ?_ ?_
    · exact ⟨0, rfl, by omega, rfl, rfl, by simp⟩
    · rintro k t H1 ⟨i, rfl, hi, rfl, rfl, hin⟩
      by_cases hc : (i : Int) < m.length
      · have hil : i < l.length := by omega
        have him : i < m.length := by omega
        have ex : l[i]? = some l[i] := by simp [hil]
        have ey : m[i]? = some m[i] := by simp [him]
        obtain ⟨ix, ox, x1, x2, x3⟩ := hl.int_at (k := .i64) ex
        obtain ⟨iy, oy, y1, y2, y3⟩ := hm.int_at (k := .i64) ey
        have hne : l[i] ≠ m[i] → l ≠ m := fun h e => h (by subst e; rfl)
        generalize l[i] = x at *
        generalize m[i] = y at *
        by_cases hxy : x = y
        · subst hxy
          simp (disch := first | omega | (simp only [nx] <;> omega) | fail) only [vaw, h1, hn, hc, x1, x3, y1, y3, ne_eq, not_true_eq_false, Nat.reduceAdd, Nat.reduceMul, Nat.reduceLeDiff, Nat.reduceEqDiff, ↓reduceIte]
          exact ⟨l.length - (i + 1), by omega, i + 1, rfl, by omega, rfl, take_eq_succ hin ex ey⟩
        · simp (disch := first | omega | (simp only [nx] <;> omega) | fail) only [vaw, h1, hn, hc, x1, x3, y1, y3, hxy, ne_eq, not_true_eq_false, not_false_eq_true, Nat.reduceAdd, Nat.reduceMul, Nat.reduceLeDiff, Nat.reduceEqDiff, ↓reduceIte]
          exact hq _ (says_no (hne hxy))
      · have : i = l.length := by omega
        subst this
        simp (disch := first | omega | (simp only [nx] <;> omega) | fail) only [vaw, h1, hn, hc, Int.lt_irrefl, Nat.reduceAdd, Nat.reduceMul, Nat.reduceLeDiff, Nat.reduceEqDiff, ↓reduceIte]
        exact hq _ (says_yes (take_all_eq (by omega) hin))
  · simp (disch := first | omega | (simp only [nx] <;> omega) | fail) only [vaw, F40, h1, h2, hn, ne_eq, not_false_eq_true, Nat.reduceAdd, Nat.reduceMul, Nat.reduceLeDiff, Nat.reduceEqDiff, ↓reduceIte]
    exact hq _ (says_no fun e => hn (by rw [e]))
theorem nflat4 {a b c d e f g h : Int} : abin .neq (.flat [.int, .int, .int, .int]) (.agg [.int .i64 a, .int .i64 b, .int .i64 c, .int .i64 d]) (.agg [.int .i64 e, .int .i64 f, .int .i64 g, .int .i64 h]) = some (.bool (!(decide (a = e) && (decide (b = f) && (decide (c = g) && (decide (d = h) && true)))))) := rfl
theorem nflat7 {a b c d e f g a' b' c' d' e' f' g' : Int} : abin .neq (.flat [.int, .int, .int, .int, .int, .int, .int]) (.agg [.int .i64 a, .int .i64 b, .int .i64 c, .int .i64 d, .int .i64 e, .int .i64 f, .int .i64 g]) (.agg [.int .i64 a', .int .i64 b', .int .i64 c', .int .i64 d', .int .i64 e', .int .i64 f', .int .i64 g']) = some (.bool (!(decide (a = a') && (decide (b = b') && (decide (c = c') && (decide (d = d') && (decide (e = e') && (decide (f = f') && (decide (g = g') && true))))))))) := rfl
theorem edge_neq {x y : Edge} : abin .neq (.flat [.int, .int, .int, .int]) (.agg x.cells) (.agg y.cells) = some (.bool (decide (x ≠ y))) := by
  obtain ⟨a, b, c, d⟩ := x
  obtain ⟨e, f, g, h⟩ := y
  simp only [Edge.cells, nflat4]
  congr 2
  by_cases h1 : a = e <;> by_cases h2 : b = f <;> by_cases h3 : c = g <;> by_cases h4 : d = h <;> simp [h1, h2, h3, h4]
theorem arc_neq {x y : Arc} : abin .neq (.flat [.int, .int, .int, .int, .int, .int, .int]) (.agg x.cells) (.agg y.cells) = some (.bool (decide (x ≠ y))) := by
  obtain ⟨a, b, c, d, e, f, g⟩ := x
  obtain ⟨a', b', c', d', e', f', g'⟩ := y
  simp only [Arc.cells, nflat7]
  congr 2
  simp only [ne_eq, Arc.mk.injEq, Bool.and_true, ← Bool.decide_and, ← decide_not]
set_option maxRecDepth 20000 in
theorem netSame_ret {n m : Int} {ev fv : AVal} {es fs : List Edge} {H : AHeap} {Q : AVal → AHeap → Prop} (he : Row H ev 4 (edgeCells es)) (hf : Row H fv 4 (edgeCells fs)) (hlen : es.length ≤ 4611686018427387904)
    (hq : ∀ b H', Keep Nothing H H' → Says b (n = m ∧ es = fs) → Q (.bool b) H') : Ret A 49 [.agg [.int .i64 n, ev], .agg [.int .i64 m, fv]] H Q := by
  refine Ret.of (fn := F49) rfl ?_
  have h1 := he.len (by omega) (edgeCells_length es)
  have h2 := hf.len (by omega) (edgeCells_length fs)
  have be := he.beq
  have bf := hf.beq
  have k0 : Keep Nothing H ((H.new (.cells [.int .i64 n, ev] true)).new (.cells [.int .i64 m, fv] true)) := ((Keep.refl _ _).new _).new _
  by_cases hnm : n = m
  · by_cases hn : (es.length : Int) = fs.length
    · simp (disch := first | omega | (simp only [nx] <;> omega) | fail) only [vaw, F49, h1, h2, hnm, hn, ne_eq, not_true_eq_false, Nat.reduceAdd, Nat.reduceMul, Nat.reduceLeDiff, Nat.reduceEqDiff, ↓reduceIte]
      refine wpx_loop (fun k t H' => ∃ (i : Nat), k = es.length - i ∧ i ≤ es.length ∧ t = (bots 2 (.ptr H.next 0 :: .ptr (H.next + 1) 0 :: bots 1 (.int .i64 i :: bots 32 ([]))) : Tmps) ∧ H' = (H.new (.cells [.int .i64 m, ev] true)).new (.cells [.int .i64 m, fv] true) ∧ es.take i = fs.take i) es.length ?_ ?_
      · exact ⟨0, rfl, by omega, rfl, rfl, by simp⟩
      · rintro k t H1 ⟨i, rfl, hi, rfl, rfl, hin⟩
        by_cases hc : (i : Int) < fs.length
        · have hil : i < es.length := by omega
          have him : i < fs.length := by omega
          have ex : es[i]? = some es[i] := by simp [hil]
          have ey : fs[i]? = some fs[i] := by simp [him]
          obtain ⟨ix, ox, x1, _, x2, _, _, _, x3⟩ := edge_at he ex
          obtain ⟨iy, oy, y1, _, y2, _, _, _, y3⟩ := edge_at hf ey
          have hne : es[i] ≠ fs[i] → es ≠ fs := fun h e => h (by subst e; rfl)
          generalize es[i] = x at *
          generalize fs[i] = y at *
          by_cases hxy : x = y
          · simp (disch := first | omega | (simp only [nx] <;> omega) | fail) only [vaw, h1, hn, hc, x1, x3, y1, y3, edge_neq, hxy, ne_eq, not_true_eq_false, Nat.reduceAdd, Nat.reduceMul, Nat.reduceLeDiff, Nat.reduceEqDiff, ↓reduceIte]
            subst hxy
            exact ⟨es.length - (i + 1), by omega, i + 1, rfl, by omega, rfl, take_eq_succ hin ex ey⟩
          · simp (disch := first | omega | (simp only [nx] <;> omega) | fail) only [vaw, h1, hn, hc, x1, x3, y1, y3, edge_neq, hxy, ne_eq, not_true_eq_false, not_false_eq_true, Nat.reduceAdd, Nat.reduceMul, Nat.reduceLeDiff, Nat.reduceEqDiff, ↓reduceIte]
            subst hnm
            exact hq _ _ k0 (says_no fun e => hne hxy e.2)
        · have : i = es.length := by omega
          subst this
          simp (disch := first | omega | (simp only [nx] <;> omega) | fail) only [vaw, h1, hn, hc, Int.lt_irrefl, Nat.reduceAdd, Nat.reduceMul, Nat.reduceLeDiff, Nat.reduceEqDiff, ↓reduceIte]
          subst hnm
          exact hq _ _ k0 (says_yes ⟨rfl, take_all_eq (by omega) hin⟩)
    · simp (disch := first | omega | (simp only [nx] <;> omega) | fail) only [vaw, F49, h1, h2, hnm, hn, ne_eq, not_true_eq_false, not_false_eq_true, Nat.reduceAdd, Nat.reduceMul, Nat.reduceLeDiff, Nat.reduceEqDiff, ↓reduceIte]
      subst hnm
      exact hq _ _ k0 (says_no fun e => hn (by rw [e.2]))
  · simp (disch := first | omega | (simp only [nx] <;> omega) | fail) only [vaw, F49, h1, h2, hnm, ne_eq, not_false_eq_true, Nat.reduceAdd, Nat.reduceMul, Nat.reduceLeDiff, Nat.reduceEqDiff, ↓reduceIte]
    exact hq _ _ k0 (says_no fun e => hnm e.1)
end Go.Proofs.Ytknhlpmmalcchaa

namespace Go.Proofs.Ytknhlpmmalcchaa
open Go Go.VAI
set_option linter.unusedSimpArgs false

def Short62 (x : Idx) : Prop := x.es.length ≤ 4611686018427387904 ∧ x.rank.length ≤ 4611686018427387904 ∧ x.arcs.length ≤ 4611686018427387904 ∧ x.up.length ≤ 4611686018427387904 ∧ (∀ l ∈ x.up, l.length ≤ 4611686018427387904) ∧ ∀ l ∈ x.down, l.length ≤ 4611686018427387904
set_option maxRecDepth 20000 in
set_option maxHeartbeats 4000000 in
theorem same_ret {ew rv av uv dv ew' rv' av' uv' dv' : AVal} {x y : Idx} {H : AHeap} {Q : AVal → AHeap → Prop} (hx : IdxAt H ew rv av uv dv x) (hy : IdxAt H ew' rv' av' uv' dv' y) (hs : Short62 x) (hud : x.up.length = x.down.length)
    (hq : ∀ b H', Keep Nothing H H' → Says b (x = y) → Q (.bool b) H') : Ret A 32 [.agg [.int .i64 x.n, ew, rv, av, uv, dv], .agg [.int .i64 y.n, ew', rv', av', uv', dv']] H Q := by
  refine Ret.of (fn := F32) rfl ?_
  obtain ⟨s1, s2, s3, s4, s5, s6⟩ := hs
  have a1 := hx.arcs.len (by omega) (arcCells_length x.arcs)
  have a2 := hy.arcs.len (by omega) (arcCells_length y.arcs)
  have u1 := hx.up.len
  have u2 := hy.up.len
  have d1 := hx.down.len
  have d2 := hy.down.len
  simp (disch := first | omega | (simp only [nx] <;> omega) | fail) only [vaw, F32, Nat.reduceAdd, Nat.reduceMul, Nat.reduceLeDiff, Nat.reduceEqDiff, ↓reduceIte]
  have k0 : Keep Nothing H ((H.new (.cells [.int .i64 x.n, ew, rv, av, uv, dv] true)).new (.cells [.int .i64 y.n, ew', rv', av', uv', dv'] true)) := ((Keep.refl _ _).new _).new _
  refine netSame_ret (hx.es.kept k0) (hy.es.kept k0) s1 fun b H1 k1 c1 => ?_
  have n1 := k1.next
  simp only [next_new] at n1
  have o1 : H1.obj H.next = some (.cells [.int .i64 x.n, ew, rv, av, uv, dv] true) := by rw [k1.old (by simp only [next_new]; omega)]; simp (disch := first | omega | (simp only [nx] <;> omega) | fail) only [vaim]
  have o2 : H1.obj (H.next + 1) = some (.cells [.int .i64 y.n, ew', rv', av', uv', dv'] true) := by rw [k1.old (by simp only [next_new]; omega)]; simp (disch := first | omega | (simp only [nx] <;> omega) | fail) only [vaim]
  have kA := k0.trans k1
  have hx1 := hx.kept kA
  have hy1 := hy.kept kA
  cases b with
  | false =>
    simp (disch := first | omega | (simp only [nx] <;> omega) | fail) only [vaw, Nat.reduceAdd, Nat.reduceMul, Nat.reduceLeDiff, Nat.reduceEqDiff, ↓reduceIte]
    exact hq _ _ kA (says_no fun e => by have := c1.2 ⟨by rw [e], by rw [e]⟩; cases this)
  | true =>
    have e1 := c1.1 rfl
    simp (disch := first | omega | (simp only [nx] <;> omega) | fail) only [vaw, o1, o2, Nat.reduceAdd, Nat.reduceMul, Nat.reduceLeDiff, Nat.reduceEqDiff, ↓reduceIte]
    refine ints_ret hx1.rank hy1.rank s2 fun b c2 => ?_
    cases b with
    | false =>
      simp (disch := first | omega | (simp only [nx] <;> omega) | fail) only [vaw, Nat.reduceAdd, Nat.reduceMul, Nat.reduceLeDiff, Nat.reduceEqDiff, ↓reduceIte]
      exact hq _ _ kA (says_no fun e => by have := c2.2 (by rw [e]); cases this)
    | true =>
      have e2 := c2.1 rfl
      by_cases g1 : (x.arcs.length : Int) = y.arcs.length
      · by_cases g2 : (x.up.length : Int) = y.up.length
        · by_cases g3 : (x.down.length : Int) = y.down.length
          · simp (disch := first | omega | (simp only [nx] <;> omega) | fail) only [vaw, o1, o2, a1, a2, u1, u2, d1, d2, g1, g2, g3, ne_eq, not_true_eq_false, Nat.reduceAdd, Nat.reduceMul, Nat.reduceLeDiff, Nat.reduceEqDiff, ↓reduceIte]
            refine wpx_loop (fun k t H' => ∃ (i : Nat), k = x.arcs.length - i ∧ i ≤ x.arcs.length ∧ t = (bots 2 (.ptr H.next 0 :: .ptr (H.next + 1) 0 :: bots 1 (.int .i64 i :: bots 100 ([]))) : Tmps) ∧ H' = H1 ∧ x.arcs.take i = y.arcs.take i) x.arcs.length ?_ ?_
            · exact ⟨0, rfl, by omega, rfl, rfl, by simp⟩
            · rintro k t H2 ⟨i, rfl, hi, rfl, rfl, hin⟩
              by_cases hc : (i : Int) < y.arcs.length
              · have hil : i < x.arcs.length := by omega
                have him : i < y.arcs.length := by omega
                have ex : x.arcs[i]? = some x.arcs[i] := by simp [hil]
                have ey : y.arcs[i]? = some y.arcs[i] := by simp [him]
                obtain ⟨ix, ox, x1, _, _, x3⟩ := arc_at hx1.arcs ex
                obtain ⟨iy, oy, y1, _, _, y3⟩ := arc_at hy1.arcs ey
                have hne : x.arcs[i] ≠ y.arcs[i] → x ≠ y := fun h e => h (by subst e; rfl)
                generalize x.arcs[i] = p at *
                generalize y.arcs[i] = q at *
                by_cases hxy : p = q
                · simp (disch := first | omega | (simp only [nx] <;> omega) | fail) only [vaw, o1, o2, a1, a2, g1, hc, x1, x3, y1, y3, arc_neq, hxy, ne_eq, not_true_eq_false, Nat.reduceAdd, Nat.reduceMul, Nat.reduceLeDiff, Nat.reduceEqDiff, ↓reduceIte]
                  subst hxy
                  exact ⟨x.arcs.length - (i + 1), by omega, i + 1, rfl, by omega, rfl, take_eq_succ hin ex ey⟩
                · simp (disch := first | omega | (simp only [nx] <;> omega) | fail) only [vaw, o1, o2, a1, a2, g1, hc, x1, x3, y1, y3, arc_neq, hxy, ne_eq, not_true_eq_false, not_false_eq_true, Nat.reduceAdd, Nat.reduceMul, Nat.reduceLeDiff, Nat.reduceEqDiff, ↓reduceIte]
                  exact hq _ _ kA (says_no fun e => hne hxy e)
              · have : i = x.arcs.length := by omega
                subst this
                have e3 := take_all_eq (by omega) hin
                simp (disch := first | omega | (simp only [nx] <;> omega) | fail) only [vaw, o1, a1, g1, hc, Int.lt_irrefl, Nat.reduceAdd, Nat.reduceMul, Nat.reduceLeDiff, Nat.reduceEqDiff, ↓reduceIte]
                refine wpx_loop (fun k t H' => ∃ (i : Nat), k = x.up.length - i ∧ i ≤ x.up.length ∧ t = (bots 2 (.ptr H.next 0 :: .ptr (H.next + 1) 0 :: bots 2 (.int .i64 i :: bots 99 ([]))) : Tmps) ∧ H' = H2 ∧ x.up.take i = y.up.take i ∧ x.down.take i = y.down.take i) x.up.length ?_ ?_
                · exact ⟨0, rfl, by omega, rfl, rfl, by simp, by simp⟩
                · rintro k t H3 ⟨i, rfl, hi, rfl, rfl, hin1, hin2⟩
                  by_cases hc : (i : Int) < y.up.length
                  · have hil : i < x.up.length := by omega
                    have him : i < y.up.length := by omega
                    have hdl : i < x.down.length := by omega
                    have hdm : i < y.down.length := by omega
                    have ex : x.up[i]? = some x.up[i] := by simp [hil]
                    have ey : y.up[i]? = some y.up[i] := by simp [him]
                    have fx : x.down[i]? = some x.down[i] := by simp [hdl]
                    have fy : y.down[i]? = some y.down[i] := by simp [hdm]
                    obtain ⟨ix, ox, rx, x1, _, x3, x4⟩ := hx1.up.at (k := .i64) ex
                    obtain ⟨iy, oy, ry, y1, _, y3, y4⟩ := hy1.up.at (k := .i64) ey
                    obtain ⟨jx, px, qx, z1, _, z3, z4⟩ := hx1.down.at (k := .i64) fx
                    obtain ⟨jy, py, qy, w1, _, w3, w4⟩ := hy1.down.at (k := .i64) fy
                    have hne : x.up[i] ≠ y.up[i] → x ≠ y := fun h e => h (by subst e; rfl)
                    have hne2 : x.down[i] ≠ y.down[i] → x ≠ y := fun h e => h (by subst e; rfl)
                    have l1 := s5 _ (List.getElem_mem hil)
                    have l2 := s6 _ (List.getElem_mem hdl)
                    have hcd : ¬ (y.down.length : Int) ≤ i := by omega
                    generalize x.up[i] = p at *
                    generalize y.up[i] = q at *
                    generalize x.down[i] = p' at *
                    generalize y.down[i] = q' at *
                    simp (disch := first | omega | (simp only [nx] <;> omega) | fail) only [vaw, o1, o2, u1, u2, g2, hc, x1, x3, y1, y3, Nat.reduceAdd, Nat.reduceMul, Nat.reduceLeDiff, Nat.reduceEqDiff, ↓reduceIte]
                    refine ints_ret x4 y4 l1 fun b c3 => ?_
                    cases b with
                    | false =>
                      simp (disch := first | omega | (simp only [nx] <;> omega) | fail) only [vaw, Nat.reduceAdd, Nat.reduceMul, Nat.reduceLeDiff, Nat.reduceEqDiff, ↓reduceIte]
                      exact hq _ _ kA (says_no fun e => hne (fun h => by have := c3.2 h; cases this) e)
                    | true =>
                      have e4 := c3.1 rfl
                      subst e4
                      simp (disch := first | omega | (simp only [nx] <;> omega) | fail) only [vaw, o1, o2, d1, d2, g3, hcd, z1, z3, w1, w3, Nat.reduceAdd, Nat.reduceMul, Nat.reduceLeDiff, Nat.reduceEqDiff, ↓reduceIte]
                      refine ints_ret z4 w4 l2 fun b c4 => ?_
                      cases b with
                      | false =>
                        simp (disch := first | omega | (simp only [nx] <;> omega) | fail) only [vaw, Nat.reduceAdd, Nat.reduceMul, Nat.reduceLeDiff, Nat.reduceEqDiff, ↓reduceIte]
                        exact hq _ _ kA (says_no fun e => hne2 (fun h => by have := c4.2 h; cases this) e)
                      | true =>
                        have e5 := c4.1 rfl
                        subst e5
                        simp (disch := first | omega | (simp only [nx] <;> omega) | fail) only [vaw, Nat.reduceAdd, Nat.reduceMul, Nat.reduceLeDiff, Nat.reduceEqDiff, ↓reduceIte]
                        exact ⟨x.up.length - (i + 1), by omega, i + 1, rfl, by omega, rfl, take_eq_succ hin1 ex ey, take_eq_succ hin2 fx fy⟩
                  · have : i = x.up.length := by omega
                    subst this
                    have e4 := take_all_eq (by omega) hin1
                    have e5 : x.down = y.down := by
                      rw [hud] at hin2
                      exact take_all_eq (by omega) hin2
                    simp (disch := first | omega | (simp only [nx] <;> omega) | fail) only [vaw, o1, u1, g2, hc, Int.lt_irrefl, Nat.reduceAdd, Nat.reduceMul, Nat.reduceLeDiff, Nat.reduceEqDiff, ↓reduceIte]
                    refine hq _ _ kA (says_yes ?_)
                    obtain ⟨xn, xe, xr, xa, xu, xd⟩ := x
                    obtain ⟨yn, ye, yr, ya, yu, yd⟩ := y
                    simp only at e1 e2 e3 e4 e5
                    obtain ⟨rfl, rfl⟩ := e1
                    subst e2; subst e3; subst e4; subst e5
                    rfl
          · simp (disch := first | omega | (simp only [nx] <;> omega) | fail) only [vaw, o1, o2, a1, a2, u1, u2, d1, d2, g1, g2, g3, ne_eq, not_true_eq_false, not_false_eq_true, Nat.reduceAdd, Nat.reduceMul, Nat.reduceLeDiff, Nat.reduceEqDiff, ↓reduceIte]
            exact hq _ _ kA (says_no fun e => g3 (by rw [e]))
        · simp (disch := first | omega | (simp only [nx] <;> omega) | fail) only [vaw, o1, o2, a1, a2, u1, u2, g1, g2, ne_eq, not_true_eq_false, not_false_eq_true, Nat.reduceAdd, Nat.reduceMul, Nat.reduceLeDiff, Nat.reduceEqDiff, ↓reduceIte]
          exact hq _ _ kA (says_no fun e => g2 (by rw [e]))
      · simp (disch := first | omega | (simp only [nx] <;> omega) | fail) only [vaw, o1, o2, a1, a2, g1, ne_eq, not_true_eq_false, not_false_eq_true, Nat.reduceAdd, Nat.reduceMul, Nat.reduceLeDiff, Nat.reduceEqDiff, ↓reduceIte]
        exact hq _ _ kA (says_no fun e => g1 (by rw [e]))
end Go.Proofs.Ytknhlpmmalcchaa

namespace Go.Proofs.Ytknhlpmmalcchaa
open Go Go.VAI
set_option linter.unusedSimpArgs false

structure EncR (H0 H : AHeap) (x : List AVal) (bv : AVal) (bs : List Int) : Prop where
  keep : Keep Nothing H0 H
  lt : H0.next < H.next
  box : H.obj H0.next = some (.cells x true)
  own : Own (H0.next + 1) H bv 1 (u8s bs)
theorem EncR.kept {H0 H H' : AHeap} {x : List AVal} {bv : AVal} {bs : List Int} (h : EncR H0 H x bv bs) (hk : Keep Nothing H H') : EncR H0 H' x bv bs := by
  have := h.lt
  exact ⟨h.keep.trans hk, by have := hk.next; omega, by rw [hk.old (by omega)]; exact h.box, h.own.kept hk⟩
theorem EncR.step {H0 H H' : AHeap} {x : List AVal} {bv bv' : AVal} {bs bs' : List Int} (h : EncR H0 H x bv bs) (hk : Keep (fun j => sid bv = some j) H H') (g : Own (H0.next + 1) H' bv' 1 (u8s bs')) : EncR H0 H' x bv' bs' := by
  have hlt := h.lt
  have hs : ∀ j, sid bv = some j → H0.next + 1 ≤ j := fun j hj => (h.own.sid_ge hj).1
  exact ⟨h.keep.trans' hk (fun j hj e => by have := hs j e; omega), by have := hk.next; omega, by rw [hk.obj _ (by omega) (fun e => by have := hs _ e; omega)]; exact h.box, g⟩
end Go.Proofs.Ytknhlpmmalcchaa

namespace Go.Proofs.Ytknhlpmmalcchaa
open Go Go.VAI
set_option linter.unusedSimpArgs false

end Go.Proofs.Ytknhlpmmalcchaa

namespace Go.Proofs.Ytknhlpmmalcchaa
open Go Go.VAI
set_option linter.unusedSimpArgs false

theorem rnum_ret {w : Nat} {src : Option Nat} {s : RS} {H : AHeap} {Q : AVal → AHeap → Prop} (h : RdAt H w src s) (hq : ∀ H', Keep (fun j => j = w) H H' → RdAt H' w src (rFour s).2 → H'.next = H.next → Q (.int .i64 (rFour s).1) H') : Ret A 102 [.ptr w 0] H Q := by
  refine Ret.of (fn := F102) rfl ?_
  obtain ⟨left, bad⟩ := s
  obtain ⟨lv, h1, h2, h3, h4, h5, h6, h7⟩ := h
  simp only at h1 h2 h6 h7
  have hl := h2.1.len1
  rw [u8s_length] at hl
  obtain ⟨m, hm⟩ : ∃ m, left.length = m := ⟨_, rfl⟩
  rw [hm] at hl
  have short : left.length < 4 → (rFour ⟨left, bad⟩) = (0, ⟨left, true⟩) := by
    intro hs
    unfold rFour
    match left with
    | [] => rfl
    | [_] => rfl
    | [_, _] => rfl
    | [_, _, _] => rfl
    | _ :: _ :: _ :: _ :: _ => simp at hs; omega
  by_cases hs : (m : Int) < 4
  · have hs' := short (by omega)
    rw [hs'] at hq
    simp (disch := first | omega | (simp only [nx] <;> omega) | fail) only [vaw, F102, h1, hl, hs, decide_true, Nat.reduceAdd, Nat.reduceMul, Nat.reduceLeDiff, Nat.reduceEqDiff, ↓reduceIte]
    have kk : Keep (fun j => j = w) H (H.upd w (some (.cells [lv, .bool true] true))) := (Keep.refl (fun j => j = w) _).upd (.inr rfl) _
    exact hq _ kk ⟨lv, obj_upd_eq rfl, h2.M kk (fun j hj e => by subst e; rw [h3] at hj; exact h5 hj), h3, h4, h5, h6, h7⟩ rfl
  · obtain ⟨a, b, c, d, l, rfl⟩ : ∃ a b c d l, left = a :: b :: c :: d :: l := by
      match left with
      | [] => simp at hm; omega
      | [_] => simp at hm; omega
      | [_, _] => simp at hm; omega
      | [_, _, _] => simp at hm; omega
      | a :: b :: c :: d :: l => exact ⟨a, b, c, d, l, rfl⟩
    obtain ⟨v2, e4, e5, e6⟩ := h2.from (n := l.length + 4) (k := 4) (kd := .i64) (by omega) (by simp [u8s]) (by omega)
    have e4' : aslice 1 lv (some (.int .i64 4)) none none = some v2 := e4
    have e2' : Row H lv 1 (u8s (a :: b :: c :: d :: l)) := h2.1
    obtain ⟨i0, o0, a0, b0, c0, s0⟩ := u8_at (k := .i64) e2' (j := 0) rfl
    obtain ⟨i1, o1, a1, b1, c1, s1⟩ := u8_at (k := .i64) e2' (j := 1) rfl
    obtain ⟨i2, o2, a2, b2, c2, s2⟩ := u8_at (k := .i64) e2' (j := 2) rfl
    obtain ⟨i3, o3, a3, b3, c3, s3⟩ := u8_at (k := .i64) e2' (j := 3) rfl
    rw [h3] at s0 s1 s2 s3
    have n0 : i0 ≠ w := fun e => by subst e; exact h5 s0
    have n1 : i1 ≠ w := fun e => by subst e; exact h5 s1
    have n2 : i2 ≠ w := fun e => by subst e; exact h5 s2
    have n3 : i3 ≠ w := fun e => by subst e; exact h5 s3
    have a0' : aindexAddrS 1 lv (.int .i64 0) = some (.ptr i0 o0) := a0
    have a1' : aindexAddrS 1 lv (.int .i64 1) = some (.ptr i1 o1) := a1
    have a2' : aindexAddrS 1 lv (.int .i64 2) = some (.ptr i2 o2) := a2
    have a3' : aindexAddrS 1 lv (.int .i64 3) = some (.ptr i3 o3) := a3
    have d0 := h6 a (by simp)
    have d1 := h6 b (by simp)
    have d2 := h6 c (by simp)
    have d3 := h6 d (by simp)
    have cc := e5.1.cells
    simp (disch := first | omega | (simp only [nx] <;> omega) | fail) only [vaw, F102, h1, hl, hs, decide_false, e4', a0', a1', a2', a3', c0, c1, c2, c3, n0, n1, n2, n3, cc, Nat.reduceAdd, Nat.reduceMul, Nat.reduceLeDiff, Nat.reduceEqDiff, ↓reduceIte]
    have kk : Keep (fun j => j = w) H (H.upd w (some (.cells [v2, .bool bad] true))) := (Keep.refl (fun j => j = w) _).upd (.inr rfl) _
    refine hq _ kk ⟨v2, obj_upd_eq rfl, e5.M kk (fun j hj e => by subst e; rw [e6, h3] at hj; exact h5 hj), by rw [e6, h3], h4, h5, fun x hx => h6 x (by simp only [rFour] at hx; simp [hx]), by simp at h7; simp only [rFour]; omega⟩ rfl
theorem rcnt_ret {w size : Nat} {src : Option Nat} {s : RS} {H : AHeap} {Q : AVal → AHeap → Prop} (h : RdAt H w src s) (hs : 0 < size ∧ size < 1000) (hq : ∀ H', Keep (fun j => j = w) H H' → RdAt H' w src (rCount size s).2 → H'.next = H.next → Q (.int .i64 (rCount size s).1) H') : Ret A 103 [.ptr w 0, .int .i64 size] H Q := by
  refine Ret.of (fn := F103) rfl ?_
  simp (disch := first | omega | (simp only [nx] <;> omega) | fail) only [vaw, F103, Nat.reduceAdd, Nat.reduceMul, Nat.reduceLeDiff, Nat.reduceEqDiff, ↓reduceIte]
  refine rnum_ret h fun H1 k1 h1 n1 => ?_
  have hbd := rFour_bd h.bytes
  unfold rCount at hq
  generalize rFour s = r at *
  obtain ⟨n, left, bad⟩ := r
  simp only at hq hbd h1 ⊢
  obtain ⟨lv, g1, g2, g3, g4, g5, g6, g7⟩ := h1
  simp only at g1 g2 g6 g7
  have hl := g2.1.len1
  rw [u8s_length] at hl
  have hz : (size : Int) ≠ 0 := by omega
  have hquo : ((left.length : Int)).tdiv (size : Int) = ((left.length / size : Nat) : Int) := by
    rw [Int.ofNat_tdiv]
  have hdl : left.length / size ≤ left.length := Nat.div_le_self _ _
  generalize left.length / size = dq at *
  by_cases hc : ((dq : Nat) : Int) < n
  · rw [if_pos hc] at hq
    simp (disch := first | omega | (simp only [nx] <;> omega) | fail) only [vaw, g1, hl, abin_quo, hquo, hc, decide_true, Nat.reduceAdd, Nat.reduceMul, Nat.reduceLeDiff, Nat.reduceEqDiff, ↓reduceIte]
    have kk : Keep (fun j => j = w) H1 (H1.upd w (some (.cells [lv, .bool true] true))) := (Keep.refl (fun j => j = w) _).upd (.inr rfl) _
    exact hq _ (k1.trans kk) ⟨lv, obj_upd_eq rfl, g2.M kk (fun j hj e => by subst e; rw [g3] at hj; exact g5 hj), g3, g4, g5, g6, g7⟩ n1
  · rw [if_neg hc] at hq
    simp (disch := first | omega | (simp only [nx] <;> omega) | fail) only [vaw, g1, hl, abin_quo, hquo, hc, decide_false, Nat.reduceAdd, Nat.reduceMul, Nat.reduceLeDiff, Nat.reduceEqDiff, ↓reduceIte]
    exact hq _ k1 ⟨lv, g1, g2, g3, g4, g5, g6, g7⟩ n1
theorem rrow_ret {w : Nat} {src : Option Nat} {s : RS} {H : AHeap} {Q : AVal → AHeap → Prop} (h : RdAt H w src s) (hl : s.left.length ≤ 1000000000) (hq : ∀ v' H', Keep (fun j => j = w) H H' → RdAt H' w src (rList s).2 → Own H.next H' v' 1 (ints (rList s).1) → Q v' H') : Ret A 105 [.ptr w 0] H Q := by
  refine Ret.of (fn := F105) rfl ?_
  have hw := h.lt
  simp (disch := first | omega | (simp only [nx] <;> omega) | fail) only [vaw, F105, Nat.reduceAdd, Nat.reduceMul, Nat.reduceLeDiff, Nat.reduceEqDiff, ↓reduceIte]
  refine rcnt_ret (size := 4) h (by omega) fun H1 k1 h1 n1 => ?_
  have hb := rCount_bd (size := 4) h.bytes
  have hle := rCount_le (size := 4) h.bytes
  have hdl : s.left.length / 4 ≤ s.left.length := Nat.div_le_self _ _
  unfold rList at hq
  simp only at hq
  obtain ⟨n, hn⟩ : ∃ n : Nat, (rCount 4 s).1 = n := ⟨(rCount 4 s).1.toNat, by omega⟩
  rw [hn] at hb hle hq ⊢
  rw [Int.toNat_natCast] at hq
  generalize (rCount 4 s).2 = s1 at *
  have hls : ∀ j, src = some j → j < H.next := fun j hj => h.src_lt hj
  simp (disch := first | omega | (simp only [nx] <;> omega) | fail) only [vaw, Nat.reduceAdd, Nat.reduceMul, Nat.reduceLeDiff, Nat.reduceEqDiff, ↓reduceIte]
  refine wpx_loop (fun m t H' => ∃ (i : Nat) (ov : AVal), m = n - i ∧ i ≤ n ∧ t = (.ptr w 0 :: bots 2 (ov :: .int .i64 n :: .int .i64 i :: bots 13 ([])) : Tmps) ∧ Keep (fun j => j = w) H H' ∧ RdAt H' w src (rep rFour i s1).2 ∧ Grown H.next H' ov 1 (ints (rep rFour i s1).1)) n ?_ ?_
  · exact ⟨0, .nilSlice, rfl, by omega, rfl, k1, h1, .nil⟩
  · rintro m t H2 ⟨i, ov, rfl, hi, rfl, k2, h2, g2⟩
    have n2 := k2.next
    by_cases hc : (i : Int) < n
    · simp (disch := first | omega | (simp only [nx] <;> omega) | fail) only [vaw, hc, decide_true, Nat.reduceAdd, Nat.reduceMul, Nat.reduceLeDiff, Nat.reduceEqDiff, ↓reduceIte]
      refine rnum_ret h2 fun H3 k3 h3 n3 => ?_
      have g3 := g2.own.keepM k3 (fun j hj => by have := (g2.sid_ge hj).1; omega)
      have rl := rep_length rFour i s1
      simp (disch := first | omega | (simp only [nx] <;> omega) | fail) only [vaw, Nat.reduceAdd, Nat.reduceMul, Nat.reduceLeDiff, Nat.reduceEqDiff, ↓reduceIte]
      refine app_ret (n := i) g3 (by simp (disch := first | omega | (simp only [nx] <;> omega) | fail) only [vaim]; rfl) rfl (by omega) (by omega) (by rw [ints_length, rl]; omega) (by omega) (by omega) ?_
      intro v4 H4 n4 k4 g4 s4
      simp only [next_new] at n4 k4 s4
      simp (disch := first | omega | (simp only [nx] <;> omega) | fail) only [vaw, Nat.reduceAdd, Nat.reduceMul, Nat.reduceLeDiff, Nat.reduceEqDiff, ↓reduceIte]
      have k34 : Keep (fun j => sid ov = some j) H3 H4 := ⟨by omega, fun j hj hm => by rw [k4 j (by omega) hm, obj_new_ne (by omega)]⟩
      refine ⟨n - (i + 1), by omega, i + 1, v4, rfl, by omega, rfl, (k2.trans k3).trans' k34 (fun j hj e => by have := (g2.sid_ge e).1; omega), h3.M k34 (fun e => by have := (g2.sid_ge e).1; omega) (fun j hj e => by have := hls j hj; have := (g2.sid_ge e).1; omega), ?_⟩
      simp only [rep]
      rw [ints_append]
      exact g4
    · have hi : n = i := by omega
      subst hi
      have rl := rep_length rFour n s1
      have nb := g2.notBot
      simp (disch := first | omega | (simp only [nx] <;> omega) | fail) only [vaw, hc, decide_false, nb, Nat.reduceAdd, Nat.reduceMul, Nat.reduceLeDiff, Nat.reduceEqDiff, ↓reduceIte]
      exact hq ov H2 k2 h2 g2.own
def rCost (s : RS) : Int × RS :=
  let a := rFour s
  let b := rFour a.2
  (orI .i64 (shlI .i64 a.1 32) b.1, ⟨b.2.left, b.2.bad || decide (1048576 ≤ a.1)⟩)
theorem rcost_ret {w : Nat} {src : Option Nat} {s : RS} {H : AHeap} {Q : AVal → AHeap → Prop} (h : RdAt H w src s) (hq : ∀ H', Keep (fun j => j = w) H H' → RdAt H' w src (rCost s).2 → Q (.int .i64 (rCost s).1) H') : Ret A 104 [.ptr w 0] H Q := by
  refine Ret.of (fn := F104) rfl ?_
  simp (disch := first | omega | (simp only [nx] <;> omega) | fail) only [vaw, F104, Nat.reduceAdd, Nat.reduceMul, Nat.reduceLeDiff, Nat.reduceEqDiff, ↓reduceIte]
  refine rnum_ret h fun H1 k1 h1 n1 => ?_
  simp (disch := first | omega | (simp only [nx] <;> omega) | fail) only [vaw, Nat.reduceAdd, Nat.reduceMul, Nat.reduceLeDiff, Nat.reduceEqDiff, ↓reduceIte]
  refine rnum_ret h1 fun H2 k2 h2 n2 => ?_
  unfold rCost at hq
  simp only at hq
  generalize rFour s = ra at *
  generalize rFour ra.2 = rb at *
  by_cases hc : (1048576 : Int) ≤ ra.1
  · obtain ⟨lv, g1, g2, g3, g4, g5, g6, g7⟩ := h2
    simp (disch := first | omega | (simp only [nx] <;> omega) | fail) only [vaw, hc, g1, Nat.reduceAdd, Nat.reduceMul, Nat.reduceLeDiff, Nat.reduceEqDiff, ↓reduceIte]
    have kk : Keep (fun j => j = w) H2 (H2.upd w (some (.cells [lv, .bool true] true))) := (Keep.refl (fun j => j = w) _).upd (.inr rfl) _
    rw [decide_eq_true hc, Bool.or_true] at hq
    exact hq _ ((k1.trans k2).trans kk) ⟨lv, obj_upd_eq rfl, g2.M kk (fun j hj e => by subst e; rw [g3] at hj; exact g5 hj), g3, g4, g5, g6, g7⟩
  · simp (disch := first | omega | (simp only [nx] <;> omega) | fail) only [vaw, hc, Nat.reduceAdd, Nat.reduceMul, Nat.reduceLeDiff, Nat.reduceEqDiff, ↓reduceIte]
    rw [decide_eq_false hc, Bool.or_false] at hq
    exact hq _ (k1.trans k2) h2
end Go.Proofs.Ytknhlpmmalcchaa

namespace Go.Proofs.Ytknhlpmmalcchaa
open Go Go.VAI
set_option linter.unusedSimpArgs false

def refArc : RS → Arc × RS := andThen rFour fun a => andThen rFour fun b => andThen rFour fun c => andThen rCost fun d => andThen rFour fun e => andThen rFour fun f => andThen rFour fun g s => (⟨a, b, c, d, e - 1, f, g⟩, s)
theorem refArc_eq (s : RS) : refArc s = (⟨(rFour s).1, (rFour (rFour s).2).1, (rFour (rFour (rFour s).2).2).1, (rCost (rFour (rFour (rFour s).2).2).2).1, (rFour (rCost (rFour (rFour (rFour s).2).2).2).2).1 - 1, (rFour (rFour (rCost (rFour (rFour (rFour s).2).2).2).2).2).1, (rFour (rFour (rFour (rCost (rFour (rFour (rFour s).2).2).2).2).2).2).1⟩, (rFour (rFour (rFour (rCost (rFour (rFour (rFour s).2).2).2).2).2).2).2) := rfl
theorem rCost_left (s : RS) : (rCost s).2.left.length ≤ s.left.length := Nat.le_trans (rFour_left _) (rFour_left s)
theorem refArc_left (s : RS) : (refArc s).2.left.length ≤ s.left.length := by
  rw [refArc_eq]
  exact Nat.le_trans (rFour_left _) (Nat.le_trans (rFour_left _) (Nat.le_trans (rFour_left _) (Nat.le_trans (rCost_left _) (Nat.le_trans (rFour_left _) (Nat.le_trans (rFour_left _) (rFour_left s))))))
def refRead (s : RS) : Idx × RS :=
  let n := rFour s
  let k := rCount 16 n.2
  let es := rep rEdge k.1.toNat k.2
  if 60 < n.1 then (⟨n.1, es.1, [], [], [], []⟩, ⟨es.2.left, true⟩) else
  let rk := rep rRank n.1.toNat es.2
  let m := rCount 32 rk.2
  let arcs := rep refArc m.1.toNat m.2
  let up := rep rList n.1.toNat arcs.2
  let down := rep rList n.1.toNat up.2
  (⟨n.1, es.1, rk.1, arcs.1, up.1, down.1⟩, down.2)
structure RdgAt (H0 : AHeap) (q w : Nat) (src : Option Nat) (H : AHeap) (cs : List AVal) (s : RS) : Prop where
  keep : Keep (fun j => j = w) H0 H
  op : H.obj H0.next = some (.cells [.int .i64 0, .nilSlice, .nilSlice, .nilSlice, .nilSlice, .nilSlice] true)
  ob : H.obj q = some (.cells cs true)
  rd : RdAt H w src s
  len : s.left.length ≤ 1000000000
  lq : H0.next < q
  lh : q < H.next
  lw : w < H0.next
  ls : ∀ j, src = some j → j < H0.next
theorem RdgAt.grow {H0 : AHeap} {q w : Nat} {src : Option Nat} {H H' : AHeap} {cs : List AVal} {s : RS} {M : Nat → Prop} (h : RdgAt H0 q w src H cs s) (hk : Keep M H H') (hM : ∀ j, M j → q < j) : RdgAt H0 q w src H' cs s := by
  have h2 := h.lq
  have h3 := h.lw
  have h4 := h.lh
  have h5 := h.keep.next
  have hm : ∀ j, j ≤ q → ¬ M j := fun j hj hm => by have := hM j hm; omega
  exact ⟨⟨by have := hk.next; omega, fun j hj hw => by rw [hk.obj j (by omega) (hm j (by omega)), h.keep.obj j hj hw]⟩, by rw [hk.obj _ (by omega) (hm _ (by omega))]; exact h.op, by rw [hk.obj _ (by omega) (hm _ (by omega))]; exact h.ob, h.rd.M hk (hm w (by omega)) (fun j hj => hm j (by have := h.ls j hj; omega)), h.len, h2, by have := hk.next; omega, h3, h.ls⟩
theorem RdgAt.kept {H0 : AHeap} {q w : Nat} {src : Option Nat} {H H' : AHeap} {cs : List AVal} {s : RS} (h : RdgAt H0 q w src H cs s) (hk : Keep Nothing H H') : RdgAt H0 q w src H' cs s := h.grow hk (fun _ h => h.elim)
theorem RdgAt.upd {H0 : AHeap} {q w y : Nat} {src : Option Nat} {H : AHeap} {cs : List AVal} {s : RS} (h : RdgAt H0 q w src H cs s) (hy : q < y) (o : Option AObj) : RdgAt H0 q w src (H.upd y o) cs s :=
  h.grow (M := fun j => j = y) ((Keep.refl (fun j => j = y) _).upd (.inr rfl) _) (fun j e => by omega)
theorem RdgAt.read {H0 : AHeap} {q w : Nat} {src : Option Nat} {H H' : AHeap} {cs : List AVal} {s s' : RS} (h : RdgAt H0 q w src H cs s) (hk : Keep (fun j => j = w) H H') (hr : RdAt H' w src s') (hl : s'.left.length ≤ s.left.length) : RdgAt H0 q w src H' cs s' := by
  have h2 := h.lq
  have h3 := h.lw
  have h4 := h.lh
  have h5 := h.keep.next
  have h6 := h.len
  exact ⟨⟨by have := hk.next; omega, fun j hj hw => by rw [hk.obj j (by omega) hw, h.keep.obj j hj hw]⟩, by rw [hk.obj _ (by omega) (by omega)]; exact h.op, by rw [hk.obj _ (by omega) (by omega)]; exact h.ob, hr, by omega, h2, by have := hk.next; omega, h3, h.ls⟩
theorem RdgAt.put {H0 : AHeap} {q w : Nat} {src : Option Nat} {H : AHeap} {cs : List AVal} {s : RS} (h : RdgAt H0 q w src H cs s) (cs' : List AVal) : RdgAt H0 q w src (H.upd q (some (.cells cs' true))) cs' s := by
  have h2 := h.lq
  have h3 := h.lw
  have h4 := h.lh
  have h5 := h.keep.next
  have kk : Keep (fun j => j = q) H (H.upd q (some (.cells cs' true))) := (Keep.refl (fun j => j = q) _).upd (.inr rfl) _
  exact ⟨h.keep.upd (.inl (by omega)) _, by rw [obj_upd_ne (by omega)]; exact h.op, obj_upd_eq rfl, h.rd.M kk (by omega) (fun j hj => by have := h.ls j hj; omega), h.len, h2, h4, h3, h.ls⟩
theorem RdgAt.num {H0 : AHeap} {q w y : Nat} {src : Option Nat} {Ha H : AHeap} {cs zs : List AVal} {s : RS} {Q : AVal → AHeap → Prop} (h : RdgAt H0 q w src H cs s) (hk : Keep (fun j => j = w) Ha H) (ho : H.obj y = some (.cells zs true)) (hy : Ha.next ≤ y ∧ y < H.next) (hqa : q < Ha.next)
    (hq : ∀ H', RdgAt H0 q w src H' cs (rFour s).2 → Keep (fun j => j = w) Ha H' → H'.obj y = some (.cells zs true) → H'.next = H.next → Q (.int .i64 (rFour s).1) H') : Ret A 102 [.ptr w 0] H Q := by
  refine rnum_ret h.rd fun H' k hr hn => ?_
  have h2 := h.lq
  have h3 := h.lw
  exact hq H' (h.read k hr (rFour_left s)) (hk.trans k) (by rw [k.obj _ (by omega) (by omega)]; exact ho) hn
theorem RdgAt.cst {H0 : AHeap} {q w y : Nat} {src : Option Nat} {Ha H : AHeap} {cs zs : List AVal} {s : RS} {Q : AVal → AHeap → Prop} (h : RdgAt H0 q w src H cs s) (hk : Keep (fun j => j = w) Ha H) (ho : H.obj y = some (.cells zs true)) (hy : Ha.next ≤ y ∧ y < H.next) (hqa : q < Ha.next)
    (hq : ∀ H', RdgAt H0 q w src H' cs (rCost s).2 → Keep (fun j => j = w) Ha H' → H'.obj y = some (.cells zs true) → H.next ≤ H'.next → Q (.int .i64 (rCost s).1) H') : Ret A 104 [.ptr w 0] H Q := by
  refine rcost_ret h.rd fun H' k hr => ?_
  have h2 := h.lq
  have h3 := h.lw
  exact hq H' (h.read k hr (rCost_left s)) (hk.trans k) (by rw [k.obj _ (by omega) (by omega)]; exact ho) k.next
theorem RdgAt.set {H0 : AHeap} {q w y : Nat} {src : Option Nat} {Ha H : AHeap} {cs zs : List AVal} {s : RS} (h : RdgAt H0 q w src H cs s) (hk : Keep (fun j => j = w) Ha H) (hy : Ha.next ≤ y ∧ y < H.next) (hqa : q < Ha.next) :
    RdgAt H0 q w src (H.upd y (some (.cells zs true))) cs s ∧ Keep (fun j => j = w) Ha (H.upd y (some (.cells zs true))) ∧ (H.upd y (some (.cells zs true))).obj y = some (.cells zs true) ∧ (H.upd y (some (.cells zs true))).next = H.next :=
  ⟨h.upd (by omega) _, hk.upd (.inl (by omega)) _, obj_upd_eq rfl, by simp only [next_upd]⟩
end Go.Proofs.Ytknhlpmmalcchaa

namespace Go.Proofs.Ytknhlpmmalcchaa
open Go Go.VAI
set_option linter.unusedSimpArgs false

theorem IdxFrom.finR {q lo : Nat} {Hs H : AHeap} {ew rv av uv dv : AVal} {x : Idx} (hlo : lo ≤ q) (hk : Keep (fun j => j ≤ q) Hs H) (he : Fin' q Hs ew 4 (edgeCells x.es)) (hr : Fin' q Hs rv 1 (ints x.rank)) (ha : Fin' q Hs av 7 (arcCells x.arcs)) (hu : FinRows q Hs uv x.up) (hd : FinRows q Hs dv x.down) : IdxFrom lo H ew rv av uv dv x := by
  have f : ∀ {v : AVal} {sz : Nat} {cs : List AVal}, Fin' q Hs v sz cs → From lo H v sz cs := fun h => ⟨(h.M hk (fun _ h => h)).1, fun j hj => by have := h.2 j hj; omega⟩
  have g : ∀ {v : AVal} {ll : List (List Int)}, FinRows q Hs v ll → FromRows lo H v ll := fun h => by
    obtain ⟨vs, h1, h2, h3⟩ := h
    exact ⟨vs, f h1, h2, fun i r l e1 e2 => f (h3 i r l e1 e2)⟩
  exact ⟨f he, f hr, f ha, g hu, g hd⟩
set_option maxRecDepth 20000 in
set_option maxHeartbeats 8000000 in
theorem refRead_ret {w : Nat} {src : Option Nat} {s : RS} {H : AHeap} {Q : AVal → AHeap → Prop} (h : RdAt H w src s) (hl : s.left.length ≤ 1000000000)
    (hq : ∀ ew rv av uv dv H', Keep (fun j => j = w) H H' → RdAt H' w src (refRead s).2 → IdxFrom H.next H' ew rv av uv dv (refRead s).1 → Q (.agg [.int .i64 (refRead s).1.n, ew, rv, av, uv, dv]) H') : Ret A 75 [.ptr w 0] H Q := by
  refine Ret.of (fn := F75) rfl ?_
  have hwl := h.lt
  have hls : ∀ j, src = some j → j < H.next := fun j hj => h.src_lt hj
  simp (disch := first | omega | (simp only [nx] <;> omega) | fail) only [vaw, F75, Nat.reduceAdd, Nat.reduceMul, Nat.reduceLeDiff, Nat.reduceEqDiff, ↓reduceIte]
  have D0 : RdgAt H (H.next + 1) w src ((H.new (.cells [.int .i64 0, .nilSlice, .nilSlice, .nilSlice, .nilSlice, .nilSlice] true)).new (.cells [.int .i64 0, .nilSlice, .nilSlice, .nilSlice, .nilSlice, .nilSlice] true)) [.int .i64 0, .nilSlice, .nilSlice, .nilSlice, .nilSlice, .nilSlice] s :=
    ⟨((Keep.refl _ _).new _).new _, by simp (disch := first | omega | (simp only [nx] <;> omega) | fail) only [vaim], by simp (disch := first | omega | (simp only [nx] <;> omega) | fail) only [vaim], h.kept (((Keep.refl _ _).new _).new _), hl, by omega, by simp only [next_new]; omega, hwl, hls⟩
  generalize hqq : H.next + 1 = q at *
  generalize (H.new (.cells [.int .i64 0, .nilSlice, .nilSlice, .nilSlice, .nilSlice, .nilSlice] true)).new (.cells [.int .i64 0, .nilSlice, .nilSlice, .nilSlice, .nilSlice, .nilSlice] true) = H4 at *
  refine rnum_ret D0.rd fun H5 k5 h5 n5 => ?_
  have D1 := D0.read k5 h5 (rFour_left _)
  have hn := rFour_bd h.bytes
  obtain ⟨n, hN⟩ : ∃ n : Nat, (rFour s).1 = n := ⟨(rFour s).1.toNat, by omega⟩
  rw [hN] at hn ⊢
  have o1 := D1.ob
  simp (disch := first | omega | (simp only [nx] <;> omega) | fail) only [vaw, o1, Nat.reduceAdd, Nat.reduceMul, Nat.reduceLeDiff, Nat.reduceEqDiff, ↓reduceIte]
  have D2 := D1.put [.int .i64 n, .nilSlice, .nilSlice, .nilSlice, .nilSlice, .nilSlice]
  generalize H5.upd q (some (.cells [.int .i64 n, .nilSlice, .nilSlice, .nilSlice, .nilSlice, .nilSlice] true)) = H6 at *
  refine rcnt_ret (size := 16) D2.rd (by omega) fun H7 k7 h7 n7 => ?_
  have D3 := D2.read k7 h7 (rCount_left _ _)
  have hk := rCount_bd (size := 16) D2.rd.bytes
  have hkl := rCount_le (size := 16) D2.rd.bytes
  have hl0 := D2.len
  clear k5 h5 n5 o1 D1 D0 k7 h7 n7
  obtain ⟨k, hkk⟩ : ∃ k : Nat, (rCount 16 (rFour s).2).1 = k := ⟨(rCount 16 (rFour s).2).1.toNat, by omega⟩
  rw [hkk] at hk hkl ⊢
  have hk9 : k ≤ 1000000000 := by
    have := Nat.div_le_self (rFour s).2.left.length 16
    omega
  generalize hS0 : (rCount 16 (rFour s).2).2 = s0 at *
  have hw7 := D3.lh
  have hqw := D3.lw
  clear D2
  simp (disch := first | omega | (simp only [nx] <;> omega) | fail) only [vaw, Nat.reduceAdd, Nat.reduceMul, Nat.reduceLeDiff, Nat.reduceEqDiff, ↓reduceIte]
  refine wpx_loop (fun m t H' => ∃ (i : Nat) (ev : AVal), m = k - i ∧ i ≤ k ∧ t = (.ptr w 0 :: bots 1 (.ptr H.next 0 :: .ptr q 0 :: .int .i64 k :: .int .i64 i :: bots 124 ([])) : Tmps) ∧ RdgAt H q w src H' [.int .i64 n, ev, .nilSlice, .nilSlice, .nilSlice, .nilSlice] (rep rEdge i s0).2 ∧ Keep (fun j => j = w ∨ j = q) H7 H' ∧ Own H7.next H' ev 4 (edgeCells (rep rEdge i s0).1)) k ?_ ?_
  · exact ⟨0, .nilSlice, rfl, by omega, rfl, D3, Keep.refl _ _, .nil⟩
  · clear D3
    rintro m t Ha ⟨i, ev, rfl, hi, rfl, D, kD, gD⟩
    have nD := kD.next
    by_cases hc : (i : Int) < k
    · have hrep : rep rEdge (i + 1) s0 = ((rep rEdge i s0).1 ++ [⟨(rFour (rep rEdge i s0).2).1, (rFour (rFour (rep rEdge i s0).2).2).1, (rFour (rFour (rFour (rep rEdge i s0).2).2).2).1, (rFour (rFour (rFour (rFour (rep rEdge i s0).2).2).2).2).1⟩], (rFour (rFour (rFour (rFour (rep rEdge i s0).2).2).2).2).2) := rfl
      have rl := rep_length rEdge i s0
      simp (disch := first | omega | (simp only [nx] <;> omega) | fail) only [vaw, hc, Nat.reduceAdd, Nat.reduceMul, Nat.reduceLeDiff, Nat.reduceEqDiff, ↓reduceIte]
      refine rnum_ret D.rd fun Hb kb hb nb => ?_
      have Db := D.read kb hb (rFour_left _)
      generalize (rep rEdge i s0).1 = es0 at *
      generalize (rep rEdge i s0).2 = t0 at *
      simp (disch := first | omega | (simp only [nx] <;> omega) | fail) only [vaw, Nat.reduceAdd, Nat.reduceMul, Nat.reduceLeDiff, Nat.reduceEqDiff, ↓reduceIte]
      have kb1 : Keep (fun j => j = w) Ha ((Hb.new (.cells [.int .i64 0, .int .i64 0, .int .i64 0, .int .i64 0] true)).upd Hb.next (some (.cells [.int .i64 (rFour t0).1, .int .i64 0, .int .i64 0, .int .i64 0] true))) := (kb.new _).upd (.inl (by omega)) _
      have Db1 := (Db.kept ((Keep.refl Nothing Hb).new (.cells [.int .i64 0, .int .i64 0, .int .i64 0, .int .i64 0] true))).upd (y := Hb.next) (by have := Db.lh; omega) (some (.cells [.int .i64 (rFour t0).1, .int .i64 0, .int .i64 0, .int .i64 0] true))
      have ob1 : ((Hb.new (.cells [.int .i64 0, .int .i64 0, .int .i64 0, .int .i64 0] true)).upd Hb.next (some (.cells [.int .i64 (rFour t0).1, .int .i64 0, .int .i64 0, .int .i64 0] true))).obj Hb.next = some (.cells [.int .i64 (rFour t0).1, .int .i64 0, .int .i64 0, .int .i64 0] true) := obj_upd_eq rfl
      have nb1 : ((Hb.new (.cells [.int .i64 0, .int .i64 0, .int .i64 0, .int .i64 0] true)).upd Hb.next (some (.cells [.int .i64 (rFour t0).1, .int .i64 0, .int .i64 0, .int .i64 0] true))).next = Hb.next + 1 := by simp only [next_upd, next_new]
      generalize (Hb.new (.cells [.int .i64 0, .int .i64 0, .int .i64 0, .int .i64 0] true)).upd Hb.next (some (.cells [.int .i64 (rFour t0).1, .int .i64 0, .int .i64 0, .int .i64 0] true)) = Hc at *
      have hy : Ha.next ≤ Hb.next := by omega
      generalize Hb.next = y at *
      have hqa := D.lh
      clear D Db hb kb nb
      refine Db1.num kb1 ob1 (by omega) hqa fun Hd Dd kd od nd => ?_
      simp (disch := first | omega | (simp only [nx] <;> omega) | fail) only [vaw, od, Nat.reduceAdd, Nat.reduceMul, Nat.reduceLeDiff, Nat.reduceEqDiff, ↓reduceIte]
      obtain ⟨De, ke, oe, ne⟩ := Dd.set (y := y) (zs := [.int .i64 (rFour t0).1, .int .i64 (rFour (rFour t0).2).1, .int .i64 0, .int .i64 0]) kd (by omega) hqa
      generalize Hd.upd y (some (.cells [.int .i64 (rFour t0).1, .int .i64 (rFour (rFour t0).2).1, .int .i64 0, .int .i64 0] true)) = He at *
      refine De.num ke oe (by omega) hqa fun Hf Df kf of nf => ?_
      simp (disch := first | omega | (simp only [nx] <;> omega) | fail) only [vaw, of, Nat.reduceAdd, Nat.reduceMul, Nat.reduceLeDiff, Nat.reduceEqDiff, ↓reduceIte]
      obtain ⟨Dg, kg, og, ng⟩ := Df.set (y := y) (zs := [.int .i64 (rFour t0).1, .int .i64 (rFour (rFour t0).2).1, .int .i64 (rFour (rFour (rFour t0).2).2).1, .int .i64 0]) kf (by omega) hqa
      generalize Hf.upd y (some (.cells [.int .i64 (rFour t0).1, .int .i64 (rFour (rFour t0).2).1, .int .i64 (rFour (rFour (rFour t0).2).2).1, .int .i64 0] true)) = Hg at *
      refine Dg.num kg og (by omega) hqa fun Hh Dh kh oh nh => ?_
      have obh := Dh.ob
      have hqh := Dh.lh
      simp (disch := first | omega | (simp only [nx] <;> omega) | fail) only [vaw, oh, obh, Nat.reduceAdd, Nat.reduceMul, Nat.reduceLeDiff, Nat.reduceEqDiff, ↓reduceIte]
      obtain ⟨Di, ki, oi, ni⟩ := Dh.set (y := y) (zs := [.int .i64 (rFour t0).1, .int .i64 (rFour (rFour t0).2).1, .int .i64 (rFour (rFour (rFour t0).2).2).1, .int .i64 (rFour (rFour (rFour (rFour t0).2).2).2).1]) kh (by omega) hqa
      generalize Hh.upd y (some (.cells [.int .i64 (rFour t0).1, .int .i64 (rFour (rFour t0).2).1, .int .i64 (rFour (rFour (rFour t0).2).2).1, .int .i64 (rFour (rFour (rFour (rFour t0).2).2).2).1] true)) = Hi at *
      have obi := Di.ob
      have nqi := Di.lh
      have bev := gD.beq
      have g4 := gD.keepM ki (fun j hj e => by have := (gD.sid_ge hj).1; omega)
      refine app_ret (n := i) g4 (by simp (disch := first | omega | (simp only [nx] <;> omega) | fail) only [vaim]; rfl) rfl (by omega) (by omega) (by rw [edgeCells_length, rl]) (by omega) (by omega) ?_
      intro v5 H10 n10 k10 g10 s10
      simp only [next_new] at n10 s10
      have kk := app_keep n10 k10
      have D5 := (Di.kept ((Keep.refl _ _).new _)).grow kk (fun j hj => by have := (g4.sid_ge hj).1; omega)
      have ob5 := D5.ob
      have c5 := g10.cells
      simp (disch := first | omega | (simp only [nx] <;> omega) | fail) only [vaw, ob5, c5, Nat.reduceAdd, Nat.reduceMul, Nat.reduceLeDiff, Nat.reduceEqDiff, ↓reduceIte]
      refine ⟨k - (i + 1), by omega, i + 1, v5, rfl, by omega, rfl, by rw [hrep]; exact D5.put _, wq_upd (((kD.trans (wq_of ki)).new _).trans' kk (fun j hj e => by have := (g4.sid_ge e).1; omega)) _, ?_⟩
      refine (Grown.upd ?_ (by omega) _).own
      rw [hrep, edgeCells_append]
      exact g10
    · have hik : i = k := by omega
      subst hik
      have hE := own_fin (w := q) gD hw7
      have ob := D.ob
      have oh := D.op
      obtain ⟨lv, r1, r2, r3, r4, r5, r6, r7⟩ := D.rd
      have hlh := D.lh
      have hlq := D.lq
      generalize hS1 : (rep rEdge i s0).2 = s1 at *
      generalize hES : (rep rEdge i s0).1 = es at *
      by_cases c1 : (60 : Int) < n
      · have href : refRead s = (⟨n, es, [], [], [], []⟩, ⟨s1.left, true⟩) := by
          unfold refRead
          simp only [hN, hkk, hS0, hS1, hES, Int.toNat_natCast, if_pos c1]
        rw [href] at hq
        simp (disch := first | omega | (simp only [nx] <;> omega) | fail) only [vaw, hc, ob, oh, r1, c1, Nat.reduceAdd, Nat.reduceMul, Nat.reduceLeDiff, Nat.reduceEqDiff, ↓reduceIte]
        refine hq ev .nilSlice .nilSlice .nilSlice .nilSlice _ ?_ ?_ ?_
        · exact (D.keep.upd (.inr rfl) _).upd (.inl (Nat.le_refl _)) _
        · have kk : Keep (fun j => j = w ∨ j = H.next) Ha ((Ha.upd w (some (.cells [lv, .bool true] true))).upd H.next (some (.cells [.int .i64 n, ev, .nilSlice, .nilSlice, .nilSlice, .nilSlice] true))) := ((Keep.refl (fun j => j = w ∨ j = H.next) _).upd (.inr (.inl rfl)) _).upd (.inr (.inr rfl)) _
          exact ⟨lv, by rw [obj_upd_ne (by omega), obj_upd_eq rfl], r2.M kk (fun j hj e => by have := hls j (by rw [← r3]; exact hj); rcases e with e | e; exact r5 (by rw [← r3, hj, e]); omega), r3, by simp only [next_upd]; omega, r5, r6, r7⟩
        · have kk : Keep (fun j => j ≤ q) Ha ((Ha.upd w (some (.cells [lv, .bool true] true))).upd H.next (some (.cells [.int .i64 n, ev, .nilSlice, .nilSlice, .nilSlice, .nilSlice] true))) := ((Keep.refl (fun j => j ≤ q) _).upd (.inr (by omega)) _).upd (.inr (by omega)) _
          exact ⟨⟨(hE.M kk (fun _ h => h)).1, fun j hj => by have := hE.2 j hj; omega⟩, ⟨.nil, fun j hj => by cases hj⟩, ⟨.nil, fun j hj => by cases hj⟩, ⟨[], ⟨.nil, fun j hj => by cases hj⟩, rfl, fun i r l h => by simp at h⟩, ⟨[], ⟨.nil, fun j hj => by cases hj⟩, rfl, fun i r l h => by simp at h⟩⟩
      · have href : refRead s = (⟨n, es, (rep rRank n s1).1, (rep refArc (rCount 32 (rep rRank n s1).2).1.toNat (rCount 32 (rep rRank n s1).2).2).1, (rep rList n (rep refArc (rCount 32 (rep rRank n s1).2).1.toNat (rCount 32 (rep rRank n s1).2).2).2).1, (rep rList n (rep rList n (rep refArc (rCount 32 (rep rRank n s1).2).1.toNat (rCount 32 (rep rRank n s1).2).2).2).2).1⟩, (rep rList n (rep rList n (rep refArc (rCount 32 (rep rRank n s1).2).1.toNat (rCount 32 (rep rRank n s1).2).2).2).2).2) := by
          unfold refRead
          simp only [hN, hkk, hS0, hS1, hES, Int.toNat_natCast, if_neg c1]
        rw [href] at hq
        simp (disch := first | omega | (simp only [nx] <;> omega) | fail) only [vaw, hc, ob, c1, Nat.reduceAdd, Nat.reduceMul, Nat.reduceLeDiff, Nat.reduceEqDiff, ↓reduceIte]
        clear r1 r2 r3 r4 r5 r6 r7 gD kD hk hkl hk9 hS0 hS1 hES href ob oh hl0
        refine wpx_loop (fun m t H' => ∃ (i : Nat) (rv : AVal), m = n - i ∧ i ≤ n ∧ t = (.ptr w 0 :: bots 1 (.ptr H.next 0 :: .ptr q 0 :: bots 3 (.int .i64 i :: bots 122 ([]))) : Tmps) ∧ RdgAt H q w src H' [.int .i64 n, ev, rv, .nilSlice, .nilSlice, .nilSlice] (rep rRank i s1).2 ∧ Keep (fun j => j = w ∨ j = q) Ha H' ∧ Own Ha.next H' rv 1 (ints (rep rRank i s1).1)) n ?_ ?_
        · exact ⟨0, .nilSlice, rfl, by omega, rfl, D, Keep.refl _ _, .nil⟩
        · clear D
          rintro m t Hr ⟨i, rv, rfl, hi, rfl, D, kD, gD⟩
          have ob := D.ob
          have nD := kD.next
          by_cases hc : (i : Int) < n
          · have hbd := rFour_bd D.rd.bytes
            simp (disch := first | omega | (simp only [nx] <;> omega) | fail) only [vaw, hc, ob, Nat.reduceAdd, Nat.reduceMul, Nat.reduceLeDiff, Nat.reduceEqDiff, ↓reduceIte]
            refine rnum_ret D.rd fun Hb kb hb nb => ?_
            have D4 := D.read kb hb (rFour_left _)
            have g4 := gD.keepM kb (fun j hj e => by have := (gD.sid_ge hj).1; omega)
            have ob4 := D4.ob
            have bev := gD.beq
            simp (disch := first | omega | (simp only [nx] <;> omega) | fail) only [vaw, ob4, reK_same bev, Nat.reduceAdd, Nat.reduceMul, Nat.reduceLeDiff, Nat.reduceEqDiff, ↓reduceIte]
            have rl := rep_length rRank i s1
            refine app_ret (n := i) g4 (by simp (disch := first | omega | (simp only [nx] <;> omega) | fail) only [vaim]; rfl) rfl (by omega) (by omega) (by rw [ints_length, rl]; omega) (by omega) (by omega) ?_
            intro v5 H10 n10 k10 g10 s10
            simp only [next_new] at n10 s10
            have kk := app_keep n10 k10
            have D5 := (D4.kept ((Keep.refl _ _).new _)).grow kk (fun j hj => by have := (g4.sid_ge hj).1; omega)
            have ob5 := D5.ob
            have c5 := g10.cells
            simp (disch := first | omega | (simp only [nx] <;> omega) | fail) only [vaw, ob5, c5, Nat.reduceAdd, Nat.reduceMul, Nat.reduceLeDiff, Nat.reduceEqDiff, ↓reduceIte]
            refine ⟨n - (i + 1), by omega, i + 1, v5, rfl, by omega, rfl, D5.put _, wq_upd (((kD.trans (wq_of kb)).new _).trans' kk (fun j hj e => by have := (g4.sid_ge e).1; omega)) _, ?_⟩
            refine (Grown.upd ?_ (by omega) _).own
            simp only [rep]
            rw [ints_append]
            exact g10
          · have hik : i = n := by omega
            subst hik
            have hE := hE.M kD (by omega)
            have hR := own_fin (w := q) gD hlh
            clear gD kD hi
            generalize (rep rRank i s1).2 = s2 at *
            generalize (rep rRank i s1).1 = rank at *
            simp (disch := first | omega | (simp only [nx] <;> omega) | fail) only [vaw, hc, ob, Nat.reduceAdd, Nat.reduceMul, Nat.reduceLeDiff, Nat.reduceEqDiff, ↓reduceIte]
            refine rcnt_ret (size := 32) D.rd (by omega) fun Hb kb hb nb => ?_
            have D1 := D.read kb hb (rCount_left _ _)
            have hk := rCount_bd (size := 32) D.rd.bytes
            have hkl := rCount_le (size := 32) D.rd.bytes
            have hl0 := D.len
            have hE := hE.M kb (by omega)
            have hR := hR.M kb (by omega)
            clear D ob
            obtain ⟨k, hkk⟩ : ∃ k : Nat, (rCount 32 s2).1 = k := ⟨(rCount 32 s2).1.toNat, by omega⟩
            rw [hkk] at hk hkl hq ⊢
            rw [Int.toNat_natCast] at hq
            have hk9 : k ≤ 1000000000 := by
              have := Nat.div_le_self s2.left.length 32
              omega
            generalize (rCount 32 s2).2 = s3 at *
            have hwb := D1.lh
            simp (disch := first | omega | (simp only [nx] <;> omega) | fail) only [vaw, Nat.reduceAdd, Nat.reduceMul, Nat.reduceLeDiff, Nat.reduceEqDiff, ↓reduceIte]
            refine wpx_loop (fun m t H' => ∃ (j : Nat) (av : AVal), m = k - j ∧ j ≤ k ∧ t = (.ptr w 0 :: bots 1 (.ptr H.next 0 :: .ptr q 0 :: .int .i64 k :: bots 3 (.int .i64 j :: bots 121 ([]))) : Tmps) ∧ RdgAt H q w src H' [.int .i64 i, ev, rv, av, .nilSlice, .nilSlice] (rep refArc j s3).2 ∧ Keep (fun j => j = w ∨ j = q) Hb H' ∧ Own Hb.next H' av 7 (arcCells (rep refArc j s3).1)) k ?_ ?_
            · exact ⟨0, .nilSlice, rfl, by omega, rfl, D1, Keep.refl _ _, .nil⟩
            · clear D1
              rintro m t Ha ⟨j, av, rfl, hj, rfl, D, kD, gD⟩
              have nD := kD.next
              by_cases hc : (j : Int) < k
              · skip
                have hrep : rep refArc (j + 1) s3 = ((rep refArc j s3).1 ++ [(refArc (rep refArc j s3).2).1], (refArc (rep refArc j s3).2).2) := rfl
                rw [refArc_eq] at hrep
                have rl := rep_length refArc j s3
                simp (disch := first | omega | (simp only [nx] <;> omega) | fail) only [vaw, hc, Nat.reduceAdd, Nat.reduceMul, Nat.reduceLeDiff, Nat.reduceEqDiff, ↓reduceIte]
                refine rnum_ret D.rd fun Hb kb hb nb => ?_
                have Db := D.read kb hb (rFour_left _)
                generalize (rep refArc j s3).1 = as0 at *
                generalize (rep refArc j s3).2 = t0 at *
                simp (disch := first | omega | (simp only [nx] <;> omega) | fail) only [vaw, Nat.reduceAdd, Nat.reduceMul, Nat.reduceLeDiff, Nat.reduceEqDiff, ↓reduceIte]
                have kb1 : Keep (fun j => j = w) Ha ((Hb.new (.cells [.int .i64 0, .int .i64 0, .int .i64 0, .int .i64 0, .int .i64 0, .int .i64 0, .int .i64 0] true)).upd Hb.next (some (.cells [.int .i64 (rFour t0).1, .int .i64 0, .int .i64 0, .int .i64 0, .int .i64 0, .int .i64 0, .int .i64 0] true))) := (kb.new _).upd (.inl (by omega)) _
                have Db1 := (Db.kept ((Keep.refl Nothing Hb).new (.cells [.int .i64 0, .int .i64 0, .int .i64 0, .int .i64 0, .int .i64 0, .int .i64 0, .int .i64 0] true))).upd (y := Hb.next) (by have := Db.lh; omega) (some (.cells [.int .i64 (rFour t0).1, .int .i64 0, .int .i64 0, .int .i64 0, .int .i64 0, .int .i64 0, .int .i64 0] true))
                have ob1 : ((Hb.new (.cells [.int .i64 0, .int .i64 0, .int .i64 0, .int .i64 0, .int .i64 0, .int .i64 0, .int .i64 0] true)).upd Hb.next (some (.cells [.int .i64 (rFour t0).1, .int .i64 0, .int .i64 0, .int .i64 0, .int .i64 0, .int .i64 0, .int .i64 0] true))).obj Hb.next = some (.cells [.int .i64 (rFour t0).1, .int .i64 0, .int .i64 0, .int .i64 0, .int .i64 0, .int .i64 0, .int .i64 0] true) := obj_upd_eq rfl
                have nb1 : ((Hb.new (.cells [.int .i64 0, .int .i64 0, .int .i64 0, .int .i64 0, .int .i64 0, .int .i64 0, .int .i64 0] true)).upd Hb.next (some (.cells [.int .i64 (rFour t0).1, .int .i64 0, .int .i64 0, .int .i64 0, .int .i64 0, .int .i64 0, .int .i64 0] true))).next = Hb.next + 1 := by simp only [next_upd, next_new]
                generalize (Hb.new (.cells [.int .i64 0, .int .i64 0, .int .i64 0, .int .i64 0, .int .i64 0, .int .i64 0, .int .i64 0] true)).upd Hb.next (some (.cells [.int .i64 (rFour t0).1, .int .i64 0, .int .i64 0, .int .i64 0, .int .i64 0, .int .i64 0, .int .i64 0] true)) = Hc at *
                have hy : Ha.next ≤ Hb.next := by omega
                generalize Hb.next = y at *
                have hqa := D.lh
                clear D Db hb kb nb
                refine Db1.num kb1 ob1 (by omega) hqa fun Hx1 Dx1 kx1 ox1 nx1 => ?_
                simp (disch := first | omega | (simp only [nx] <;> omega) | fail) only [vaw, ox1, Nat.reduceAdd, Nat.reduceMul, Nat.reduceLeDiff, Nat.reduceEqDiff, ↓reduceIte]
                obtain ⟨Dy1, ky1, oy1, ny1⟩ := Dx1.set (y := y) (zs := [.int .i64 (rFour t0).1, .int .i64 (rFour (rFour t0).2).1, .int .i64 0, .int .i64 0, .int .i64 0, .int .i64 0, .int .i64 0]) kx1 (by omega) hqa
                generalize Hx1.upd y (some (.cells [.int .i64 (rFour t0).1, .int .i64 (rFour (rFour t0).2).1, .int .i64 0, .int .i64 0, .int .i64 0, .int .i64 0, .int .i64 0] true)) = Hy1 at *
                refine Dy1.num ky1 oy1 (by omega) hqa fun Hx2 Dx2 kx2 ox2 nx2 => ?_
                simp (disch := first | omega | (simp only [nx] <;> omega) | fail) only [vaw, ox2, Nat.reduceAdd, Nat.reduceMul, Nat.reduceLeDiff, Nat.reduceEqDiff, ↓reduceIte]
                obtain ⟨Dy2, ky2, oy2, ny2⟩ := Dx2.set (y := y) (zs := [.int .i64 (rFour t0).1, .int .i64 (rFour (rFour t0).2).1, .int .i64 (rFour (rFour (rFour t0).2).2).1, .int .i64 0, .int .i64 0, .int .i64 0, .int .i64 0]) kx2 (by omega) hqa
                generalize Hx2.upd y (some (.cells [.int .i64 (rFour t0).1, .int .i64 (rFour (rFour t0).2).1, .int .i64 (rFour (rFour (rFour t0).2).2).1, .int .i64 0, .int .i64 0, .int .i64 0, .int .i64 0] true)) = Hy2 at *
                refine Dy2.cst ky2 oy2 (by omega) hqa fun Hx3 Dx3 kx3 ox3 nx3 => ?_
                simp (disch := first | omega | (simp only [nx] <;> omega) | fail) only [vaw, ox3, Nat.reduceAdd, Nat.reduceMul, Nat.reduceLeDiff, Nat.reduceEqDiff, ↓reduceIte]
                obtain ⟨Dy3, ky3, oy3, ny3⟩ := Dx3.set (y := y) (zs := [.int .i64 (rFour t0).1, .int .i64 (rFour (rFour t0).2).1, .int .i64 (rFour (rFour (rFour t0).2).2).1, .int .i64 (rCost (rFour (rFour (rFour t0).2).2).2).1, .int .i64 0, .int .i64 0, .int .i64 0]) kx3 (by omega) hqa
                generalize Hx3.upd y (some (.cells [.int .i64 (rFour t0).1, .int .i64 (rFour (rFour t0).2).1, .int .i64 (rFour (rFour (rFour t0).2).2).1, .int .i64 (rCost (rFour (rFour (rFour t0).2).2).2).1, .int .i64 0, .int .i64 0, .int .i64 0] true)) = Hy3 at *
                refine Dy3.num ky3 oy3 (by omega) hqa fun Hx4 Dx4 kx4 ox4 nx4 => ?_
                have hbx := rFour_bd Dy3.rd.bytes
                simp (disch := first | omega | (simp only [nx] <;> omega) | fail) only [vaw, ox4, Nat.reduceAdd, Nat.reduceMul, Nat.reduceLeDiff, Nat.reduceEqDiff, ↓reduceIte]
                obtain ⟨Dy4, ky4, oy4, ny4⟩ := Dx4.set (y := y) (zs := [.int .i64 (rFour t0).1, .int .i64 (rFour (rFour t0).2).1, .int .i64 (rFour (rFour (rFour t0).2).2).1, .int .i64 (rCost (rFour (rFour (rFour t0).2).2).2).1, .int .i64 ((rFour (rCost (rFour (rFour (rFour t0).2).2).2).2).1 - 1), .int .i64 0, .int .i64 0]) kx4 (by omega) hqa
                generalize Hx4.upd y (some (.cells [.int .i64 (rFour t0).1, .int .i64 (rFour (rFour t0).2).1, .int .i64 (rFour (rFour (rFour t0).2).2).1, .int .i64 (rCost (rFour (rFour (rFour t0).2).2).2).1, .int .i64 ((rFour (rCost (rFour (rFour (rFour t0).2).2).2).2).1 - 1), .int .i64 0, .int .i64 0] true)) = Hy4 at *
                refine Dy4.num ky4 oy4 (by omega) hqa fun Hx5 Dx5 kx5 ox5 nx5 => ?_
                simp (disch := first | omega | (simp only [nx] <;> omega) | fail) only [vaw, ox5, Nat.reduceAdd, Nat.reduceMul, Nat.reduceLeDiff, Nat.reduceEqDiff, ↓reduceIte]
                obtain ⟨Dy5, ky5, oy5, ny5⟩ := Dx5.set (y := y) (zs := [.int .i64 (rFour t0).1, .int .i64 (rFour (rFour t0).2).1, .int .i64 (rFour (rFour (rFour t0).2).2).1, .int .i64 (rCost (rFour (rFour (rFour t0).2).2).2).1, .int .i64 ((rFour (rCost (rFour (rFour (rFour t0).2).2).2).2).1 - 1), .int .i64 (rFour (rFour (rCost (rFour (rFour (rFour t0).2).2).2).2).2).1, .int .i64 0]) kx5 (by omega) hqa
                generalize Hx5.upd y (some (.cells [.int .i64 (rFour t0).1, .int .i64 (rFour (rFour t0).2).1, .int .i64 (rFour (rFour (rFour t0).2).2).1, .int .i64 (rCost (rFour (rFour (rFour t0).2).2).2).1, .int .i64 ((rFour (rCost (rFour (rFour (rFour t0).2).2).2).2).1 - 1), .int .i64 (rFour (rFour (rCost (rFour (rFour (rFour t0).2).2).2).2).2).1, .int .i64 0] true)) = Hy5 at *
                refine Dy5.num ky5 oy5 (by omega) hqa fun Hx6 Dx6 kx6 ox6 nx6 => ?_
                have obh := Dx6.ob
                have hqh := Dx6.lh
                simp (disch := first | omega | (simp only [nx] <;> omega) | fail) only [vaw, ox6, obh, Nat.reduceAdd, Nat.reduceMul, Nat.reduceLeDiff, Nat.reduceEqDiff, ↓reduceIte]
                obtain ⟨Dy6, ky6, oy6, ny6⟩ := Dx6.set (y := y) (zs := [.int .i64 (rFour t0).1, .int .i64 (rFour (rFour t0).2).1, .int .i64 (rFour (rFour (rFour t0).2).2).1, .int .i64 (rCost (rFour (rFour (rFour t0).2).2).2).1, .int .i64 ((rFour (rCost (rFour (rFour (rFour t0).2).2).2).2).1 - 1), .int .i64 (rFour (rFour (rCost (rFour (rFour (rFour t0).2).2).2).2).2).1, .int .i64 (rFour (rFour (rFour (rCost (rFour (rFour (rFour t0).2).2).2).2).2).2).1]) kx6 (by omega) hqa
                generalize Hx6.upd y (some (.cells [.int .i64 (rFour t0).1, .int .i64 (rFour (rFour t0).2).1, .int .i64 (rFour (rFour (rFour t0).2).2).1, .int .i64 (rCost (rFour (rFour (rFour t0).2).2).2).1, .int .i64 ((rFour (rCost (rFour (rFour (rFour t0).2).2).2).2).1 - 1), .int .i64 (rFour (rFour (rCost (rFour (rFour (rFour t0).2).2).2).2).2).1, .int .i64 (rFour (rFour (rFour (rCost (rFour (rFour (rFour t0).2).2).2).2).2).2).1] true)) = Hy6 at *
                have nqi := Dy6.lh
                have g4 := gD.keepM ky6 (fun j hj e => by have := (gD.sid_ge hj).1; omega)
                refine app_ret (n := j) g4 (by simp (disch := first | omega | (simp only [nx] <;> omega) | fail) only [vaim]; rfl) rfl (by omega) (by omega) (by rw [arcCells_length, rl]) (by omega) (by omega) ?_
                intro v5 H10 n10 k10 g10 s10
                simp only [next_new] at n10 s10
                have kk := app_keep n10 k10
                have D5 := (Dy6.kept ((Keep.refl _ _).new _)).grow kk (fun j hj => by have := (g4.sid_ge hj).1; omega)
                have ob5 := D5.ob
                have c5 := g10.cells
                simp (disch := first | omega | (simp only [nx] <;> omega) | fail) only [vaw, ob5, c5, Nat.reduceAdd, Nat.reduceMul, Nat.reduceLeDiff, Nat.reduceEqDiff, ↓reduceIte]
                refine ⟨k - (j + 1), by omega, j + 1, v5, rfl, by omega, rfl, by rw [hrep]; exact D5.put _, wq_upd (((kD.trans (wq_of ky6)).new _).trans' kk (fun j hj e => by have := (g4.sid_ge e).1; omega)) _, ?_⟩
                refine (Grown.upd ?_ (by omega) _).own
                rw [hrep, arcCells_append]
                exact g10
              · have hjk : k = j := by omega
                subst hjk
                have hE := hE.M kD (by omega)
                have hR := hR.M kD (by omega)
                have hA := own_fin (w := q) gD hwb
                clear gD kD hj hwb hk hkl
                have ob := D.ob
                simp (disch := first | omega | (simp only [nx] <;> omega) | fail) only [vaw, hc, ob, Nat.reduceAdd, Nat.reduceMul, Nat.reduceLeDiff, Nat.reduceEqDiff, ↓reduceIte]
                generalize (rep refArc k s3).2 = s4 at *
                generalize (rep refArc k s3).1 = arcs at *
                have hlen4 := D.len
                refine wpx_loop (fun m t H' => ∃ (j : Nat) (uv : AVal) (us : List AVal), m = i - j ∧ j ≤ i ∧ t = (.ptr w 0 :: bots 1 (.ptr H.next 0 :: .ptr q 0 :: bots 6 (.int .i64 j :: bots 119 ([]))) : Tmps) ∧ RdgAt H q w src H' [.int .i64 i, ev, rv, av, uv, .nilSlice] (rep rList j s4).2 ∧ Keep (fun j => j = w ∨ j = q) Ha H' ∧ Own Ha.next H' uv 1 us ∧ us.length = j ∧ RowsAt Ha.next H' uv us (rep rList j s4).1) i ?_ ?_
                · exact ⟨0, .nilSlice, [], rfl, by omega, rfl, D, Keep.refl _ _, .nil, rfl, fun v r l h1 => by simp at h1⟩
                · have hwc := D.lh
                  clear D ob
                  rintro m t Hu ⟨j, uv, us, rfl, hj, rfl, D, kD, gD, hus, rD⟩
                  have ob := D.ob
                  have nD := kD.next
                  have hwu := D.lh
                  by_cases hc : (j : Int) < i
                  · simp (disch := first | omega | (simp only [nx] <;> omega) | fail) only [vaw, ob, hc, Nat.reduceAdd, Nat.reduceMul, Nat.reduceLeDiff, Nat.reduceEqDiff, ↓reduceIte]
                    refine rrow_ret D.rd D.len fun r9 H9 k9 h9 o9 => ?_
                    have D4 := D.read k9 h9 (rList_left _)
                    have g4 := gD.keepM k9 (fun j hj e => by have := (gD.sid_ge hj).1; omega)
                    have R4 := rD.M k9 (fun j e => .inl (by omega)) (.inl rfl)
                    have ob4 := D4.ob
                    have bev := gD.beq
                    have n9 := k9.next
                    have c9 := o9.cells
                    simp (disch := first | omega | (simp only [nx] <;> omega) | fail) only [vaw, ob4, reK_same bev, c9, Nat.reduceAdd, Nat.reduceMul, Nat.reduceLeDiff, Nat.reduceEqDiff, ↓reduceIte]
                    have rl := rep_length rList j s4
                    have D4n := D4.kept ((Keep.refl Nothing H9).new (.cells [r9] true))
                    have R4n := R4.M ((Keep.refl Nothing H9).new (.cells [r9] true)) (fun j h => h.elim) (.inl rfl)
                    have o9n := o9.row.kept ((Keep.refl Nothing H9).new (.cells [r9] true))
                    have s9 : ∀ y, sid r9 = some y → Hu.next ≤ y ∧ y < H9.next := fun y hy => o9.sid_ge hy
                    have s4' : ∀ y, sid uv = some y → y < Hu.next := fun y hy => (gD.sid_ge hy).2
                    refine app_ret (n := j) g4 (by simp (disch := first | omega | (simp only [nx] <;> omega) | fail) only [vaim]; rfl) rfl (by omega) (by omega) (by omega) (by omega) (by omega) ?_
                    intro v5 H10 n10 k10 g10 s10
                    simp only [next_new] at n10 s10
                    have kk := app_keep n10 k10
                    have D5 := D4n.grow kk (fun j hj => by have := (g4.sid_ge hj).1; omega)
                    have R5 := R4n.M kk (fun j e => .inr e) (.inr s10)
                    have R6 := R5.snoc (l := (rList (rep rList j s4).2).1) (o9n.M kk (fun y hy e => by have := s9 y hy; have := s4' y e; omega)) (fun y hy => ⟨by have := s9 y hy; omega, fun e => by
                      obtain ⟨z, z1, z2⟩ := s10
                      rw [z1] at e; injection e with e
                      have := s9 y hy
                      omega⟩) (by rw [rl]; exact hus)
                    have ob5 := D5.ob
                    have c5 := g10.cells
                    simp (disch := first | omega | (simp only [nx] <;> omega) | fail) only [vaw, ob5, c5, Nat.reduceAdd, Nat.reduceMul, Nat.reduceLeDiff, Nat.reduceEqDiff, ↓reduceIte]
                    refine ⟨i - (j + 1), by omega, j + 1, v5, us ++ [r9], rfl, by omega, rfl, D5.put _, wq_upd (((kD.trans (wq_of k9)).new _).trans' kk (fun j hj e => by have := (g4.sid_ge e).1; omega)) _, (Grown.upd g10 (by omega) _).own, by simp [hus], ?_⟩
                    simp only [rep]
                    exact R6.M (M := fun j => j = q) ((Keep.refl (fun j => j = q) _).upd (.inr rfl) _) (fun j e => .inl (by omega)) (.inl rfl)
                  · have hjk : i = j := by omega
                    have hE := hE.M kD (by omega)
                    have hR := hR.M kD (by omega)
                    have hA := hA.M kD (by omega)
                    have hU := rD.fin (w := q) gD (by rw [rep_length]; exact hus) hwc
                    subst hjk
                    clear gD kD rD hj hwc
                    simp (disch := first | omega | (simp only [nx] <;> omega) | fail) only [vaw, ob, hc, Nat.reduceAdd, Nat.reduceMul, Nat.reduceLeDiff, Nat.reduceEqDiff, ↓reduceIte]
                    generalize (rep rList i s4).2 = s5 at *
                    generalize (rep rList i s4).1 = up at *
                    have hlen5 := D.len
                    refine wpx_loop (fun m t H' => ∃ (j : Nat) (dv : AVal) (us : List AVal), m = i - j ∧ j ≤ i ∧ t = (.ptr w 0 :: bots 1 (.ptr H.next 0 :: .ptr q 0 :: bots 7 (.int .i64 j :: bots 118 ([]))) : Tmps) ∧ RdgAt H q w src H' [.int .i64 i, ev, rv, av, uv, dv] (rep rList j s5).2 ∧ Keep (fun j => j = w ∨ j = q) Hu H' ∧ Own Hu.next H' dv 1 us ∧ us.length = j ∧ RowsAt Hu.next H' dv us (rep rList j s5).1) i ?_ ?_
                    · exact ⟨0, .nilSlice, [], rfl, by omega, rfl, D, Keep.refl _ _, .nil, rfl, fun v r l h1 => by simp at h1⟩
                    · have hwd := D.lh
                      clear D ob
                      rintro m t Hd ⟨j, dv, us, rfl, hj, rfl, D, kD, gD, hus, rD⟩
                      have ob := D.ob
                      have nD := kD.next
                      have hwu2 := D.lh
                      by_cases hc : (j : Int) < i
                      · simp (disch := first | omega | (simp only [nx] <;> omega) | fail) only [vaw, ob, hc, Nat.reduceAdd, Nat.reduceMul, Nat.reduceLeDiff, Nat.reduceEqDiff, ↓reduceIte]
                        refine rrow_ret D.rd D.len fun r9 H9 k9 h9 o9 => ?_
                        have D4 := D.read k9 h9 (rList_left _)
                        have g4 := gD.keepM k9 (fun j hj e => by have := (gD.sid_ge hj).1; omega)
                        have R4 := rD.M k9 (fun j e => .inl (by omega)) (.inl rfl)
                        have ob4 := D4.ob
                        have bev := gD.beq
                        have n9 := k9.next
                        have c9 := o9.cells
                        simp (disch := first | omega | (simp only [nx] <;> omega) | fail) only [vaw, ob4, reK_same bev, c9, Nat.reduceAdd, Nat.reduceMul, Nat.reduceLeDiff, Nat.reduceEqDiff, ↓reduceIte]
                        have rl := rep_length rList j s5
                        have D4n := D4.kept ((Keep.refl Nothing H9).new (.cells [r9] true))
                        have R4n := R4.M ((Keep.refl Nothing H9).new (.cells [r9] true)) (fun j h => h.elim) (.inl rfl)
                        have o9n := o9.row.kept ((Keep.refl Nothing H9).new (.cells [r9] true))
                        have s9 : ∀ y, sid r9 = some y → Hd.next ≤ y ∧ y < H9.next := fun y hy => o9.sid_ge hy
                        have s4' : ∀ y, sid dv = some y → y < Hd.next := fun y hy => (gD.sid_ge hy).2
                        refine app_ret (n := j) g4 (by simp (disch := first | omega | (simp only [nx] <;> omega) | fail) only [vaim]; rfl) rfl (by omega) (by omega) (by omega) (by omega) (by omega) ?_
                        intro v5 H10 n10 k10 g10 s10
                        simp only [next_new] at n10 s10
                        have kk := app_keep n10 k10
                        have D5 := D4n.grow kk (fun j hj => by have := (g4.sid_ge hj).1; omega)
                        have R5 := R4n.M kk (fun j e => .inr e) (.inr s10)
                        have R6 := R5.snoc (l := (rList (rep rList j s5).2).1) (o9n.M kk (fun y hy e => by have := s9 y hy; have := s4' y e; omega)) (fun y hy => ⟨by have := s9 y hy; omega, fun e => by
                          obtain ⟨z, z1, z2⟩ := s10
                          rw [z1] at e; injection e with e
                          have := s9 y hy
                          omega⟩) (by rw [rl]; exact hus)
                        have ob5 := D5.ob
                        have c5 := g10.cells
                        simp (disch := first | omega | (simp only [nx] <;> omega) | fail) only [vaw, ob5, c5, Nat.reduceAdd, Nat.reduceMul, Nat.reduceLeDiff, Nat.reduceEqDiff, ↓reduceIte]
                        refine ⟨i - (j + 1), by omega, j + 1, v5, us ++ [r9], rfl, by omega, rfl, D5.put _, wq_upd (((kD.trans (wq_of k9)).new _).trans' kk (fun j hj e => by have := (g4.sid_ge e).1; omega)) _, (Grown.upd g10 (by omega) _).own, by simp [hus], ?_⟩
                        simp only [rep]
                        exact R6.M (M := fun j => j = q) ((Keep.refl (fun j => j = q) _).upd (.inr rfl) _) (fun j e => .inl (by omega)) (.inl rfl)
                      · have hjk : i = j := by omega
                        have hE := hE.M kD (by omega)
                        have hR := hR.M kD (by omega)
                        have hA := hA.M kD (by omega)
                        have hU := hU.M kD (by omega)
                        have hD := rD.fin (w := q) gD (by rw [rep_length]; exact hus) hwd
                        subst hjk
                        clear gD kD rD hj hwd
                        simp (disch := first | omega | (simp only [nx] <;> omega) | fail) only [vaw, ob, hc, Nat.reduceAdd, Nat.reduceMul, Nat.reduceLeDiff, Nat.reduceEqDiff, ↓reduceIte]
                        generalize (rep rList i s5).2 = s6 at *
                        generalize (rep rList i s5).1 = down at *
                        have oh := D.op
                        have hqp := D.lq
                        have hqw2 := D.lw
                        simp (disch := first | omega | (simp only [nx] <;> omega) | fail) only [vaw, oh, Nat.reduceAdd, Nat.reduceMul, Nat.reduceLeDiff, Nat.reduceEqDiff, ↓reduceIte]
                        refine hq ev rv av uv dv _ ?_ ?_ ?_
                        · exact D.keep.upd (.inl (Nat.le_refl _)) _
                        · exact D.rd.M (M := fun j => j = H.next) ((Keep.refl (fun j => j = H.next) _).upd (.inr rfl) _) (by omega) (fun j hj e => by have := hls j hj; omega)
                        · exact IdxFrom.finR (by omega) ((Keep.refl (fun j => j ≤ q) _).upd (.inr (by omega)) _) hE hR hA hU hD
end Go.Proofs.Ytknhlpmmalcchaa

namespace Go.Proofs.Ytknhlpmmalcchaa
open Go Go.VAI
set_option linter.unusedSimpArgs false

end Go.Proofs.Ytknhlpmmalcchaa
