/- Steps of the walk. -/
import Derived.Test.YtknhlpmmalcchaaI10Te
import Derived.Test.YtknhlpmmalcchaaI10Vba
import Derived.Test.YtknhlpmmalcchaaRows
import Derived.ProofKit
set_option linter.all false
set_option linter.unusedVariables false
set_option linter.unusedSimpArgs false
namespace Go.Proofs.Ytknhlpmmalcchaa
open Go Go.VAI
set_option linter.unusedSimpArgs false

theorem notTrue {b : Bool} (h : ¬ b = true) : b = false := by cases b with | false => rfl | true => exact (h rfl).elim
theorem rCost_bad (s : RS) (h : s.bad = true) : (rCost s).2.bad = true := by
  have h1 := reads_four.bad s h
  have h2 := reads_four.bad _ h1
  show ((rFour (rFour s).2).2.bad || decide (1048576 ≤ (rFour s).1)) = true
  rw [h2, Bool.true_or]
theorem refArc_bad (s : RS) (h : s.bad = true) : (refArc s).2.bad = true := by
  rw [refArc_eq]
  exact reads_four.bad _ (reads_four.bad _ (reads_four.bad _ (rCost_bad _ (reads_four.bad _ (reads_four.bad _ (reads_four.bad _ h))))))
theorem rep_bad {α : Type} {f : RS → α × RS} (hf : ∀ s, s.bad = true → (f s).2.bad = true) : ∀ n s, s.bad = true → (rep f n s).2.bad = true
  | 0, s, h => h
  | n + 1, s, h => hf _ (rep_bad hf n s h)
theorem nbad' {α : Type} {f : RS → α × RS} (hf : ∀ s, s.bad = true → (f s).2.bad = true) {s : RS} (h : (f s).2.bad = false) : s.bad = false := by
  cases hx : s.bad with
  | false => rfl
  | true => have := hf s hx; rw [h] at this; cases this
theorem rCost_low {s : RS} (h : ¬ 1048576 ≤ (rFour s).1) : rCost s = (orI .i64 (shlI .i64 (rFour s).1 32) (rFour (rFour s).2).1, (rFour (rFour s).2).2) := by
  unfold rCost
  simp only [decide_eq_false h, Bool.or_false]
theorem refArc_low {s : RS} (h : ¬ 1048576 ≤ (rFour (rFour (rFour (rFour s).2).2).2).1) : refArc s = rArc s := by
  rw [refArc_eq, rCost_low h]
  rfl
theorem refArc_rArc {s : RS} (h : (refArc s).2.bad = false) : refArc s = rArc s := by
  refine refArc_low (fun hc => ?_)
  rw [refArc_eq] at h
  have h1 := nbad reads_four (nbad reads_four (nbad reads_four h))
  have : ((rFour (rFour (rFour (rFour (rFour s).2).2).2).2).2.bad || decide (1048576 ≤ (rFour (rFour (rFour (rFour s).2).2).2).1)) = false := h1
  rw [decide_eq_true hc, Bool.or_true] at this
  cases this
theorem rArc_low {s : RS} (hb : Bytes s.left) (hn : (rArc s).2.bad = false) (hc : 0 ≤ (rArc s).1.cost ∧ (rArc s).1.cost ≤ 4398046511104) : refArc s = rArc s := by
  refine refArc_low (fun hh => ?_)
  have n8 : (rFour (rFour (rFour (rFour (rFour (rFour (rFour (rFour s).2).2).2).2).2).2).2).2.bad = false := hn
  have n5 := nbad reads_four (nbad reads_four (nbad reads_four n8))
  have n4 := nbad reads_four n5
  have n3 := nbad reads_four n4
  have n2 := nbad reads_four n3
  have n1 := nbad reads_four n2
  have b1 := writes_four.bytes hb n1
  have b2 := writes_four.bytes b1 n2
  have b3 := writes_four.bytes b2 n3
  have b4 := writes_four.bytes b3 n4
  have q1 := rFour_bd b3
  have q2 := rFour_bd b4
  have e : (rArc s).1.cost = orI .i64 (shlI .i64 (rFour (rFour (rFour (rFour s).2).2).2).1 32) (rFour (rFour (rFour (rFour (rFour s).2).2).2).2).1 := rfl
  rw [e, hiLo q1 q2] at hc
  have e64 : (2 : Int) ^ 64 = 18446744073709551616 := by decide
  have e63 : (2 : Int) ^ (64 - 1) = 9223372036854775808 := by decide
  simp only [IntKind.wrap, IntKind.bits, IntKind.signed, Bool.true_and, e64, e63, decide_eq_true_eq] at hc
  split at hc <;> omega
theorem rep_refArc : ∀ (n : Nat) (s : RS), Bytes s.left → (rep refArc n s).2.bad = false → rep refArc n s = rep rArc n s
  | 0, _, _, _ => rfl
  | n + 1, s, hb, h => by
    have h1 : (refArc (rep refArc n s).2).2.bad = false := h
    have h2 := nbad' refArc_bad h1
    have ih := rep_refArc n s hb h2
    rw [ih] at h1
    have e := refArc_rArc h1
    simp only [rep]
    rw [ih, e]
theorem rep_rArc : ∀ (n : Nat) (s : RS), Bytes s.left → (rep rArc n s).2.bad = false → (∀ a ∈ (rep rArc n s).1, 0 ≤ a.cost ∧ a.cost ≤ 4398046511104) → rep refArc n s = rep rArc n s
  | 0, _, _, _, _ => rfl
  | n + 1, s, hb, h, hc => by
    have h1 : (rArc (rep rArc n s).2).2.bad = false := h
    have h2 := nbad reads_arc h1
    simp only [rep, List.mem_append, List.mem_singleton] at hc
    have ih := rep_rArc n s hb h2 (fun a ha => hc a (.inl ha))
    have b2 := (writes_rep writes_arc reads_arc n).bytes hb h2
    have e := rArc_low b2 h1 (hc _ (.inr rfl))
    simp only [rep]
    rw [ih, e]
def refRaw (b : List Int) : Option Idx :=
  if b.take 4 = [77, 73, 88, 49] then
    if (refRead ⟨b.drop 4, false⟩).2.bad = true ∨ 0 < (refRead ⟨b.drop 4, false⟩).2.left.length then none else some (refRead ⟨b.drop 4, false⟩).1
  else none
theorem ref_raw {b : List Int} (hb : Bytes b) {x : Idx} (hx : Allowed x) : refRaw b = some x ↔ rawOf b = some x := by
  unfold refRaw rawOf
  by_cases h4 : b.take 4 = [77, 73, 88, 49]
  · rw [if_pos h4, if_pos h4]
    have hb0 : Bytes (b.drop 4) := fun y hy => hb y (List.mem_of_mem_drop hy)
    generalize hs0 : (⟨b.drop 4, false⟩ : RS) = s0
    have hb0' : Bytes s0.left := by rw [← hs0]; exact hb0
    unfold refRead
    simp only
    have bd1 := rFour_bd hb0'
    generalize h1 : rFour s0 = r1 at *
    generalize h2 : rCount 16 r1.2 = r2 at *
    generalize h3 : rep rEdge r2.1.toNat r2.2 = r3 at *
    generalize h5 : rep rRank r1.1.toNat r3.2 = r5 at *
    generalize h6 : rCount 32 r5.2 = r6 at *
    have bytes6 : r5.2.bad = false → r6.2.bad = false → Bytes r6.2.left := fun n5 n6 => by
      have n3 : r3.2.bad = false := nbad (reads_rep reads_rank _) (by rw [h5]; exact n5)
      have n2 : r2.2.bad = false := nbad (reads_rep reads_edge _) (by rw [h3]; exact n3)
      have n1 : r1.2.bad = false := nbad (reads_count 16) (by rw [h2]; exact n2)
      have b1 := writes_four.bytes hb0' (by rw [h1]; exact n1)
      rw [h1] at b1
      have b2 := (writes_count 16).bytes b1 (by rw [h2]; exact n2)
      rw [h2] at b2
      have b3 := (writes_rep writes_edge reads_edge _).bytes b2 (by rw [h3]; exact n3)
      rw [h3] at b3
      have b5 := (writes_rep writes_rank reads_rank _).bytes b3 (by rw [h5]; exact n5)
      rw [h5] at b5
      have b6 := (writes_count 32).bytes b5 (by rw [h6]; exact n6)
      rw [h6] at b6
      exact b6
    have bytes3 : r3.2.bad = false → Bytes r3.2.left := fun n3 => by
      have n2 : r2.2.bad = false := nbad (reads_rep reads_edge _) (by rw [h3]; exact n3)
      have n1 : r1.2.bad = false := nbad (reads_count 16) (by rw [h2]; exact n2)
      have b1 := writes_four.bytes hb0' (by rw [h1]; exact n1)
      rw [h1] at b1
      have b2 := (writes_count 16).bytes b1 (by rw [h2]; exact n2)
      rw [h2] at b2
      have b3 := (writes_rep writes_edge reads_edge _).bytes b2 (by rw [h3]; exact n3)
      rw [h3] at b3
      exact b3
    constructor
    · intro h
      by_cases hn : 60 < r1.1
      · rw [if_pos hn, if_pos (.inl rfl)] at h; cases h
      · rw [if_neg hn] at h
        generalize h7 : rep refArc r6.1.toNat r6.2 = r7 at *
        generalize h8 : rep rList r1.1.toNat r7.2 = r8 at *
        generalize h9 : rep rList r1.1.toNat r8.2 = r9 at *
        by_cases c2 : r9.2.bad = true ∨ 0 < r9.2.left.length
        · simp only at h; rw [if_pos c2] at h; cases h
        · simp only at h; rw [if_neg c2] at h
          have n9 : r9.2.bad = false := notTrue fun e => c2 (.inl e)
          have n8 : r8.2.bad = false := nbad (reads_rep reads_list _) (by rw [h9]; exact n9)
          have n7 : r7.2.bad = false := nbad (reads_rep reads_list _) (by rw [h8]; exact n8)
          have n6 : r6.2.bad = false := nbad' (rep_bad refArc_bad _) (by rw [h7]; exact n7)
          have n5 : r5.2.bad = false := nbad (reads_count 32) (by rw [h6]; exact n6)
          have n3 : r3.2.bad = false := nbad (reads_rep reads_rank _) (by rw [h5]; exact n5)
          have e5 := writes_rep writes_rank reads_rank _ r3.2 (bytes3 n3) (by rw [h5]; exact n5)
          rw [h5] at e5
          have l5 : r5.1.length = r1.1.toNat := by rw [← h5]; exact rep_length _ _ _
          have ll : 4 * r1.1.toNat ≤ r3.2.left.length := by
            rw [e5, List.length_append, flat_len rankB_len, l5]; omega
          have e7 := rep_refArc r6.1.toNat r6.2 (bytes6 n5 n6) (by rw [h7]; exact n7)
          rw [h7] at e7
          rw [if_neg (by
            intro hh
            rcases hh with hh | hh
            · omega
            · rw [n3] at hh; cases hh), ← e7, h8, h9, if_neg c2]
          exact h
    · intro h
      by_cases c1 : (((r3.2.left.length / 4 : Nat) : Int)) < r1.1 ∨ r3.2.bad = true
      · rw [if_pos c1] at h; cases h
      · rw [if_neg c1] at h
        generalize h7 : rep rArc r6.1.toNat r6.2 = r7 at *
        generalize h8 : rep rList r1.1.toNat r7.2 = r8 at *
        generalize h9 : rep rList r1.1.toNat r8.2 = r9 at *
        by_cases c2 : r9.2.bad = true ∨ 0 < r9.2.left.length
        · rw [if_pos c2] at h; cases h
        · rw [if_neg c2] at h
          injection h with h
          have n9 : r9.2.bad = false := notTrue fun e => c2 (.inl e)
          have n8 : r8.2.bad = false := nbad (reads_rep reads_list _) (by rw [h9]; exact n9)
          have n7 : r7.2.bad = false := nbad (reads_rep reads_list _) (by rw [h8]; exact n8)
          have n6 : r6.2.bad = false := nbad (reads_rep reads_arc _) (by rw [h7]; exact n7)
          have n5 : r5.2.bad = false := nbad (reads_count 32) (by rw [h6]; exact n6)
          have hn : ¬ 60 < r1.1 := by
            have := hx.net.2.1
            rw [← h] at this
            simp only at this
            omega
          have hcost : ∀ a ∈ r7.1, 0 ≤ a.cost ∧ a.cost ≤ 4398046511104 := fun a ha => by
            obtain ⟨i, hi⟩ := mem_at ha
            have := hx.arcs i a (by rw [← h]; exact hi)
            exact this.1
          have e7 := rep_rArc r6.1.toNat r6.2 (bytes6 n5 n6) (by rw [h7]; exact n7) (by rw [h7]; exact hcost)
          rw [h7] at e7
          rw [if_neg hn, e7, h8, h9, if_neg c2, h]
  · rw [if_neg h4, if_neg h4]
end Go.Proofs.Ytknhlpmmalcchaa

namespace Go.Proofs.Ytknhlpmmalcchaa
open Go Go.VAI
set_option linter.unusedSimpArgs false

theorem mk_ret {size modes : Int} {ns : AVal} {xs : List Int} {H : AHeap} {Q : AVal → AHeap → Prop} (hr : Row H ns 1 (ints xs)) (hx : ∀ x ∈ xs, I64 x) (hx2 : xs.length ≤ 9223372036854775807)
    (hq : ∀ ev H', Keep Nothing H H' → Grown H.next H' ev 4 (edgeCells (mkEs size modes xs)) → Q (.agg [.int .i64 (mkN size), ev]) H') : Ret A 28 [.int .i64 size, ns, .int .i64 modes] H Q := by
  refine make_ret hr hx hx2 fun ev H' k g => ?_
  have h := hq ev H' k g
  rw [mkN_eq] at h
  exact h
theorem IdxAt.beq {H : AHeap} {ew rv av uv dv : AVal} {x : Idx} (h : IdxAt H ew rv av uv dv x) {n : Int} : AVal.beq (.agg [.int .i64 n, ew, rv, av, uv, dv]) (.agg [.int .i64 n, ew, rv, av, uv, dv]) = true := by
  simp [AVal.beq, AVal.beqs, h.es.beq, h.rank.beq, h.arcs.beq, h.up.beq, h.down.beq]
theorem allowed_short {x : Idx} (h : Allowed x) : Short62 x ∧ x.up.length = x.down.length := by
  obtain ⟨n1, n2, n3, n4⟩ := h.net
  have hrl := h.rankLen
  have hul := h.upLen
  have hdl := h.downLen
  have hac := h.count
  have hu : ∀ l ∈ x.up, l.length ≤ 300000 := fun l hl => by
    obtain ⟨v, hv, e⟩ := List.getElem_of_mem hl
    obtain ⟨h1, h2⟩ := h.up v l (by rw [List.getElem?_eq_getElem hv, e])
    have := few_below x.arcs.length l h1 (fun y hy => by
      obtain ⟨h3, a, h4, _⟩ := h2 y hy
      have := (List.getElem?_eq_some_iff.1 h4).1
      omega)
    omega
  have hd : ∀ l ∈ x.down, l.length ≤ 300000 := fun l hl => by
    obtain ⟨v, hv, e⟩ := List.getElem_of_mem hl
    obtain ⟨h1, h2⟩ := h.down v l (by rw [List.getElem?_eq_getElem hv, e])
    have := few_below x.arcs.length l h1 (fun y hy => by
      obtain ⟨h3, a, h4, _⟩ := h2 y hy
      have := (List.getElem?_eq_some_iff.1 h4).1
      omega)
    omega
  exact ⟨⟨by omega, by omega, by omega, by omega, fun l hl => by have := hu l hl; omega, fun l hl => by have := hd l hl; omega⟩, by omega⟩
end Go.Proofs.Ytknhlpmmalcchaa

namespace Go.Proofs.Ytknhlpmmalcchaa
open Go Go.VAI
set_option linter.unusedSimpArgs false

theorem rowOk_up {rank : List Int} {arcs : List Arc} {v : Int} {l : List Int} : RowOk true rank arcs v l ↔ UpOk rank arcs v l := Iff.rfl
theorem rowOk_down {rank : List Int} {arcs : List Arc} {v : Int} {l : List Int} : RowOk false rank arcs v l ↔ DownOk rank arcs v l := Iff.rfl
set_option maxRecDepth 20000 in
set_option maxHeartbeats 8000000 in
theorem refcheck_ret {ew rv av uv dv : AVal} {x : Idx} {H : AHeap} {Q : AVal → AHeap → Prop} (hx : IdxAt H ew rv av uv dv x) (hrk : x.rank.length ≤ 1000000000) (hnu : ∀ l ∈ x.up, l.length ≤ 4611686018427387904) (hnd : ∀ l ∈ x.down, l.length ≤ 4611686018427387904)
    (hq : ∀ b H', Keep Nothing H H' → Says b (Allowed x) → Q (.bool b) H') : Ret A 35 [.agg [.int .i64 x.n, ew, rv, av, uv, dv]] H Q := by
  refine Ret.of (fn := F35) rfl ?_
  have la := hx.arcs.len (by omega) (arcCells_length x.arcs)
  have bx := hx.beq (n := x.n)
  simp (disch := first | omega | (simp only [nx] <;> omega) | fail) only [vaw, F35, Nat.reduceAdd, Nat.reduceMul, Nat.reduceLeDiff, Nat.reduceEqDiff, ↓reduceIte]
  have k0 : Keep Nothing H (H.new (.cells [.int .i64 x.n, ew, rv, av, uv, dv] true)) := (Keep.refl _ _).new _
  have q0 : (H.new (.cells [.int .i64 x.n, ew, rv, av, uv, dv] true)).obj H.next = some (.cells [.int .i64 x.n, ew, rv, av, uv, dv] true) := obj_new_eq rfl
  refine refnet_ret (hx.es.kept k0) fun b H1 k1 s1 => ?_
  have n1 := k1.next
  simp only [next_new] at n1
  have q1 := (k1.old (i := H.next) (by simp only [next_new]; omega)).trans q0
  have kA := k0.trans k1
  cases b with
  | false =>
    simp (disch := first | omega | (simp only [nx] <;> omega) | fail) only [vaw, q1, Nat.reduceAdd, Nat.reduceMul, Nat.reduceLeDiff, Nat.reduceEqDiff, ↓reduceIte]
    exact hq _ _ kA (says_no fun h => by have := s1.2 h.net; cases this)
  | true =>
    have hnet := s1.1 rfl
    have hn60 := hnet.2.1
    simp (disch := first | omega | (simp only [nx] <;> omega) | fail) only [vaw, q1, Nat.reduceAdd, Nat.reduceMul, Nat.reduceLeDiff, Nat.reduceEqDiff, ↓reduceIte]
    refine refranks_ret (hx.kept kA) hrk fun b H2 k2 s2 => ?_
    have n2 := k2.next
    have q2 := (k2.old (i := H.next) (by omega)).trans q1
    have kB := kA.trans k2
    cases b with
    | false =>
      simp (disch := first | omega | (simp only [nx] <;> omega) | fail) only [vaw, q2, Nat.reduceAdd, Nat.reduceMul, Nat.reduceLeDiff, Nat.reduceEqDiff, ↓reduceIte]
      exact hq _ _ kB (says_no fun h => by have := s2.2 ⟨h.rankLen, h.upLen, h.downLen, h.ranks⟩; cases this)
    | true =>
      obtain ⟨c1, c2, c3, hrnk⟩ := s2.1 rfl
      by_cases c4 : (300000 : Int) < x.arcs.length
      · simp (disch := first | omega | (simp only [nx] <;> omega) | fail) only [vaw, q2, la, c4, Nat.reduceAdd, Nat.reduceMul, Nat.reduceLeDiff, Nat.reduceEqDiff, ↓reduceIte]
        exact hq _ _ kB (says_no fun h => by have := h.count; omega)
      by_cases c5 : x.arcs = []
      · have c5' : ¬ (0 : Int) < x.arcs.length := by rw [c5]; simp
        have harc : ArcsOk x.es x.arcs := by rw [c5]; exact ⟨fun i a h => by simp at h, fun s h => by simp [sizesOf] at h⟩
        have hends := fun i a h => arc_ends hnet harc.1 (i + 1) i a (by omega) h
        simp (disch := first | omega | (simp only [nx] <;> omega) | fail) only [vaw, q2, la, c4, c5', Nat.reduceAdd, Nat.reduceMul, Nat.reduceLeDiff, Nat.reduceEqDiff, ↓reduceIte]
        have kk := kB
        have qq := q2
        have nn : H.next < H2.next := by omega
        refine wpx_loop (fun m t H' => ∃ (i : Nat), m = x.rank.length - i ∧ i ≤ x.rank.length ∧ t = (bots 1 (.ptr H.next 0 :: bots 1 (.int .i64 i :: bots 53 ([]))) : Tmps) ∧ Keep Nothing H H' ∧ H.next < H'.next ∧ H'.obj H.next = some (.cells [.int .i64 x.n, ew, rv, av, uv, dv] true) ∧ (∀ (v : Nat) l, v < i → x.up[v]? = some l → UpOk x.rank x.arcs v l) ∧ ∀ (v : Nat) l, v < i → x.down[v]? = some l → DownOk x.rank x.arcs v l) x.rank.length ?_ ?_
        · exact ⟨0, rfl, by omega, rfl, kk, nn, qq, fun v l h => by omega, fun v l h => by omega⟩
        · rintro m t H5 ⟨i, rfl, hi, rfl, k5, n5, q5, hU, hD⟩
          by_cases hc : (i : Int) < x.n
          · have hil : i < x.rank.length := by omega
            obtain ⟨lup, hlu, mlu⟩ := at_some (l := x.up) (i := i) (by omega)
            obtain ⟨ldn, hld, mld⟩ := at_some (l := x.down) (i := i) (by omega)
            obtain ⟨iu, ou, ru, u1, u2, u3, u4⟩ := (hx.up.kept k5).at (k := .i64) hlu
            simp (disch := first | omega | (simp only [nx] <;> omega) | fail) only [vaw, hc, q5, u1, u3, Nat.reduceAdd, Nat.reduceMul, Nat.reduceLeDiff, Nat.reduceEqDiff, ↓reduceIte]
            refine refrow_ret (up := true) (hx.es.kept k5) (hx.rank.kept k5) (hx.arcs.kept k5) hx.up.beq hx.down.beq u4 hil (hnu _ mlu) (by omega) (fun j a h => by rw [c1]; exact hends j a h) fun b H6 k6 s6 => ?_
            have n6 := k6.next
            have q6 := (k6.old n5).trans q5
            cases b with
            | false =>
              simp (disch := first | omega | (simp only [nx] <;> omega) | fail) only [vaw, q6, Nat.reduceAdd, Nat.reduceMul, Nat.reduceLeDiff, Nat.reduceEqDiff, ↓reduceIte]
              exact hq _ _ (k5.trans k6) (says_no fun h => by have := s6.2 (rowOk_up.2 (h.up i _ hlu)); cases this)
            | true =>
              have hb := rowOk_up.1 (s6.1 rfl)
              obtain ⟨id, od, rd, d1, d2, d3, d4⟩ := ((hx.down.kept k5).kept k6).at (k := .i64) hld
              simp (disch := first | omega | (simp only [nx] <;> omega) | fail) only [vaw, q6, d1, d3, Nat.reduceAdd, Nat.reduceMul, Nat.reduceLeDiff, Nat.reduceEqDiff, ↓reduceIte]
              refine refrow_ret (up := false) ((hx.es.kept k5).kept k6) ((hx.rank.kept k5).kept k6) ((hx.arcs.kept k5).kept k6) hx.up.beq hx.down.beq d4 hil (hnd _ mld) (by omega) (fun j a h => by rw [c1]; exact hends j a h) fun b H7 k7 s7 => ?_
              have n7 := k7.next
              have q7 := (k7.old (i := H.next) (by omega)).trans q6
              cases b with
              | false =>
                simp (disch := first | omega | (simp only [nx] <;> omega) | fail) only [vaw, q7, Nat.reduceAdd, Nat.reduceMul, Nat.reduceLeDiff, Nat.reduceEqDiff, ↓reduceIte]
                exact hq _ _ ((k5.trans k6).trans k7) (says_no fun h => by have := s7.2 (rowOk_down.2 (h.down i _ hld)); cases this)
              | true =>
                have hb2 := rowOk_down.1 (s7.1 rfl)
                simp (disch := first | omega | (simp only [nx] <;> omega) | fail) only [vaw, q7, Nat.reduceAdd, Nat.reduceMul, Nat.reduceLeDiff, Nat.reduceEqDiff, ↓reduceIte]
                refine ⟨x.rank.length - (i + 1), by omega, i + 1, rfl, by omega, rfl, (k5.trans k6).trans k7, by omega, fun v l hv hl => ?_, fun v l hv hl => ?_⟩
                · by_cases hvi : v = i
                  · subst hvi; rw [hlu] at hl; injection hl with hl; subst hl; exact hb
                  · exact hU v l (by omega) hl
                · by_cases hvi : v = i
                  · subst hvi; rw [hld] at hl; injection hl with hl; subst hl; exact hb2
                  · exact hD v l (by omega) hl
          · simp (disch := first | omega | (simp only [nx] <;> omega) | fail) only [vaw, hc, q5, Nat.reduceAdd, Nat.reduceMul, Nat.reduceLeDiff, Nat.reduceEqDiff, ↓reduceIte]
            refine hq _ _ k5 (says_yes ⟨hnet, c1, c2, c3, hrnk, by omega, harc.1, harc.2, fun v l hl => hU v l ?_ hl, fun v l hl => hD v l ?_ hl⟩)
            · have := (List.getElem?_eq_some_iff.1 hl).1; omega
            · have := (List.getElem?_eq_some_iff.1 hl).1; omega
      · have c5' : (0 : Int) < x.arcs.length := by
          have := List.length_pos_iff.2 c5
          omega
        simp (disch := first | omega | (simp only [nx] <;> omega) | fail) only [vaw, q2, la, c4, c5', Nat.reduceAdd, Nat.reduceMul, Nat.reduceLeDiff, Nat.reduceEqDiff, ↓reduceIte]
        refine reflong_ret hnet (hx.es.kept kB) (hx.arcs.kept kB) (by omega) (fun hno H3 k3 => ?_) (fun hok v' H3 k3 g3 => ?_) bx
        · simp (disch := first | omega | (simp only [nx] <;> omega) | fail) only [vaw, Nat.reduceAdd, Nat.reduceMul, Nat.reduceLeDiff, Nat.reduceEqDiff, ↓reduceIte]
          exact hq _ _ (kB.trans k3) (says_no fun h => hno ⟨h.arcs, h.sizes⟩)
        · have hnn := own_notNil g3 (by
            intro e
            have := congrArg List.length e
            rw [ints_length, sizesOf_length _ _ rfl] at this
            simp at this
            exact c5 this)
          have q3 := (k3.old (i := H.next) (by omega)).trans q2
          have n3 := k3.next
          have harc := hok
          have hends := fun i a h => arc_ends hnet harc.1 (i + 1) i a (by omega) h
          simp (disch := first | omega | (simp only [nx] <;> omega) | fail) only [vaw, hnn, Nat.reduceAdd, Nat.reduceMul, Nat.reduceLeDiff, Nat.reduceEqDiff, ↓reduceIte]
          have kk := kB.trans k3
          have qq := q3
          have nn : H.next < H3.next := by omega
          refine wpx_loop (fun m t H' => ∃ (i : Nat), m = x.rank.length - i ∧ i ≤ x.rank.length ∧ t = (bots 1 (.ptr H.next 0 :: bots 1 (.int .i64 i :: bots 53 ([]))) : Tmps) ∧ Keep Nothing H H' ∧ H.next < H'.next ∧ H'.obj H.next = some (.cells [.int .i64 x.n, ew, rv, av, uv, dv] true) ∧ (∀ (v : Nat) l, v < i → x.up[v]? = some l → UpOk x.rank x.arcs v l) ∧ ∀ (v : Nat) l, v < i → x.down[v]? = some l → DownOk x.rank x.arcs v l) x.rank.length ?_ ?_
          · exact ⟨0, rfl, by omega, rfl, kk, nn, qq, fun v l h => by omega, fun v l h => by omega⟩
          · rintro m t H5 ⟨i, rfl, hi, rfl, k5, n5, q5, hU, hD⟩
            by_cases hc : (i : Int) < x.n
            · have hil : i < x.rank.length := by omega
              obtain ⟨lup, hlu, mlu⟩ := at_some (l := x.up) (i := i) (by omega)
              obtain ⟨ldn, hld, mld⟩ := at_some (l := x.down) (i := i) (by omega)
              obtain ⟨iu, ou, ru, u1, u2, u3, u4⟩ := (hx.up.kept k5).at (k := .i64) hlu
              simp (disch := first | omega | (simp only [nx] <;> omega) | fail) only [vaw, hc, q5, u1, u3, Nat.reduceAdd, Nat.reduceMul, Nat.reduceLeDiff, Nat.reduceEqDiff, ↓reduceIte]
              refine refrow_ret (up := true) (hx.es.kept k5) (hx.rank.kept k5) (hx.arcs.kept k5) hx.up.beq hx.down.beq u4 hil (hnu _ mlu) (by omega) (fun j a h => by rw [c1]; exact hends j a h) fun b H6 k6 s6 => ?_
              have n6 := k6.next
              have q6 := (k6.old n5).trans q5
              cases b with
              | false =>
                simp (disch := first | omega | (simp only [nx] <;> omega) | fail) only [vaw, q6, Nat.reduceAdd, Nat.reduceMul, Nat.reduceLeDiff, Nat.reduceEqDiff, ↓reduceIte]
                exact hq _ _ (k5.trans k6) (says_no fun h => by have := s6.2 (rowOk_up.2 (h.up i _ hlu)); cases this)
              | true =>
                have hb := rowOk_up.1 (s6.1 rfl)
                obtain ⟨id, od, rd, d1, d2, d3, d4⟩ := ((hx.down.kept k5).kept k6).at (k := .i64) hld
                simp (disch := first | omega | (simp only [nx] <;> omega) | fail) only [vaw, q6, d1, d3, Nat.reduceAdd, Nat.reduceMul, Nat.reduceLeDiff, Nat.reduceEqDiff, ↓reduceIte]
                refine refrow_ret (up := false) ((hx.es.kept k5).kept k6) ((hx.rank.kept k5).kept k6) ((hx.arcs.kept k5).kept k6) hx.up.beq hx.down.beq d4 hil (hnd _ mld) (by omega) (fun j a h => by rw [c1]; exact hends j a h) fun b H7 k7 s7 => ?_
                have n7 := k7.next
                have q7 := (k7.old (i := H.next) (by omega)).trans q6
                cases b with
                | false =>
                  simp (disch := first | omega | (simp only [nx] <;> omega) | fail) only [vaw, q7, Nat.reduceAdd, Nat.reduceMul, Nat.reduceLeDiff, Nat.reduceEqDiff, ↓reduceIte]
                  exact hq _ _ ((k5.trans k6).trans k7) (says_no fun h => by have := s7.2 (rowOk_down.2 (h.down i _ hld)); cases this)
                | true =>
                  have hb2 := rowOk_down.1 (s7.1 rfl)
                  simp (disch := first | omega | (simp only [nx] <;> omega) | fail) only [vaw, q7, Nat.reduceAdd, Nat.reduceMul, Nat.reduceLeDiff, Nat.reduceEqDiff, ↓reduceIte]
                  refine ⟨x.rank.length - (i + 1), by omega, i + 1, rfl, by omega, rfl, (k5.trans k6).trans k7, by omega, fun v l hv hl => ?_, fun v l hv hl => ?_⟩
                  · by_cases hvi : v = i
                    · subst hvi; rw [hlu] at hl; injection hl with hl; subst hl; exact hb
                    · exact hU v l (by omega) hl
                  · by_cases hvi : v = i
                    · subst hvi; rw [hld] at hl; injection hl with hl; subst hl; exact hb2
                    · exact hD v l (by omega) hl
            · simp (disch := first | omega | (simp only [nx] <;> omega) | fail) only [vaw, hc, q5, Nat.reduceAdd, Nat.reduceMul, Nat.reduceLeDiff, Nat.reduceEqDiff, ↓reduceIte]
              refine hq _ _ k5 (says_yes ⟨hnet, c1, c2, c3, hrnk, by omega, harc.1, harc.2, fun v l hl => hU v l ?_ hl, fun v l hl => hD v l ?_ hl⟩)
              · have := (List.getElem?_eq_some_iff.1 hl).1; omega
              · have := (List.getElem?_eq_some_iff.1 hl).1; omega
theorem refRead_len {s : RS} (hb : Bytes s.left) (hl : s.left.length ≤ 1000000000) : (refRead s).1.rank.length ≤ 1000000000 ∧ (∀ l ∈ (refRead s).1.up, l.length ≤ 4611686018427387904) ∧ ∀ l ∈ (refRead s).1.down, l.length ≤ 4611686018427387904 := by
  unfold refRead
  simp only
  split
  · exact ⟨by simp, by simp, by simp⟩
  · rename_i hn
    have h1 := rFour_left s
    have h2 := rCount_left 16 (rFour s).2
    have h3 := rep_left rEdge_left (rCount 16 (rFour s).2).1.toNat (rCount 16 (rFour s).2).2
    have h5 := rep_left rRank_left (rFour s).1.toNat (rep rEdge (rCount 16 (rFour s).2).1.toNat (rCount 16 (rFour s).2).2).2
    generalize (rep rEdge (rCount 16 (rFour s).2).1.toNat (rCount 16 (rFour s).2).2) = r3 at *
    have l5 := rep_length rRank (rFour s).1.toNat r3.2
    generalize (rep rRank (rFour s).1.toNat r3.2) = r5 at *
    have h6 := rCount_left 32 r5.2
    have h7 := rep_left refArc_left (rCount 32 r5.2).1.toNat (rCount 32 r5.2).2
    generalize (rep refArc (rCount 32 r5.2).1.toNat (rCount 32 r5.2).2) = r7 at *
    have h8 := rep_left rList_left (rFour s).1.toNat r7.2
    refine ⟨?_, fun l hl' => ?_, fun l hl' => ?_⟩
    · rw [l5]; omega
    · have := rep_mem _ _ l hl'; omega
    · have := rep_mem _ _ l hl'; omega
set_option maxRecDepth 20000 in
set_option maxHeartbeats 8000000 in
theorem refdecode_ret {bv : AVal} {b : List Int} {H : AHeap} {Q : AVal → AHeap → Prop} (hb : RowC H bv 1 (u8s b)) (hbb : Bytes b) (hlen : b.length ≤ 1000000000)
    (hq0 : (∀ x, refRaw b = some x → ¬ Allowed x) → ∀ H', Keep Nothing H H' → Q (.tuple [.agg [.int .i64 0, .nilSlice, .nilSlice, .nilSlice, .nilSlice, .nilSlice], .int .i64 9]) H')
    (hq1 : ∀ x, refRaw b = some x → Allowed x → ∀ ew rv av uv dv H', Keep Nothing H H' → IdxAt H' ew rv av uv dv x → Q (.tuple [.agg [.int .i64 x.n, ew, rv, av, uv, dv], .int .i64 0]) H') : Ret A 34 [bv] H Q := by
  refine Ret.of (fn := F34) rfl ?_
  have hl := hb.1.len1
  rw [u8s_length] at hl
  by_cases h4 : (b.length : Int) < 4
  · simp (disch := first | omega | (simp only [nx] <;> omega) | fail) only [vaw, F34, hl, h4, Nat.reduceAdd, Nat.reduceMul, Nat.reduceLeDiff, Nat.reduceEqDiff, ↓reduceIte]
    refine hq0 (fun x hx => ?_) _ (((Keep.refl _ _).new _).upd (.inl (by omega)) _)
    unfold refRaw at hx
    rw [if_neg (fun e => by have := congrArg List.length e; simp at this; omega)] at hx
    cases hx
  have k0 : Keep Nothing H (H.new (.cells [.int .i64 0, .nilSlice, .nilSlice, .nilSlice, .nilSlice, .nilSlice] true)) := (Keep.refl _ _).new _
  obtain ⟨v4, s1, s2, s3⟩ := hb.upto (n := b.length) (k := 4) (kd := .i64) (by omega) (by rw [u8s_length]; omega) (by omega)
  rw [Nat.mul_one, u8s_take] at s2
  have hst := row_str (s2.1.kept k0)
  have hm4 : Bytes [77, 73, 88, 49] := by intro b hb; simp at hb; omega
  have ht4 : Bytes (b.take 4) := fun y hy => hbb y (List.mem_of_mem_take hy)
  have hstr : abin .neq .prim (.str (strOf (b.take 4))) (.str ⟨#[77, 73, 88, 49]⟩) = some (.bool (decide (b.take 4 ≠ [77, 73, 88, 49]))) := abin_neq_str ht4 hm4
  have s1' : aslice 1 bv none (some (.int .i64 4)) none = some v4 := s1
  by_cases hmk : b.take 4 = [77, 73, 88, 49]
  · have hstr' : abin .neq .prim (.str (strOf (b.take 4))) (.str ⟨#[77, 73, 88, 49]⟩) = some (.bool false) := by
      rw [hstr, decide_eq_false (fun h => h hmk)]
    obtain ⟨v2, e4, e5, e6⟩ := hb.from (n := b.length) (k := 4) (kd := .i64) (by omega) (by rw [u8s_length]; omega) (by omega)
    have e4' : aslice 1 bv (some (.int .i64 4)) none none = some v2 := e4
    rw [Nat.mul_one, u8s_drop] at e5
    have c2 := e5.1.cells
    simp (disch := first | omega | (simp only [nx] <;> omega) | fail) only [vaw, F34, hl, h4, s1', hst, hstr', e4', c2, Nat.reduceAdd, Nat.reduceMul, Nat.reduceLeDiff, Nat.reduceEqDiff, ↓reduceIte]
    have k1 : Keep Nothing H ((H.new (.cells [.int .i64 0, .nilSlice, .nilSlice, .nilSlice, .nilSlice, .nilSlice] true)).new (.cells [v2, .bool false] true)) := k0.new _
    have hsrc : ∀ j, sid v2 = some j → j < H.next := fun j hj => hb.1.sid_lt (by rw [← e6]; exact hj)
    have rd0 : RdAt ((H.new (.cells [.int .i64 0, .nilSlice, .nilSlice, .nilSlice, .nilSlice, .nilSlice] true)).new (.cells [v2, .bool false] true)) (H.next + 1) (sid v2) ⟨b.drop 4, false⟩ :=
      ⟨v2, by simp (disch := first | omega | (simp only [nx] <;> omega) | fail) only [vaim], e5.kept k1, rfl, by simp only [next_new]; omega, fun e => by have := hsrc _ e; omega, fun x hx => hbb x (List.mem_of_mem_drop hx), by simp; omega⟩
    have q1 : ((H.new (.cells [.int .i64 0, .nilSlice, .nilSlice, .nilSlice, .nilSlice, .nilSlice] true)).new (.cells [v2, .bool false] true)).obj H.next = some (.cells [.int .i64 0, .nilSlice, .nilSlice, .nilSlice, .nilSlice, .nilSlice] true) := by simp (disch := first | omega | (simp only [nx] <;> omega) | fail) only [vaim]
    have n1 : ((H.new (.cells [.int .i64 0, .nilSlice, .nilSlice, .nilSlice, .nilSlice, .nilSlice] true)).new (.cells [v2, .bool false] true)).next = H.next + 1 + 1 := by simp only [next_new]
    generalize (H.new (.cells [.int .i64 0, .nilSlice, .nilSlice, .nilSlice, .nilSlice, .nilSlice] true)).new (.cells [v2, .bool false] true) = H1 at *
    refine refRead_ret rd0 (by simp; omega) fun ew rv av uv dv H2 k2 rd2 h2 => ?_
    have hrl := refRead_len (s := ⟨b.drop 4, false⟩) (fun x hx => hbb x (List.mem_of_mem_drop hx)) (by simp; omega)
    have n2 := k2.next
    have q2 : H2.obj H.next = some (.cells [.int .i64 0, .nilSlice, .nilSlice, .nilSlice, .nilSlice, .nilSlice] true) := by rw [k2.obj _ (by omega) (by omega)]; exact q1
    have hraw : refRaw b = if (refRead ⟨b.drop 4, false⟩).2.bad = true ∨ 0 < (refRead ⟨b.drop 4, false⟩).2.left.length then none else some (refRead ⟨b.drop 4, false⟩).1 := by
      unfold refRaw; rw [if_pos hmk]
    generalize refRead ⟨b.drop 4, false⟩ = r at *
    obtain ⟨x, left, bad⟩ := r
    simp only at rd2 h2 hrl hraw ⊢
    obtain ⟨lv, g1, g2, g3, g4, g5, g6, g7⟩ := rd2
    simp only at g1 g2
    have hll := g2.1.len1
    rw [u8s_length] at hll
    have kH : Keep Nothing H H2 := ⟨by have := k1.next; omega, fun j hj _ => by rw [k2.obj j (by omega) (by omega), k1.old hj]⟩
    have kP : Keep Nothing H2 ((H2.new (.cells [.int .i64 0, .nilSlice, .nilSlice, .nilSlice, .nilSlice, .nilSlice] true)).upd H2.next (some (.cells [.int .i64 x.n, ew, rv, av, uv, dv] true))) := ((Keep.refl _ _).new _).upd (.inl (by omega)) _
    cases bad with
    | true =>
      simp (disch := first | omega | (simp only [nx] <;> omega) | fail) only [vaw, g1, q2, Nat.reduceAdd, Nat.reduceMul, Nat.reduceLeDiff, Nat.reduceEqDiff, ↓reduceIte]
      refine hq0 (fun y hy => ?_) _ ((kH.trans kP).upd (.inl (by omega)) _)
      rw [hraw, if_pos (.inl rfl)] at hy; cases hy
    | false =>
      by_cases hleft : (0 : Int) < left.length
      · simp (disch := first | omega | (simp only [nx] <;> omega) | fail) only [vaw, g1, q2, hll, hleft, Nat.reduceAdd, Nat.reduceMul, Nat.reduceLeDiff, Nat.reduceEqDiff, ↓reduceIte]
        refine hq0 (fun y hy => ?_) _ ((kH.trans kP).upd (.inl (by omega)) _)
        rw [hraw, if_pos (.inr (by omega))] at hy; cases hy
      · have hraw' : refRaw b = some x := by
          rw [hraw, if_neg]
          intro h
          rcases h with h | h
          · cases h
          · omega
        simp (disch := first | omega | (simp only [nx] <;> omega) | fail) only [vaw, g1, q2, hll, hleft, Nat.reduceAdd, Nat.reduceMul, Nat.reduceLeDiff, Nat.reduceEqDiff, ↓reduceIte]
        refine refcheck_ret (h2.kept kP).idx hrl.1 hrl.2.1 hrl.2.2 fun b2 H3 k3 s3 => ?_
        have q3 : H3.obj H.next = some (.cells [.int .i64 0, .nilSlice, .nilSlice, .nilSlice, .nilSlice, .nilSlice] true) := by rw [k3.old (by simp only [next_upd, next_new]; omega)]; simp (disch := first | omega | (simp only [nx] <;> omega) | fail) only [vaim]; rw [q2]
        have p3 : H3.obj H2.next = some (.cells [.int .i64 x.n, ew, rv, av, uv, dv] true) := by rw [k3.old (by simp only [next_upd, next_new]; omega)]; exact obj_upd_eq rfl
        have n3 := k3.next
        simp only [next_upd, next_new] at n3
        cases b2 with
        | false =>
          simp (disch := first | omega | (simp only [nx] <;> omega) | fail) only [vaw, q3, p3, Nat.reduceAdd, Nat.reduceMul, Nat.reduceLeDiff, Nat.reduceEqDiff, ↓reduceIte]
          refine hq0 (fun y hy hal => ?_) _ (((kH.trans kP).trans k3).upd (.inl (by omega)) _)
          rw [hraw'] at hy; injection hy with hy; subst hy
          have := s3.2 hal; cases this
        | true =>
          simp (disch := first | omega | (simp only [nx] <;> omega) | fail) only [vaw, q3, p3, Nat.reduceAdd, Nat.reduceMul, Nat.reduceLeDiff, Nat.reduceEqDiff, ↓reduceIte]
          have kF : Keep (fun j => j = H.next) H3 (H3.upd H.next (some (.cells [.int .i64 x.n, ew, rv, av, uv, dv] true))) := (Keep.refl (fun j => j = H.next) _).upd (.inr rfl) _
          exact hq1 x hraw' (s3.1 rfl) ew rv av uv dv _ (((kH.trans kP).trans k3).upd (.inl (by omega)) _) (((h2.kept kP).kept k3).M kF (fun j e => by omega)).idx
  · have hstr' : abin .neq .prim (.str (strOf (b.take 4))) (.str ⟨#[77, 73, 88, 49]⟩) = some (.bool true) := by
      rw [hstr, decide_eq_true hmk]
    simp (disch := first | omega | (simp only [nx] <;> omega) | fail) only [vaw, F34, hl, h4, s1', hst, hstr', Nat.reduceAdd, Nat.reduceMul, Nat.reduceLeDiff, Nat.reduceEqDiff, ↓reduceIte]
    refine hq0 (fun x hx => ?_) _ (k0.upd (.inl (by omega)) _)
    unfold refRaw at hx
    rw [if_neg hmk] at hx
    cases hx
end Go.Proofs.Ytknhlpmmalcchaa

namespace Go.Proofs.Ytknhlpmmalcchaa
open Go Go.VAI
set_option linter.unusedSimpArgs false

theorem set_byte {l : List Int} (h : Bytes l) {j : Nat} {b : Int} (hb : 0 ≤ b ∧ b < 256) : Bytes (l.set j b) := fun x hx => by
  rcases List.mem_or_eq_of_mem_set hx with h1 | h1
  · exact h x h1
  · subst h1; exact hb
end Go.Proofs.Ytknhlpmmalcchaa

namespace Go.Proofs.Ytknhlpmmalcchaa
open Go Go.VAI
set_option linter.unusedSimpArgs false

def zeroIdx : Idx := ⟨0, [], [], [], [], []⟩
theorem zero_at (H : AHeap) : IdxAt H .nilSlice .nilSlice .nilSlice .nilSlice .nilSlice zeroIdx := ⟨.nil, .nil, .nil, ⟨[], .nil, rfl, fun i r l h => by simp at h⟩, ⟨[], .nil, rfl, fun i r l h => by simp at h⟩⟩
theorem zero_short : Short62 zeroIdx ∧ zeroIdx.up.length = zeroIdx.down.length := ⟨⟨by decide, by decide, by decide, by decide, by simp [zeroIdx], by simp [zeroIdx]⟩, rfl⟩
set_option maxRecDepth 20000 in
set_option maxHeartbeats 8000000 in
theorem indexCounts_ret {which : Int} {cv ns : AVal} {ys xs : List Int} {f : Nat → Option AObj} (_ : I64 which) (hm : Row ⟨f, 2⟩ cv 1 (u8s ys)) (hy : ∀ y ∈ ys, 0 ≤ y ∧ y < 256) (hy2 : ys.length ≤ 9223372036854775807)
    (hr : Row ⟨f, 2⟩ ns 1 (ints xs)) (hx : ∀ x ∈ xs, I64 x) (hx2 : xs.length ≤ 9223372036854775807) :
    Ret A 10 [.int .i64 which, cv, ns] ⟨f, 2⟩ (fun v _ => v = .bool true) := by
  refine Ret.of (fn := F10) rfl ?_
  have hml := hm.len1
  rw [u8s_length] at hml
  simp (disch := first | omega | (simp only [nx] <;> omega) | fail) only [vaw, F10, Nat.reduceAdd, Nat.reduceMul, Nat.reduceLeDiff, Nat.reduceEqDiff, ↓reduceIte]
  refine known26x2_ret fun H1 k1 => ?_
  simp (disch := first | omega | (simp only [nx] <;> omega) | fail) only [vaw, Bool.not_true, Nat.reduceAdd, Nat.reduceMul, Nat.reduceLeDiff, Nat.reduceEqDiff, ↓reduceIte]
  refine mk_ret (hr.kept k1) hx hx2 fun ev H2 k2 g2 => ?_
  have hnet := mk_net 3 2 xs
  have hsm := mk_small 3
  generalize mkEs 3 2 xs = es at *
  generalize mkN 3 = N at *
  simp (disch := first | omega | (simp only [nx] <;> omega) | fail) only [vaw, Nat.reduceAdd, Nat.reduceMul, Nat.reduceLeDiff, Nat.reduceEqDiff, ↓reduceIte]
  refine build_ret g2.row hnet hsm fun ew rv av uv dv H3 k3 h3 => ?_
  have hal := idx_allowed hnet hsm
  obtain ⟨p1, p2, p3⟩ := allowed_enc hal
  have hn : (idxOf N es).n = N := rfl
  have hbytes := encode_bytes (idxOf N es)
  generalize hid : idxOf N es = x at *
  rw [← hn]
  simp (disch := first | omega | (simp only [nx] <;> omega) | fail) only [vaw, Nat.reduceAdd, Nat.reduceMul, Nat.reduceLeDiff, Nat.reduceEqDiff, ↓reduceIte]
  refine encode_ret h3 p1 p2 (by omega) fun bv H4 k4 g4 => ?_
  have hl28 : 28 ≤ (encodeOf x).length := by
    have h1 := encodeOf_len x
    have := hal.net.1
    have h2 := hal.rankLen
    have h3 := hal.upLen
    have h4 := hal.downLen
    have h5 := flat_ge (f := rowB) (n := 4) (l := x.up) (fun a => by rw [rowB_len]; omega)
    have h6 := flat_ge (f := rowB) (n := 4) (l := x.down) (fun a => by rw [rowB_len]; omega)
    omega
  generalize encodeOf x = b0 at *
  have hlen : (u8s b0).length = b0.length := u8s_length _
  have hll := g4.row.len1
  rw [hlen] at hll
  have hl28' : ¬ (b0.length : Int) < 28 := by omega
  by_cases hc4 : (ys.length : Int) < 4
  · simp (disch := first | omega | (simp only [nx] <;> omega) | fail) only [vaw, hll, hl28', hml, hc4, Nat.reduceAdd, Nat.reduceMul, Nat.reduceLeDiff, Nat.reduceEqDiff, ↓reduceIte]
  simp (disch := first | omega | (simp only [nx] <;> omega) | fail) only [vaw, hll, hl28', hml, hc4, Nat.reduceAdd, Nat.reduceMul, Nat.reduceLeDiff, Nat.reduceEqDiff, ↓reduceIte]
  refine within_ret (n := 2) rfl (by omega) (by omega) ?_
  obtain ⟨j, hj⟩ : ∃ j : Nat, which % 2 = j := ⟨(which % 2).toNat, by omega⟩
  have hj2 : j = 0 ∨ j = 1 := by omega
  rw [hj]
  have hm4 := ((hm.kept k1).kept k2).kept (k3.trans k4)
  have kB : Keep Nothing H4 (H4.new (.cells [.int .i64 4, .int .i64 8] true)) := (Keep.refl _ _).new _
  have main : ∀ (a : Nat), a = 4 ∨ a = 8 → (ints [4, 8])[j]? = some (.int .i64 a) → wpx (Ret A) F10.body [] H4 (fun _ _ _ => True) → True := fun _ _ _ _ => trivial
  have hix : aindexAddrS 1 (.slice H4.next 0 2 (.exact 2)) (.int .i64 (j : Int)) = some (.ptr H4.next j) := by rw [aindexAddrS_slice ⟨by omega, by omega⟩]; simp
  obtain ⟨a, ha, hat⟩ : ∃ a : Nat, (a = 4 ∨ a = 8) ∧ [AVal.int .i64 4, AVal.int .i64 8][j]? = some (.int .i64 (a : Int)) := by
    rcases hj2 with rfl | rfl
    · exact ⟨4, .inl rfl, rfl⟩
    · exact ⟨8, .inr rfl, rfl⟩
  simp (disch := first | omega | (simp only [nx] <;> omega) | fail) only [vaw, hix, hat, Nat.reduceAdd, Nat.reduceMul, Nat.reduceLeDiff, Nat.reduceEqDiff, ↓reduceIte]
  refine wpx_loop (fun m t H' => ∃ (i : Nat) (bs : List Int), m = 4 - i ∧ i ≤ 4 ∧ t = (bots 1 (cv :: bots 5 (bv :: .int .i64 a :: .int .i64 i :: bots 54 ([]))) : Tmps) ∧ Own H3.next H' bv 1 (u8s bs) ∧ Bytes bs ∧ bs.length = b0.length ∧ Row H' cv 1 (u8s ys) ∧ (∀ j, sid cv = some j → j < H3.next)) 4 ?_ ?_
  · exact ⟨0, b0, rfl, by omega, rfl, (g4.kept kB), hbytes, rfl, hm4.kept kB, fun j hj => by have := hm.sid_lt hj; have := k1.next; have := k2.next; have := k3.next; have h2 : (⟨f, 2⟩ : AHeap).next = 2 := rfl; omega⟩
  · rintro m t H5 ⟨i, bs, rfl, hi, rfl, g5, hb5, hl5, hm5, hs5⟩
    by_cases hc : (i : Int) < 4
    · have hil : i < ys.length := by omega
      have hyi : ys[i]? = some ys[i] := by simp [hil]
      have hyb := hy _ (List.getElem_mem hil)
      obtain ⟨ic, oc, c1, c2, c3, c4⟩ := u8_at (k := .i64) hm5 hyi
      generalize ys[i] = yb at *
      obtain ⟨id, q1, q2, q3, q4, q5, q6⟩ := g5.slot (j := a + i) (k := .i64) (by rw [u8s_length]; omega)
      have hcast : ((a + i : Nat) : Int) = (a : Int) + i := by omega
      rw [hcast] at q4
      have hlb : (u8s bs).length = bs.length := u8s_length _
      have hle : a + i + 1 ≤ bs.length := by omega
      have hset : splice (u8s bs) (a + i) [.int .u8 yb] = u8s (bs.set (a + i) yb) := by
        rw [splice_one (by rw [hlb]; omega)]
        simp [u8s, List.map_set]
      simp (disch := first | omega | (simp only [nx] <;> omega) | fail) only [vaw, hc, c1, c3, q4, q5, hlb, hle, hset, Nat.reduceAdd, Nat.reduceMul, Nat.reduceLeDiff, Nat.reduceEqDiff, ↓reduceIte]
      have g6 := q6 (H5.upd id (some (.cells (u8s (bs.set (a + i) yb)) true))) (u8s (bs.set (a + i) yb)) (by simp only [next_upd]; omega) (obj_upd_eq rfl) (by rw [u8s_length, List.length_set, u8s_length])
      have kU : Keep (fun j => j = id) H5 (H5.upd id (some (.cells (u8s (bs.set (a + i) yb)) true))) := (Keep.refl (fun j => j = id) _).upd (.inr rfl) _
      exact ⟨4 - (i + 1), by omega, i + 1, bs.set (a + i) yb, rfl, by omega, rfl, g6, set_byte hb5 hyb, by rw [List.length_set]; exact hl5, hm5.M kU (fun j hj e => by have := hs5 j hj; omega), hs5⟩
    · simp (disch := first | omega | (simp only [nx] <;> omega) | fail) only [vaw, hc, Nat.reduceAdd, Nat.reduceMul, Nat.reduceLeDiff, Nat.reduceEqDiff, ↓reduceIte]
      have hbl : bs.length ≤ 1000000000 := by omega
      refine decode_ret g5.rowC hb5 hbl (fun hno H6 k6 => ?_) (fun x1 hx1 hal1 e1 r1 a1 u1 d1 H6 k6 h6 => ?_)
      · have kP : Keep Nothing H6 ((H6.new (.cells [.int .i64 0, .nilSlice, .nilSlice, .nilSlice, .nilSlice, .nilSlice] true)).upd H6.next (some (.cells [.int .i64 0, .nilSlice, .nilSlice, .nilSlice, .nilSlice, .nilSlice] true))) := ((Keep.refl _ _).new _).upd (.inl (by omega)) _
        have oP : ((H6.new (.cells [.int .i64 0, .nilSlice, .nilSlice, .nilSlice, .nilSlice, .nilSlice] true)).upd H6.next (some (.cells [.int .i64 0, .nilSlice, .nilSlice, .nilSlice, .nilSlice, .nilSlice] true))).obj H6.next = some (.cells [.int .i64 0, .nilSlice, .nilSlice, .nilSlice, .nilSlice, .nilSlice] true) := obj_upd_eq rfl
        have nP : H6.next < ((H6.new (.cells [.int .i64 0, .nilSlice, .nilSlice, .nilSlice, .nilSlice, .nilSlice] true)).upd H6.next (some (.cells [.int .i64 0, .nilSlice, .nilSlice, .nilSlice, .nilSlice, .nilSlice] true))).next := (by first | omega | (simp only [next_new, next_upd]; omega))
        simp (disch := first | omega | (simp only [nx] <;> omega) | fail) only [vaw, Nat.reduceAdd, Nat.reduceMul, Nat.reduceLeDiff, Nat.reduceEqDiff, ↓reduceIte]
        generalize (H6.new (.cells [.int .i64 0, .nilSlice, .nilSlice, .nilSlice, .nilSlice, .nilSlice] true)).upd H6.next (some (.cells [.int .i64 0, .nilSlice, .nilSlice, .nilSlice, .nilSlice, .nilSlice] true)) = H7 at *
        generalize H6.next = y at *
        refine refdecode_ret ((g5.kept k6).kept kP).rowC hb5 hbl (fun hno2 H8 k8 => ?_) (fun x2 hx2 hal2 e2 r2 a2 u2 d2 H8 k8 h8 => ?_)
        · have o8 := (k8.old nP).trans oP
          have n8 := k8.next
          simp (disch := first | omega | (simp only [nx] <;> omega) | fail) only [vaw, o8, Nat.reduceAdd, Nat.reduceMul, Nat.reduceLeDiff, Nat.reduceEqDiff, ↓reduceIte]
          refine same_ret (zero_at _) (zero_at _) zero_short.1 zero_short.2 fun b H9 k9 c9 => ?_
          have hb : b = true := c9.2 rfl
          subst hb
          simp (disch := first | omega | (simp only [nx] <;> omega) | fail) only [vaw, Nat.reduceAdd, Nat.reduceMul, Nat.reduceLeDiff, Nat.reduceEqDiff, ↓reduceIte]
        · exact (hno x2 ((ref_raw hb5 hal2).1 hx2) hal2).elim
      · have c1 := h6.es.cells
        have kP : Keep Nothing H6 ((H6.new (.cells [.int .i64 0, .nilSlice, .nilSlice, .nilSlice, .nilSlice, .nilSlice] true)).upd H6.next (some (.cells [.int .i64 x1.n, e1, r1, a1, u1, d1] true))) := ((Keep.refl _ _).new _).upd (.inl (by omega)) _
        have oP : ((H6.new (.cells [.int .i64 0, .nilSlice, .nilSlice, .nilSlice, .nilSlice, .nilSlice] true)).upd H6.next (some (.cells [.int .i64 x1.n, e1, r1, a1, u1, d1] true))).obj H6.next = some (.cells [.int .i64 x1.n, e1, r1, a1, u1, d1] true) := obj_upd_eq rfl
        have nP : H6.next < ((H6.new (.cells [.int .i64 0, .nilSlice, .nilSlice, .nilSlice, .nilSlice, .nilSlice] true)).upd H6.next (some (.cells [.int .i64 x1.n, e1, r1, a1, u1, d1] true))).next := (by first | omega | (simp only [next_new, next_upd]; omega))
        simp (disch := first | omega | (simp only [nx] <;> omega) | fail) only [vaw, Nat.reduceAdd, Nat.reduceMul, Nat.reduceLeDiff, Nat.reduceEqDiff, ↓reduceIte]
        generalize (H6.new (.cells [.int .i64 0, .nilSlice, .nilSlice, .nilSlice, .nilSlice, .nilSlice] true)).upd H6.next (some (.cells [.int .i64 x1.n, e1, r1, a1, u1, d1] true)) = H7 at *
        generalize H6.next = y at *
        have hw := (ref_raw hb5 hal1).2 hx1
        refine refdecode_ret ((g5.kept k6).kept kP).rowC hb5 hbl (fun hno2 H8 k8 => (hno2 x1 hw hal1).elim) (fun x2 hx2 hal2 e2 r2 a2 u2 d2 H8 k8 h8 => ?_)
        have : x2 = x1 := by rw [hw] at hx2; injection hx2 with hx2; exact hx2.symm
        subst this
        have o8 := (k8.old nP).trans oP
        have n8 := k8.next
        have kQ : Keep Nothing H8 ((H8.new (.cells [.int .i64 0, .nilSlice, .nilSlice, .nilSlice, .nilSlice, .nilSlice] true)).upd H8.next (some (.cells [.int .i64 x2.n, e2, r2, a2, u2, d2] true))) := ((Keep.refl _ _).new _).upd (.inl (by omega)) _
        obtain ⟨hs1, hs2⟩ := allowed_short hal2
        simp (disch := first | omega | (simp only [nx] <;> omega) | fail) only [vaw, o8, Nat.reduceAdd, Nat.reduceMul, Nat.reduceLeDiff, Nat.reduceEqDiff, ↓reduceIte]
        refine same_ret (((h6.kept kP).kept k8).kept kQ) (h8.kept kQ) hs1 hs2 fun b H9 k9 c9 => ?_
        have hb : b = true := c9.2 rfl
        subst hb
        simp (disch := first | omega | (simp only [nx] <;> omega) | fail) only [vaw, Nat.reduceAdd, Nat.reduceMul, Nat.reduceLeDiff, Nat.reduceEqDiff, ↓reduceIte]
end Go.Proofs.Ytknhlpmmalcchaa

/- Closed facts of the program: what its head says, read as a list of signs (the kernel is slow at a long text's own signs). -/
namespace Go.Proofs.Ytknhlpmmalcchaa
open Go Go.ChangeShapes Go.WideShapes Go.ChangeAt Go.RowKit
set_option maxRecDepth 100000
def headSigns : List Char := List.map Char.ofNat [104, 97, 114, 110, 101, 115, 115, 32, 55, 99, 56, 99, 100, 51, 98, 49, 52, 101, 49, 49, 99, 55, 53, 54, 51, 54, 100, 97, 101, 56, 55, 98, 55, 54, 100, 50, 48, 98, 53, 57, 56, 97, 56, 56, 56, 55, 99, 98, 51, 49, 48, 98, 100, 53, 97, 55, 54, 53, 102, 100, 48, 102, 49, 102, 50, 57, 53, 50, 52, 102, 57, 50, 32, 99, 117, 116, 32, 97, 116, 32, 109, 105, 108, 101, 115, 116, 111, 110, 101, 47, 109, 105, 108, 101, 115, 116, 111, 110, 101, 108, 97, 119, 49, 50, 46, 73, 110, 100, 101, 120, 66, 97, 99, 107, 32, 109, 105, 108, 101, 115, 116, 111, 110, 101, 47, 109, 105, 108, 101, 115, 116, 111, 110, 101, 108, 97, 119, 49, 50, 46, 73, 110, 100, 101, 120, 82, 101, 97, 100, 115, 32, 109, 105, 108, 101, 115, 116, 111, 110, 101, 47, 109, 105, 108, 101, 115, 116, 111, 110, 101, 108, 97, 119, 49, 50, 46, 73, 110, 100, 101, 120, 83, 112, 111, 105, 108, 116, 32, 109, 105, 108, 101, 115, 116, 111, 110, 101, 47, 109, 105, 108, 101, 115, 116, 111, 110, 101, 108, 97, 119, 49, 50, 46, 73, 110, 100, 101, 120, 79, 110, 108, 121, 32, 109, 105, 108, 101, 115, 116, 111, 110, 101, 47, 109, 105, 108, 101, 115, 116, 111, 110, 101, 108, 97, 119, 49, 50, 46, 73, 110, 100, 101, 120, 83, 105, 122, 101, 32, 109, 105, 108, 101, 115, 116, 111, 110, 101, 47, 109, 105, 108, 101, 115, 116, 111, 110, 101, 108, 97, 119, 49, 50, 46, 73, 110, 100, 101, 120, 65, 112, 97, 114, 116, 32, 109, 105, 108, 101, 115, 116, 111, 110, 101, 47, 109, 105, 108, 101, 115, 116, 111, 110, 101, 108, 97, 119, 49, 50, 46, 73, 110, 100, 101, 120, 67, 117, 116, 32, 109, 105, 108, 101, 115, 116, 111, 110, 101, 47, 109, 105, 108, 101, 115, 116, 111, 110, 101, 108, 97, 119, 49, 50, 46, 73, 110, 100, 101, 120, 67, 111, 117, 110, 116, 115, 32, 109, 105, 108, 101, 115, 116, 111, 110, 101, 47, 109, 105, 108, 101, 115, 116, 111, 110, 101, 108, 97, 119, 49, 50, 46, 73, 110, 100, 101, 120, 72, 101, 97, 100, 32, 109, 105, 108, 101, 115, 116, 111, 110, 101, 47, 109, 105, 108, 101, 115, 116, 111, 110, 101, 108, 97, 119, 49, 48, 46, 79, 114, 100, 101, 114, 65, 108, 108, 32, 109, 105, 108, 101, 115, 116, 111, 110, 101, 47, 109, 105, 108, 101, 115, 116, 111, 110, 101, 108, 97, 119, 49, 48, 46, 79, 114, 100, 101, 114, 69, 97, 99, 104, 32, 109, 105, 108, 101, 115, 116, 111, 110, 101, 47, 109, 105, 108, 101, 115, 116, 111, 110, 101, 108, 97, 119, 49, 48, 46, 79, 114, 100, 101, 114, 67, 111, 115, 116, 115, 32, 109, 105, 108, 101, 115, 116, 111, 110, 101, 47, 109, 105, 108, 101, 115, 116, 111, 110, 101, 108, 97, 119, 49, 48, 46, 79, 114, 100, 101, 114, 75, 110, 111, 119, 110, 32, 109, 105, 108, 101, 115, 116, 111, 110, 101, 47, 109, 105, 108, 101, 115, 116, 111, 110, 101, 108, 97, 119, 49, 48, 46, 79, 114, 100, 101, 114, 77, 111, 100, 101, 32, 109, 105, 108, 101, 115, 116, 111, 110, 101, 47, 109, 105, 108, 101, 115, 116, 111, 110, 101, 108, 97, 119, 49, 49, 46, 72, 105, 101, 114, 66, 117, 105, 108, 100, 115, 32, 109, 105, 108, 101, 115, 116, 111, 110, 101, 47, 109, 105, 108, 101, 115, 116, 111, 110, 101, 108, 97, 119, 49, 49, 46, 72, 105, 101, 114, 82, 97, 110, 107, 115, 32, 109, 105, 108, 101, 115, 116, 111, 110, 101, 47, 109, 105, 108, 101, 115, 116, 111, 110, 101, 108, 97, 119, 49, 49, 46, 72, 105, 101, 114, 75, 101, 101, 112, 115, 32, 109, 105, 108, 101, 115, 116, 111, 110, 101, 47, 109, 105, 108, 101, 115, 116, 111, 110, 101, 108, 97, 119, 49, 49, 46, 72, 105, 101, 114, 67, 111, 114, 101, 32, 109, 105, 108, 101, 115, 116, 111, 110, 101, 47, 109, 105, 108, 101, 115, 116, 111, 110, 101, 108, 97, 119, 49, 49, 46, 72, 105, 101, 114, 67, 111, 115, 116, 115, 32, 109, 105, 108, 101, 115, 116, 111, 110, 101, 47, 109, 105, 108, 101, 115, 116, 111, 110, 101, 108, 97, 119, 49, 49, 46, 72, 105, 101, 114, 65, 114, 99, 115, 32, 109, 105, 108, 101, 115, 116, 111, 110, 101, 47, 109, 105, 108, 101, 115, 116, 111, 110, 101, 108, 97, 119, 49, 49, 46, 72, 105, 101, 114, 83, 104, 111, 114, 116, 32, 109, 105, 108, 101, 115, 116, 111, 110, 101, 47, 109, 105, 108, 101, 115, 116, 111, 110, 101, 108, 97, 119, 49, 49, 46, 72, 105, 101, 114, 79, 119, 110, 32, 109, 105, 108, 101, 115, 116, 111, 110, 101, 47, 109, 105, 108, 101, 115, 116, 111, 110, 101, 108, 97, 119, 49, 49, 46, 72, 105, 101, 114, 76, 111, 110, 103]
theorem head_eq : Try.prog.initOrder = String.ofList headSigns := by kernel_rfl
theorem head_list : Try.prog.initOrder.toList = headSigns := by rw [head_eq, String.toList_ofList]
theorem head_words : ∃ rest, behindMainWord (wordsSigns headSigns) = "cut".toList :: rest := ⟨(behindMainWord (wordsSigns headSigns)).tail, by kernel_rfl⟩
theorem strip_cut (rest : List (List Char)) : stripLifts liftWords ("cut".toList :: rest) = ([], "cut".toList :: rest) := by kernel_rfl
theorem ne1 : ("cut".toList == "gc".toList) = false := by kernel_rfl
theorem ne2 : ("cut".toList == "spec".toList) = false := by kernel_rfl
theorem ne3 : ("cut".toList == "carried".toList) = false := by kernel_rfl
theorem words_of : ∃ rest, behindMainWord (wordsSigns Try.prog.initOrder.toList) = "cut".toList :: rest := by
  obtain ⟨rest, h⟩ := head_words
  exact ⟨rest, (congrArg (fun l => behindMainWord (wordsSigns l)) head_list).trans h⟩
theorem make_of (P : Program) (rest : List (List Char)) (h : behindMainWord (wordsSigns P.initOrder.toList) = "cut".toList :: rest) : P.make = some .cut := by
  unfold Program.make
  rw [h]
  simp only [ne1, ne2, beq_self_eq_true, Bool.false_or, Bool.true_or, Bool.or_self, Bool.false_eq_true, if_true, if_false]
theorem lifts_of (P : Program) (rest : List (List Char)) (h : behindMainWord (wordsSigns P.initOrder.toList) = "cut".toList :: rest) : P.liftsFinal = false := by
  unfold Program.liftsFinal Program.headLifts
  rw [h]
  have e : ((some "cut".toList : Option (List Char)) == some "carried".toList) = false := by kernel_rfl
  simp only [strip_cut, List.head?_cons, beq_self_eq_true, if_true, e, Bool.false_and, Bool.false_or]
  rfl
theorem enter_of (P : Program) (rest : List (List Char)) (h : behindMainWord (wordsSigns P.initOrder.toList) = "cut".toList :: rest) (h1 : P.laysLater = false) (h2 : P.bearsReflect = false) (h3 : P.doorFits [] = true) : P.mayEnter = true := by
  unfold Program.mayEnter
  rw [h]
  simp only [strip_cut, ne1, ne2, ne3, h1, h2, h3, List.head?_cons, beq_self_eq_true, Bool.false_or, Bool.or_false, Bool.false_and, Bool.true_and, Bool.and_true, Bool.not_false, Bool.or_true, List.contains_nil]
theorem fact_make : Try.prog.make = some .cut := by
  obtain ⟨rest, h⟩ := words_of
  exact make_of _ _ h
theorem fact_lifts : Try.prog.liftsFinal = false := by
  obtain ⟨rest, h⟩ := words_of
  exact lifts_of _ _ h
theorem fact_later : Try.prog.laysLater = false := by kernel_rfl
theorem fact_reflect : Try.prog.bearsReflect = false := by kernel_rfl
theorem fact_door : Try.prog.doorFits [] = true := by kernel_rfl
theorem fact_enter : Try.prog.mayEnter = true := by
  obtain ⟨rest, h⟩ := words_of
  exact enter_of _ _ h fact_later fact_reflect fact_door
theorem fact_laid : laidOutB Try.prog = true := by kernel_rfl
theorem fact_maps : mapsRowed Try.prog = true := by kernel_rfl
theorem fact_heard : Try.prog.stopsHeard = true := by kernel_rfl
theorem own : ownKnob Try.prog.godebug = none := by kernel_rfl
theorem follows : Try.prog.follows .mixedOrders = true := by kernel_rfl
end Go.Proofs.Ytknhlpmmalcchaa
