/- Steps of the walk. -/
import Derived.Test.YtknhlpmmalcchaaI5Te
import Derived.Test.YtknhlpmmalcchaaRows
import Derived.ProofKit
set_option linter.all false
set_option linter.unusedVariables false
set_option linter.unusedSimpArgs false
namespace Go.Proofs.Ytknhlpmmalcchaa
open Go Go.VAI
set_option linter.unusedSimpArgs false

theorem allowed_rows {x : Idx} (h : Allowed x) : (∀ l ∈ x.up, l.length ≤ 300000) ∧ ∀ l ∈ x.down, l.length ≤ 300000 := by
  have hac := h.count
  constructor
  · intro l hl
    obtain ⟨v, hv, e⟩ := List.getElem_of_mem hl
    obtain ⟨h1, h2⟩ := h.up v l (by rw [List.getElem?_eq_getElem hv, e])
    have := few_below x.arcs.length l h1 (fun y hy => by
      obtain ⟨h3, a, h4, _⟩ := h2 y hy
      have := (List.getElem?_eq_some_iff.1 h4).1
      omega)
    omega
  · intro l hl
    obtain ⟨v, hv, e⟩ := List.getElem_of_mem hl
    obtain ⟨h1, h2⟩ := h.down v l (by rw [List.getElem?_eq_getElem hv, e])
    have := few_below x.arcs.length l h1 (fun y hy => by
      obtain ⟨h3, a, h4, _⟩ := h2 y hy
      have := (List.getElem?_eq_some_iff.1 h4).1
      omega)
    omega
set_option maxRecDepth 20000 in
set_option maxHeartbeats 20000000 in
theorem spoilt_ret {ew0 rv0 av0 uv0 dv0 : AVal} {x : Idx} {which at_ v : Int} {H : AHeap} {Q : AVal → AHeap → Prop} (hx : IdxAt H ew0 rv0 av0 uv0 dv0 x) (hal : Allowed x) (hv : I64 v)
    (hq : ∀ y ew rv av uv dv H', Keep Nothing H H' → IdxAt H' ew rv av uv dv y → y.n = x.n → Small y → Q (.agg [.int .i64 x.n, ew, rv, av, uv, dv]) H') : Ret A 36 [.agg [.int .i64 x.n, ew0, rv0, av0, uv0, dv0], .int .i64 which, .int .i64 at_, .int .i64 v] H Q := by
  refine Ret.of (fn := F36) rfl ?_
  obtain ⟨LE, hE, hEl⟩ := edges_ints x.es
  obtain ⟨LA, hA, hAl⟩ := arcs_ints x.arcs
  have re0 : Row H ew0 4 (ints LE) := by rw [← hE]; exact hx.es
  have ra0 : Row H av0 7 (ints LA) := by rw [← hA]; exact hx.arcs
  obtain ⟨b1, b2, b3, _⟩ := hal.net
  have b4 := hal.rankLen
  have b5 := hal.upLen
  have b6 := hal.downLen
  have b7 := hal.count
  obtain ⟨b8, b9⟩ := allowed_rows hal
  have bu0 := hx.up.beq
  have bd0 := hx.down.beq
  simp (disch := first | omega | (simp only [nx] <;> omega) | fail) only [vaw, F36, Nat.reduceAdd, Nat.reduceMul, Nat.reduceLeDiff, Nat.reduceEqDiff, ↓reduceIte]
  have k3 : Keep Nothing H (((H.new (.cells [.int .i64 x.n, ew0, rv0, av0, uv0, dv0] true)).new (.cells [.int .i64 0, .nilSlice, .nilSlice, .nilSlice, .nilSlice, .nilSlice] true)).new (.cells [] true)) := (((Keep.refl _ _).new _).new _).new _
  have ob3 : (((H.new (.cells [.int .i64 x.n, ew0, rv0, av0, uv0, dv0] true)).new (.cells [.int .i64 0, .nilSlice, .nilSlice, .nilSlice, .nilSlice, .nilSlice] true)).new (.cells [] true)).obj H.next = some (.cells [.int .i64 x.n, ew0, rv0, av0, uv0, dv0] true) := by simp (disch := first | omega | (simp only [nx] <;> omega) | fail) only [vaim]
  have or3 : (((H.new (.cells [.int .i64 x.n, ew0, rv0, av0, uv0, dv0] true)).new (.cells [.int .i64 0, .nilSlice, .nilSlice, .nilSlice, .nilSlice, .nilSlice] true)).new (.cells [] true)).obj (H.next + 1) = some (.cells [.int .i64 0, .nilSlice, .nilSlice, .nilSlice, .nilSlice, .nilSlice] true) := by simp (disch := first | omega | (simp only [nx] <;> omega) | fail) only [vaim]
  have oe3 : (((H.new (.cells [.int .i64 x.n, ew0, rv0, av0, uv0, dv0] true)).new (.cells [.int .i64 0, .nilSlice, .nilSlice, .nilSlice, .nilSlice, .nilSlice] true)).new (.cells [] true)).obj (H.next + 1 + 1) = some (.cells [] true) := by simp (disch := first | omega | (simp only [nx] <;> omega) | fail) only [vaim]
  have n3 : (((H.new (.cells [.int .i64 x.n, ew0, rv0, av0, uv0, dv0] true)).new (.cells [.int .i64 0, .nilSlice, .nilSlice, .nilSlice, .nilSlice, .nilSlice] true)).new (.cells [] true)).next = H.next + 3 := rfl
  generalize ((H.new (.cells [.int .i64 x.n, ew0, rv0, av0, uv0, dv0] true)).new (.cells [.int .i64 0, .nilSlice, .nilSlice, .nilSlice, .nilSlice, .nilSlice] true)).new (.cells [] true) = H3 at *
  refine copy_ret (n := x.rank.length) oe3 (by omega) (hx.rank.kept k3) (by rw [ints_length]; omega) (by omega) (by omega) (by omega) ?_
  intro rv H4 k4 g4 s4
  have n4 := k4.next
  have ob4 := (k4.old (i := H.next) (by omega)).trans ob3
  have or4 := (k4.old (i := H.next + 1) (by omega)).trans or3
  have c4 := g4.cells
  have k34 := k3.trans k4
  simp (disch := first | omega | (simp only [nx] <;> omega) | fail) only [vaw, ob4, c4, Nat.reduceAdd, Nat.reduceMul, Nat.reduceLeDiff, Nat.reduceEqDiff, ↓reduceIte]
  have k5 : Keep Nothing H ((H4.upd H.next (some (.cells [.int .i64 x.n, ew0, rv, av0, uv0, dv0] true))).new (.cells [] true)) := (k34.upd (.inl (by omega)) _).new _
  have ob5 : ((H4.upd H.next (some (.cells [.int .i64 x.n, ew0, rv, av0, uv0, dv0] true))).new (.cells [] true)).obj H.next = some (.cells [.int .i64 x.n, ew0, rv, av0, uv0, dv0] true) := by simp (disch := first | omega | (simp only [nx] <;> omega) | fail) only [vaim]
  have or5 : ((H4.upd H.next (some (.cells [.int .i64 x.n, ew0, rv, av0, uv0, dv0] true))).new (.cells [] true)).obj (H.next + 1) = some (.cells [.int .i64 0, .nilSlice, .nilSlice, .nilSlice, .nilSlice, .nilSlice] true) := by simp (disch := first | omega | (simp only [nx] <;> omega) | fail) only [vaim]; exact or4
  have oe5 : ((H4.upd H.next (some (.cells [.int .i64 x.n, ew0, rv, av0, uv0, dv0] true))).new (.cells [] true)).obj H4.next = some (.cells [] true) := by simp (disch := first | omega | (simp only [nx] <;> omega) | fail) only [vaim]
  have n5 : ((H4.upd H.next (some (.cells [.int .i64 x.n, ew0, rv, av0, uv0, dv0] true))).new (.cells [] true)).next = H4.next + 1 := rfl
  have g5 : Own (H.next + 1 + 1) ((H4.upd H.next (some (.cells [.int .i64 x.n, ew0, rv, av0, uv0, dv0] true))).new (.cells [] true)) rv 1 (ints x.rank) := (g4.upd (fun j hj => by have := (g4.sid_ge hj).1; omega) _).new _
  have i5 : In (H.next + 1 + 1) H4.next rv := fun j hj => g4.sid_ge hj
  clear k4 g4 ob4 or4 k34 ob3 or3 oe3
  generalize (H4.upd H.next (some (.cells [.int .i64 x.n, ew0, rv, av0, uv0, dv0] true))).new (.cells [] true) = H5 at *
  refine copy_ret (n := x.arcs.length) oe5 (by omega) (ra0.kept k5) (by rw [ints_length]; omega) (by omega) (by omega) (by omega) ?_
  intro av H6 k6 g6 s6
  have n6 := k6.next
  have ob6 := (k6.old (i := H.next) (by omega)).trans ob5
  have or6 := (k6.old (i := H.next + 1) (by omega)).trans or5
  have c6 := g6.cells
  have g56 := g5.kept k6
  simp (disch := first | omega | (simp only [nx] <;> omega) | fail) only [vaw, ob6, c6, Nat.reduceAdd, Nat.reduceMul, Nat.reduceLeDiff, Nat.reduceEqDiff, ↓reduceIte]
  have k7 : Keep Nothing H (H6.upd H.next (some (.cells [.int .i64 x.n, ew0, rv, av, uv0, dv0] true))) := (k5.trans k6).upd (.inl (by omega)) _
  have ob7 : (H6.upd H.next (some (.cells [.int .i64 x.n, ew0, rv, av, uv0, dv0] true))).obj H.next = some (.cells [.int .i64 x.n, ew0, rv, av, uv0, dv0] true) := obj_upd_eq rfl
  have or7 : (H6.upd H.next (some (.cells [.int .i64 x.n, ew0, rv, av, uv0, dv0] true))).obj (H.next + 1) = some (.cells [.int .i64 0, .nilSlice, .nilSlice, .nilSlice, .nilSlice, .nilSlice] true) := by rw [obj_upd_ne (by omega)]; exact or6
  have n7 : (H6.upd H.next (some (.cells [.int .i64 x.n, ew0, rv, av, uv0, dv0] true))).next = H6.next := rfl
  have g7 : Own (H.next + 1 + 1) (H6.upd H.next (some (.cells [.int .i64 x.n, ew0, rv, av, uv0, dv0] true))) rv 1 (ints x.rank) := g56.upd (fun j hj => by have := (g56.sid_ge hj).1; omega) _
  have h7 : Own H4.next (H6.upd H.next (some (.cells [.int .i64 x.n, ew0, rv, av, uv0, dv0] true))) av 7 (ints LA) := g6.upd (fun j hj => by have := (g6.sid_ge hj).1; omega) _
  have i7 : In H4.next H6.next av := fun j hj => g6.sid_ge hj
  clear k6 g6 ob6 or6 g56 g5 ob5 or5 oe5
  generalize H6.upd H.next (some (.cells [.int .i64 x.n, ew0, rv, av, uv0, dv0] true)) = H7 at *
  refine rows_ret (hx.up.kept k7) (by omega) (fun l hl => by have := b8 l hl; omega) fun uv us H8 k8 g8 => ?_
  have n8 := k8.next
  have ob8 := (k8.old (i := H.next) (by omega)).trans ob7
  have or8 := (k8.old (i := H.next + 1) (by omega)).trans or7
  simp (disch := first | omega | (simp only [nx] <;> omega) | fail) only [vaw, ob8, reK_same bd0, Nat.reduceAdd, Nat.reduceMul, Nat.reduceLeDiff, Nat.reduceEqDiff, ↓reduceIte]
  refine rows_ret (hx.down.kept (k7.trans k8)) (by omega) (fun l hl => by have := b9 l hl; omega) fun dv ds H9 k9 g9 => ?_
  have n9 := k9.next
  have ob9 := (k9.old (i := H.next) (by omega)).trans ob8
  have or9 := (k9.old (i := H.next + 1) (by omega)).trans or8
  have cu := g8.own.cells
  have cd := g9.own.cells
  have k79 := k8.trans k9
  simp (disch := first | omega | (simp only [nx] <;> omega) | fail) only [vaw, ob9, cu, cd, Nat.reduceAdd, Nat.reduceMul, Nat.reduceLeDiff, Nat.reduceEqDiff, ↓reduceIte]
  have kA9 : Keep (fun j => j = H.next) H9 (((H9.upd H.next (some (.cells [.int .i64 x.n, ew0, rv, av, uv, dv0] true))).upd H.next (some (.cells [.int .i64 x.n, ew0, rv, av, uv, dv] true))).new (.cells [] true)) := (((Keep.refl (fun j => j = H.next) _).upd (.inr rfl) _).upd (.inr rfl) _).new _
  have kA : Keep Nothing H (((H9.upd H.next (some (.cells [.int .i64 x.n, ew0, rv, av, uv, dv0] true))).upd H.next (some (.cells [.int .i64 x.n, ew0, rv, av, uv, dv] true))).new (.cells [] true)) := ((((k7.trans k8).trans k9).upd (.inl (by omega)) _).upd (.inl (by omega)) _).new _
  have obA : (((H9.upd H.next (some (.cells [.int .i64 x.n, ew0, rv, av, uv, dv0] true))).upd H.next (some (.cells [.int .i64 x.n, ew0, rv, av, uv, dv] true))).new (.cells [] true)).obj H.next = some (.cells [.int .i64 x.n, ew0, rv, av, uv, dv] true) := by simp (disch := first | omega | (simp only [nx] <;> omega) | fail) only [vaim]
  have orA : (((H9.upd H.next (some (.cells [.int .i64 x.n, ew0, rv, av, uv, dv0] true))).upd H.next (some (.cells [.int .i64 x.n, ew0, rv, av, uv, dv] true))).new (.cells [] true)).obj (H.next + 1) = some (.cells [.int .i64 0, .nilSlice, .nilSlice, .nilSlice, .nilSlice, .nilSlice] true) := by simp (disch := first | omega | (simp only [nx] <;> omega) | fail) only [vaim]; exact or9
  have oeA : (((H9.upd H.next (some (.cells [.int .i64 x.n, ew0, rv, av, uv, dv0] true))).upd H.next (some (.cells [.int .i64 x.n, ew0, rv, av, uv, dv] true))).new (.cells [] true)).obj H9.next = some (.cells [] true) := by simp (disch := first | omega | (simp only [nx] <;> omega) | fail) only [vaim]
  have nA : (((H9.upd H.next (some (.cells [.int .i64 x.n, ew0, rv, av, uv, dv0] true))).upd H.next (some (.cells [.int .i64 x.n, ew0, rv, av, uv, dv] true))).new (.cells [] true)).next = H9.next + 1 := rfl
  generalize ((H9.upd H.next (some (.cells [.int .i64 x.n, ew0, rv, av, uv, dv0] true))).upd H.next (some (.cells [.int .i64 x.n, ew0, rv, av, uv, dv] true))).new (.cells [] true) = HA at *
  refine copy_ret (n := x.es.length) oeA (by omega) (re0.kept kA) (by rw [ints_length]; omega) (by omega) (by omega) (by omega) ?_
  intro ew H11 k11 g11 s11
  have n11 := k11.next
  have obB := (k11.old (i := H.next) (by omega)).trans obA
  have orB := (k11.old (i := H.next + 1) (by omega)).trans orA
  have c11 := g11.cells
  simp (disch := first | omega | (simp only [nx] <;> omega) | fail) only [vaw, obB, c11, Nat.reduceAdd, Nat.reduceMul, Nat.reduceLeDiff, Nat.reduceEqDiff, ↓reduceIte]
  have kB9 : Keep (fun j => j = H.next) H9 (H11.upd H.next (some (.cells [.int .i64 x.n, ew, rv, av, uv, dv] true))) := (kA9.trans k11.any).upd (.inr rfl) _
  have kB : Keep Nothing H (H11.upd H.next (some (.cells [.int .i64 x.n, ew, rv, av, uv, dv] true))) := (kA.trans k11).upd (.inl (by omega)) _
  have kB1 : Keep (fun j => j = H.next) H11 (H11.upd H.next (some (.cells [.int .i64 x.n, ew, rv, av, uv, dv] true))) := (Keep.refl (fun j => j = H.next) _).upd (.inr rfl) _
  have ob : (H11.upd H.next (some (.cells [.int .i64 x.n, ew, rv, av, uv, dv] true))).obj H.next = some (.cells [.int .i64 x.n, ew, rv, av, uv, dv] true) := obj_upd_eq rfl
  have or : (H11.upd H.next (some (.cells [.int .i64 x.n, ew, rv, av, uv, dv] true))).obj (H.next + 1) = some (.cells [.int .i64 0, .nilSlice, .nilSlice, .nilSlice, .nilSlice, .nilSlice] true) := by rw [obj_upd_ne (by omega)]; exact orB
  have nB : (H11.upd H.next (some (.cells [.int .i64 x.n, ew, rv, av, uv, dv] true))).next = H11.next := rfl
  have S : Sp (H.next + 1 + 1) H4.next H7.next H8.next H9.next H11.next (H11.upd H.next (some (.cells [.int .i64 x.n, ew, rv, av, uv, dv] true))) ew rv av uv dv LE x.rank LA us ds x.up x.down :=
    ⟨g11.keepM kB1 (fun j hj e => by have := (g11.sid_ge hj).1; omega), fun j hj => g11.sid_ge hj, (g7.kept k79).keepM kB9 (fun j hj e => by have := (g7.sid_ge hj).1; omega), i5, (h7.kept k79).keepM kB9 (fun j hj e => by have := (h7.sid_ge hj).1; omega), fun j hj => by have := i7 j hj; omega,
      (g8.M k9 (fun _ _ _ h => h)).M kB9 (fun j h1 h2 e => by omega), g9.M kB9 (fun j h1 h2 e => by omega), by omega⟩
  clear kA9 kA obA orA oeA k11 g11 obB orB kB1 kB9 g8 g9 k79 k8 k9 ob8 or8 ob9 or9 h7 g7 i7 i5 k7 ob7 or7 hx re0 ra0 c11 cu cd c4 c6 bu0 bd0 s11 s4 s6 k3 k5
  generalize H11.upd H.next (some (.cells [.int .i64 x.n, ew, rv, av, uv, dv] true)) = H12 at *
  generalize ha1 : H4.next = a1 at *
  generalize ha2 : H7.next = a2 at *
  generalize ha3 : H8.next = a3 at *
  generalize ha4 : H9.next = a4 at *
  generalize ha5 : H11.next = a5 at *
  have So := S.o
  have lR := S.rr.row.len1
  rw [ints_length] at lR
  have lA := S.ar.row.len (n := x.arcs.length) (by omega) (by rw [ints_length]; omega)
  have lE := S.er.row.len (n := x.es.length) (by omega) (by rw [ints_length]; omega)
  have lU := S.ur.own.row.len1
  have lUs := S.ur.len
  have lD := S.dr.own.row.len1
  have lDs := S.dr.len
  have be := S.er.beq
  have br := S.rr.beq
  have ba := S.ar.beq
  have bu := S.ur.own.beq
  have bd := S.dr.own.beq
  have small : ∀ y : Idx, y.rank = x.rank → y.up = x.up → y.down = x.down → Small y := fun y e1 e2 e3 => ⟨by rw [e1]; omega, by rw [e2]; exact fun l hl => by have := b8 l hl; omega, by rw [e3]; exact fun l hl => by have := b9 l hl; omega⟩
  have fin : ∀ (Hf : AHeap) (ew rv av uv dv : AVal) (y : Idx), Keep Nothing H Hf → IdxFrom (H.next + 1 + 1) Hf ew rv av uv dv y → y.n = x.n → Small y → Q (.agg [.int .i64 x.n, ew, rv, av, uv, dv]) (Hf.upd (H.next + 1) (some (.cells [.int .i64 x.n, ew, rv, av, uv, dv] true))) := fun Hf ew rv av uv dv y h1 h2 h3 h4 =>
    hq y ew rv av uv dv _ (h1.upd (.inl (by omega)) _) (h2.M (M := fun j => j = H.next + 1) ((Keep.refl (fun j => j = H.next + 1) _).upd (.inr rfl) _) (fun j e => by omega)).idx h3 h4
  simp (disch := first | omega | (simp only [nx] <;> omega) | fail) only [vaw, lR, Nat.reduceAdd, Nat.reduceMul, Nat.reduceLeDiff, Nat.reduceEqDiff, ↓reduceIte]
  refine within_ret (n := x.rank.length) rfl (by omega) (by omega) ?_
  have e1 := Int.emod_nonneg at_ (show (x.rank.length : Int) ≠ 0 by omega)
  have e2 := Int.emod_lt_of_pos at_ (show 0 < (x.rank.length : Int) by omega)
  obtain ⟨k, hk⟩ : ∃ k : Nat, at_ % (x.rank.length : Int) = k := ⟨(at_ % (x.rank.length : Int)).toNat, by omega⟩
  rw [hk] at e2 ⊢
  have hkl : k < x.rank.length := by omega
  simp (disch := first | omega | (simp only [nx] <;> omega) | fail) only [vaw, ob, lA, Nat.reduceAdd, Nat.reduceMul, Nat.reduceLeDiff, Nat.reduceEqDiff, ↓reduceIte]
  refine condK_cut (fun t H' => ∃ ai : Nat, t = bots 1 (.int .i64 which :: .int .i64 at_ :: .int .i64 v :: .ptr H.next 0 :: bots 3 (.ptr (H.next + 1) 0 :: .int .i64 k :: .int .i64 ai :: bots 340 [])) ∧ H' = H12 ∧ ((0 : Int) < x.arcs.length → ai < x.arcs.length)) ?_ ?_
  · refine condK_split (fun h => ?_) (fun h => ?_)
    · simp (disch := first | omega | (simp only [nx] <;> omega) | fail) only [vaw, ob, lA, Nat.reduceAdd, Nat.reduceMul, Nat.reduceLeDiff, Nat.reduceEqDiff, ↓reduceIte]
      refine within_ret (n := x.arcs.length) rfl (by omega) (by omega) ?_
      have e1 := Int.emod_nonneg at_ (show (x.arcs.length : Int) ≠ 0 by omega)
      have e2 := Int.emod_lt_of_pos at_ (show 0 < (x.arcs.length : Int) by omega)
      obtain ⟨ai, hai⟩ : ∃ ai : Nat, at_ % (x.arcs.length : Int) = ai := ⟨(at_ % (x.arcs.length : Int)).toNat, by omega⟩
      rw [hai] at e2 ⊢
      simp (disch := first | omega | (simp only [nx] <;> omega) | fail) only [vaw, vaij, Nat.reduceAdd, Nat.reduceMul, Nat.reduceLeDiff, Nat.reduceEqDiff, ↓reduceIte]
      exact ⟨ai, rfl, fun _ => by omega⟩
    · simp (disch := first | omega | (simp only [nx] <;> omega) | fail) only [vaw, vaij, Nat.reduceAdd, Nat.reduceMul, Nat.reduceLeDiff, Nat.reduceEqDiff, ↓reduceIte]
      exact ⟨0, rfl, fun h2 => absurd h2 h⟩
  · rintro t H12 ⟨ai, rfl, rfl, hai⟩
    simp (disch := first | omega | (simp only [nx] <;> omega) | fail) only [vaw, ob, lA, Nat.reduceAdd, Nat.reduceMul, Nat.reduceLeDiff, Nat.reduceEqDiff, ↓reduceIte]
    refine within_ret (n := 16) rfl (by omega) (by omega) ?_
    have same : Q (.agg [.int .i64 x.n, ew, rv, av, uv, dv]) (H12.upd (H.next + 1) (some (.cells [.int .i64 x.n, ew, rv, av, uv, dv] true))) := by
      obtain ⟨y, y1, y2, y3, y4, y5⟩ := S.end (n := x.n) hEl hAl
      exact fin _ _ _ _ _ _ y kB y5 y1 (small y y2 y3 y4)
    have hz : which % 16 = 0 ∨ which % 16 = 1 ∨ which % 16 = 2 ∨ which % 16 = 3 ∨ which % 16 = 4 ∨ which % 16 = 5 ∨ which % 16 = 6 ∨ which % 16 = 7 ∨ which % 16 = 8 ∨ which % 16 = 9 ∨ which % 16 = 10 ∨ which % 16 = 11 ∨ which % 16 = 12 ∨ which % 16 = 13 ∨ which % 16 = 14 ∨ which % 16 = 15 := by omega
    have hna : (0 : Int) < x.arcs.length ∨ ¬ (0 : Int) < x.arcs.length := by omega
    have lLA : (ints LA).length = LA.length := ints_length _
    have lLE : (ints LE).length = LE.length := ints_length _
    have lLR : (ints x.rank).length = x.rank.length := ints_length _
    rcases hz with h | h | h | h | h | h | h | h | h | h | h | h | h | h | h | h
    · simp (disch := first | omega | (simp only [nx] <;> omega) | fail) only [vaw, h, Int.reduceEq, vaij, ob, lR, Nat.reduceAdd, Nat.reduceMul, Nat.reduceLeDiff, Nat.reduceEqDiff, ↓reduceIte]
      refine within_ret (n := (x.rank.length : Int) + 2) rfl (by omega) (by omega) ?_
      have z1 := Int.emod_nonneg v (show (x.rank.length : Int) + 2 ≠ 0 by omega)
      have z2 := Int.emod_lt_of_pos v (show 0 < (x.rank.length : Int) + 2 by omega)
      generalize v % ((x.rank.length : Int) + 2) = z at *
      obtain ⟨id, q1, q2, q3, q4, q5, q6⟩ := Own.slotN S.rr (n := x.rank.length) (j := k) (k := .i64) (by omega) (by rw [ints_length]; omega) hkl
      rw [Nat.mul_one] at q4
      have hid := S.ri id q1
      have hle : k + 1 ≤ x.rank.length := hkl
      have hset := splice_ints (L := x.rank) (p := k) (x := z - 1) hkl
      simp (disch := first | omega | (simp only [nx] <;> omega) | fail) only [vaw, ob, or, reK_same br, q4, q5, lLR, hle, hset, Nat.reduceAdd, Nat.reduceMul, Nat.reduceLeDiff, Nat.reduceEqDiff, ↓reduceIte]
      have gN := q6 (H12.upd id (some (.cells (ints (x.rank.set k (z - 1))) true))) _ (by simp only [next_upd]; omega) (obj_upd_eq rfl) (by rw [ints_length, List.length_set, ints_length])
      have kU : Keep (fun j => H.next + 1 + 1 ≤ j ∧ j < a1) H12 (H12.upd id (some (.cells (ints (x.rank.set k (z - 1))) true))) := (Keep.refl (fun j => H.next + 1 + 1 ≤ j ∧ j < a1) _).upd (.inr hid) _
      obtain ⟨y, y1, y2, y3, y4, y5⟩ := S.endR (n := x.n) hEl hAl kU ⟨gN.row, fun j hj => (S.ri j hj).1⟩
      exact fin _ _ _ _ _ _ y (kB.upd (.inl (by omega)) _) y5 y1 ⟨by rw [y2, List.length_set]; omega, by rw [y3]; exact fun l hl => by have := b8 l hl; omega, by rw [y4]; exact fun l hl => by have := b9 l hl; omega⟩
    · rcases hna with hna | hna
      rotate_left
      · simp (disch := first | omega | (simp only [nx] <;> omega) | fail) only [vaw, h, Int.reduceEq, vaij, hna, ob, or, Nat.reduceAdd, Nat.reduceMul, Nat.reduceLeDiff, Nat.reduceEqDiff, ↓reduceIte]
        exact same
      have hal' := hai hna
      simp (disch := first | omega | (simp only [nx] <;> omega) | fail) only [vaw, h, Int.reduceEq, vaij, hna, ob, lR, lA, lE, Nat.reduceAdd, Nat.reduceMul, Nat.reduceLeDiff, Nat.reduceEqDiff, ↓reduceIte]
      refine within_ret (n := (x.rank.length : Int) + 1) rfl (by omega) (by omega) ?_
      have z1 := Int.emod_nonneg v (show (x.rank.length : Int) + 1 ≠ 0 by omega)
      have z2 := Int.emod_lt_of_pos v (show 0 < (x.rank.length : Int) + 1 by omega)
      generalize v % ((x.rank.length : Int) + 1) = z at *
      obtain ⟨id, q1, q2, q3, q4, q5, q6⟩ := Own.slotN S.ar (n := x.arcs.length) (j := ai) (k := .i64) (by omega) (by rw [ints_length]; omega) hal'
      have hid := S.ai id q1
      have hle : ai * 7 + 1 ≤ LA.length := by omega
      have hset := splice_ints (L := LA) (p := ai * 7) (x := z) (by omega)
      simp (disch := first | omega | (simp only [nx] <;> omega) | fail) only [vaw, ob, or, reK_same ba, q4, q5, lLA, hle, hset, Nat.reduceAdd, Nat.reduceMul, Nat.reduceLeDiff, Nat.reduceEqDiff, ↓reduceIte]
      have gN := q6 (H12.upd id (some (.cells (ints (LA.set (ai * 7) (z))) true))) _ (by simp only [next_upd]; omega) (obj_upd_eq rfl) (by rw [ints_length, List.length_set, ints_length])
      have kU : Keep (fun j => a1 ≤ j ∧ j < a2) H12 (H12.upd id (some (.cells (ints (LA.set (ai * 7) (z))) true))) := (Keep.refl (fun j => a1 ≤ j ∧ j < a2) _).upd (.inr hid) _
      obtain ⟨y, y1, y2, y3, y4, y5⟩ := S.endA (n := x.n) hEl (na' := x.arcs.length) (LA' := LA.set (ai * 7) (z)) (by rw [List.length_set]; exact hAl) kU ⟨gN.row, fun j hj => by have := S.ai j hj; omega⟩
      exact fin _ _ _ _ _ _ y (kB.upd (.inl (by omega)) _) y5 y1 (small y y2 y3 y4)
    · rcases hna with hna | hna
      rotate_left
      · simp (disch := first | omega | (simp only [nx] <;> omega) | fail) only [vaw, h, Int.reduceEq, vaij, hna, ob, or, Nat.reduceAdd, Nat.reduceMul, Nat.reduceLeDiff, Nat.reduceEqDiff, ↓reduceIte]
        exact same
      have hal' := hai hna
      simp (disch := first | omega | (simp only [nx] <;> omega) | fail) only [vaw, h, Int.reduceEq, vaij, hna, ob, lR, lA, lE, Nat.reduceAdd, Nat.reduceMul, Nat.reduceLeDiff, Nat.reduceEqDiff, ↓reduceIte]
      refine within_ret (n := (x.rank.length : Int) + 1) rfl (by omega) (by omega) ?_
      have z1 := Int.emod_nonneg v (show (x.rank.length : Int) + 1 ≠ 0 by omega)
      have z2 := Int.emod_lt_of_pos v (show 0 < (x.rank.length : Int) + 1 by omega)
      generalize v % ((x.rank.length : Int) + 1) = z at *
      obtain ⟨id, q1, q2, q3, q4, q5, q6⟩ := Own.slotN S.ar (n := x.arcs.length) (j := ai) (k := .i64) (by omega) (by rw [ints_length]; omega) hal'
      have hid := S.ai id q1
      have hle : ai * 7 + 1 + 1 ≤ LA.length := by omega
      have hset := splice_ints (L := LA) (p := ai * 7 + 1) (x := z - 1) (by omega)
      simp (disch := first | omega | (simp only [nx] <;> omega) | fail) only [vaw, ob, or, reK_same ba, q4, q5, lLA, hle, hset, Nat.reduceAdd, Nat.reduceMul, Nat.reduceLeDiff, Nat.reduceEqDiff, ↓reduceIte]
      have gN := q6 (H12.upd id (some (.cells (ints (LA.set (ai * 7 + 1) (z - 1))) true))) _ (by simp only [next_upd]; omega) (obj_upd_eq rfl) (by rw [ints_length, List.length_set, ints_length])
      have kU : Keep (fun j => a1 ≤ j ∧ j < a2) H12 (H12.upd id (some (.cells (ints (LA.set (ai * 7 + 1) (z - 1))) true))) := (Keep.refl (fun j => a1 ≤ j ∧ j < a2) _).upd (.inr hid) _
      obtain ⟨y, y1, y2, y3, y4, y5⟩ := S.endA (n := x.n) hEl (na' := x.arcs.length) (LA' := LA.set (ai * 7 + 1) (z - 1)) (by rw [List.length_set]; exact hAl) kU ⟨gN.row, fun j hj => by have := S.ai j hj; omega⟩
      exact fin _ _ _ _ _ _ y (kB.upd (.inl (by omega)) _) y5 y1 (small y y2 y3 y4)
    · rcases hna with hna | hna
      rotate_left
      · simp (disch := first | omega | (simp only [nx] <;> omega) | fail) only [vaw, h, Int.reduceEq, vaij, hna, ob, or, Nat.reduceAdd, Nat.reduceMul, Nat.reduceLeDiff, Nat.reduceEqDiff, ↓reduceIte]
        exact same
      have hal' := hai hna
      simp (disch := first | omega | (simp only [nx] <;> omega) | fail) only [vaw, h, Int.reduceEq, vaij, hna, ob, lR, lA, lE, Nat.reduceAdd, Nat.reduceMul, Nat.reduceLeDiff, Nat.reduceEqDiff, ↓reduceIte]
      refine within_ret (n := (7 : Int)) rfl (by omega) (by omega) ?_
      have z1 := Int.emod_nonneg v (show (7 : Int) ≠ 0 by omega)
      have z2 := Int.emod_lt_of_pos v (show 0 < (7 : Int) by omega)
      generalize v % ((7 : Int)) = z at *
      obtain ⟨id, q1, q2, q3, q4, q5, q6⟩ := Own.slotN S.ar (n := x.arcs.length) (j := ai) (k := .i64) (by omega) (by rw [ints_length]; omega) hal'
      have hid := S.ai id q1
      have hle : ai * 7 + 2 + 1 ≤ LA.length := by omega
      have hset := splice_ints (L := LA) (p := ai * 7 + 2) (x := z - 1) (by omega)
      simp (disch := first | omega | (simp only [nx] <;> omega) | fail) only [vaw, ob, or, reK_same ba, q4, q5, lLA, hle, hset, Nat.reduceAdd, Nat.reduceMul, Nat.reduceLeDiff, Nat.reduceEqDiff, ↓reduceIte]
      have gN := q6 (H12.upd id (some (.cells (ints (LA.set (ai * 7 + 2) (z - 1))) true))) _ (by simp only [next_upd]; omega) (obj_upd_eq rfl) (by rw [ints_length, List.length_set, ints_length])
      have kU : Keep (fun j => a1 ≤ j ∧ j < a2) H12 (H12.upd id (some (.cells (ints (LA.set (ai * 7 + 2) (z - 1))) true))) := (Keep.refl (fun j => a1 ≤ j ∧ j < a2) _).upd (.inr hid) _
      obtain ⟨y, y1, y2, y3, y4, y5⟩ := S.endA (n := x.n) hEl (na' := x.arcs.length) (LA' := LA.set (ai * 7 + 2) (z - 1)) (by rw [List.length_set]; exact hAl) kU ⟨gN.row, fun j hj => by have := S.ai j hj; omega⟩
      exact fin _ _ _ _ _ _ y (kB.upd (.inl (by omega)) _) y5 y1 (small y y2 y3 y4)
    · rcases hna with hna | hna
      rotate_left
      · simp (disch := first | omega | (simp only [nx] <;> omega) | fail) only [vaw, h, Int.reduceEq, vaij, hna, ob, or, Nat.reduceAdd, Nat.reduceMul, Nat.reduceLeDiff, Nat.reduceEqDiff, ↓reduceIte]
        exact same
      have hal' := hai hna
      obtain ⟨id, q1, q2, q3, q4, q5, q6⟩ := Own.slotN S.ar (n := x.arcs.length) (j := ai) (k := .i64) (by omega) (by rw [ints_length]; omega) hal'
      have hid := S.ai id q1
      have hle : ai * 7 + 3 + 1 ≤ LA.length := by omega
      obtain ⟨cst, hcst⟩ : ∃ c, (ints LA)[ai * 7 + 3]? = some (.int .i64 c) := ⟨LA[ai * 7 + 3], by simp [ints]⟩
      simp (disch := first | omega | (simp only [nx] <;> omega) | fail) only [vaw, h, Int.reduceEq, vaij, hna, ob, q4, q5, hcst, Nat.reduceAdd, Nat.reduceMul, Nat.reduceLeDiff, Nat.reduceEqDiff, ↓reduceIte]
      refine within_ret (n := 4) rfl (by omega) (by omega) ?_
      obtain ⟨z, hz⟩ : ∃ z : Nat, v % 4 = z := ⟨(v % 4).toNat, by omega⟩
      have hz4 : z < 4 := by omega
      rw [hz]
      have hidn : id ≠ H12.next := by omega
      have hix : aindexAddrS 1 (.slice H12.next 0 4 (.exact 4)) (.int .i64 (z : Int)) = some (.ptr H12.next z) := by rw [aindexAddrS_slice ⟨by omega, by omega⟩]; simp
      obtain ⟨u, hu⟩ : ∃ u : Int, ([.int .i64 0, .int .i64 v, .int .i64 (IntKind.i64.wrap (cst + 1)), .int .i64 (-1)] : List AVal)[z]? = some (.int .i64 u) := by
        match z, hz4 with
        | 0, _ => exact ⟨_, rfl⟩
        | 1, _ => exact ⟨_, rfl⟩
        | 2, _ => exact ⟨_, rfl⟩
        | 3, _ => exact ⟨_, rfl⟩
      have hset := splice_ints (L := LA) (p := ai * 7 + 3) (x := u) (by omega)
      simp (disch := first | omega | (simp only [nx] <;> omega) | fail) only [vaw, ob, or, reK_same ba, q4, q5, hcst, hix, hu, hidn, lLA, hle, hset, Nat.reduceAdd, Nat.reduceMul, Nat.reduceLeDiff, Nat.reduceEqDiff, ↓reduceIte]
      have gN := q6 ((H12.new (.cells [.int .i64 0, .int .i64 v, .int .i64 (IntKind.i64.wrap (cst + 1)), .int .i64 (-1)] true)).upd id (some (.cells (ints (LA.set (ai * 7 + 3) u)) true))) _ (by simp only [next_upd, next_new]; omega) (obj_upd_eq rfl) (by rw [ints_length, List.length_set, ints_length])
      have kU : Keep (fun j => a1 ≤ j ∧ j < a2) H12 ((H12.new (.cells [.int .i64 0, .int .i64 v, .int .i64 (IntKind.i64.wrap (cst + 1)), .int .i64 (-1)] true)).upd id (some (.cells (ints (LA.set (ai * 7 + 3) u)) true))) := ((Keep.refl (fun j => a1 ≤ j ∧ j < a2) _).new _).upd (.inr hid) _
      obtain ⟨y, y1, y2, y3, y4, y5⟩ := S.endA (n := x.n) hEl (na' := x.arcs.length) (LA' := LA.set (ai * 7 + 3) u) (by rw [List.length_set]; exact hAl) kU ⟨gN.row, fun j hj => by have := S.ai j hj; omega⟩
      exact fin _ _ _ _ _ _ y ((kB.new _).upd (.inl (by omega)) _) y5 y1 (small y y2 y3 y4)
    · rcases hna with hna | hna
      rotate_left
      · simp (disch := first | omega | (simp only [nx] <;> omega) | fail) only [vaw, h, Int.reduceEq, vaij, hna, ob, or, Nat.reduceAdd, Nat.reduceMul, Nat.reduceLeDiff, Nat.reduceEqDiff, ↓reduceIte]
        exact same
      have hal' := hai hna
      simp (disch := first | omega | (simp only [nx] <;> omega) | fail) only [vaw, h, Int.reduceEq, vaij, hna, ob, lR, lA, lE, Nat.reduceAdd, Nat.reduceMul, Nat.reduceLeDiff, Nat.reduceEqDiff, ↓reduceIte]
      refine within_ret (n := (x.es.length : Int) + 2) rfl (by omega) (by omega) ?_
      have z1 := Int.emod_nonneg v (show (x.es.length : Int) + 2 ≠ 0 by omega)
      have z2 := Int.emod_lt_of_pos v (show 0 < (x.es.length : Int) + 2 by omega)
      generalize v % ((x.es.length : Int) + 2) = z at *
      obtain ⟨id, q1, q2, q3, q4, q5, q6⟩ := Own.slotN S.ar (n := x.arcs.length) (j := ai) (k := .i64) (by omega) (by rw [ints_length]; omega) hal'
      have hid := S.ai id q1
      have hle : ai * 7 + 4 + 1 ≤ LA.length := by omega
      have hset := splice_ints (L := LA) (p := ai * 7 + 4) (x := z - 1) (by omega)
      simp (disch := first | omega | (simp only [nx] <;> omega) | fail) only [vaw, ob, or, reK_same ba, q4, q5, lLA, hle, hset, Nat.reduceAdd, Nat.reduceMul, Nat.reduceLeDiff, Nat.reduceEqDiff, ↓reduceIte]
      have gN := q6 (H12.upd id (some (.cells (ints (LA.set (ai * 7 + 4) (z - 1))) true))) _ (by simp only [next_upd]; omega) (obj_upd_eq rfl) (by rw [ints_length, List.length_set, ints_length])
      have kU : Keep (fun j => a1 ≤ j ∧ j < a2) H12 (H12.upd id (some (.cells (ints (LA.set (ai * 7 + 4) (z - 1))) true))) := (Keep.refl (fun j => a1 ≤ j ∧ j < a2) _).upd (.inr hid) _
      obtain ⟨y, y1, y2, y3, y4, y5⟩ := S.endA (n := x.n) hEl (na' := x.arcs.length) (LA' := LA.set (ai * 7 + 4) (z - 1)) (by rw [List.length_set]; exact hAl) kU ⟨gN.row, fun j hj => by have := S.ai j hj; omega⟩
      exact fin _ _ _ _ _ _ y (kB.upd (.inl (by omega)) _) y5 y1 (small y y2 y3 y4)
    · rcases hna with hna | hna
      rotate_left
      · simp (disch := first | omega | (simp only [nx] <;> omega) | fail) only [vaw, h, Int.reduceEq, vaij, hna, ob, or, Nat.reduceAdd, Nat.reduceMul, Nat.reduceLeDiff, Nat.reduceEqDiff, ↓reduceIte]
        exact same
      have hal' := hai hna
      simp (disch := first | omega | (simp only [nx] <;> omega) | fail) only [vaw, h, Int.reduceEq, vaij, hna, ob, lR, lA, lE, Nat.reduceAdd, Nat.reduceMul, Nat.reduceLeDiff, Nat.reduceEqDiff, ↓reduceIte]
      refine within_ret (n := (x.arcs.length : Int) + 1) rfl (by omega) (by omega) ?_
      have z1 := Int.emod_nonneg v (show (x.arcs.length : Int) + 1 ≠ 0 by omega)
      have z2 := Int.emod_lt_of_pos v (show 0 < (x.arcs.length : Int) + 1 by omega)
      generalize v % ((x.arcs.length : Int) + 1) = z at *
      obtain ⟨id, q1, q2, q3, q4, q5, q6⟩ := Own.slotN S.ar (n := x.arcs.length) (j := ai) (k := .i64) (by omega) (by rw [ints_length]; omega) hal'
      have hid := S.ai id q1
      have hle : ai * 7 + 5 + 1 ≤ LA.length := by omega
      have hset := splice_ints (L := LA) (p := ai * 7 + 5) (x := z) (by omega)
      simp (disch := first | omega | (simp only [nx] <;> omega) | fail) only [vaw, ob, or, reK_same ba, q4, q5, lLA, hle, hset, Nat.reduceAdd, Nat.reduceMul, Nat.reduceLeDiff, Nat.reduceEqDiff, ↓reduceIte]
      have gN := q6 (H12.upd id (some (.cells (ints (LA.set (ai * 7 + 5) (z))) true))) _ (by simp only [next_upd]; omega) (obj_upd_eq rfl) (by rw [ints_length, List.length_set, ints_length])
      have kU : Keep (fun j => a1 ≤ j ∧ j < a2) H12 (H12.upd id (some (.cells (ints (LA.set (ai * 7 + 5) (z))) true))) := (Keep.refl (fun j => a1 ≤ j ∧ j < a2) _).upd (.inr hid) _
      obtain ⟨y, y1, y2, y3, y4, y5⟩ := S.endA (n := x.n) hEl (na' := x.arcs.length) (LA' := LA.set (ai * 7 + 5) (z)) (by rw [List.length_set]; exact hAl) kU ⟨gN.row, fun j hj => by have := S.ai j hj; omega⟩
      exact fin _ _ _ _ _ _ y (kB.upd (.inl (by omega)) _) y5 y1 (small y y2 y3 y4)
    · rcases hna with hna | hna
      rotate_left
      · simp (disch := first | omega | (simp only [nx] <;> omega) | fail) only [vaw, h, Int.reduceEq, vaij, hna, ob, or, Nat.reduceAdd, Nat.reduceMul, Nat.reduceLeDiff, Nat.reduceEqDiff, ↓reduceIte]
        exact same
      have hal' := hai hna
      simp (disch := first | omega | (simp only [nx] <;> omega) | fail) only [vaw, h, Int.reduceEq, vaij, hna, ob, lR, lA, lE, Nat.reduceAdd, Nat.reduceMul, Nat.reduceLeDiff, Nat.reduceEqDiff, ↓reduceIte]
      refine within_ret (n := (x.arcs.length : Int) + 2) rfl (by omega) (by omega) ?_
      have z1 := Int.emod_nonneg v (show (x.arcs.length : Int) + 2 ≠ 0 by omega)
      have z2 := Int.emod_lt_of_pos v (show 0 < (x.arcs.length : Int) + 2 by omega)
      generalize v % ((x.arcs.length : Int) + 2) = z at *
      obtain ⟨id, q1, q2, q3, q4, q5, q6⟩ := Own.slotN S.ar (n := x.arcs.length) (j := ai) (k := .i64) (by omega) (by rw [ints_length]; omega) hal'
      have hid := S.ai id q1
      have hle : ai * 7 + 6 + 1 ≤ LA.length := by omega
      have hset := splice_ints (L := LA) (p := ai * 7 + 6) (x := z - 1) (by omega)
      simp (disch := first | omega | (simp only [nx] <;> omega) | fail) only [vaw, ob, or, reK_same ba, q4, q5, lLA, hle, hset, Nat.reduceAdd, Nat.reduceMul, Nat.reduceLeDiff, Nat.reduceEqDiff, ↓reduceIte]
      have gN := q6 (H12.upd id (some (.cells (ints (LA.set (ai * 7 + 6) (z - 1))) true))) _ (by simp only [next_upd]; omega) (obj_upd_eq rfl) (by rw [ints_length, List.length_set, ints_length])
      have kU : Keep (fun j => a1 ≤ j ∧ j < a2) H12 (H12.upd id (some (.cells (ints (LA.set (ai * 7 + 6) (z - 1))) true))) := (Keep.refl (fun j => a1 ≤ j ∧ j < a2) _).upd (.inr hid) _
      obtain ⟨y, y1, y2, y3, y4, y5⟩ := S.endA (n := x.n) hEl (na' := x.arcs.length) (LA' := LA.set (ai * 7 + 6) (z - 1)) (by rw [List.length_set]; exact hAl) kU ⟨gN.row, fun j hj => by have := S.ai j hj; omega⟩
      exact fin _ _ _ _ _ _ y (kB.upd (.inl (by omega)) _) y5 y1 (small y y2 y3 y4)
    · have hcase : True := trivial
      obtain ⟨idu, q1, q2, q3, q4, q5, q6⟩ := Own.slotN S.ur.own (n := x.rank.length) (j := k) (k := .i64) (by omega) (by omega) hkl
      rw [Nat.mul_one] at q4
      have hidu := S.ur.inA idu q1
      obtain ⟨r, hr⟩ : ∃ r, us[k]? = some r := ⟨us[k]'(by omega), by simp⟩
      obtain ⟨l, hl⟩ : ∃ l, x.up[k]? = some l := ⟨x.up[k]'(by omega), by simp⟩
      have hml := List.mem_of_getElem? hl
      have gr := S.ur.rows k r l hr hl
      have ir := S.ur.inR k r hr
      have lr := gr.row.len1
      rw [ints_length] at lr
      have brr := gr.beq
      have hap := S.ur.apart k r
      have hll := b8 l hml
      simp (disch := first | omega | (simp only [nx] <;> omega) | fail) only [vaw, h, Int.reduceEq, vaij, ob, lA, q4, q5, hr, Nat.reduceAdd, Nat.reduceMul, Nat.reduceLeDiff, Nat.reduceEqDiff, ↓reduceIte]
      refine within_ret (n := (x.arcs.length : Int) + 2) rfl (by omega) (by omega) ?_
      have z1 := Int.emod_nonneg v (show (x.arcs.length : Int) + 2 ≠ 0 by omega)
      have z2 := Int.emod_lt_of_pos v (show 0 < (x.arcs.length : Int) + 2 by omega)
      generalize v % ((x.arcs.length : Int) + 2) = z at *
      simp (disch := first | omega | (simp only [nx] <;> omega) | fail) only [vaw, ob, q4, q5, hr, reK_same bu, reK_same brr, Nat.reduceAdd, Nat.reduceMul, Nat.reduceLeDiff, Nat.reduceEqDiff, ↓reduceIte]
      have kN : Keep Nothing H12 (H12.new (.cells [.int .i64 (z - 1)] true)) := (Keep.refl _ _).new _
      refine app_ret (n := l.length) (k := 1) (gr.kept kN) (y := H12.next) (by simp (disch := first | omega | (simp only [nx] <;> omega) | fail) only [vaim]; rfl) rfl (by omega) (by omega) (by rw [ints_length]; omega) (by omega) (by omega) ?_ (by first | omega | (simp only [next_new, next_upd]; omega)) (Nat.le_refl _) (fun _ _ _ => rfl)
      intro r' H14 n14 k14 g14 s14
      obtain ⟨y', s14, hy'⟩ := s14
      simp only [next_new] at n14 k14 hy'
      have cr := g14.cells
      have k14' : ∀ j, j < H12.next → sid r ≠ some j → H14.obj j = H12.obj j := fun j h1 h2 => by rw [k14 j (by omega) h2, obj_new_ne (by omega)]
      have ob14 : H14.obj H.next = some (.cells [.int .i64 x.n, ew, rv, av, uv, dv] true) := by rw [k14' _ (by omega) (fun e => by have := ir _ e; omega)]; exact ob
      have or14 := (k14' (H.next + 1) (by omega) (fun e => by have := ir _ e; omega)).trans or
      have q5' : H14.obj idu = some (.cells us true) := by rw [k14' _ (by omega) (fun e => hap idu hr e q1)]; exact q5
      have hle : k + 1 ≤ us.length := by omega
      have hsp := splice_one (l := us) (p := k) (x := r') (by omega)
      simp (disch := first | omega | (simp only [nx] <;> omega) | fail) only [vaw, ob14, or14, q5', q4, cr, hle, hsp, reK_same bu, Nat.reduceAdd, Nat.reduceMul, Nat.reduceLeDiff, Nat.reduceEqDiff, ↓reduceIte]
      have gN := q6 (H14.upd idu (some (.cells (us.set k r') true))) _ (by simp only [next_upd]; omega) (obj_upd_eq rfl) (by rw [List.length_set])
      have kU : Keep (fun j => sid r = some j ∨ sid uv = some j) H12 (H14.upd idu (some (.cells (us.set k r') true))) := ⟨by simp only [next_upd]; omega, fun j hj hm => by rw [obj_upd_ne (fun e => hm (.inr (by rw [e]; exact q1))), k14' j hj (fun e => hm (.inl e))]⟩
      have hnew : Row (H14.upd idu (some (.cells (us.set k r') true))) r' 1 (ints (l ++ [z - 1])) := by
        rw [ints_append]
        exact g14.row.M (M := fun j => j = idu) ((Keep.refl (fun j => j = idu) _).upd (.inr rfl) _) (fun j hj e => by rw [s14] at hj; injection hj with hj; omega)
      have hrows := S.ur.put (lo := H.next + 1 + 1) (by omega) hr kU (fun j h => h) gN hnew (fun j hj => by rw [s14] at hj; injection hj with hj; omega)
      have kV : Keep (fun j => a2 ≤ j ∧ j < a3) H12 (H14.upd idu (some (.cells (us.set k r') true))) := kU.mono (fun j _ h => by rcases h with h | h; exact ir j h; exact S.ur.inA j h)
      obtain ⟨y, y1, y2, y3, y4, y5⟩ := S.endU (n := x.n) hEl hAl kV hrows
      have hset : ∀ l' ∈ x.up.set k (l ++ [z - 1]), l'.length ≤ 1000000 := fun l' h' => by
        rcases List.mem_or_eq_of_mem_set h' with h' | h'
        · have := b8 l' h'; omega
        · subst h'; simp; omega
      exact fin _ _ _ _ _ _ y ⟨by have := kB.next; simp only [next_upd]; omega, fun j hj _ => by rw [kU.obj j (by have := kB.next; omega) (fun e => by rcases e with e | e; have := ir _ e; omega; have := S.ur.inA _ e; omega), kB.old hj]⟩ y5 y1 ⟨by rw [y2]; omega, by rw [y3]; exact hset, by rw [y4]; exact fun l hl => by have := b9 l hl; omega⟩
    · have hcase : True := trivial
      obtain ⟨idu, q1, q2, q3, q4, q5, q6⟩ := Own.slotN S.dr.own (n := x.rank.length) (j := k) (k := .i64) (by omega) (by omega) hkl
      rw [Nat.mul_one] at q4
      have hidu := S.dr.inA idu q1
      obtain ⟨r, hr⟩ : ∃ r, ds[k]? = some r := ⟨ds[k]'(by omega), by simp⟩
      obtain ⟨l, hl⟩ : ∃ l, x.down[k]? = some l := ⟨x.down[k]'(by omega), by simp⟩
      have hml := List.mem_of_getElem? hl
      have gr := S.dr.rows k r l hr hl
      have ir := S.dr.inR k r hr
      have lr := gr.row.len1
      rw [ints_length] at lr
      have brr := gr.beq
      have hap := S.dr.apart k r
      have hll := b9 l hml
      simp (disch := first | omega | (simp only [nx] <;> omega) | fail) only [vaw, h, Int.reduceEq, vaij, ob, lA, q4, q5, hr, Nat.reduceAdd, Nat.reduceMul, Nat.reduceLeDiff, Nat.reduceEqDiff, ↓reduceIte]
      refine within_ret (n := (x.arcs.length : Int) + 2) rfl (by omega) (by omega) ?_
      have z1 := Int.emod_nonneg v (show (x.arcs.length : Int) + 2 ≠ 0 by omega)
      have z2 := Int.emod_lt_of_pos v (show 0 < (x.arcs.length : Int) + 2 by omega)
      generalize v % ((x.arcs.length : Int) + 2) = z at *
      simp (disch := first | omega | (simp only [nx] <;> omega) | fail) only [vaw, ob, q4, q5, hr, reK_same bd, reK_same brr, Nat.reduceAdd, Nat.reduceMul, Nat.reduceLeDiff, Nat.reduceEqDiff, ↓reduceIte]
      have kN : Keep Nothing H12 (H12.new (.cells [.int .i64 (z - 1)] true)) := (Keep.refl _ _).new _
      refine app_ret (n := l.length) (k := 1) (gr.kept kN) (y := H12.next) (by simp (disch := first | omega | (simp only [nx] <;> omega) | fail) only [vaim]; rfl) rfl (by omega) (by omega) (by rw [ints_length]; omega) (by omega) (by omega) ?_ (by first | omega | (simp only [next_new, next_upd]; omega)) (Nat.le_refl _) (fun _ _ _ => rfl)
      intro r' H14 n14 k14 g14 s14
      obtain ⟨y', s14, hy'⟩ := s14
      simp only [next_new] at n14 k14 hy'
      have cr := g14.cells
      have k14' : ∀ j, j < H12.next → sid r ≠ some j → H14.obj j = H12.obj j := fun j h1 h2 => by rw [k14 j (by omega) h2, obj_new_ne (by omega)]
      have ob14 : H14.obj H.next = some (.cells [.int .i64 x.n, ew, rv, av, uv, dv] true) := by rw [k14' _ (by omega) (fun e => by have := ir _ e; omega)]; exact ob
      have or14 := (k14' (H.next + 1) (by omega) (fun e => by have := ir _ e; omega)).trans or
      have q5' : H14.obj idu = some (.cells ds true) := by rw [k14' _ (by omega) (fun e => hap idu hr e q1)]; exact q5
      have hle : k + 1 ≤ ds.length := by omega
      have hsp := splice_one (l := ds) (p := k) (x := r') (by omega)
      simp (disch := first | omega | (simp only [nx] <;> omega) | fail) only [vaw, ob14, or14, q5', q4, cr, hle, hsp, reK_same bd, Nat.reduceAdd, Nat.reduceMul, Nat.reduceLeDiff, Nat.reduceEqDiff, ↓reduceIte]
      have gN := q6 (H14.upd idu (some (.cells (ds.set k r') true))) _ (by simp only [next_upd]; omega) (obj_upd_eq rfl) (by rw [List.length_set])
      have kU : Keep (fun j => sid r = some j ∨ sid dv = some j) H12 (H14.upd idu (some (.cells (ds.set k r') true))) := ⟨by simp only [next_upd]; omega, fun j hj hm => by rw [obj_upd_ne (fun e => hm (.inr (by rw [e]; exact q1))), k14' j hj (fun e => hm (.inl e))]⟩
      have hnew : Row (H14.upd idu (some (.cells (ds.set k r') true))) r' 1 (ints (l ++ [z - 1])) := by
        rw [ints_append]
        exact g14.row.M (M := fun j => j = idu) ((Keep.refl (fun j => j = idu) _).upd (.inr rfl) _) (fun j hj e => by rw [s14] at hj; injection hj with hj; omega)
      have hrows := S.dr.put (lo := H.next + 1 + 1) (by omega) hr kU (fun j h => h) gN hnew (fun j hj => by rw [s14] at hj; injection hj with hj; omega)
      have kV : Keep (fun j => a3 ≤ j ∧ j < a4) H12 (H14.upd idu (some (.cells (ds.set k r') true))) := kU.mono (fun j _ h => by rcases h with h | h; exact ir j h; exact S.dr.inA j h)
      obtain ⟨y, y1, y2, y3, y4, y5⟩ := S.endD (n := x.n) hEl hAl kV hrows
      have hset : ∀ l' ∈ x.down.set k (l ++ [z - 1]), l'.length ≤ 1000000 := fun l' h' => by
        rcases List.mem_or_eq_of_mem_set h' with h' | h'
        · have := b9 l' h'; omega
        · subst h'; simp; omega
      exact fin _ _ _ _ _ _ y ⟨by have := kB.next; simp only [next_upd]; omega, fun j hj _ => by rw [kU.obj j (by have := kB.next; omega) (fun e => by rcases e with e | e; have := ir _ e; omega; have := S.dr.inA _ e; omega), kB.old hj]⟩ y5 y1 ⟨by rw [y2]; omega, by rw [y3]; exact fun l hl => by have := b8 l hl; omega, by rw [y4]; exact hset⟩
    · have hcase : True := trivial
      obtain ⟨idu, q1, q2, q3, q4, q5, q6⟩ := Own.slotN S.ur.own (n := x.rank.length) (j := k) (k := .i64) (by omega) (by omega) hkl
      rw [Nat.mul_one] at q4
      have hidu := S.ur.inA idu q1
      obtain ⟨r, hr⟩ : ∃ r, us[k]? = some r := ⟨us[k]'(by omega), by simp⟩
      obtain ⟨l, hl⟩ : ∃ l, x.up[k]? = some l := ⟨x.up[k]'(by omega), by simp⟩
      have hml := List.mem_of_getElem? hl
      have gr := S.ur.rows k r l hr hl
      have ir := S.ur.inR k r hr
      have lr := gr.row.len1
      rw [ints_length] at lr
      have brr := gr.beq
      have hap := S.ur.apart k r
      have hll := b8 l hml
      have hpos : (0 : Int) < l.length ∨ ¬ (0 : Int) < l.length := by omega
      rcases hpos with hpos | hpos
      rotate_left
      · simp (disch := first | omega | (simp only [nx] <;> omega) | fail) only [vaw, h, Int.reduceEq, vaij, ob, or, q4, q5, hr, lr, hpos, Nat.reduceAdd, Nat.reduceMul, Nat.reduceLeDiff, Nat.reduceEqDiff, ↓reduceIte]
        exact same
      obtain ⟨r', t1, t2, t3⟩ := gr.rowC.from (n := l.length) (k := 1) (kd := .i64) (by omega) (by rw [ints_length]; omega) (by omega)
      have t1' : aslice 1 r (some (.int .i64 1)) none none = some r' := t1
      have t2' : Row H12 r' 1 (ints (l.drop 1)) := by have := t2.1; simpa [ints, List.map_drop] using this
      have cr := t2'.cells
      have hle : k + 1 ≤ us.length := by omega
      have hsp := splice_one (l := us) (p := k) (x := r') (by omega)
      have hnb : idu ≠ H.next := by omega
      have hnb1 : idu ≠ H.next + 1 := by omega
      simp (disch := first | omega | (simp only [nx] <;> omega) | fail) only [vaw, h, Int.reduceEq, vaij, ob, or, q4, q5, hr, lr, hpos, t1', cr, hle, hsp, hnb, hnb1, reK_same bu, reK_same brr, Nat.reduceAdd, Nat.reduceMul, Nat.reduceLeDiff, Nat.reduceEqDiff, ↓reduceIte]
      have gN := q6 (H12.upd idu (some (.cells (us.set k r') true))) _ (by simp only [next_upd]; omega) (obj_upd_eq rfl) (by rw [List.length_set])
      have kU : Keep (fun j => sid r = some j ∨ sid uv = some j) H12 (H12.upd idu (some (.cells (us.set k r') true))) := (Keep.refl (fun j => sid r = some j ∨ sid uv = some j) _).upd (.inr (.inr q1)) _
      have hnew : Row (H12.upd idu (some (.cells (us.set k r') true))) r' 1 (ints (l.drop 1)) := t2'.M (M := fun j => j = idu) ((Keep.refl (fun j => j = idu) _).upd (.inr rfl) _) (fun j hj e => by rw [t3] at hj; exact hap j hr hj (by rw [e]; exact q1))
      have hrows := S.ur.put (lo := H.next + 1 + 1) (by omega) hr kU (fun j h => h) gN hnew (fun j hj => by rw [t3] at hj; have := ir j hj; omega)
      have kV : Keep (fun j => a2 ≤ j ∧ j < a3) H12 (H12.upd idu (some (.cells (us.set k r') true))) := kU.mono (fun j _ h => by rcases h with h | h; exact ir j h; exact S.ur.inA j h)
      obtain ⟨y, y1, y2, y3, y4, y5⟩ := S.endU (n := x.n) hEl hAl kV hrows
      have hset : ∀ l' ∈ x.up.set k (l.drop 1), l'.length ≤ 1000000 := fun l' h' => by
        rcases List.mem_or_eq_of_mem_set h' with h' | h'
        · have := b8 l' h'; omega
        · subst h'; simp; omega
      exact fin _ _ _ _ _ _ y ⟨by have := kB.next; simp only [next_upd]; omega, fun j hj _ => by rw [kU.obj j (by have := kB.next; omega) (fun e => by rcases e with e | e; have := ir _ e; omega; have := S.ur.inA _ e; omega), kB.old hj]⟩ y5 y1 ⟨by rw [y2]; omega, by rw [y3]; exact hset, by rw [y4]; exact fun l hl => by have := b9 l hl; omega⟩
    · have hcase : True := trivial
      obtain ⟨idu, q1, q2, q3, q4, q5, q6⟩ := Own.slotN S.dr.own (n := x.rank.length) (j := k) (k := .i64) (by omega) (by omega) hkl
      rw [Nat.mul_one] at q4
      have hidu := S.dr.inA idu q1
      obtain ⟨r, hr⟩ : ∃ r, ds[k]? = some r := ⟨ds[k]'(by omega), by simp⟩
      obtain ⟨l, hl⟩ : ∃ l, x.down[k]? = some l := ⟨x.down[k]'(by omega), by simp⟩
      have hml := List.mem_of_getElem? hl
      have gr := S.dr.rows k r l hr hl
      have ir := S.dr.inR k r hr
      have lr := gr.row.len1
      rw [ints_length] at lr
      have brr := gr.beq
      have hap := S.dr.apart k r
      have hll := b9 l hml
      have hpos : (0 : Int) < l.length ∨ ¬ (0 : Int) < l.length := by omega
      rcases hpos with hpos | hpos
      rotate_left
      · simp (disch := first | omega | (simp only [nx] <;> omega) | fail) only [vaw, h, Int.reduceEq, vaij, ob, or, q4, q5, hr, lr, hpos, Nat.reduceAdd, Nat.reduceMul, Nat.reduceLeDiff, Nat.reduceEqDiff, ↓reduceIte]
        exact same
      obtain ⟨m, hm⟩ : ∃ m : Nat, (l.length : Int) - 1 = m := ⟨l.length - 1, by omega⟩
      obtain ⟨r', t1, t2, t3⟩ := gr.rowC.upto (n := l.length) (k := m) (kd := .i64) (by omega) (by rw [ints_length]; omega) (by omega)
      have t1' : aslice 1 r none (some (.int .i64 ((l.length : Int) - 1))) none = some r' := by rw [hm]; exact t1
      have t2' : Row H12 r' 1 (ints (l.take m)) := by have := t2.1; simpa [ints, List.map_take] using this
      have cr := t2'.cells
      have hle : k + 1 ≤ ds.length := by omega
      have hsp := splice_one (l := ds) (p := k) (x := r') (by omega)
      have hnb : idu ≠ H.next := by omega
      have hnb1 : idu ≠ H.next + 1 := by omega
      simp (disch := first | omega | (simp only [nx] <;> omega) | fail) only [vaw, h, Int.reduceEq, vaij, ob, or, q4, q5, hr, lr, hpos, t1', cr, hle, hsp, hnb, hnb1, reK_same bd, reK_same brr, Nat.reduceAdd, Nat.reduceMul, Nat.reduceLeDiff, Nat.reduceEqDiff, ↓reduceIte]
      have gN := q6 (H12.upd idu (some (.cells (ds.set k r') true))) _ (by simp only [next_upd]; omega) (obj_upd_eq rfl) (by rw [List.length_set])
      have kU : Keep (fun j => sid r = some j ∨ sid dv = some j) H12 (H12.upd idu (some (.cells (ds.set k r') true))) := (Keep.refl (fun j => sid r = some j ∨ sid dv = some j) _).upd (.inr (.inr q1)) _
      have hnew : Row (H12.upd idu (some (.cells (ds.set k r') true))) r' 1 (ints (l.take m)) := t2'.M (M := fun j => j = idu) ((Keep.refl (fun j => j = idu) _).upd (.inr rfl) _) (fun j hj e => by rw [t3] at hj; exact hap j hr hj (by rw [e]; exact q1))
      have hrows := S.dr.put (lo := H.next + 1 + 1) (by omega) hr kU (fun j h => h) gN hnew (fun j hj => by rw [t3] at hj; have := ir j hj; omega)
      have kV : Keep (fun j => a3 ≤ j ∧ j < a4) H12 (H12.upd idu (some (.cells (ds.set k r') true))) := kU.mono (fun j _ h => by rcases h with h | h; exact ir j h; exact S.dr.inA j h)
      obtain ⟨y, y1, y2, y3, y4, y5⟩ := S.endD (n := x.n) hEl hAl kV hrows
      have hset : ∀ l' ∈ x.down.set k (l.take m), l'.length ≤ 1000000 := fun l' h' => by
        rcases List.mem_or_eq_of_mem_set h' with h' | h'
        · have := b9 l' h'; omega
        · subst h'; simp; omega
      exact fin _ _ _ _ _ _ y ⟨by have := kB.next; simp only [next_upd]; omega, fun j hj _ => by rw [kU.obj j (by have := kB.next; omega) (fun e => by rcases e with e | e; have := ir _ e; omega; have := S.dr.inA _ e; omega), kB.old hj]⟩ y5 y1 ⟨by rw [y2]; omega, by rw [y3]; exact fun l hl => by have := b8 l hl; omega, by rw [y4]; exact hset⟩
    · obtain ⟨m, hm⟩ : ∃ m : Nat, (us.length : Int) - 1 = m := ⟨us.length - 1, by omega⟩
      obtain ⟨uv2, t1, t2, t3⟩ := S.ur.own.rowC.upto (n := us.length) (k := m) (kd := .i64) (by omega) (by omega) (by omega)
      rw [Nat.mul_one] at t2
      have t1' : aslice 1 uv none (some (.int .i64 ((us.length : Int) - 1))) none = some uv2 := by rw [hm]; exact t1
      have c2 := t2.1.cells
      simp (disch := first | omega | (simp only [nx] <;> omega) | fail) only [vaw, h, Int.reduceEq, vaij, ob, or, lU, t1', c2, Nat.reduceAdd, Nat.reduceMul, Nat.reduceLeDiff, Nat.reduceEqDiff, ↓reduceIte]
      have kU : Keep (fun j => a2 ≤ j ∧ j < a3) H12 H12 := Keep.refl _ _
      have hrows : FromRows (H.next + 1 + 1) H12 uv2 (x.up.take m) := by
        refine ⟨us.take m, ⟨t2.1, fun j hj => by rw [t3] at hj; have := S.ur.inA j hj; omega⟩, by simp; omega, fun i r l e1 e2 => ?_⟩
        rw [List.getElem?_take] at e1 e2
        split at e1
        · rename_i him
          rw [if_pos him] at e2
          exact ⟨(S.ur.rows i r l e1 e2).row, fun j hj => by have := S.ur.inR i r e1 j hj; omega⟩
        · cases e1
      obtain ⟨y, y1, y2, y3, y4, y5⟩ := S.endU (n := x.n) hEl hAl kU hrows
      have y6 := y5.M (M := fun j => j = H.next) ((Keep.refl (fun j => j = H.next) _).upd (.inr rfl) (some (.cells [.int .i64 x.n, ew, rv, av, uv2, dv] true))) (fun j e => by omega)
      exact fin _ _ _ _ _ _ y (kB.upd (.inl (by omega)) _) y6 y1 ⟨by rw [y2]; omega, by rw [y3]; exact fun l hl => by have := b8 l (List.mem_of_mem_take hl); omega, by rw [y4]; exact fun l hl => by have := b9 l hl; omega⟩
    · simp (disch := first | omega | (simp only [nx] <;> omega) | fail) only [vaw, h, Int.reduceEq, vaij, ob, Nat.reduceAdd, Nat.reduceMul, Nat.reduceLeDiff, Nat.reduceEqDiff, ↓reduceIte]
      have kN : Keep Nothing H12 (H12.new (.cells [.int .i64 (-1)] true)) := (Keep.refl _ _).new _
      refine app_ret (n := x.rank.length) (k := 1) (S.rr.kept kN) (y := H12.next) (by simp (disch := first | omega | (simp only [nx] <;> omega) | fail) only [vaim]; rfl) rfl (by omega) (by omega) (by rw [ints_length]; omega) (by omega) (by omega) ?_ (by first | omega | (simp only [next_new, next_upd]; omega)) (Nat.le_refl _) (fun _ _ _ => rfl)
      intro rv2 H14 n14 k14 g14 s14
      obtain ⟨y', s14, hy'⟩ := s14
      simp only [next_new] at n14 k14 hy'
      have cr := g14.cells
      have k14' : ∀ j, j < H12.next → sid rv ≠ some j → H14.obj j = H12.obj j := fun j h1 h2 => by rw [k14 j (by omega) h2, obj_new_ne (by omega)]
      have ob14 : H14.obj H.next = some (.cells [.int .i64 x.n, ew, rv, av, uv, dv] true) := by rw [k14' _ (by omega) (fun e => by have := S.ri _ e; omega)]; exact ob
      have or14 := (k14' (H.next + 1) (by omega) (fun e => by have := S.ri _ e; omega)).trans or
      simp (disch := first | omega | (simp only [nx] <;> omega) | fail) only [vaw, ob14, or14, cr, Nat.reduceAdd, Nat.reduceMul, Nat.reduceLeDiff, Nat.reduceEqDiff, ↓reduceIte]
      have kU : Keep (fun j => H.next + 1 + 1 ≤ j ∧ j < a1) H12 H14 := ⟨by omega, fun j hj hm => k14' j hj (fun e => hm (S.ri j e))⟩
      obtain ⟨y, y1, y2, y3, y4, y5⟩ := S.endR (n := x.n) (R' := x.rank ++ [-1]) hEl hAl kU ⟨by rw [ints_append]; exact g14.row, fun j hj => by rw [s14] at hj; injection hj with hj; omega⟩
      have y6 := y5.M (M := fun j => j = H.next) ((Keep.refl (fun j => j = H.next) _).upd (.inr rfl) (some (.cells [.int .i64 x.n, ew, rv2, av, uv, dv] true))) (fun j e => by omega)
      exact fin _ _ _ _ _ _ y ((Keep.mk (by have := kB.next; omega) (fun j hj _ => by rw [k14' j (by have := kB.next; omega) (fun e => by have := S.ri _ e; omega), kB.old hj]) : Keep Nothing H H14).upd (.inl (by omega)) _) y6 y1 ⟨by rw [y2]; simp; omega, by rw [y3]; exact fun l hl => by have := b8 l hl; omega, by rw [y4]; exact fun l hl => by have := b9 l hl; omega⟩
    · rcases hna with hna | hna
      rotate_left
      · simp (disch := first | omega | (simp only [nx] <;> omega) | fail) only [vaw, h, Int.reduceEq, vaij, hna, ob, or, Nat.reduceAdd, Nat.reduceMul, Nat.reduceLeDiff, Nat.reduceEqDiff, ↓reduceIte]
        exact same
      have hal' := hai hna
      obtain ⟨id, q1, q2, q3, q4, q5, q6⟩ := Own.slotN S.ar (n := x.arcs.length) (j := ai) (k := .i64) (by omega) (by rw [ints_length]; omega) hal'
      have hle : ai * 7 + 7 ≤ LA.length := by omega
      have hvl : (((ints LA).drop (ai * 7)).take 7).length = 7 := by simp [ints]; omega
      have hcut : ((ints LA).drop (ai * 7)).take 7 = ints ((LA.drop (ai * 7)).take 7) := by simp [ints, List.map_drop, List.map_take]
      have hsp : splice [.int .i64 0, .int .i64 0, .int .i64 0, .int .i64 0, .int .i64 0, .int .i64 0, .int .i64 0] 0 (((ints LA).drop (ai * 7)).take 7) = ((ints LA).drop (ai * 7)).take 7 := by unfold splice; rw [hvl]; simp
      generalize hvs : ((ints LA).drop (ai * 7)).take 7 = vs at *
      simp (disch := first | omega | (simp only [nx] <;> omega) | fail) only [vaw, h, Int.reduceEq, vaij, hna, ob, q4, q5, lLA, hle, hvs, hvl, hsp, reK_same ba, Nat.reduceAdd, Nat.reduceMul, Nat.reduceLeDiff, Nat.reduceEqDiff, ↓reduceIte]
      have kN : Keep Nothing H12 (H12.new (.cells vs true)) := (Keep.refl _ _).new _
      refine app_ret (n := x.arcs.length) (k := 1) (S.ar.kept kN) (y := H12.next) (by simp (disch := first | omega | (simp only [nx] <;> omega) | fail) only [vaim]; rfl) (by rw [hvl]) (by omega) (by omega) (by rw [ints_length]; omega) (by omega) (by omega) ?_ (by first | omega | (simp only [next_new, next_upd]; omega)) (Nat.le_refl _) (fun _ _ _ => rfl)
      intro av2 H14 n14 k14 g14 s14
      obtain ⟨y', s14, hy'⟩ := s14
      simp only [next_new] at n14 k14 hy'
      have cr := g14.cells
      have k14' : ∀ j, j < H12.next → sid av ≠ some j → H14.obj j = H12.obj j := fun j h1 h2 => by rw [k14 j (by omega) h2, obj_new_ne (by omega)]
      have ob14 : H14.obj H.next = some (.cells [.int .i64 x.n, ew, rv, av, uv, dv] true) := by rw [k14' _ (by omega) (fun e => by have := S.ai _ e; omega)]; exact ob
      have or14 := (k14' (H.next + 1) (by omega) (fun e => by have := S.ai _ e; omega)).trans or
      simp (disch := first | omega | (simp only [nx] <;> omega) | fail) only [vaw, ob14, or14, cr, Nat.reduceAdd, Nat.reduceMul, Nat.reduceLeDiff, Nat.reduceEqDiff, ↓reduceIte]
      have kU : Keep (fun j => a1 ≤ j ∧ j < a2) H12 H14 := ⟨by omega, fun j hj hm => k14' j hj (fun e => hm (S.ai j e))⟩
      obtain ⟨y, y1, y2, y3, y4, y5⟩ := S.endA (n := x.n) hEl (na' := x.arcs.length + 1) (LA' := LA ++ (LA.drop (ai * 7)).take 7) (by simp; omega) kU ⟨by rw [ints_append, ← hcut]; exact g14.row, fun j hj => by rw [s14] at hj; injection hj with hj; omega⟩
      have y6 := y5.M (M := fun j => j = H.next) ((Keep.refl (fun j => j = H.next) _).upd (.inr rfl) (some (.cells [.int .i64 x.n, ew, rv, av2, uv, dv] true))) (fun j e => by omega)
      exact fin _ _ _ _ _ _ y ((Keep.mk (by have := kB.next; omega) (fun j hj _ => by rw [k14' j (by have := kB.next; omega) (fun e => by have := S.ai _ e; omega), kB.old hj]) : Keep Nothing H H14).upd (.inl (by omega)) _) y6 y1 (small y y2 y3 y4)
    · have hpos : (0 : Int) < x.es.length ∨ ¬ (0 : Int) < x.es.length := by omega
      rcases hpos with hpos | hpos
      rotate_left
      · simp (disch := first | omega | (simp only [nx] <;> omega) | fail) only [vaw, h, Int.reduceEq, vaij, ob, or, lE, hpos, Nat.reduceAdd, Nat.reduceMul, Nat.reduceLeDiff, Nat.reduceEqDiff, ↓reduceIte]
        exact same
      simp (disch := first | omega | (simp only [nx] <;> omega) | fail) only [vaw, h, Int.reduceEq, vaij, ob, lE, hpos, Nat.reduceAdd, Nat.reduceMul, Nat.reduceLeDiff, Nat.reduceEqDiff, ↓reduceIte]
      refine within_ret (n := x.es.length) rfl (by omega) (by omega) ?_
      have e1 := Int.emod_nonneg at_ (show (x.es.length : Int) ≠ 0 by omega)
      have e2 := Int.emod_lt_of_pos at_ (show 0 < (x.es.length : Int) by omega)
      obtain ⟨ei, hei⟩ : ∃ ei : Nat, at_ % (x.es.length : Int) = ei := ⟨(at_ % (x.es.length : Int)).toNat, by omega⟩
      rw [hei] at e2 ⊢
      simp (disch := first | omega | (simp only [nx] <;> omega) | fail) only [vaw, ob, reK_same be, Nat.reduceAdd, Nat.reduceMul, Nat.reduceLeDiff, Nat.reduceEqDiff, ↓reduceIte]
      refine within_ret (n := 9) rfl (by omega) (by omega) ?_
      generalize v % 9 = z at *
      obtain ⟨id, q1, q2, q3, q4, q5, q6⟩ := Own.slotN S.er (n := x.es.length) (j := ei) (k := .i64) (by omega) (by rw [ints_length]; omega) (by omega)
      have hid := S.ei id q1
      have hle : ei * 4 + 3 + 1 ≤ LE.length := by omega
      have hset := splice_ints (L := LE) (p := ei * 4 + 3) (x := z) (by omega)
      simp (disch := first | omega | (simp only [nx] <;> omega) | fail) only [vaw, ob, or, reK_same be, q4, q5, lLE, hle, hset, Nat.reduceAdd, Nat.reduceMul, Nat.reduceLeDiff, Nat.reduceEqDiff, ↓reduceIte]
      have gN := q6 (H12.upd id (some (.cells (ints (LE.set (ei * 4 + 3) z)) true))) _ (by simp only [next_upd]; omega) (obj_upd_eq rfl) (by rw [ints_length, List.length_set, ints_length])
      have kU : Keep (fun j => a4 ≤ j ∧ j < a5) H12 (H12.upd id (some (.cells (ints (LE.set (ei * 4 + 3) z)) true))) := (Keep.refl (fun j => a4 ≤ j ∧ j < a5) _).upd (.inr hid) _
      obtain ⟨y, y1, y2, y3, y4, y5⟩ := S.endE (n := x.n) (ne := x.es.length) hAl (LE' := LE.set (ei * 4 + 3) z) (by rw [List.length_set]; exact hEl) kU ⟨gN.row, fun j hj => by have := S.ei j hj; omega⟩
      exact fin _ _ _ _ _ _ y (kB.upd (.inl (by omega)) _) y5 y1 (small y y2 y3 y4)
end Go.Proofs.Ytknhlpmmalcchaa

namespace Go.Proofs.Ytknhlpmmalcchaa
open Go Go.VAI
set_option linter.unusedSimpArgs false

set_option maxRecDepth 20000 in
set_option maxHeartbeats 4000000 in
theorem indexSpoilt_ret {size modes which at_ v : Int} {ns : AVal} {xs : List Int} {f : Nat → Option AObj} (_ : I64 size) (hr : Row ⟨f, 1⟩ ns 1 (ints xs)) (hx : ∀ x ∈ xs, I64 x) (hx2 : xs.length ≤ 9223372036854775807) (_ : I64 modes) (_ : I64 which) (_ : I64 at_) (hv : I64 v) :
    Ret A 5 [.int .i64 size, ns, .int .i64 modes, .int .i64 which, .int .i64 at_, .int .i64 v] ⟨f, 1⟩ (fun v _ => v = .bool true) := by
  refine Ret.of (fn := F5) rfl ?_
  simp (disch := first | omega | (simp only [nx] <;> omega) | fail) only [vaw, F5, Nat.reduceAdd, Nat.reduceMul, Nat.reduceLeDiff, Nat.reduceEqDiff, ↓reduceIte]
  refine known26_ret fun H1 k1 => ?_
  simp (disch := first | omega | (simp only [nx] <;> omega) | fail) only [vaw, Bool.not_true, Nat.reduceAdd, Nat.reduceMul, Nat.reduceLeDiff, Nat.reduceEqDiff, ↓reduceIte]
  refine mk_ret (hr.kept k1) hx hx2 fun ev H2 k2 g2 => ?_
  have hnet := mk_net size modes xs
  have hsm := mk_small size
  generalize mkEs size modes xs = es at *
  generalize mkN size = N at *
  simp (disch := first | omega | (simp only [nx] <;> omega) | fail) only [vaw, Nat.reduceAdd, Nat.reduceMul, Nat.reduceLeDiff, Nat.reduceEqDiff, ↓reduceIte]
  refine build_ret g2.row hnet hsm fun ew0 rv0 av0 uv0 dv0 H3 k3 h3 => ?_
  have hal0 := idx_allowed hnet hsm
  have hn : (idxOf N es).n = N := rfl
  generalize idxOf N es = x0 at *
  rw [← hn]
  simp (disch := first | omega | (simp only [nx] <;> omega) | fail) only [vaw, Nat.reduceAdd, Nat.reduceMul, Nat.reduceLeDiff, Nat.reduceEqDiff, ↓reduceIte]
  refine spoilt_ret h3 hal0 hv fun x ew rv av uv dv H4 k4 h4 hxn hsmall => ?_
  rw [← hxn]
  simp (disch := first | omega | (simp only [nx] <;> omega) | fail) only [vaw, Nat.reduceAdd, Nat.reduceMul, Nat.reduceLeDiff, Nat.reduceEqDiff, ↓reduceIte]
  have k5 : Keep Nothing H4 ((H4.new (.cells [.int .i64 0, .nilSlice, .nilSlice, .nilSlice, .nilSlice, .nilSlice] true)).upd H4.next (some (.cells [.int .i64 x.n, ew, rv, av, uv, dv] true))) := ((Keep.refl _ _).new _).upd (.inl (Nat.le_refl _)) _
  have o5 : ((H4.new (.cells [.int .i64 0, .nilSlice, .nilSlice, .nilSlice, .nilSlice, .nilSlice] true)).upd H4.next (some (.cells [.int .i64 x.n, ew, rv, av, uv, dv] true))).obj H4.next = some (.cells [.int .i64 x.n, ew, rv, av, uv, dv] true) := obj_upd_eq rfl
  have l5 : H4.next < ((H4.new (.cells [.int .i64 0, .nilSlice, .nilSlice, .nilSlice, .nilSlice, .nilSlice] true)).upd H4.next (some (.cells [.int .i64 x.n, ew, rv, av, uv, dv] true))).next := (by first | omega | (simp only [next_new, next_upd]; omega))
  have h5 := h4.kept k5
  generalize (H4.new (.cells [.int .i64 0, .nilSlice, .nilSlice, .nilSlice, .nilSlice, .nilSlice] true)).upd H4.next (some (.cells [.int .i64 x.n, ew, rv, av, uv, dv] true)) = H5 at *
  generalize H4.next = q at *
  refine refcheck_ret h5 (by have := hsmall.1; omega) (fun l hl => by have := hsmall.2.1 l hl; omega) (fun l hl => by have := hsmall.2.2 l hl; omega) fun b H6 k6 s6 => ?_
  have o6 := (k6.old l5).trans o5
  have n6 := k6.next
  cases b with
  | false => simp (disch := first | omega | (simp only [nx] <;> omega) | fail) only [vaw, Nat.reduceAdd, Nat.reduceMul, Nat.reduceLeDiff, Nat.reduceEqDiff, ↓reduceIte]
  | true =>
    have hal := s6.1 rfl
    obtain ⟨p1, p2, p3⟩ := allowed_enc hal
    have hraw := raw_encode hal
    have hbytes := encode_bytes x
    obtain ⟨hs1, hs2⟩ := allowed_short hal
    have h6 := h5.kept k6
    simp (disch := first | omega | (simp only [nx] <;> omega) | fail) only [vaw, o6, Nat.reduceAdd, Nat.reduceMul, Nat.reduceLeDiff, Nat.reduceEqDiff, ↓reduceIte]
    refine encode_ret h6 p1 p2 (by omega) fun bv H7 k7 g7 => ?_
    simp (disch := first | omega | (simp only [nx] <;> omega) | fail) only [vaw, Nat.reduceAdd, Nat.reduceMul, Nat.reduceLeDiff, Nat.reduceEqDiff, ↓reduceIte]
    refine decode_ret g7.rowC hbytes (by omega) (fun hno H8 k8 => (hno x hraw hal).elim) (fun x' hx' hal' e2 r2 a2 u2 d2 H8 k8 h8 => ?_)
    have : x' = x := by rw [hraw] at hx'; injection hx' with hx'; exact hx'.symm
    subst this
    have k9 : Keep Nothing H8 ((H8.new (.cells [.int .i64 0, .nilSlice, .nilSlice, .nilSlice, .nilSlice, .nilSlice] true)).upd H8.next (some (.cells [.int .i64 x'.n, e2, r2, a2, u2, d2] true))) := ((Keep.refl _ _).new _).upd (.inl (Nat.le_refl _)) _
    have o8 := (k8.old (i := q) (by have := k7.next; omega)).trans ((k7.old (by omega)).trans o6)
    have hq8 : q ≠ H8.next := by have := k7.next; have := k8.next; omega
    simp (disch := first | omega | (simp only [nx] <;> omega) | fail) only [vaw, o8, hq8, Nat.reduceAdd, Nat.reduceMul, Nat.reduceLeDiff, Nat.reduceEqDiff, ↓reduceIte]
    refine same_ret (h8.kept k9) (((h6.kept k7).kept k8).kept k9) hs1 hs2 fun b H9 k10 c9 => ?_
    have hb : b = true := c9.2 rfl
    subst hb
    simp (disch := first | omega | (simp only [nx] <;> omega) | fail) only [vaw, Nat.reduceAdd, Nat.reduceMul, Nat.reduceLeDiff, Nat.reduceEqDiff, ↓reduceIte]
end Go.Proofs.Ytknhlpmmalcchaa

/- Closed facts of the program: what its head says, read as a list of signs (the kernel is slow at a long text's own signs). -/
namespace Go.Proofs.Ytknhlpmmalcchaa
open Go Go.ChangeShapes Go.WideShapes Go.ChangeAt Go.RowKit
set_option maxRecDepth 100000
def headSigns : List Char := List.map Char.ofNat [104, 97, 114, 110, 101, 115, 115, 32, 55, 99, 56, 99, 100, 51, 98, 49, 52, 101, 49, 49, 99, 55, 53, 54, 51, 54, 100, 97, 101, 56, 55, 98, 55, 54, 100, 50, 48, 98, 53, 57, 56, 97, 56, 56, 56, 55, 99, 98, 51, 49, 48, 98, 100, 53, 97, 55, 54, 53, 102, 100, 48, 102, 49, 102, 50, 57, 53, 50, 52, 102, 57, 50, 32, 99, 117, 116, 32, 97, 116, 32, 109, 105, 108, 101, 115, 116, 111, 110, 101, 47, 109, 105, 108, 101, 115, 116, 111, 110, 101, 108, 97, 119, 49, 50, 46, 73, 110, 100, 101, 120, 66, 97, 99, 107, 32, 109, 105, 108, 101, 115, 116, 111, 110, 101, 47, 109, 105, 108, 101, 115, 116, 111, 110, 101, 108, 97, 119, 49, 50, 46, 73, 110, 100, 101, 120, 82, 101, 97, 100, 115, 32, 109, 105, 108, 101, 115, 116, 111, 110, 101, 47, 109, 105, 108, 101, 115, 116, 111, 110, 101, 108, 97, 119, 49, 50, 46, 73, 110, 100, 101, 120, 83, 112, 111, 105, 108, 116, 32, 109, 105, 108, 101, 115, 116, 111, 110, 101, 47, 109, 105, 108, 101, 115, 116, 111, 110, 101, 108, 97, 119, 49, 50, 46, 73, 110, 100, 101, 120, 79, 110, 108, 121, 32, 109, 105, 108, 101, 115, 116, 111, 110, 101, 47, 109, 105, 108, 101, 115, 116, 111, 110, 101, 108, 97, 119, 49, 50, 46, 73, 110, 100, 101, 120, 83, 105, 122, 101, 32, 109, 105, 108, 101, 115, 116, 111, 110, 101, 47, 109, 105, 108, 101, 115, 116, 111, 110, 101, 108, 97, 119, 49, 50, 46, 73, 110, 100, 101, 120, 65, 112, 97, 114, 116, 32, 109, 105, 108, 101, 115, 116, 111, 110, 101, 47, 109, 105, 108, 101, 115, 116, 111, 110, 101, 108, 97, 119, 49, 50, 46, 73, 110, 100, 101, 120, 67, 117, 116, 32, 109, 105, 108, 101, 115, 116, 111, 110, 101, 47, 109, 105, 108, 101, 115, 116, 111, 110, 101, 108, 97, 119, 49, 50, 46, 73, 110, 100, 101, 120, 67, 111, 117, 110, 116, 115, 32, 109, 105, 108, 101, 115, 116, 111, 110, 101, 47, 109, 105, 108, 101, 115, 116, 111, 110, 101, 108, 97, 119, 49, 50, 46, 73, 110, 100, 101, 120, 72, 101, 97, 100, 32, 109, 105, 108, 101, 115, 116, 111, 110, 101, 47, 109, 105, 108, 101, 115, 116, 111, 110, 101, 108, 97, 119, 49, 48, 46, 79, 114, 100, 101, 114, 65, 108, 108, 32, 109, 105, 108, 101, 115, 116, 111, 110, 101, 47, 109, 105, 108, 101, 115, 116, 111, 110, 101, 108, 97, 119, 49, 48, 46, 79, 114, 100, 101, 114, 69, 97, 99, 104, 32, 109, 105, 108, 101, 115, 116, 111, 110, 101, 47, 109, 105, 108, 101, 115, 116, 111, 110, 101, 108, 97, 119, 49, 48, 46, 79, 114, 100, 101, 114, 67, 111, 115, 116, 115, 32, 109, 105, 108, 101, 115, 116, 111, 110, 101, 47, 109, 105, 108, 101, 115, 116, 111, 110, 101, 108, 97, 119, 49, 48, 46, 79, 114, 100, 101, 114, 75, 110, 111, 119, 110, 32, 109, 105, 108, 101, 115, 116, 111, 110, 101, 47, 109, 105, 108, 101, 115, 116, 111, 110, 101, 108, 97, 119, 49, 48, 46, 79, 114, 100, 101, 114, 77, 111, 100, 101, 32, 109, 105, 108, 101, 115, 116, 111, 110, 101, 47, 109, 105, 108, 101, 115, 116, 111, 110, 101, 108, 97, 119, 49, 49, 46, 72, 105, 101, 114, 66, 117, 105, 108, 100, 115, 32, 109, 105, 108, 101, 115, 116, 111, 110, 101, 47, 109, 105, 108, 101, 115, 116, 111, 110, 101, 108, 97, 119, 49, 49, 46, 72, 105, 101, 114, 82, 97, 110, 107, 115, 32, 109, 105, 108, 101, 115, 116, 111, 110, 101, 47, 109, 105, 108, 101, 115, 116, 111, 110, 101, 108, 97, 119, 49, 49, 46, 72, 105, 101, 114, 75, 101, 101, 112, 115, 32, 109, 105, 108, 101, 115, 116, 111, 110, 101, 47, 109, 105, 108, 101, 115, 116, 111, 110, 101, 108, 97, 119, 49, 49, 46, 72, 105, 101, 114, 67, 111, 114, 101, 32, 109, 105, 108, 101, 115, 116, 111, 110, 101, 47, 109, 105, 108, 101, 115, 116, 111, 110, 101, 108, 97, 119, 49, 49, 46, 72, 105, 101, 114, 67, 111, 115, 116, 115, 32, 109, 105, 108, 101, 115, 116, 111, 110, 101, 47, 109, 105, 108, 101, 115, 116, 111, 110, 101, 108, 97, 119, 49, 49, 46, 72, 105, 101, 114, 65, 114, 99, 115, 32, 109, 105, 108, 101, 115, 116, 111, 110, 101, 47, 109, 105, 108, 101, 115, 116, 111, 110, 101, 108, 97, 119, 49, 49, 46, 72, 105, 101, 114, 83, 104, 111, 114, 116, 32, 109, 105, 108, 101, 115, 116, 111, 110, 101, 47, 109, 105, 108, 101, 115, 116, 111, 110, 101, 108, 97, 119, 49, 49, 46, 72, 105, 101, 114, 79, 119, 110, 32, 109, 105, 108, 101, 115, 116, 111, 110, 101, 47, 109, 105, 108, 101, 115, 116, 111, 110, 101, 108, 97, 119, 49, 49, 46, 72, 105, 101, 114, 76, 111, 110, 103]
theorem head_eq : Try.prog.initOrder = String.ofList headSigns := by kernel_rfl
theorem head_list : Try.prog.initOrder.toList = headSigns := by rw [head_eq, String.toList_ofList]
theorem head_words : ∃ rest, behindMainWord (wordsSigns headSigns) = "cut".toList :: rest := ⟨(behindMainWord (wordsSigns headSigns)).tail, by kernel_rfl⟩
theorem strip_cut (rest : List (List Char)) : stripLifts liftWords ("cut".toList :: rest) = ([], "cut".toList :: rest) := by kernel_rfl
theorem ne1 : ("cut".toList == "gc".toList) = false := by kernel_rfl
theorem ne2 : ("cut".toList == "spec".toList) = false := by kernel_rfl
theorem ne3 : ("cut".toList == "carried".toList) = false := by kernel_rfl
theorem words_of : ∃ rest, behindMainWord (wordsSigns Try.prog.initOrder.toList) = "cut".toList :: rest := by
  obtain ⟨rest, h⟩ := head_words
  exact ⟨rest, (congrArg (fun l => behindMainWord (wordsSigns l)) head_list).trans h⟩
theorem make_of (P : Program) (rest : List (List Char)) (h : behindMainWord (wordsSigns P.initOrder.toList) = "cut".toList :: rest) : P.make = some .cut := by
  unfold Program.make
  rw [h]
  simp only [ne1, ne2, beq_self_eq_true, Bool.false_or, Bool.true_or, Bool.or_self, Bool.false_eq_true, if_true, if_false]
theorem lifts_of (P : Program) (rest : List (List Char)) (h : behindMainWord (wordsSigns P.initOrder.toList) = "cut".toList :: rest) : P.liftsFinal = false := by
  unfold Program.liftsFinal Program.headLifts
  rw [h]
  have e : ((some "cut".toList : Option (List Char)) == some "carried".toList) = false := by kernel_rfl
  simp only [strip_cut, List.head?_cons, beq_self_eq_true, if_true, e, Bool.false_and, Bool.false_or]
  rfl
theorem enter_of (P : Program) (rest : List (List Char)) (h : behindMainWord (wordsSigns P.initOrder.toList) = "cut".toList :: rest) (h1 : P.laysLater = false) (h2 : P.bearsReflect = false) (h3 : P.doorFits [] = true) : P.mayEnter = true := by
  unfold Program.mayEnter
  rw [h]
  simp only [strip_cut, ne1, ne2, ne3, h1, h2, h3, List.head?_cons, beq_self_eq_true, Bool.false_or, Bool.or_false, Bool.false_and, Bool.true_and, Bool.and_true, Bool.not_false, Bool.or_true, List.contains_nil]
theorem fact_make : Try.prog.make = some .cut := by
  obtain ⟨rest, h⟩ := words_of
  exact make_of _ _ h
theorem fact_lifts : Try.prog.liftsFinal = false := by
  obtain ⟨rest, h⟩ := words_of
  exact lifts_of _ _ h
theorem fact_later : Try.prog.laysLater = false := by kernel_rfl
theorem fact_reflect : Try.prog.bearsReflect = false := by kernel_rfl
theorem fact_door : Try.prog.doorFits [] = true := by kernel_rfl
theorem fact_enter : Try.prog.mayEnter = true := by
  obtain ⟨rest, h⟩ := words_of
  exact enter_of _ _ h fact_later fact_reflect fact_door
theorem fact_laid : laidOutB Try.prog = true := by kernel_rfl
theorem fact_maps : mapsRowed Try.prog = true := by kernel_rfl
theorem fact_heard : Try.prog.stopsHeard = true := by kernel_rfl
theorem own : ownKnob Try.prog.godebug = none := by kernel_rfl
theorem follows : Try.prog.follows .mixedOrders = true := by kernel_rfl
end Go.Proofs.Ytknhlpmmalcchaa
