/- Steps of the walk. -/
import Derived.Test.YtknhlpmmalcchaaH24Td
import Derived.Test.YtknhlpmmalcchaaH24Vba
import Derived.Test.YtknhlpmmalcchaaH24Tb
import Derived.KernelRfl
set_option linter.all false
set_option linter.unusedVariables false
set_option linter.unusedSimpArgs false
namespace Go.Proofs.Ytknhlpmmalcchaa
open Go Go.VAI
set_option linter.unusedSimpArgs false

def UpAt (rank : List Int) (arcs : List Arc) (v : Int) (x : Int) : Prop := 0 ≤ x ∧ ∃ a, arcs[x.toNat]? = some a ∧ a.src = v ∧ (a.dst = v ∨ Above rank a.dst v)
def DownAt (rank : List Int) (arcs : List Arc) (v : Int) (x : Int) : Prop := 0 ≤ x ∧ ∃ a, arcs[x.toNat]? = some a ∧ a.dst = v ∧ a.src ≠ v ∧ 0 ≤ rank.getD v.toNat 0 ∧ Above rank a.src v
theorem take_all {P : Int → Prop} {l : List Int} {i : Nat} {x : Int} (hx : l[i]? = some x) (h : ∀ y ∈ l.take i, P y) (hp : P x) : ∀ y ∈ l.take (i + 1), P y := by
 obtain ⟨hi, e⟩ := List.getElem?_eq_some_iff.1 hx
 intro y hy
 rw [List.take_succ_eq_append_getElem hi, e] at hy
 rcases List.mem_append.1 hy with hy | hy
 ·exact h y hy
 ·simp at hy; subst hy; exact hp
theorem above_int {n : Int} {ew rv av uv dv : AVal} {rank : List Int} {u : Int} {v : Nat} {H : AHeap} {Q : AVal → AHeap → Prop} (hr : Row H rv 1 (ints rank)) (hu : 0 ≤ u ∧ u < rank.length) (hv : v < rank.length)
  (hq : ∀ b H', Keep Nothing H H' → Says b (Above rank u v) → Q (.bool b) H') : Ret A 129 [.agg [.int .i64 n, ew, rv, av, uv, dv], .int .i64 u, .int .i64 v] H Q := by
 obtain ⟨u', rfl⟩ := Int.eq_ofNat_of_zero_le hu.1
 exact above_ret hr (by omega) hv hq
set_option maxRecDepth 20000 in
set_option maxHeartbeats 4000000 in
theorem hvertex_ret {n : Int} {ew rv av uv dv : AVal} {es : List Edge} {rank : List Int} {arcs : List Arc} {up down : List (List Int)} {lu ld : List Int} {v : Nat} {H : AHeap} {Q : AVal → AHeap → Prop}
  (he : Row H ew 4 (edgeCells es)) (hr : Row H rv 1 (ints rank)) (ha : Row H av 7 (arcCells arcs)) (hu : RowsOf H uv up) (hd : RowsOf H dv down)
  (hlu : up[v]? = some lu) (hld : down[v]? = some ld) (hv : v < rank.length) (hnu : lu.length ≤ 4611686018427387904) (hnd : ld.length ≤ 4611686018427387904)
  (hends : ∀ (i : Nat) a, arcs[i]? = some a → (0 ≤ a.src ∧ a.src < rank.length) ∧ (0 ≤ a.dst ∧ a.dst < rank.length))
  (hq : ∀ b H', Keep Nothing H H' → Says b (UpOk rank arcs v lu ∧ DownOk rank arcs v ld) → Q (.bool b) H') : Ret A 97 [.agg [.int .i64 n, ew, rv, av, uv, dv], .int .i64 v] H Q := by
 refine Ret.of (fn := F97) rfl ?_
 have be := he.beq
 have br : AVal.beq rv rv = true := hr.beq
 have ba : AVal.beq av av = true := ha.beq
 have bu := hu.beq
 have bd := hd.beq
 have bx : AVal.beq (.agg [.int .i64 n, ew, rv, av, uv, dv]) (.agg [.int .i64 n, ew, rv, av, uv, dv]) = true := by simp [AVal.beq, AVal.beqs, be, br, ba, bu, bd]
 obtain ⟨iu, ou, ru, u1, u2, u3, u4⟩ := hu.at (k := .i64) hlu
 obtain ⟨id, od, rd, d1, d2, d3, d4⟩ := hd.at (k := .i64) hld
 have bru := u4.beq
 have brd := d4.beq
 have gv : rank[v]? = some rank[v] := by simp [hv]
 obtain ⟨ir, or, r1, r2, r3⟩ := hr.int_at (k := .i64) gv
 have dv' : rank.getD v 0 = rank[v] := getD_of gv
 generalize rank[v] = rk at *
 simp (disch := first | omega | (simp only [nx] <;> omega) | fail) only [vaw, F97, u1, u3, Nat.reduceAdd, Nat.reduceMul, Nat.reduceLeDiff, Nat.reduceEqDiff, ↓reduceIte]
 have k0 : Keep Nothing H (H.new (.cells [.int .i64 n, ew, rv, av, uv, dv] true)) := (Keep.refl _ _).new _
 have q0 : (H.new (.cells [.int .i64 n, ew, rv, av, uv, dv] true)).obj H.next = some (.cells [.int .i64 n, ew, rv, av, uv, dv] true) := obj_new_eq rfl
 refine once_ret (ha.kept k0) (u4.kept k0) hnu fun b H1 k1 s1 => ?_
 have n1 := k1.next
 simp only [next_new] at n1
 have q1 := (k1.old (i := H.next) (by simp only [next_new]; omega)).trans q0
 have kA := k0.trans k1
 have du3 : ∀ {H' : AHeap}, Keep Nothing H H' → (bnd (cellsOf (H'.obj id)) fun c => c[od]?) = some rd := fun k => by rw [k.old d2]; exact d3
 have uu3 : ∀ {H' : AHeap}, Keep Nothing H H' → (bnd (cellsOf (H'.obj iu)) fun c => c[ou]?) = some ru := fun k => by rw [k.old u2]; exact u3
 have rr3 : ∀ {H' : AHeap}, Keep Nothing H H' → (bnd (cellsOf (H'.obj ir)) fun c => c[or]?) = some (.int .i64 rk) := fun k => by rw [k.old r2]; exact r3
 cases b with
 | false =>
  simp (disch := first | omega | (simp only [nx] <;> omega) | fail) only [vaw, q1, reK_same bx, reK_same bu, reK_same bru, Nat.reduceAdd, Nat.reduceMul, Nat.reduceLeDiff, Nat.reduceEqDiff, ↓reduceIte]
  exact hq _ _ kA (says_no fun h => by have := s1.2 ⟨h.1.1, fun x hx => by obtain ⟨h1, a, h2, _⟩ := h.1.2 x hx; have := (List.getElem?_eq_some_iff.1 h2).1; exact ⟨h1, by omega⟩⟩; cases this)
 | true =>
  obtain ⟨w1, w2⟩ := s1.1 rfl
  simp (disch := first | omega | (simp only [nx] <;> omega) | fail) only [vaw, q1, reK_same bx, reK_same bu, reK_same bru, d1, du3 kA, Nat.reduceAdd, Nat.reduceMul, Nat.reduceLeDiff, Nat.reduceEqDiff, ↓reduceIte]
  refine once_ret (ha.kept kA) (d4.kept kA) hnd fun b H2 k2 s2 => ?_
  have n2 := k2.next
  have q2 := (k2.old (i := H.next) (by omega)).trans q1
  have kB := kA.trans k2
  cases b with
  | false =>
   simp (disch := first | omega | (simp only [nx] <;> omega) | fail) only [vaw, q2, reK_same bx, reK_same bd, reK_same brd, Nat.reduceAdd, Nat.reduceMul, Nat.reduceLeDiff, Nat.reduceEqDiff, ↓reduceIte]
   exact hq _ _ kB (says_no fun h => by have := s2.2 ⟨h.2.1, fun x hx => by obtain ⟨h1, a, h2, _⟩ := h.2.2 x hx; have := (List.getElem?_eq_some_iff.1 h2).1; exact ⟨h1, by omega⟩⟩; cases this)
  | true =>
   obtain ⟨z1, z2⟩ := s2.1 rfl
   have lenD := (d4.kept kB).len1
   rw [ints_length] at lenD
   by_cases hrk : rk < 0 ∧ 0 < ld.length
   ·have g1 := hrk.1
    have g2 : (0 : Int) < ld.length := by omega
    simp (disch := first | omega | (simp only [nx] <;> omega) | fail) only [vaw, q2, reK_same bx, reK_same bd, reK_same brd, reK_same br, r1, rr3 kB, g1, d1, du3 kB, lenD, g2, Nat.reduceAdd, Nat.reduceMul, Nat.reduceLeDiff, Nat.reduceEqDiff, ↓reduceIte]
    refine hq _ _ kB (says_no fun h => ?_)
    obtain ⟨h1, a, h2, h3, h4, h5, h6⟩ := h.2.2 ld[0] (List.getElem_mem _)
    rw [Int.toNat_natCast, dv'] at h5
    omega
   have hcase : (rk < 0 ∧ ¬ (0 : Int) < ld.length) ∨ (¬ rk < 0 ∧ True) := by
    by_cases h : rk < 0
    ·exact .inl ⟨h, fun h2 => hrk ⟨h, by omega⟩⟩
    ·exact .inr ⟨h, trivial⟩
   have hD : ∀ x ∈ ld, 0 ≤ rk := by
    intro x hx
    have := List.length_pos_of_mem hx
    omega
   have lenU := (u4.kept kB).len1
   rw [ints_length] at lenU
   rcases hcase with ⟨g1, g2⟩ | ⟨g1, g2⟩ <;> simp (disch := first | omega | (simp only [nx] <;> omega) | fail) only [vaw, q2, reK_same bx, reK_same bd, reK_same brd, reK_same br, r1, rr3 kB, g1, d1, du3 kB, lenD, g2, u1, uu3 kB, lenU, Nat.reduceAdd, Nat.reduceMul, Nat.reduceLeDiff, Nat.reduceEqDiff, ↓reduceIte]
   all_goals refine wpx_loop (fun m t H' => ∃ (i : Nat), m = lu.length - i ∧ i ≤ lu.length ∧ t = (bots 1 (.int .i64 v :: .ptr H.next 0 :: bots 52 (ru :: .int .i64 lu.length :: .int .i64 i :: bots 64 ([]))) : Tmps) ∧ Keep Nothing H H' ∧ H.next < H'.next ∧ H'.obj H.next = some (.cells [.int .i64 n, ew, rv, av, uv, dv] true) ∧ ∀ x ∈ lu.take i, UpAt rank arcs v x) lu.length ?_ ?_
   ·exact ⟨0, rfl, by omega, rfl, kB, by omega, q2, by simp⟩
   rotate_left
   ·exact ⟨0, rfl, by omega, rfl, kB, by omega, q2, by simp⟩
   all_goals (
    rintro m t H3 ⟨i, rfl, hi, rfl, k3, n3, q3, hin⟩
    by_cases hc : (i : Int) < lu.length
    ·have hil : i < lu.length := by omega
     have hx : lu[i]? = some lu[i] := by simp [hil]
     obtain ⟨ia, oa, a1, a2, a3⟩ := (u4.kept k3).int_at (k := .i64) hx
     have hmem := List.getElem_mem hil
     have hxr := w2 _ hmem
     generalize lu[i] = x at *
     have hxa : x.toNat < arcs.length := by omega
     have hga : arcs[x.toNat]? = some arcs[x.toNat] := by simp [hxa]
     have hend := hends _ _ hga
     obtain ⟨ib, ob, b1, b2, b3, b4⟩ := arc_at (ha.kept k3) hga
     rw [Int.toNat_of_nonneg hxr.1] at b1
     have hup : UpOk rank arcs v lu → UpAt rank arcs v x := fun h => h.2 x hmem
     have hno : ∀ {p : Prop}, (UpAt rank arcs v x → p) → (UpOk rank arcs v lu ∧ DownOk rank arcs v ld) → p := fun h g => h (hup g.1)
     have hua : UpAt rank arcs v x ↔ (arcs[x.toNat].src = v ∧ (arcs[x.toNat].dst = v ∨ Above rank arcs[x.toNat].dst v)) := by
      unfold UpAt
      rw [hga]
      constructor
      ·rintro ⟨_, a, e, h⟩; injection e with e; subst e; exact h
      ·intro h; exact ⟨hxr.1, _, rfl, h⟩
     generalize arcs[x.toNat] = a at *
     simp only [Arc.cells] at b4
     by_cases c1 : a.src = v
     ·by_cases c2 : a.dst = v
      ·simp (disch := first | omega | (simp only [nx] <;> omega) | fail) only [vaw, hc, a1, a3, q3, b1, b4, c1, c2, ne_eq, not_true_eq_false, not_false_eq_true, Nat.reduceAdd, Nat.reduceMul, Nat.reduceLeDiff, Nat.reduceEqDiff, ↓reduceIte]
       refine ⟨lu.length - (i + 1), by omega, i + 1, rfl, by omega, rfl, ((k3.new _).upd (.inl (by omega)) _), (by first | omega | (simp only [next_new, next_upd]; omega)), take_all hx hin (hua.2 ⟨c1, .inl c2⟩)⟩
      ·simp (disch := first | omega | (simp only [nx] <;> omega) | fail) only [vaw, hc, a1, a3, q3, b1, b4, c1, c2, ne_eq, not_true_eq_false, not_false_eq_true, Nat.reduceAdd, Nat.reduceMul, Nat.reduceLeDiff, Nat.reduceEqDiff, ↓reduceIte]
       have kP : Keep Nothing H ((H3.new (.cells [.int .i64 0, .int .i64 0, .int .i64 0, .int .i64 0, .int .i64 0, .int .i64 0, .int .i64 0] true)).upd H3.next (some (.cells [.int .i64 v, .int .i64 a.dst, .int .i64 a.mode, .int .i64 a.cost, .int .i64 a.edge, .int .i64 a.a, .int .i64 a.b] true))) := (k3.new _).upd (.inl (by omega)) _
       have qP : ((H3.new (.cells [.int .i64 0, .int .i64 0, .int .i64 0, .int .i64 0, .int .i64 0, .int .i64 0, .int .i64 0] true)).upd H3.next (some (.cells [.int .i64 v, .int .i64 a.dst, .int .i64 a.mode, .int .i64 a.cost, .int .i64 a.edge, .int .i64 a.a, .int .i64 a.b] true))).obj H.next = some (.cells [.int .i64 n, ew, rv, av, uv, dv] true) := by rw [obj_upd_ne (by omega), obj_new_ne (by omega)]; exact q3
       have nP : H.next < ((H3.new (.cells [.int .i64 0, .int .i64 0, .int .i64 0, .int .i64 0, .int .i64 0, .int .i64 0, .int .i64 0] true)).upd H3.next (some (.cells [.int .i64 v, .int .i64 a.dst, .int .i64 a.mode, .int .i64 a.cost, .int .i64 a.edge, .int .i64 a.a, .int .i64 a.b] true))).next := by simp only [next_upd, next_new]; omega
       generalize (H3.new (.cells [.int .i64 0, .int .i64 0, .int .i64 0, .int .i64 0, .int .i64 0, .int .i64 0, .int .i64 0] true)).upd H3.next (some (.cells [.int .i64 v, .int .i64 a.dst, .int .i64 a.mode, .int .i64 a.cost, .int .i64 a.edge, .int .i64 a.a, .int .i64 a.b] true)) = H4 at *
       refine above_int (hr.kept kP) hend.2 hv fun b H5 k5 s5 => ?_
       have q5 := (k5.old nP).trans qP
       have n5 := k5.next
       cases b with
       | true =>
        simp (disch := first | omega | (simp only [nx] <;> omega) | fail) only [vaw, Nat.reduceAdd, Nat.reduceMul, Nat.reduceLeDiff, Nat.reduceEqDiff, ↓reduceIte]
        exact ⟨lu.length - (i + 1), by omega, i + 1, rfl, by omega, rfl, kP.trans k5, by omega, q5, take_all hx hin (hua.2 ⟨c1, .inr (s5.1 rfl)⟩)⟩
       | false =>
        simp (disch := first | omega | (simp only [nx] <;> omega) | fail) only [vaw, Nat.reduceAdd, Nat.reduceMul, Nat.reduceLeDiff, Nat.reduceEqDiff, ↓reduceIte]
        exact hq _ _ (kP.trans k5) (says_no (hno fun h => by
         rcases (hua.1 h).2 with h | h
         ·exact c2 h
         ·have := s5.2 h; cases this))
     ·simp (disch := first | omega | (simp only [nx] <;> omega) | fail) only [vaw, hc, a1, a3, q3, b1, b4, c1, ne_eq, not_true_eq_false, not_false_eq_true, Nat.reduceAdd, Nat.reduceMul, Nat.reduceLeDiff, Nat.reduceEqDiff, ↓reduceIte]
      exact hq _ _ ((k3.new _).upd (.inl (by omega)) _) (says_no (hno fun h => c1 (hua.1 h).1))
    ·have : i = lu.length := by omega
     subst this
     rw [List.take_length] at hin
     have hU : UpOk rank arcs v lu := ⟨w1, hin⟩
     have lenD := (d4.kept k3).len1
     rw [ints_length] at lenD
     simp (disch := first | omega | (simp only [nx] <;> omega) | fail) only [vaw, hc, q3, d1, du3 k3, lenD, Nat.reduceAdd, Nat.reduceMul, Nat.reduceLeDiff, Nat.reduceEqDiff, ↓reduceIte]
     clear g1 g2
     refine wpx_loop (fun m t H' => ∃ (i : Nat), m = ld.length - i ∧ i ≤ ld.length ∧ t = (bots 1 (.int .i64 v :: .ptr H.next 0 :: bots 88 (rd :: .int .i64 ld.length :: .int .i64 i :: bots 28 ([]))) : Tmps) ∧ Keep Nothing H H' ∧ H.next < H'.next ∧ H'.obj H.next = some (.cells [.int .i64 n, ew, rv, av, uv, dv] true) ∧ ∀ x ∈ ld.take i, DownAt rank arcs v x) ld.length ?_ ?_
     ·exact ⟨0, rfl, by omega, rfl, k3, n3, q3, by simp⟩
     ·rintro m t H3 ⟨i, rfl, hi, rfl, k3, n3, q3, hin⟩
      by_cases hc : (i : Int) < ld.length
      ·have hil : i < ld.length := by omega
       have hx : ld[i]? = some ld[i] := by simp [hil]
       obtain ⟨ia, oa, a1, a2, a3⟩ := (d4.kept k3).int_at (k := .i64) hx
       have hmem := List.getElem_mem hil
       have hxr := z2 _ hmem
       have hrk := hD _ hmem
       generalize ld[i] = x at *
       have hxa : x.toNat < arcs.length := by omega
       have hga : arcs[x.toNat]? = some arcs[x.toNat] := by simp [hxa]
       have hend := hends _ _ hga
       obtain ⟨ib, ob, b1, b2, b3, b4⟩ := arc_at (ha.kept k3) hga
       rw [Int.toNat_of_nonneg hxr.1] at b1
       have hno : ∀ {p : Prop}, (DownAt rank arcs v x → p) → (UpOk rank arcs v lu ∧ DownOk rank arcs v ld) → p := fun h g => h (g.2.2 x hmem)
       have hua : DownAt rank arcs v x ↔ (arcs[x.toNat].dst = v ∧ arcs[x.toNat].src ≠ v ∧ Above rank arcs[x.toNat].src v) := by
        unfold DownAt
        rw [hga, Int.toNat_natCast, dv']
        constructor
        ·rintro ⟨_, a, e, h1, h2, h3, h4⟩; injection e with e; subst e; exact ⟨h1, h2, h4⟩
        ·intro h; exact ⟨hxr.1, _, rfl, h.1, h.2.1, hrk, h.2.2⟩
       generalize arcs[x.toNat] = a at *
       simp only [Arc.cells] at b4
       by_cases c1 : a.dst = v
       ·by_cases c2 : a.src = v
        ·simp (disch := first | omega | (simp only [nx] <;> omega) | fail) only [vaw, hc, a1, a3, q3, b1, b4, c1, c2, ne_eq, not_true_eq_false, not_false_eq_true, Nat.reduceAdd, Nat.reduceMul, Nat.reduceLeDiff, Nat.reduceEqDiff, ↓reduceIte]
         exact hq _ _ ((k3.new _).upd (.inl (by omega)) _) (says_no (hno fun h => (hua.1 h).2.1 c2))
        ·simp (disch := first | omega | (simp only [nx] <;> omega) | fail) only [vaw, hc, a1, a3, q3, b1, b4, c1, c2, ne_eq, not_true_eq_false, not_false_eq_true, Nat.reduceAdd, Nat.reduceMul, Nat.reduceLeDiff, Nat.reduceEqDiff, ↓reduceIte]
         have kP : Keep Nothing H ((H3.new (.cells [.int .i64 0, .int .i64 0, .int .i64 0, .int .i64 0, .int .i64 0, .int .i64 0, .int .i64 0] true)).upd H3.next (some (.cells [.int .i64 a.src, .int .i64 v, .int .i64 a.mode, .int .i64 a.cost, .int .i64 a.edge, .int .i64 a.a, .int .i64 a.b] true))) := (k3.new _).upd (.inl (by omega)) _
         have qP : ((H3.new (.cells [.int .i64 0, .int .i64 0, .int .i64 0, .int .i64 0, .int .i64 0, .int .i64 0, .int .i64 0] true)).upd H3.next (some (.cells [.int .i64 a.src, .int .i64 v, .int .i64 a.mode, .int .i64 a.cost, .int .i64 a.edge, .int .i64 a.a, .int .i64 a.b] true))).obj H.next = some (.cells [.int .i64 n, ew, rv, av, uv, dv] true) := by rw [obj_upd_ne (by omega), obj_new_ne (by omega)]; exact q3
         have nP : H.next < ((H3.new (.cells [.int .i64 0, .int .i64 0, .int .i64 0, .int .i64 0, .int .i64 0, .int .i64 0, .int .i64 0] true)).upd H3.next (some (.cells [.int .i64 a.src, .int .i64 v, .int .i64 a.mode, .int .i64 a.cost, .int .i64 a.edge, .int .i64 a.a, .int .i64 a.b] true))).next := by simp only [next_upd, next_new]; omega
         generalize (H3.new (.cells [.int .i64 0, .int .i64 0, .int .i64 0, .int .i64 0, .int .i64 0, .int .i64 0, .int .i64 0] true)).upd H3.next (some (.cells [.int .i64 a.src, .int .i64 v, .int .i64 a.mode, .int .i64 a.cost, .int .i64 a.edge, .int .i64 a.a, .int .i64 a.b] true)) = H4 at *
         refine above_int (hr.kept kP) hend.1 hv fun b H5 k5 s5 => ?_
         have q5 := (k5.old nP).trans qP
         have n5 := k5.next
         cases b with
         | true =>
          simp (disch := first | omega | (simp only [nx] <;> omega) | fail) only [vaw, Nat.reduceAdd, Nat.reduceMul, Nat.reduceLeDiff, Nat.reduceEqDiff, ↓reduceIte]
          exact ⟨ld.length - (i + 1), by omega, i + 1, rfl, by omega, rfl, kP.trans k5, by omega, q5, take_all hx hin (hua.2 ⟨c1, c2, s5.1 rfl⟩)⟩
         | false =>
          simp (disch := first | omega | (simp only [nx] <;> omega) | fail) only [vaw, Nat.reduceAdd, Nat.reduceMul, Nat.reduceLeDiff, Nat.reduceEqDiff, ↓reduceIte]
          exact hq _ _ (kP.trans k5) (says_no (hno fun h => by have := s5.2 (hua.1 h).2.2; cases this))
       ·simp (disch := first | omega | (simp only [nx] <;> omega) | fail) only [vaw, hc, a1, a3, q3, b1, b4, c1, ne_eq, not_true_eq_false, not_false_eq_true, Nat.reduceAdd, Nat.reduceMul, Nat.reduceLeDiff, Nat.reduceEqDiff, ↓reduceIte]
        exact hq _ _ ((k3.new _).upd (.inl (by omega)) _) (says_no (hno fun h => c1 (hua.1 h).1))
      ·have : i = ld.length := by omega
       subst this
       rw [List.take_length] at hin
       simp (disch := first | omega | (simp only [nx] <;> omega) | fail) only [vaw, hc, Nat.reduceAdd, Nat.reduceMul, Nat.reduceLeDiff, Nat.reduceEqDiff, ↓reduceIte]
       exact hq _ _ k3 (says_yes ⟨hU, z1, hin⟩))
end Go.Proofs.Ytknhlpmmalcchaa

namespace Go.Proofs.Ytknhlpmmalcchaa
open Go Go.VAI
set_option linter.unusedSimpArgs false

theorem arc_ends {n : Int} {es : List Edge} {arcs : List Arc} (hn : NetOk n es) (h : ∀ (i : Nat) a, arcs[i]? = some a → ArcOk es arcs i a) : ∀ m, ∀ (i : Nat) a, i < m → arcs[i]? = some a → (0 ≤ a.src ∧ a.src < n) ∧ (0 ≤ a.dst ∧ a.dst < n) := by
 intro m
 induction m with
 | zero => intro i a hi; omega
 | succ m ih =>
  intro i a hi ha
  rcases (h i a ha).2 with ⟨h1, h2, h3, h4⟩ | ⟨h1, h2, h3, h4, h5, p, q, h6, h7, h8, h9, h10, h11, h12, h13⟩
  ·have := hn.2.2.2 _ (List.mem_of_getElem? h4)
   exact ⟨this.1, this.2.1⟩
  ·have e1 := ih _ p (by omega) h6
   have e2 := ih _ q (by omega) h7
   rw [h10] at e1
   rw [h12] at e2
   exact ⟨e1.1, e2.2⟩
theorem at_some {α : Type} {l : List α} {i : Nat} (h : i < l.length) : ∃ x, l[i]? = some x ∧ x ∈ l := ⟨l[i], by simp [h], List.getElem_mem h⟩
set_option maxRecDepth 20000 in
set_option maxHeartbeats 4000000 in
theorem check_ret {ew rv av uv dv : AVal} {x : Idx} {H : AHeap} {Q : AVal → AHeap → Prop} (hx : IdxAt H ew rv av uv dv x) (hnu : ∀ l ∈ x.up, l.length ≤ 4611686018427387904) (hnd : ∀ l ∈ x.down, l.length ≤ 4611686018427387904)
  (hq : ∀ b H', Keep Nothing H H' → Says b (Allowed x) → Q (.bool b) H') : Ret A 54 [.agg [.int .i64 x.n, ew, rv, av, uv, dv]] H Q := by
 refine Ret.of (fn := F54) rfl ?_
 have be := hx.es.beq
 have br : AVal.beq rv rv = true := hx.rank.beq
 have ba : AVal.beq av av = true := hx.arcs.beq
 have bu := hx.up.beq
 have bd := hx.down.beq
 have lr := hx.rank.len1
 rw [ints_length] at lr
 have lu := hx.up.len
 have ld := hx.down.len
 have la := hx.arcs.len (by omega) (arcCells_length x.arcs)
 have bx : AVal.beq (.agg [.int .i64 x.n, ew, rv, av, uv, dv]) (.agg [.int .i64 x.n, ew, rv, av, uv, dv]) = true := by simp [AVal.beq, AVal.beqs, be, br, ba, bu, bd]
 have bn : AVal.beq (.agg [.int .i64 x.n, ew]) (.agg [.int .i64 x.n, ew]) = true := by simp [AVal.beq, AVal.beqs, be]
 simp (disch := first | omega | (simp only [nx] <;> omega) | fail) only [vaw, F54, Nat.reduceAdd, Nat.reduceMul, Nat.reduceLeDiff, Nat.reduceEqDiff, ↓reduceIte]
 have k0 : Keep Nothing H (H.new (.cells [.int .i64 x.n, ew, rv, av, uv, dv] true)) := (Keep.refl _ _).new _
 have q0 : (H.new (.cells [.int .i64 x.n, ew, rv, av, uv, dv] true)).obj H.next = some (.cells [.int .i64 x.n, ew, rv, av, uv, dv] true) := obj_new_eq rfl
 refine netcheck_ret (hx.es.kept k0) fun b H1 k1 s1 => ?_
 have n1 := k1.next
 simp only [next_new] at n1
 have q1 := (k1.old (i := H.next) (by simp only [next_new]; omega)).trans q0
 have kA := k0.trans k1
 cases b with
 | false =>
  simp (disch := first | omega | (simp only [nx] <;> omega) | fail) only [vaw, q1, reK_same bn, Nat.reduceAdd, Nat.reduceMul, Nat.reduceLeDiff, Nat.reduceEqDiff, ↓reduceIte]
  exact hq _ _ kA (says_no fun h => by have := s1.2 h.net; cases this)
 | true =>
  have hnet := s1.1 rfl
  have hn60 := hnet.2.1
  by_cases c1 : (x.rank.length : Int) = x.n
  ·by_cases c2 : (x.up.length : Int) = x.n
   ·by_cases c3 : (x.down.length : Int) = x.n
    ·by_cases c4 : (300000 : Int) < x.arcs.length
     ·simp (disch := first | omega | (simp only [nx] <;> omega) | fail) only [vaw, q1, reK_same bn, reK_same br, reK_same bu, reK_same bd, reK_same ba, lr, lu, ld, la, c1, c2, c3, c4, ne_eq, not_true_eq_false, not_false_eq_true, Nat.reduceAdd, Nat.reduceMul, Nat.reduceLeDiff, Nat.reduceEqDiff, ↓reduceIte]
      exact hq _ _ kA (says_no fun h => by have := h.count; omega)
     ·simp (disch := first | omega | (simp only [nx] <;> omega) | fail) only [vaw, q1, reK_same bn, reK_same br, reK_same bu, reK_same bd, reK_same ba, lr, lu, ld, la, c1, c2, c3, c4, ne_eq, not_true_eq_false, not_false_eq_true, Nat.reduceAdd, Nat.reduceMul, Nat.reduceLeDiff, Nat.reduceEqDiff, ↓reduceIte]
      refine ranks_ret (hx.rank.kept kA) (by have := hnet.2.1; omega) fun b H2 k2 s2 => ?_
      have n2 := k2.next
      have q2 := (k2.old (i := H.next) (by omega)).trans q1
      have kB := kA.trans k2
      cases b with
      | false =>
       simp (disch := first | omega | (simp only [nx] <;> omega) | fail) only [vaw, q2, reK_same br, Nat.reduceAdd, Nat.reduceMul, Nat.reduceLeDiff, Nat.reduceEqDiff, ↓reduceIte]
       exact hq _ _ kB (says_no fun h => by have := s2.2 h.ranks; cases this)
      | true =>
       simp (disch := first | omega | (simp only [nx] <;> omega) | fail) only [vaw, q2, reK_same br, Nat.reduceAdd, Nat.reduceMul, Nat.reduceLeDiff, Nat.reduceEqDiff, ↓reduceIte]
       have hrk := s2.1 rfl
       have kP : Keep Nothing H ((H2.new (.cells [.int .i64 0, .nilSlice, .nilSlice, .nilSlice, .nilSlice, .nilSlice] true)).upd H2.next (some (.cells [.int .i64 x.n, ew, rv, av, uv, dv] true))) := (kB.new _).upd (.inl (by omega)) _
       have qP : ((H2.new (.cells [.int .i64 0, .nilSlice, .nilSlice, .nilSlice, .nilSlice, .nilSlice] true)).upd H2.next (some (.cells [.int .i64 x.n, ew, rv, av, uv, dv] true))).obj H.next = some (.cells [.int .i64 x.n, ew, rv, av, uv, dv] true) := by rw [obj_upd_ne (by omega), obj_new_ne (by omega)]; exact q2
       have pP : ((H2.new (.cells [.int .i64 0, .nilSlice, .nilSlice, .nilSlice, .nilSlice, .nilSlice] true)).upd H2.next (some (.cells [.int .i64 x.n, ew, rv, av, uv, dv] true))).obj H2.next = some (.cells [.int .i64 x.n, ew, rv, av, uv, dv] true) := obj_upd_eq rfl
       have nP : H2.next < ((H2.new (.cells [.int .i64 0, .nilSlice, .nilSlice, .nilSlice, .nilSlice, .nilSlice] true)).upd H2.next (some (.cells [.int .i64 x.n, ew, rv, av, uv, dv] true))).next := by simp only [next_upd, next_new]; omega
       generalize (H2.new (.cells [.int .i64 0, .nilSlice, .nilSlice, .nilSlice, .nilSlice, .nilSlice] true)).upd H2.next (some (.cells [.int .i64 x.n, ew, rv, av, uv, dv] true)) = H3 at *
       generalize hy : H2.next = y at *
       refine harcs_ret (hx.es.kept kP) (hx.arcs.kept kP) (by omega) fun b H4 k4 s4 => ?_
       have q4 := (k4.old (i := H.next) (by omega)).trans qP
       have p4 := (k4.old nP).trans pP
       have n4 := k4.next
       have kC := kP.trans k4
       cases b with
       | false =>
        simp (disch := first | omega | (simp only [nx] <;> omega) | fail) only [vaw, Nat.reduceAdd, Nat.reduceMul, Nat.reduceLeDiff, Nat.reduceEqDiff, ↓reduceIte]
        exact hq _ _ kC (says_no fun h => by have := s4.2 ⟨h.arcs, h.sizes⟩; cases this)
       | true =>
        have harc := s4.1 rfl
        have hends := fun i a h => arc_ends hnet harc.1 (i + 1) i a (by omega) h
        simp (disch := first | omega | (simp only [nx] <;> omega) | fail) only [vaw, q4, Nat.reduceAdd, Nat.reduceMul, Nat.reduceLeDiff, Nat.reduceEqDiff, ↓reduceIte]
        refine wpx_loop (fun m t H' => ∃ (i : Nat), m = x.rank.length - i ∧ i ≤ x.rank.length ∧ t = (bots 3 (.ptr y 0 :: .func (.func 97) [] [] :: bots 51 (.int .i64 x.n :: .int .i64 i :: bots 8 ([]))) : Tmps) ∧ Keep Nothing H H' ∧ y < H'.next ∧ H'.obj y = some (.cells [.int .i64 x.n, ew, rv, av, uv, dv] true) ∧ (∀ (v : Nat) l, v < i → x.up[v]? = some l → UpOk x.rank x.arcs v l) ∧ ∀ (v : Nat) l, v < i → x.down[v]? = some l → DownOk x.rank x.arcs v l) x.rank.length ?_ ?_
        ·exact ⟨0, rfl, by omega, rfl, kC, by omega, p4, fun v l h => by omega, fun v l h => by omega⟩
        ·rintro m t H5 ⟨i, rfl, hi, rfl, k5, n5, q5, hU, hD⟩
         by_cases hc : (i : Int) < x.n
         ·have hil : i < x.rank.length := by omega
          obtain ⟨lup, hlu, mlu⟩ := at_some (l := x.up) (i := i) (by omega)
          obtain ⟨ldn, hld, mld⟩ := at_some (l := x.down) (i := i) (by omega)
          simp (disch := first | omega | (simp only [nx] <;> omega) | fail) only [vaw, hc, q5, Nat.reduceAdd, Nat.reduceMul, Nat.reduceLeDiff, Nat.reduceEqDiff, ↓reduceIte]
          refine hvertex_ret (hx.es.kept k5) (hx.rank.kept k5) (hx.arcs.kept k5) (hx.up.kept k5) (hx.down.kept k5) hlu hld hil (hnu _ mlu) (hnd _ mld) (fun j a h => by rw [c1]; exact hends j a h) fun b H6 k6 s6 => ?_
          have n6 := k6.next
          have q6 := (k6.old n5).trans q5
          cases b with
          | true =>
           have hb := s6.1 rfl
           simp (disch := first | omega | (simp only [nx] <;> omega) | fail) only [vaw, Nat.reduceAdd, Nat.reduceMul, Nat.reduceLeDiff, Nat.reduceEqDiff, ↓reduceIte]
           refine ⟨x.rank.length - (i + 1), by omega, i + 1, rfl, by omega, rfl, k5.trans k6, by omega, q6, fun v l hv hl => ?_, fun v l hv hl => ?_⟩
           ·by_cases hvi : v = i
            ·subst hvi; rw [hlu] at hl; injection hl with hl; subst hl; exact hb.1
            ·exact hU v l (by omega) hl
           ·by_cases hvi : v = i
            ·subst hvi; rw [hld] at hl; injection hl with hl; subst hl; exact hb.2
            ·exact hD v l (by omega) hl
          | false =>
           simp (disch := first | omega | (simp only [nx] <;> omega) | fail) only [vaw, Nat.reduceAdd, Nat.reduceMul, Nat.reduceLeDiff, Nat.reduceEqDiff, ↓reduceIte]
           exact hq _ _ (k5.trans k6) (says_no fun h => by have := s6.2 ⟨h.up i _ hlu, h.down i _ hld⟩; cases this)
         ·simp (disch := first | omega | (simp only [nx] <;> omega) | fail) only [vaw, hc, Nat.reduceAdd, Nat.reduceMul, Nat.reduceLeDiff, Nat.reduceEqDiff, ↓reduceIte]
          refine hq _ _ k5 (says_yes ⟨hnet, c1, by omega, by omega, hrk, by omega, harc.1, harc.2, fun v l hl => hU v l ?_ hl, fun v l hl => hD v l ?_ hl⟩)
          ·have := (List.getElem?_eq_some_iff.1 hl).1; omega
          ·have := (List.getElem?_eq_some_iff.1 hl).1; omega
    ·simp (disch := first | omega | (simp only [nx] <;> omega) | fail) only [vaw, q1, reK_same bn, reK_same br, reK_same bu, reK_same bd, lr, lu, ld, c1, c2, c3, ne_eq, not_true_eq_false, not_false_eq_true, Nat.reduceAdd, Nat.reduceMul, Nat.reduceLeDiff, Nat.reduceEqDiff, ↓reduceIte]
     exact hq _ _ kA (says_no fun h => c3 (by have := h.downLen; omega))
   ·simp (disch := first | omega | (simp only [nx] <;> omega) | fail) only [vaw, q1, reK_same bn, reK_same br, reK_same bu, lr, lu, c1, c2, ne_eq, not_true_eq_false, not_false_eq_true, Nat.reduceAdd, Nat.reduceMul, Nat.reduceLeDiff, Nat.reduceEqDiff, ↓reduceIte]
    exact hq _ _ kA (says_no fun h => c2 (by have := h.upLen; omega))
  ·simp (disch := first | omega | (simp only [nx] <;> omega) | fail) only [vaw, q1, reK_same bn, reK_same br, lr, c1, ne_eq, not_true_eq_false, not_false_eq_true, Nat.reduceAdd, Nat.reduceMul, Nat.reduceLeDiff, Nat.reduceEqDiff, ↓reduceIte]
   exact hq _ _ kA (says_no fun h => c1 h.rankLen)
end Go.Proofs.Ytknhlpmmalcchaa

namespace Go.Proofs.Ytknhlpmmalcchaa
open Go Go.VAI
set_option linter.unusedSimpArgs false

end Go.Proofs.Ytknhlpmmalcchaa

namespace Go.Proofs.Ytknhlpmmalcchaa
open Go Go.VAI
set_option linter.unusedSimpArgs false

def Fin' (w : Nat) (H : AHeap) (v : AVal) (sz : Nat) (cs : List AVal) : Prop := Row H v sz cs ∧ ∀ j, sid v = some j → w < j
theorem Fin'.M {w : Nat} {M : Nat → Prop} {H H' : AHeap} {v : AVal} {sz : Nat} {cs : List AVal} (h : Fin' w H v sz cs) (hk : Keep M H H') (hM : ∀ j, M j → j ≤ w) : Fin' w H' v sz cs := ⟨h.1.M hk (fun j hj e => by have := h.2 j hj; have := hM j e; omega), h.2⟩
theorem own_fin {w lo : Nat} {H : AHeap} {v : AVal} {sz : Nat} {cs : List AVal} (h : Own lo H v sz cs) (hw : w < lo) : Fin' w H v sz cs := ⟨h.row, fun j hj => by have := (h.sid_ge hj).1; omega⟩
def FinRows (w : Nat) (H : AHeap) (v : AVal) (ll : List (List Int)) : Prop := ∃ vs, Fin' w H v 1 vs ∧ vs.length = ll.length ∧ ∀ (i : Nat) r l, vs[i]? = some r → ll[i]? = some l → Fin' w H r 1 (ints l)
theorem FinRows.M {w : Nat} {M : Nat → Prop} {H H' : AHeap} {v : AVal} {ll : List (List Int)} (h : FinRows w H v ll) (hk : Keep M H H') (hM : ∀ j, M j → j ≤ w) : FinRows w H' v ll := by
 obtain ⟨vs, h1, h2, h3⟩ := h
 exact ⟨vs, h1.M hk hM, h2, fun i r l e1 e2 => (h3 i r l e1 e2).M hk hM⟩
theorem FinRows.rows {w : Nat} {H : AHeap} {v : AVal} {ll : List (List Int)} (h : FinRows w H v ll) : RowsOf H v ll := by
 obtain ⟨vs, h1, h2, h3⟩ := h
 exact ⟨vs, h1.1, h2, fun i r l e1 e2 => (h3 i r l e1 e2).1⟩
theorem RowsAt.fin {lo w : Nat} {H : AHeap} {av : AVal} {us : List AVal} {ul : List (List Int)} (h : RowsAt lo H av us ul) (ha : Own lo H av 1 us) (hlen : us.length = ul.length) (hw : w < lo) : FinRows w H av ul :=
 ⟨us, own_fin ha hw, hlen, fun i r l e1 e2 => ⟨(h i r l e1 e2).1, fun j hj => by have := ((h i r l e1 e2).2 j hj).1; omega⟩⟩
structure DecAt (H0 : AHeap) (q w : Nat) (src : Option Nat) (H : AHeap) (cs : List AVal) (s : RS) : Prop where
 keep : Keep Nothing H0 H
 op : H.obj H0.next = some (.cells [.int .i64 0, .nilSlice, .nilSlice, .nilSlice, .nilSlice, .nilSlice] true)
 ob : H.obj q = some (.cells cs true)
 rd : RdAt H w src s
 len : s.left.length ≤ 1000000000
 lq : H0.next < q
 lw : q < w
 ls : ∀ j, src = some j → j < H0.next
theorem DecAt.lt {H0 : AHeap} {q w : Nat} {src : Option Nat} {H : AHeap} {cs : List AVal} {s : RS} (h : DecAt H0 q w src H cs s) : w < H.next := h.rd.lt
theorem DecAt.read {H0 : AHeap} {q w : Nat} {src : Option Nat} {H H' : AHeap} {cs : List AVal} {s s' : RS} (h : DecAt H0 q w src H cs s) (hk : Keep (fun j => j = w) H H') (hr : RdAt H' w src s') (hl : s'.left.length ≤ s.left.length) : DecAt H0 q w src H' cs s' := by
 have h1 := h.lt
 have h2 := h.lq
 have h3 := h.lw
 have h4 := h.len
 have h5 := h.keep.next
 exact ⟨⟨by have := hk.next; omega, fun j hj _ => by rw [hk.obj j (by omega) (by omega), h.keep.old hj]⟩, by rw [hk.obj _ (by omega) (by omega)]; exact h.op, by rw [hk.obj _ (by omega) (by omega)]; exact h.ob, hr, by omega, h2, h3, h.ls⟩
theorem DecAt.put {H0 : AHeap} {q w : Nat} {src : Option Nat} {H : AHeap} {cs : List AVal} {s : RS} (h : DecAt H0 q w src H cs s) (cs' : List AVal) : DecAt H0 q w src (H.upd q (some (.cells cs' true))) cs' s := by
 have h1 := h.lt
 have h2 := h.lq
 have h3 := h.lw
 have h5 := h.keep.next
 have kk : Keep (fun j => j = q) H (H.upd q (some (.cells cs' true))) := (Keep.refl (fun j => j = q) _).upd (.inr rfl) _
 exact ⟨h.keep.upd (.inl (by omega)) _, by rw [obj_upd_ne (by omega)]; exact h.op, obj_upd_eq rfl, h.rd.M kk (by omega) (fun j hj => by have := h.ls j hj; omega), h.len, h2, h3, h.ls⟩
theorem DecAt.grow {H0 : AHeap} {q w lo : Nat} {src : Option Nat} {H H' : AHeap} {cs : List AVal} {s : RS} {M : Nat → Prop} (h : DecAt H0 q w src H cs s) (hk : Keep M H H') (hM : ∀ j, M j → lo ≤ j) (hlo : w < lo) : DecAt H0 q w src H' cs s := by
 have h1 := h.lt
 have h2 := h.lq
 have h3 := h.lw
 have h5 := h.keep.next
 have hm : ∀ j, j ≤ w → ¬ M j := fun j hj hm => by have := hM j hm; omega
 exact ⟨⟨by have := hk.next; omega, fun j hj _ => by rw [hk.obj j (by omega) (hm j (by omega)), h.keep.old hj]⟩, by rw [hk.obj _ (by omega) (hm _ (by omega))]; exact h.op, by rw [hk.obj _ (by omega) (hm _ (by omega))]; exact h.ob, h.rd.M hk (hm w (by omega)) (fun j hj => hm j (by have := h.ls j hj; omega)), h.len, h2, h3, h.ls⟩
theorem DecAt.kept {H0 : AHeap} {q w : Nat} {src : Option Nat} {H H' : AHeap} {cs : List AVal} {s : RS} (h : DecAt H0 q w src H cs s) (hk : Keep Nothing H H') : DecAt H0 q w src H' cs s := h.grow (lo := w + 1) hk (fun _ h => h.elim) (by omega)
theorem IdxAt.fin {w : Nat} {Hs H : AHeap} {ew rv av uv dv : AVal} {x : Idx} (hk : Keep (fun j => j ≤ w) Hs H) (he : Fin' w Hs ew 4 (edgeCells x.es)) (hr : Fin' w Hs rv 1 (ints x.rank)) (ha : Fin' w Hs av 7 (arcCells x.arcs)) (hu : FinRows w Hs uv x.up) (hd : FinRows w Hs dv x.down) : IdxAt H ew rv av uv dv x :=
 ⟨(he.M hk (fun _ h => h)).1, (hr.M hk (fun _ h => h)).1, (ha.M hk (fun _ h => h)).1, (hu.M hk (fun _ h => h)).rows, (hd.M hk (fun _ h => h)).rows⟩
section
variable {K : CallW} {t : Tmps} {H : AHeap} {Q : PostT}
end
end Go.Proofs.Ytknhlpmmalcchaa

namespace Go.Proofs.Ytknhlpmmalcchaa
open Go Go.VAI
set_option linter.unusedSimpArgs false

end Go.Proofs.Ytknhlpmmalcchaa

namespace Go.Proofs.Ytknhlpmmalcchaa
open Go Go.VAI
set_option linter.unusedSimpArgs false

end Go.Proofs.Ytknhlpmmalcchaa

namespace Go.Proofs.Ytknhlpmmalcchaa
open Go Go.VAI
set_option linter.unusedSimpArgs false

structure MarkAt (n : Nat) (l : List Int) (i : Nat) (S : List Bool) : Prop where
 len : S.length = n
 seen : ∀ j : Nat, j < n → (S[j]? = some true ↔ (j : Int) ∈ l.take i)
 nd : (l.take i).Nodup
theorem MarkAt.more {n : Nat} {l : List Int} {i : Nat} {S : List Bool} (h : MarkAt n l i S) {r : Nat} (hr : l[i]? = some (r : Int)) (hrl : r < n) (hs : S[r]? ≠ some true) : MarkAt n l (i + 1) (S.set r true) := by
 have hil := (List.getElem?_eq_some_iff.1 hr).1
 have htk : l.take (i + 1) = l.take i ++ [(r : Int)] := by
  rw [List.take_succ_eq_append_getElem hil]
  rw [(List.getElem?_eq_some_iff.1 hr).2]
 have hnot : (r : Int) ∉ l.take i := fun hm => hs ((h.seen r hrl).2 hm)
 refine ⟨by simp [h.len], fun j hj => ?_, ?_⟩
 ·rw [htk, List.getElem?_set]
  by_cases hjr : r = j
  ·subst hjr
   rw [if_pos rfl, if_pos (by rw [h.len]; exact hj)]
   simp
  ·rw [if_neg hjr, h.seen j hj]; simp; omega
 ·rw [htk]
  exact List.nodup_append.2 ⟨h.nd, by simp, fun a ha b hb => by simp at hb; subst hb; intro e; subst e; exact hnot ha⟩
end Go.Proofs.Ytknhlpmmalcchaa

namespace Go.Proofs.Ytknhlpmmalcchaa
open Go Go.VAI
set_option linter.unusedSimpArgs false

structure Reads {α : Type} (f : RS → α × RS) : Prop where
 bad : ∀ s, s.bad = true → (f s).2.bad = true
 ext : ∀ s, (f s).2.bad = false → ∀ r, f ⟨s.left ++ r, s.bad⟩ = ((f s).1, ⟨(f s).2.left ++ r, (f s).2.bad⟩)
def andThen {α β : Type} (f : RS → α × RS) (g : α → RS → β × RS) (s : RS) : β × RS := g (f s).1 (f s).2
theorem Reads.bind {α β : Type} {f : RS → α × RS} {g : α → RS → β × RS} (hf : Reads f) (hg : ∀ a, Reads (g a)) : Reads (andThen f g) := by
 refine ⟨fun s h => (hg _).bad _ (hf.bad s h), fun s h r => ?_⟩
 have hb : (f s).2.bad = false := by
  cases hx : (f s).2.bad with
  | false => rfl
  | true =>
   have := (hg (f s).1).bad _ hx
   unfold andThen at h
   rw [h] at this; cases this
 unfold andThen at h ⊢
 rw [hf.ext s hb r]
 exact (hg _).ext _ h r
theorem Reads.done {α : Type} (a : α) : Reads (fun s : RS => (a, s)) := ⟨fun s h => h, fun s h r => rfl⟩
end Go.Proofs.Ytknhlpmmalcchaa

namespace Go.Proofs.Ytknhlpmmalcchaa
open Go Go.VAI
set_option linter.unusedSimpArgs false

end Go.Proofs.Ytknhlpmmalcchaa

namespace Go.Proofs.Ytknhlpmmalcchaa
open Go Go.VAI
set_option linter.unusedSimpArgs false

structure LongAt (H0 H : AHeap) (n : Int) (ew rv av uv dv ov : AVal) (es : List Edge) (arcs : List Arc) (i : Nat) : Prop where
 keep : Keep Nothing H0 H
 lt : H0.next < H.next
 box : H.obj H0.next = some (.cells [.int .i64 n, ew, rv, av, uv, dv] true)
 own : Own (H0.next + 1) H ov 1 (ints ((sizesOf arcs).take i))
theorem LongAt.kept {H0 H H' : AHeap} {n : Int} {ew rv av uv dv ov : AVal} {es : List Edge} {arcs : List Arc} {i : Nat} (h : LongAt H0 H n ew rv av uv dv ov es arcs i) (hk : Keep Nothing H H') : LongAt H0 H' n ew rv av uv dv ov es arcs i :=
 ⟨h.keep.trans hk, by have := h.lt; have := hk.next; omega, by rw [hk.old h.lt]; exact h.box, h.own.kept hk⟩
end Go.Proofs.Ytknhlpmmalcchaa

namespace Go.Proofs.Ytknhlpmmalcchaa
open Go Go.VAI
set_option linter.unusedSimpArgs false

theorem Bytes.drop' {a b : List Int} (h : Bytes (a ++ b)) : Bytes b := fun x hx => h x (by simp [hx])
theorem nbad {α : Type} {f : RS → α × RS} (hf : Reads f) {s : RS} (h : (f s).2.bad = false) : s.bad = false := by
 cases hx : s.bad with
 | false => rfl
 | true => have := hf.bad s hx; rw [h] at this; cases this
def Writes {α : Type} (f : RS → α × RS) (B : α → List Int) : Prop := ∀ s, Bytes s.left → (f s).2.bad = false → s.left = B (f s).1 ++ (f s).2.left
theorem Writes.bytes {α : Type} {f : RS → α × RS} {B : α → List Int} (h : Writes f B) {s : RS} (hb : Bytes s.left) (hn : (f s).2.bad = false) : Bytes (f s).2.left := by
 have := h s hb hn
 rw [this] at hb
 exact hb.drop'
theorem Writes.bind {α β : Type} {f : RS → α × RS} {g : α → RS → β × RS} {B : α → List Int} {C : α → β → List Int} (hf : Writes f B) (hg : ∀ a, Writes (g a) (C a)) (hr : ∀ a, Reads (g a)) : ∀ s, Bytes s.left → (andThen f g s).2.bad = false → s.left = B (f s).1 ++ (C (f s).1 (andThen f g s).1 ++ (andThen f g s).2.left) := by
 intro s hb hn
 have h1 : (f s).2.bad = false := nbad (hr _) hn
 have h2 := hf s hb h1
 have h3 := hg (f s).1 (f s).2 (hf.bytes hb h1) hn
 conv => lhs; rw [h2]
 congr 1
def Takes {β : Type} (h : RS → β × RS) (R : β → List Int → Prop) : Prop := ∀ s, Bytes s.left → (h s).2.bad = false → ∃ l, R (h s).1 l ∧ s.left = l ++ (h s).2.left
theorem Takes.done {β : Type} (x : β) : Takes (fun s : RS => (x, s)) (fun r l => r = x ∧ l = []) := fun s _ _ => ⟨[], ⟨rfl, rfl⟩, rfl⟩
theorem Takes.bind {α β : Type} {f : RS → α × RS} {g : α → RS → β × RS} {R1 : α → List Int → Prop} {R2 : α → β → List Int → Prop} (hf : Takes f R1) (hg : ∀ a, Takes (g a) (R2 a)) (hr : ∀ a, Reads (g a)) : Takes (andThen f g) (fun r l => ∃ a l1 l2, R1 a l1 ∧ R2 a r l2 ∧ l = l1 ++ l2) := by
 intro s hb hn
 have h1 : (f s).2.bad = false := nbad (hr _) hn
 obtain ⟨l1, q1, e1⟩ := hf s hb h1
 have hb2 : Bytes (f s).2.left := by
  rw [e1] at hb
  exact hb.drop'
 obtain ⟨l2, q2, e2⟩ := hg (f s).1 (f s).2 hb2 hn
 refine ⟨l1 ++ l2, ⟨(f s).1, l1, l2, q1, q2, rfl⟩, ?_⟩
 rw [e1, e2, List.append_assoc]
 rfl
end Go.Proofs.Ytknhlpmmalcchaa

namespace Go.Proofs.Ytknhlpmmalcchaa
open Go Go.VAI
set_option linter.unusedSimpArgs false

end Go.Proofs.Ytknhlpmmalcchaa

namespace Go.Proofs.Ytknhlpmmalcchaa
open Go Go.VAI
set_option linter.unusedSimpArgs false

end Go.Proofs.Ytknhlpmmalcchaa

namespace Go.Proofs.Ytknhlpmmalcchaa
open Go Go.VAI
set_option linter.unusedSimpArgs false

theorem Bytes.flat {α : Type} {f : α → List Int} {l : List α} (h : ∀ a, Bytes (f a)) : Bytes (l.flatMap f) := fun x hx => by
 obtain ⟨a, _, ha⟩ := List.mem_flatMap.1 hx
 exact h a x ha
end Go.Proofs.Ytknhlpmmalcchaa

namespace Go.Proofs.Ytknhlpmmalcchaa
open Go Go.VAI
set_option linter.unusedSimpArgs false

end Go.Proofs.Ytknhlpmmalcchaa

namespace Go.Proofs.Ytknhlpmmalcchaa
open Go Go.VAI
set_option linter.unusedSimpArgs false

end Go.Proofs.Ytknhlpmmalcchaa

namespace Go.Proofs.Ytknhlpmmalcchaa
open Go Go.VAI
set_option linter.unusedSimpArgs false

theorem take_eq_succ {α : Type} {l m : List α} {i : Nat} {x : α} (h : l.take i = m.take i) (hl : l[i]? = some x) (hm : m[i]? = some x) : l.take (i + 1) = m.take (i + 1) := by
 obtain ⟨a, b⟩ := List.getElem?_eq_some_iff.1 hl
 obtain ⟨c, d⟩ := List.getElem?_eq_some_iff.1 hm
 rw [List.take_succ_eq_append_getElem a, List.take_succ_eq_append_getElem c, h, b, d]
theorem take_all_eq {α : Type} {l m : List α} (hn : l.length = m.length) (h : l.take l.length = m.take l.length) : l = m := by
 rw [List.take_length, hn, List.take_length] at h
 exact h
set_option maxRecDepth 20000 in
theorem ints_ret {lv mv : AVal} {l m : List Int} {H : AHeap} {Q : AVal → AHeap → Prop} (hl : Row H lv 1 (ints l)) (hm : Row H mv 1 (ints m)) (hlen : l.length ≤ 4611686018427387904) (hq : ∀ b, Says b (l = m) → Q (.bool b) H) : Ret A 40 [lv, mv] H Q := by
 refine Ret.of (fn := F40) rfl ?_
 have h1 := hl.len1
 have h2 := hm.len1
 rw [ints_length] at h1 h2
 by_cases hn : (l.length : Int) = m.length
 ·simp (disch := first | omega | (simp only [nx] <;> omega) | fail) only [vaw, F40, h1, h2, hn, ne_eq, not_true_eq_false, Nat.reduceAdd, Nat.reduceMul, Nat.reduceLeDiff, Nat.reduceEqDiff, ↓reduceIte]
  refine wpx_loop (fun k t H' => ∃ (i : Nat), k = l.length - i ∧ i ≤ l.length ∧ t = (lv :: mv :: bots 3 (.int .i64 i :: bots 20 ([])) : Tmps) ∧ H' = H ∧ l.take i = m.take i) l.length ?_ ?_
  ·exact ⟨0, rfl, by omega, rfl, rfl, by simp⟩
  ·rintro k t H1 ⟨i, rfl, hi, rfl, rfl, hin⟩
   by_cases hc : (i : Int) < m.length
   ·have hil : i < l.length := by omega
    have him : i < m.length := by omega
    have ex : l[i]? = some l[i] := by simp [hil]
    have ey : m[i]? = some m[i] := by simp [him]
    obtain ⟨ix, ox, x1, x2, x3⟩ := hl.int_at (k := .i64) ex
    obtain ⟨iy, oy, y1, y2, y3⟩ := hm.int_at (k := .i64) ey
    have hne : l[i] ≠ m[i] → l ≠ m := fun h e => h (by subst e; rfl)
    generalize l[i] = x at *
    generalize m[i] = y at *
    by_cases hxy : x = y
    ·subst hxy
     simp (disch := first | omega | (simp only [nx] <;> omega) | fail) only [vaw, h1, hn, hc, x1, x3, y1, y3, ne_eq, not_true_eq_false, Nat.reduceAdd, Nat.reduceMul, Nat.reduceLeDiff, Nat.reduceEqDiff, ↓reduceIte]
     exact ⟨l.length - (i + 1), by omega, i + 1, rfl, by omega, rfl, take_eq_succ hin ex ey⟩
    ·simp (disch := first | omega | (simp only [nx] <;> omega) | fail) only [vaw, h1, hn, hc, x1, x3, y1, y3, hxy, ne_eq, not_true_eq_false, not_false_eq_true, Nat.reduceAdd, Nat.reduceMul, Nat.reduceLeDiff, Nat.reduceEqDiff, ↓reduceIte]
     exact hq _ (says_no (hne hxy))
   ·have : i = l.length := by omega
    subst this
    simp (disch := first | omega | (simp only [nx] <;> omega) | fail) only [vaw, h1, hn, hc, Int.lt_irrefl, Nat.reduceAdd, Nat.reduceMul, Nat.reduceLeDiff, Nat.reduceEqDiff, ↓reduceIte]
    exact hq _ (says_yes (take_all_eq (by omega) hin))
 ·simp (disch := first | omega | (simp only [nx] <;> omega) | fail) only [vaw, F40, h1, h2, hn, ne_eq, not_false_eq_true, Nat.reduceAdd, Nat.reduceMul, Nat.reduceLeDiff, Nat.reduceEqDiff, ↓reduceIte]
  exact hq _ (says_no fun e => hn (by rw [e]))
theorem nflat4 {a b c d e f g h : Int} : abin .neq (.flat [.int, .int, .int, .int]) (.agg [.int .i64 a, .int .i64 b, .int .i64 c, .int .i64 d]) (.agg [.int .i64 e, .int .i64 f, .int .i64 g, .int .i64 h]) = some (.bool (!(decide (a = e) && (decide (b = f) && (decide (c = g) && (decide (d = h) && true)))))) := rfl
theorem nflat7 {a b c d e f g a' b' c' d' e' f' g' : Int} : abin .neq (.flat [.int, .int, .int, .int, .int, .int, .int]) (.agg [.int .i64 a, .int .i64 b, .int .i64 c, .int .i64 d, .int .i64 e, .int .i64 f, .int .i64 g]) (.agg [.int .i64 a', .int .i64 b', .int .i64 c', .int .i64 d', .int .i64 e', .int .i64 f', .int .i64 g']) = some (.bool (!(decide (a = a') && (decide (b = b') && (decide (c = c') && (decide (d = d') && (decide (e = e') && (decide (f = f') && (decide (g = g') && true))))))))) := rfl
theorem edge_neq {x y : Edge} : abin .neq (.flat [.int, .int, .int, .int]) (.agg x.cells) (.agg y.cells) = some (.bool (decide (x ≠ y))) := by
 obtain ⟨a, b, c, d⟩ := x
 obtain ⟨e, f, g, h⟩ := y
 simp only [Edge.cells, nflat4]
 congr 2
 by_cases h1 : a = e <;> by_cases h2 : b = f <;> by_cases h3 : c = g <;> by_cases h4 : d = h <;> simp [h1, h2, h3, h4]
theorem arc_neq {x y : Arc} : abin .neq (.flat [.int, .int, .int, .int, .int, .int, .int]) (.agg x.cells) (.agg y.cells) = some (.bool (decide (x ≠ y))) := by
 obtain ⟨a, b, c, d, e, f, g⟩ := x
 obtain ⟨a', b', c', d', e', f', g'⟩ := y
 simp only [Arc.cells, nflat7]
 congr 2
 simp only [ne_eq, Arc.mk.injEq, Bool.and_true, ← Bool.decide_and, ← decide_not]
set_option maxRecDepth 20000 in
theorem netSame_ret {n m : Int} {ev fv : AVal} {es fs : List Edge} {H : AHeap} {Q : AVal → AHeap → Prop} (he : Row H ev 4 (edgeCells es)) (hf : Row H fv 4 (edgeCells fs)) (hlen : es.length ≤ 4611686018427387904)
  (hq : ∀ b H', Keep Nothing H H' → Says b (n = m ∧ es = fs) → Q (.bool b) H') : Ret A 49 [.agg [.int .i64 n, ev], .agg [.int .i64 m, fv]] H Q := by
 refine Ret.of (fn := F49) rfl ?_
 have h1 := he.len (by omega) (edgeCells_length es)
 have h2 := hf.len (by omega) (edgeCells_length fs)
 have be := he.beq
 have bf := hf.beq
 have k0 : Keep Nothing H ((H.new (.cells [.int .i64 n, ev] true)).new (.cells [.int .i64 m, fv] true)) := ((Keep.refl _ _).new _).new _
 by_cases hnm : n = m
 ·by_cases hn : (es.length : Int) = fs.length
  ·simp (disch := first | omega | (simp only [nx] <;> omega) | fail) only [vaw, F49, h1, h2, hnm, hn, ne_eq, not_true_eq_false, Nat.reduceAdd, Nat.reduceMul, Nat.reduceLeDiff, Nat.reduceEqDiff, ↓reduceIte]
   refine wpx_loop (fun k t H' => ∃ (i : Nat), k = es.length - i ∧ i ≤ es.length ∧ t = (bots 2 (.ptr H.next 0 :: .ptr (H.next + 1) 0 :: bots 1 (.int .i64 i :: bots 32 ([]))) : Tmps) ∧ H' = (H.new (.cells [.int .i64 m, ev] true)).new (.cells [.int .i64 m, fv] true) ∧ es.take i = fs.take i) es.length ?_ ?_
   ·exact ⟨0, rfl, by omega, rfl, rfl, by simp⟩
   ·rintro k t H1 ⟨i, rfl, hi, rfl, rfl, hin⟩
    by_cases hc : (i : Int) < fs.length
    ·have hil : i < es.length := by omega
     have him : i < fs.length := by omega
     have ex : es[i]? = some es[i] := by simp [hil]
     have ey : fs[i]? = some fs[i] := by simp [him]
     obtain ⟨ix, ox, x1, _, x2, _, _, _, x3⟩ := edge_at he ex
     obtain ⟨iy, oy, y1, _, y2, _, _, _, y3⟩ := edge_at hf ey
     have hne : es[i] ≠ fs[i] → es ≠ fs := fun h e => h (by subst e; rfl)
     generalize es[i] = x at *
     generalize fs[i] = y at *
     by_cases hxy : x = y
     ·simp (disch := first | omega | (simp only [nx] <;> omega) | fail) only [vaw, h1, hn, hc, x1, x3, y1, y3, edge_neq, hxy, ne_eq, not_true_eq_false, Nat.reduceAdd, Nat.reduceMul, Nat.reduceLeDiff, Nat.reduceEqDiff, ↓reduceIte]
      subst hxy
      exact ⟨es.length - (i + 1), by omega, i + 1, rfl, by omega, rfl, take_eq_succ hin ex ey⟩
     ·simp (disch := first | omega | (simp only [nx] <;> omega) | fail) only [vaw, h1, hn, hc, x1, x3, y1, y3, edge_neq, hxy, ne_eq, not_true_eq_false, not_false_eq_true, Nat.reduceAdd, Nat.reduceMul, Nat.reduceLeDiff, Nat.reduceEqDiff, ↓reduceIte]
      subst hnm
      exact hq _ _ k0 (says_no fun e => hne hxy e.2)
    ·have : i = es.length := by omega
     subst this
     simp (disch := first | omega | (simp only [nx] <;> omega) | fail) only [vaw, h1, hn, hc, Int.lt_irrefl, Nat.reduceAdd, Nat.reduceMul, Nat.reduceLeDiff, Nat.reduceEqDiff, ↓reduceIte]
     subst hnm
     exact hq _ _ k0 (says_yes ⟨rfl, take_all_eq (by omega) hin⟩)
  ·simp (disch := first | omega | (simp only [nx] <;> omega) | fail) only [vaw, F49, h1, h2, hnm, hn, ne_eq, not_true_eq_false, not_false_eq_true, Nat.reduceAdd, Nat.reduceMul, Nat.reduceLeDiff, Nat.reduceEqDiff, ↓reduceIte]
   subst hnm
   exact hq _ _ k0 (says_no fun e => hn (by rw [e.2]))
 ·simp (disch := first | omega | (simp only [nx] <;> omega) | fail) only [vaw, F49, h1, h2, hnm, ne_eq, not_false_eq_true, Nat.reduceAdd, Nat.reduceMul, Nat.reduceLeDiff, Nat.reduceEqDiff, ↓reduceIte]
  exact hq _ _ k0 (says_no fun e => hnm e.1)
end Go.Proofs.Ytknhlpmmalcchaa

namespace Go.Proofs.Ytknhlpmmalcchaa
open Go Go.VAI
set_option linter.unusedSimpArgs false

def Short62 (x : Idx) : Prop := x.es.length ≤ 4611686018427387904 ∧ x.rank.length ≤ 4611686018427387904 ∧ x.arcs.length ≤ 4611686018427387904 ∧ x.up.length ≤ 4611686018427387904 ∧ (∀ l ∈ x.up, l.length ≤ 4611686018427387904) ∧ ∀ l ∈ x.down, l.length ≤ 4611686018427387904
set_option maxRecDepth 20000 in
set_option maxHeartbeats 4000000 in
theorem same_ret {ew rv av uv dv ew' rv' av' uv' dv' : AVal} {x y : Idx} {H : AHeap} {Q : AVal → AHeap → Prop} (hx : IdxAt H ew rv av uv dv x) (hy : IdxAt H ew' rv' av' uv' dv' y) (hs : Short62 x) (hud : x.up.length = x.down.length)
  (hq : ∀ b H', Keep Nothing H H' → Says b (x = y) → Q (.bool b) H') : Ret A 32 [.agg [.int .i64 x.n, ew, rv, av, uv, dv], .agg [.int .i64 y.n, ew', rv', av', uv', dv']] H Q := by
 refine Ret.of (fn := F32) rfl ?_
 obtain ⟨s1, s2, s3, s4, s5, s6⟩ := hs
 have a1 := hx.arcs.len (by omega) (arcCells_length x.arcs)
 have a2 := hy.arcs.len (by omega) (arcCells_length y.arcs)
 have u1 := hx.up.len
 have u2 := hy.up.len
 have d1 := hx.down.len
 have d2 := hy.down.len
 simp (disch := first | omega | (simp only [nx] <;> omega) | fail) only [vaw, F32, Nat.reduceAdd, Nat.reduceMul, Nat.reduceLeDiff, Nat.reduceEqDiff, ↓reduceIte]
 have k0 : Keep Nothing H ((H.new (.cells [.int .i64 x.n, ew, rv, av, uv, dv] true)).new (.cells [.int .i64 y.n, ew', rv', av', uv', dv'] true)) := ((Keep.refl _ _).new _).new _
 refine netSame_ret (hx.es.kept k0) (hy.es.kept k0) s1 fun b H1 k1 c1 => ?_
 have n1 := k1.next
 simp only [next_new] at n1
 have o1 : H1.obj H.next = some (.cells [.int .i64 x.n, ew, rv, av, uv, dv] true) := by rw [k1.old (by simp only [next_new]; omega)]; simp (disch := first | omega | (simp only [nx] <;> omega) | fail) only [vaim]
 have o2 : H1.obj (H.next + 1) = some (.cells [.int .i64 y.n, ew', rv', av', uv', dv'] true) := by rw [k1.old (by simp only [next_new]; omega)]; simp (disch := first | omega | (simp only [nx] <;> omega) | fail) only [vaim]
 have kA := k0.trans k1
 have hx1 := hx.kept kA
 have hy1 := hy.kept kA
 cases b with
 | false =>
  simp (disch := first | omega | (simp only [nx] <;> omega) | fail) only [vaw, Nat.reduceAdd, Nat.reduceMul, Nat.reduceLeDiff, Nat.reduceEqDiff, ↓reduceIte]
  exact hq _ _ kA (says_no fun e => by have := c1.2 ⟨by rw [e], by rw [e]⟩; cases this)
 | true =>
  have e1 := c1.1 rfl
  simp (disch := first | omega | (simp only [nx] <;> omega) | fail) only [vaw, o1, o2, Nat.reduceAdd, Nat.reduceMul, Nat.reduceLeDiff, Nat.reduceEqDiff, ↓reduceIte]
  refine ints_ret hx1.rank hy1.rank s2 fun b c2 => ?_
  cases b with
  | false =>
   simp (disch := first | omega | (simp only [nx] <;> omega) | fail) only [vaw, Nat.reduceAdd, Nat.reduceMul, Nat.reduceLeDiff, Nat.reduceEqDiff, ↓reduceIte]
   exact hq _ _ kA (says_no fun e => by have := c2.2 (by rw [e]); cases this)
  | true =>
   have e2 := c2.1 rfl
   by_cases g1 : (x.arcs.length : Int) = y.arcs.length
   ·by_cases g2 : (x.up.length : Int) = y.up.length
    ·by_cases g3 : (x.down.length : Int) = y.down.length
     ·simp (disch := first | omega | (simp only [nx] <;> omega) | fail) only [vaw, o1, o2, a1, a2, u1, u2, d1, d2, g1, g2, g3, ne_eq, not_true_eq_false, Nat.reduceAdd, Nat.reduceMul, Nat.reduceLeDiff, Nat.reduceEqDiff, ↓reduceIte]
      refine wpx_loop (fun k t H' => ∃ (i : Nat), k = x.arcs.length - i ∧ i ≤ x.arcs.length ∧ t = (bots 2 (.ptr H.next 0 :: .ptr (H.next + 1) 0 :: bots 1 (.int .i64 i :: bots 100 ([]))) : Tmps) ∧ H' = H1 ∧ x.arcs.take i = y.arcs.take i) x.arcs.length ?_ ?_
      ·exact ⟨0, rfl, by omega, rfl, rfl, by simp⟩
      ·rintro k t H2 ⟨i, rfl, hi, rfl, rfl, hin⟩
       by_cases hc : (i : Int) < y.arcs.length
       ·have hil : i < x.arcs.length := by omega
        have him : i < y.arcs.length := by omega
        have ex : x.arcs[i]? = some x.arcs[i] := by simp [hil]
        have ey : y.arcs[i]? = some y.arcs[i] := by simp [him]
        obtain ⟨ix, ox, x1, _, _, x3⟩ := arc_at hx1.arcs ex
        obtain ⟨iy, oy, y1, _, _, y3⟩ := arc_at hy1.arcs ey
        have hne : x.arcs[i] ≠ y.arcs[i] → x ≠ y := fun h e => h (by subst e; rfl)
        generalize x.arcs[i] = p at *
        generalize y.arcs[i] = q at *
        by_cases hxy : p = q
        ·simp (disch := first | omega | (simp only [nx] <;> omega) | fail) only [vaw, o1, o2, a1, a2, g1, hc, x1, x3, y1, y3, arc_neq, hxy, ne_eq, not_true_eq_false, Nat.reduceAdd, Nat.reduceMul, Nat.reduceLeDiff, Nat.reduceEqDiff, ↓reduceIte]
         subst hxy
         exact ⟨x.arcs.length - (i + 1), by omega, i + 1, rfl, by omega, rfl, take_eq_succ hin ex ey⟩
        ·simp (disch := first | omega | (simp only [nx] <;> omega) | fail) only [vaw, o1, o2, a1, a2, g1, hc, x1, x3, y1, y3, arc_neq, hxy, ne_eq, not_true_eq_false, not_false_eq_true, Nat.reduceAdd, Nat.reduceMul, Nat.reduceLeDiff, Nat.reduceEqDiff, ↓reduceIte]
         exact hq _ _ kA (says_no fun e => hne hxy e)
       ·have : i = x.arcs.length := by omega
        subst this
        have e3 := take_all_eq (by omega) hin
        simp (disch := first | omega | (simp only [nx] <;> omega) | fail) only [vaw, o1, a1, g1, hc, Int.lt_irrefl, Nat.reduceAdd, Nat.reduceMul, Nat.reduceLeDiff, Nat.reduceEqDiff, ↓reduceIte]
        refine wpx_loop (fun k t H' => ∃ (i : Nat), k = x.up.length - i ∧ i ≤ x.up.length ∧ t = (bots 2 (.ptr H.next 0 :: .ptr (H.next + 1) 0 :: bots 2 (.int .i64 i :: bots 99 ([]))) : Tmps) ∧ H' = H2 ∧ x.up.take i = y.up.take i ∧ x.down.take i = y.down.take i) x.up.length ?_ ?_
        ·exact ⟨0, rfl, by omega, rfl, rfl, by simp, by simp⟩
        ·rintro k t H3 ⟨i, rfl, hi, rfl, rfl, hin1, hin2⟩
         by_cases hc : (i : Int) < y.up.length
         ·have hil : i < x.up.length := by omega
          have him : i < y.up.length := by omega
          have hdl : i < x.down.length := by omega
          have hdm : i < y.down.length := by omega
          have ex : x.up[i]? = some x.up[i] := by simp [hil]
          have ey : y.up[i]? = some y.up[i] := by simp [him]
          have fx : x.down[i]? = some x.down[i] := by simp [hdl]
          have fy : y.down[i]? = some y.down[i] := by simp [hdm]
          obtain ⟨ix, ox, rx, x1, _, x3, x4⟩ := hx1.up.at (k := .i64) ex
          obtain ⟨iy, oy, ry, y1, _, y3, y4⟩ := hy1.up.at (k := .i64) ey
          obtain ⟨jx, px, qx, z1, _, z3, z4⟩ := hx1.down.at (k := .i64) fx
          obtain ⟨jy, py, qy, w1, _, w3, w4⟩ := hy1.down.at (k := .i64) fy
          have hne : x.up[i] ≠ y.up[i] → x ≠ y := fun h e => h (by subst e; rfl)
          have hne2 : x.down[i] ≠ y.down[i] → x ≠ y := fun h e => h (by subst e; rfl)
          have l1 := s5 _ (List.getElem_mem hil)
          have l2 := s6 _ (List.getElem_mem hdl)
          have hcd : ¬ (y.down.length : Int) ≤ i := by omega
          generalize x.up[i] = p at *
          generalize y.up[i] = q at *
          generalize x.down[i] = p' at *
          generalize y.down[i] = q' at *
          simp (disch := first | omega | (simp only [nx] <;> omega) | fail) only [vaw, o1, o2, u1, u2, g2, hc, x1, x3, y1, y3, Nat.reduceAdd, Nat.reduceMul, Nat.reduceLeDiff, Nat.reduceEqDiff, ↓reduceIte]
          refine ints_ret x4 y4 l1 fun b c3 => ?_
          cases b with
          | false =>
           simp (disch := first | omega | (simp only [nx] <;> omega) | fail) only [vaw, Nat.reduceAdd, Nat.reduceMul, Nat.reduceLeDiff, Nat.reduceEqDiff, ↓reduceIte]
           exact hq _ _ kA (says_no fun e => hne (fun h => by have := c3.2 h; cases this) e)
          | true =>
           have e4 := c3.1 rfl
           subst e4
           simp (disch := first | omega | (simp only [nx] <;> omega) | fail) only [vaw, o1, o2, d1, d2, g3, hcd, z1, z3, w1, w3, Nat.reduceAdd, Nat.reduceMul, Nat.reduceLeDiff, Nat.reduceEqDiff, ↓reduceIte]
           refine ints_ret z4 w4 l2 fun b c4 => ?_
           cases b with
           | false =>
            simp (disch := first | omega | (simp only [nx] <;> omega) | fail) only [vaw, Nat.reduceAdd, Nat.reduceMul, Nat.reduceLeDiff, Nat.reduceEqDiff, ↓reduceIte]
            exact hq _ _ kA (says_no fun e => hne2 (fun h => by have := c4.2 h; cases this) e)
           | true =>
            have e5 := c4.1 rfl
            subst e5
            simp (disch := first | omega | (simp only [nx] <;> omega) | fail) only [vaw, Nat.reduceAdd, Nat.reduceMul, Nat.reduceLeDiff, Nat.reduceEqDiff, ↓reduceIte]
            exact ⟨x.up.length - (i + 1), by omega, i + 1, rfl, by omega, rfl, take_eq_succ hin1 ex ey, take_eq_succ hin2 fx fy⟩
         ·have : i = x.up.length := by omega
          subst this
          have e4 := take_all_eq (by omega) hin1
          have e5 : x.down = y.down := by
           rw [hud] at hin2
           exact take_all_eq (by omega) hin2
          simp (disch := first | omega | (simp only [nx] <;> omega) | fail) only [vaw, o1, u1, g2, hc, Int.lt_irrefl, Nat.reduceAdd, Nat.reduceMul, Nat.reduceLeDiff, Nat.reduceEqDiff, ↓reduceIte]
          refine hq _ _ kA (says_yes ?_)
          obtain ⟨xn, xe, xr, xa, xu, xd⟩ := x
          obtain ⟨yn, ye, yr, ya, yu, yd⟩ := y
          simp only at e1 e2 e3 e4 e5
          obtain ⟨rfl, rfl⟩ := e1
          subst e2; subst e3; subst e4; subst e5
          rfl
     ·simp (disch := first | omega | (simp only [nx] <;> omega) | fail) only [vaw, o1, o2, a1, a2, u1, u2, d1, d2, g1, g2, g3, ne_eq, not_true_eq_false, not_false_eq_true, Nat.reduceAdd, Nat.reduceMul, Nat.reduceLeDiff, Nat.reduceEqDiff, ↓reduceIte]
      exact hq _ _ kA (says_no fun e => g3 (by rw [e]))
    ·simp (disch := first | omega | (simp only [nx] <;> omega) | fail) only [vaw, o1, o2, a1, a2, u1, u2, g1, g2, ne_eq, not_true_eq_false, not_false_eq_true, Nat.reduceAdd, Nat.reduceMul, Nat.reduceLeDiff, Nat.reduceEqDiff, ↓reduceIte]
     exact hq _ _ kA (says_no fun e => g2 (by rw [e]))
   ·simp (disch := first | omega | (simp only [nx] <;> omega) | fail) only [vaw, o1, o2, a1, a2, g1, ne_eq, not_true_eq_false, not_false_eq_true, Nat.reduceAdd, Nat.reduceMul, Nat.reduceLeDiff, Nat.reduceEqDiff, ↓reduceIte]
    exact hq _ _ kA (says_no fun e => g1 (by rw [e]))
end Go.Proofs.Ytknhlpmmalcchaa

namespace Go.Proofs.Ytknhlpmmalcchaa
open Go Go.VAI
set_option linter.unusedSimpArgs false

structure EncR (H0 H : AHeap) (x : List AVal) (bv : AVal) (bs : List Int) : Prop where
 keep : Keep Nothing H0 H
 lt : H0.next < H.next
 box : H.obj H0.next = some (.cells x true)
 own : Own (H0.next + 1) H bv 1 (u8s bs)
theorem EncR.kept {H0 H H' : AHeap} {x : List AVal} {bv : AVal} {bs : List Int} (h : EncR H0 H x bv bs) (hk : Keep Nothing H H') : EncR H0 H' x bv bs := by
 have := h.lt
 exact ⟨h.keep.trans hk, by have := hk.next; omega, by rw [hk.old (by omega)]; exact h.box, h.own.kept hk⟩
theorem EncR.step {H0 H H' : AHeap} {x : List AVal} {bv bv' : AVal} {bs bs' : List Int} (h : EncR H0 H x bv bs) (hk : Keep (fun j => sid bv = some j) H H') (g : Own (H0.next + 1) H' bv' 1 (u8s bs')) : EncR H0 H' x bv' bs' := by
 have hlt := h.lt
 have hs : ∀ j, sid bv = some j → H0.next + 1 ≤ j := fun j hj => (h.own.sid_ge hj).1
 exact ⟨h.keep.trans' hk (fun j hj e => by have := hs j e; omega), by have := hk.next; omega, by rw [hk.obj _ (by omega) (fun e => by have := hs _ e; omega)]; exact h.box, g⟩
end Go.Proofs.Ytknhlpmmalcchaa

namespace Go.Proofs.Ytknhlpmmalcchaa
open Go Go.VAI
set_option linter.unusedSimpArgs false

end Go.Proofs.Ytknhlpmmalcchaa

namespace Go.Proofs.Ytknhlpmmalcchaa
open Go Go.VAI
set_option linter.unusedSimpArgs false

end Go.Proofs.Ytknhlpmmalcchaa

namespace Go.Proofs.Ytknhlpmmalcchaa
open Go Go.VAI
set_option linter.unusedSimpArgs false

structure RdgAt (H0 : AHeap) (q w : Nat) (src : Option Nat) (H : AHeap) (cs : List AVal) (s : RS) : Prop where
 keep : Keep (fun j => j = w) H0 H
 op : H.obj H0.next = some (.cells [.int .i64 0, .nilSlice, .nilSlice, .nilSlice, .nilSlice, .nilSlice] true)
 ob : H.obj q = some (.cells cs true)
 rd : RdAt H w src s
 len : s.left.length ≤ 1000000000
 lq : H0.next < q
 lh : q < H.next
 lw : w < H0.next
 ls : ∀ j, src = some j → j < H0.next
theorem RdgAt.grow {H0 : AHeap} {q w : Nat} {src : Option Nat} {H H' : AHeap} {cs : List AVal} {s : RS} {M : Nat → Prop} (h : RdgAt H0 q w src H cs s) (hk : Keep M H H') (hM : ∀ j, M j → q < j) : RdgAt H0 q w src H' cs s := by
 have h2 := h.lq
 have h3 := h.lw
 have h4 := h.lh
 have h5 := h.keep.next
 have hm : ∀ j, j ≤ q → ¬ M j := fun j hj hm => by have := hM j hm; omega
 exact ⟨⟨by have := hk.next; omega, fun j hj hw => by rw [hk.obj j (by omega) (hm j (by omega)), h.keep.obj j hj hw]⟩, by rw [hk.obj _ (by omega) (hm _ (by omega))]; exact h.op, by rw [hk.obj _ (by omega) (hm _ (by omega))]; exact h.ob, h.rd.M hk (hm w (by omega)) (fun j hj => hm j (by have := h.ls j hj; omega)), h.len, h2, by have := hk.next; omega, h3, h.ls⟩
theorem RdgAt.kept {H0 : AHeap} {q w : Nat} {src : Option Nat} {H H' : AHeap} {cs : List AVal} {s : RS} (h : RdgAt H0 q w src H cs s) (hk : Keep Nothing H H') : RdgAt H0 q w src H' cs s := h.grow hk (fun _ h => h.elim)
theorem RdgAt.upd {H0 : AHeap} {q w y : Nat} {src : Option Nat} {H : AHeap} {cs : List AVal} {s : RS} (h : RdgAt H0 q w src H cs s) (hy : q < y) (o : Option AObj) : RdgAt H0 q w src (H.upd y o) cs s :=
 h.grow (M := fun j => j = y) ((Keep.refl (fun j => j = y) _).upd (.inr rfl) _) (fun j e => by omega)
theorem RdgAt.read {H0 : AHeap} {q w : Nat} {src : Option Nat} {H H' : AHeap} {cs : List AVal} {s s' : RS} (h : RdgAt H0 q w src H cs s) (hk : Keep (fun j => j = w) H H') (hr : RdAt H' w src s') (hl : s'.left.length ≤ s.left.length) : RdgAt H0 q w src H' cs s' := by
 have h2 := h.lq
 have h3 := h.lw
 have h4 := h.lh
 have h5 := h.keep.next
 have h6 := h.len
 exact ⟨⟨by have := hk.next; omega, fun j hj hw => by rw [hk.obj j (by omega) hw, h.keep.obj j hj hw]⟩, by rw [hk.obj _ (by omega) (by omega)]; exact h.op, by rw [hk.obj _ (by omega) (by omega)]; exact h.ob, hr, by omega, h2, by have := hk.next; omega, h3, h.ls⟩
theorem RdgAt.put {H0 : AHeap} {q w : Nat} {src : Option Nat} {H : AHeap} {cs : List AVal} {s : RS} (h : RdgAt H0 q w src H cs s) (cs' : List AVal) : RdgAt H0 q w src (H.upd q (some (.cells cs' true))) cs' s := by
 have h2 := h.lq
 have h3 := h.lw
 have h4 := h.lh
 have h5 := h.keep.next
 have kk : Keep (fun j => j = q) H (H.upd q (some (.cells cs' true))) := (Keep.refl (fun j => j = q) _).upd (.inr rfl) _
 exact ⟨h.keep.upd (.inl (by omega)) _, by rw [obj_upd_ne (by omega)]; exact h.op, obj_upd_eq rfl, h.rd.M kk (by omega) (fun j hj => by have := h.ls j hj; omega), h.len, h2, h4, h3, h.ls⟩
theorem RdgAt.set {H0 : AHeap} {q w y : Nat} {src : Option Nat} {Ha H : AHeap} {cs zs : List AVal} {s : RS} (h : RdgAt H0 q w src H cs s) (hk : Keep (fun j => j = w) Ha H) (hy : Ha.next ≤ y ∧ y < H.next) (hqa : q < Ha.next) :
  RdgAt H0 q w src (H.upd y (some (.cells zs true))) cs s ∧ Keep (fun j => j = w) Ha (H.upd y (some (.cells zs true))) ∧ (H.upd y (some (.cells zs true))).obj y = some (.cells zs true) ∧ (H.upd y (some (.cells zs true))).next = H.next :=
 ⟨h.upd (by omega) _, hk.upd (.inl (by omega)) _, obj_upd_eq rfl, by simp only [next_upd]⟩
end Go.Proofs.Ytknhlpmmalcchaa

namespace Go.Proofs.Ytknhlpmmalcchaa
open Go Go.VAI
set_option linter.unusedSimpArgs false

end Go.Proofs.Ytknhlpmmalcchaa

namespace Go.Proofs.Ytknhlpmmalcchaa
open Go Go.VAI
set_option linter.unusedSimpArgs false

theorem edge_set : ∀ (es : List Edge) (i : Nat) (e : Edge) (c : Int), es[i]? = some e → splice (edgeCells es) (i * 4 + 3) [.int .i64 c] = edgeCells (es.set i { e with cost := c })
 | [], i, e, c, h => by simp at h
 | x :: es, 0, e, c, h => by
  simp at h; subst h
  simp [edgeCells, Edge.cells, splice]
 | x :: es, i + 1, e, c, h => by
  have ih := edge_set es i e c (by simpa using h)
  have e1 : edgeCells (x :: es) = x.cells ++ edgeCells es := by simp [edgeCells]
  have e2 : edgeCells ((x :: es).set (i + 1) { e with cost := c }) = x.cells ++ edgeCells (es.set i { e with cost := c }) := by simp [edgeCells]
  have hx : x.cells.length = 4 := rfl
  rw [e2, ← ih, e1]
  unfold splice
  have h1 : (i + 1) * 4 + 3 = 4 + (i * 4 + 3) := by omega
  rw [h1]
  have hx2 : x.cells.length ≤ 4 + (i * 4 + 3) := by omega
  rw [List.take_append, List.drop_append, hx]
  simp only [List.append_assoc, List.length_cons, List.length_nil]
  have h2 : 4 + (i * 4 + 3) - 4 = i * 4 + 3 := by omega
  have h3 : 4 + (i * 4 + 3) + 1 - 4 = i * 4 + 3 + 1 := by omega
  rw [h2]
  have h5 : x.cells.take (4 + (i * 4 + 3)) = x.cells := List.take_of_length_le (by omega)
  rw [h5]
  simp [h3, List.drop_of_length_le, hx]
  omega
theorem Own.edgeSlot {lo : Nat} {H : AHeap} {v : AVal} {es : List Edge} (h : Own lo H v 4 (edgeCells es)) {i : Nat} (hi : i < es.length) : ∃ id, sid v = some id ∧ lo ≤ id ∧ id < H.next ∧ aindexAddrS 4 v (.int .i64 (i : Int)) = some (.ptr id (i * 4)) ∧ H.obj id = some (.cells (edgeCells es) true) ∧
  ∀ (H' : AHeap) c', H.next ≤ H'.next → H'.obj id = some (.cells c' true) → c'.length = (edgeCells es).length → Own lo H' v 4 c' := by
 obtain ⟨cs, hcs⟩ : ∃ cs, cs = edgeCells es := ⟨_, rfl⟩
 have hl := edgeCells_length es
 rw [← hcs] at h hl ⊢
 cases h with
 | nil => simp at hl; omega
 | @room id len _ _ hlo hhi ho hlen => exact ⟨id, rfl, hlo, hhi, by rw [aindexAddrS_slice ⟨by omega, by omega⟩]; simp, ho, fun H' c' h1 h2 h3 => .room hlo (by omega) h2 (by omega)⟩
 | @full id len _ _ hlo hhi ho hlen => exact ⟨id, rfl, hlo, hhi, by rw [aindexAddrS_slice ⟨by omega, by omega⟩]; simp, ho, fun H' c' h1 h2 h3 => .full hlo (by omega) h2 (by omega)⟩
end Go.Proofs.Ytknhlpmmalcchaa

namespace Go.Proofs.Ytknhlpmmalcchaa
open Go Go.VAI
set_option linter.unusedSimpArgs false

end Go.Proofs.Ytknhlpmmalcchaa

namespace Go.Proofs.Ytknhlpmmalcchaa
open Go Go.VAI
set_option linter.unusedSimpArgs false

theorem mk_ret {size modes : Int} {ns : AVal} {xs : List Int} {H : AHeap} {Q : AVal → AHeap → Prop} (hr : Row H ns 1 (ints xs)) (hx : ∀ x ∈ xs, I64 x) (hx2 : xs.length ≤ 9223372036854775807)
  (hq : ∀ ev H', Keep Nothing H H' → Grown H.next H' ev 4 (edgeCells (mkEs size modes xs)) → Q (.agg [.int .i64 (mkN size), ev]) H') : Ret A 28 [.int .i64 size, ns, .int .i64 modes] H Q := by
 refine make_ret hr hx hx2 fun ev H' k g => ?_
 have h := hq ev H' k g
 rw [mkN_eq] at h
 exact h
theorem IdxAt.beq {H : AHeap} {ew rv av uv dv : AVal} {x : Idx} (h : IdxAt H ew rv av uv dv x) {n : Int} : AVal.beq (.agg [.int .i64 n, ew, rv, av, uv, dv]) (.agg [.int .i64 n, ew, rv, av, uv, dv]) = true := by
 simp [AVal.beq, AVal.beqs, h.es.beq, h.rank.beq, h.arcs.beq, h.up.beq, h.down.beq]
theorem allowed_short {x : Idx} (h : Allowed x) : Short62 x ∧ x.up.length = x.down.length := by
 obtain ⟨n1, n2, n3, n4⟩ := h.net
 have hrl := h.rankLen
 have hul := h.upLen
 have hdl := h.downLen
 have hac := h.count
 have hu : ∀ l ∈ x.up, l.length ≤ 300000 := fun l hl => by
  obtain ⟨v, hv, e⟩ := List.getElem_of_mem hl
  obtain ⟨h1, h2⟩ := h.up v l (by rw [List.getElem?_eq_getElem hv, e])
  have := few_below x.arcs.length l h1 (fun y hy => by
   obtain ⟨h3, a, h4, _⟩ := h2 y hy
   have := (List.getElem?_eq_some_iff.1 h4).1
   omega)
  omega
 have hd : ∀ l ∈ x.down, l.length ≤ 300000 := fun l hl => by
  obtain ⟨v, hv, e⟩ := List.getElem_of_mem hl
  obtain ⟨h1, h2⟩ := h.down v l (by rw [List.getElem?_eq_getElem hv, e])
  have := few_below x.arcs.length l h1 (fun y hy => by
   obtain ⟨h3, a, h4, _⟩ := h2 y hy
   have := (List.getElem?_eq_some_iff.1 h4).1
   omega)
  omega
 exact ⟨⟨by omega, by omega, by omega, by omega, fun l hl => by have := hu l hl; omega, fun l hl => by have := hd l hl; omega⟩, by omega⟩
end Go.Proofs.Ytknhlpmmalcchaa

namespace Go.Proofs.Ytknhlpmmalcchaa
open Go Go.VAI
set_option linter.unusedSimpArgs false

end Go.Proofs.Ytknhlpmmalcchaa

namespace Go.Proofs.Ytknhlpmmalcchaa
open Go Go.VAI
set_option linter.unusedSimpArgs false

end Go.Proofs.Ytknhlpmmalcchaa

namespace Go.Proofs.Ytknhlpmmalcchaa
open Go Go.VAI
set_option linter.unusedSimpArgs false

end Go.Proofs.Ytknhlpmmalcchaa

namespace Go.Proofs.Ytknhlpmmalcchaa
open Go Go.VAI
set_option linter.unusedSimpArgs false

structure BRow (H : AHeap) (v : AVal) (b : List Int) : Prop where
 row : RowC H v 1 (u8s b)
 bytes : Bytes b
 len : b.length ≤ 1000000000
theorem BRow.kept {H H' : AHeap} {v : AVal} {b : List Int} (h : BRow H v b) (hk : Keep Nothing H H') : BRow H' v b := ⟨h.row.kept hk, h.bytes, h.len⟩
end Go.Proofs.Ytknhlpmmalcchaa

namespace Go.Proofs.Ytknhlpmmalcchaa
open Go Go.VAI
set_option linter.unusedSimpArgs false

def In (a b : Nat) (v : AVal) : Prop := ∀ j, sid v = some j → a ≤ j ∧ j < b
structure OwnRows (a b : Nat) (H : AHeap) (av : AVal) (us : List AVal) (ul : List (List Int)) : Prop where
 own : Own a H av 1 us
 len : us.length = ul.length
 rows : ∀ (i : Nat) r l, us[i]? = some r → ul[i]? = some l → Own a H r 1 (ints l)
 apart : ∀ (i : Nat) r j, us[i]? = some r → sid r = some j → sid av ≠ some j
 two : ∀ (i i' : Nat) r r' j, us[i]? = some r → us[i']? = some r' → sid r = some j → sid r' = some j → i = i'
 inA : In a b av
 inR : ∀ (i : Nat) r, us[i]? = some r → In a b r
theorem OwnRows.M {a b : Nat} {M : Nat → Prop} {H H' : AHeap} {av : AVal} {us : List AVal} {ul : List (List Int)} (h : OwnRows a b H av us ul) (hk : Keep M H H') (hM : ∀ j, a ≤ j → j < b → ¬ M j) : OwnRows a b H' av us ul :=
 ⟨h.own.keepM hk (fun j hj => hM j (h.inA j hj).1 (h.inA j hj).2), h.len, fun i r l e1 e2 => (h.rows i r l e1 e2).keepM hk (fun j hj => hM j (h.inR i r e1 j hj).1 (h.inR i r e1 j hj).2), h.apart, h.two, h.inA, h.inR⟩
theorem OwnRows.from {a b lo : Nat} {H : AHeap} {av : AVal} {us : List AVal} {ul : List (List Int)} (h : OwnRows a b H av us ul) (hlo : lo ≤ a) : FromRows lo H av ul :=
 ⟨us, ⟨h.own.row, fun j hj => by have := (h.inA j hj).1; omega⟩, h.len, fun i r l e1 e2 => ⟨(h.rows i r l e1 e2).row, fun j hj => by have := (h.inR i r e1 j hj).1; omega⟩⟩
end Go.Proofs.Ytknhlpmmalcchaa

namespace Go.Proofs.Ytknhlpmmalcchaa
open Go Go.VAI
set_option linter.unusedSimpArgs false

set_option maxRecDepth 20000 in
set_option maxHeartbeats 4000000 in
theorem ends_add_ret {lo o p : Nat} {x y : Int} {cs : List AVal} {r1 r2 : AVal} {l1 l2 : List Int} {H : AHeap} {Q : AVal → AHeap → Prop} (ho : H.obj o = some (.cells cs true)) (hp1 : cs[p]? = some r1) (hp2 : cs[p + 1]? = some r2)
  (g1 : Own lo H r1 1 (ints l1)) (g2 : Own lo H r2 1 (ints l2)) (hol : o < lo) (hlo : lo ≤ H.next) (hne : ∀ j, sid r1 = some j → sid r2 ≠ some j) (h1 : l1.length ≤ 1000000) (h2 : l2.length ≤ 1000000)
  (hq : ∀ r1' r2' H', Keep (fun j => j = o ∨ sid r1 = some j ∨ sid r2 = some j) H H' → H'.obj o = some (.cells ((cs.set p r1').set (p + 1) r2') true) → Own lo H' r1' 1 (ints (l1 ++ [x])) → Own lo H' r2' 1 (ints (l2 ++ [y])) →
   (∃ y1 y2, sid r1' = some y1 ∧ sid r2' = some y2 ∧ H.next ≤ y1 ∧ H.next ≤ y2 ∧ y1 ≠ y2) → Q (.tuple []) H') : Ret A 110 [.ptr o p, .int .i64 x, .int .i64 y] H Q := by
 refine Ret.of (fn := F110) rfl ?_
 have b2 := g2.beq
 simp (disch := first | omega | (simp only [nx] <;> omega) | fail) only [vaw, F110, ho, hp1, hp2, Nat.reduceAdd, Nat.reduceMul, Nat.reduceLeDiff, Nat.reduceEqDiff, ↓reduceIte]
 have kN : Keep Nothing H ((H.new (.cells [.int .i64 x] true)).new (.cells [.int .i64 y] true)) := ((Keep.refl _ _).new _).new _
 have oN : ((H.new (.cells [.int .i64 x] true)).new (.cells [.int .i64 y] true)).obj o = some (.cells cs true) := by rw [kN.old (by omega)]; exact ho
 have o1 : ((H.new (.cells [.int .i64 x] true)).new (.cells [.int .i64 y] true)).obj H.next = some (.cells [.int .i64 x] true) := by simp (disch := first | omega | (simp only [nx] <;> omega) | fail) only [vaim]
 have o2 : ((H.new (.cells [.int .i64 x] true)).new (.cells [.int .i64 y] true)).obj (H.next + 1) = some (.cells [.int .i64 y] true) := by simp (disch := first | omega | (simp only [nx] <;> omega) | fail) only [vaim]
 have nN : ((H.new (.cells [.int .i64 x] true)).new (.cells [.int .i64 y] true)).next = H.next + 2 := rfl
 generalize (H.new (.cells [.int .i64 x] true)).new (.cells [.int .i64 y] true) = HN at *
 have s1 : ∀ j, sid r1 = some j → lo ≤ j ∧ j < H.next := fun j hj => g1.sid_ge hj
 have s2 : ∀ j, sid r2 = some j → lo ≤ j ∧ j < H.next := fun j hj => g2.sid_ge hj
 refine app_ret (n := l1.length) (k := 1) (g1.kept kN) (y := H.next) (by rw [o1]; rfl) rfl (by omega) (by omega) (by rw [ints_length]; omega) (by omega) (by omega) ?_ (by omega) (Nat.le_refl _) (fun _ _ _ => rfl)
 intro r1' H2 n2 k2 e2 t2
 obtain ⟨y1, t2, hy1⟩ := t2
 have oA : H2.obj o = some (.cells cs true) := by rw [k2 _ (by omega) (fun e => by have := s1 _ e; omega)]; exact oN
 have o2A : H2.obj (H.next + 1) = some (.cells [.int .i64 y] true) := by rw [k2 _ (by omega) (fun e => by have := s1 _ e; omega)]; exact o2
 have g2A : Own lo H2 r2 1 (ints l2) := (g2.kept kN).keepM (M := fun j => sid r1 = some j) ⟨n2, k2⟩ (fun j hj e => hne j e hj)
 simp (disch := first | omega | (simp only [nx] <;> omega) | fail) only [vaw, oA, hp2, reK_same b2, Nat.reduceAdd, Nat.reduceMul, Nat.reduceLeDiff, Nat.reduceEqDiff, ↓reduceIte]
 refine app_ret (n := l2.length) (k := 1) g2A (y := H.next + 1) (by rw [o2A]; rfl) rfl (by omega) (by omega) (by rw [ints_length]; omega) (by omega) (by omega) ?_ (by omega) (Nat.le_refl _) (fun _ _ _ => rfl)
 intro r2' H3 n3 k3 e3 t3
 obtain ⟨y2, t3, hy2⟩ := t3
 have oB : H3.obj o = some (.cells cs true) := by rw [k3 _ (by omega) (fun e => by have := s2 _ e; omega)]; exact oA
 have hpl : p + 1 < cs.length := (List.getElem?_eq_some_iff.1 hp2).1
 have c1 := e2.cells
 have c2 := e3.cells
 have f1 := splice_one (l := cs) (p := p) (x := r1') (by omega)
 have f2 := splice_one (l := cs.set p r1') (p := p + 1) (x := r2') (by simp; omega)
 have hle1 : p + 1 ≤ cs.length := by omega
 have hle2 : p + 1 + 1 ≤ (cs.set p r1').length := by simp; omega
 simp (disch := first | omega | (simp only [nx] <;> omega) | fail) only [vaw, oB, c1, c2, f1, f2, hle1, hle2, Nat.reduceAdd, Nat.reduceMul, Nat.reduceLeDiff, Nat.reduceEqDiff, ↓reduceIte]
 have y1lt : y1 < H2.next := by
  have := (e2.sid_ge t2).2; omega
 have e2' : Own lo H3 r1' 1 (ints (l1 ++ [x])) := by
  rw [ints_append]
  exact e2.own.keepM (M := fun j => sid r2 = some j) ⟨n3, k3⟩ (fun j hj e => by rw [t2] at hj; injection hj with hj; have := s2 _ e; omega)
 have e3' : Own lo H3 r2' 1 (ints (l2 ++ [y])) := by rw [ints_append]; exact e3.own
 have kU : Keep (fun j => j = o) H3 ((H3.upd o (some (.cells (cs.set p r1') true))).upd o (some (.cells ((cs.set p r1').set (p + 1) r2') true))) := ((Keep.refl (fun j => j = o) _).upd (.inr rfl) _).upd (.inr rfl) _
 refine hq r1' r2' _ ⟨by simp only [next_upd]; omega, fun j hj hm => ?_⟩ (obj_upd_eq rfl) (e2'.keepM kU (fun j hj e => by rw [t2] at hj; injection hj with hj; omega)) (e3'.keepM kU (fun j hj e => by rw [t3] at hj; injection hj with hj; omega)) ⟨y1, y2, t2, t3, by omega, by omega, by omega⟩
 rw [obj_upd_ne (fun e => hm (.inl e)), obj_upd_ne (fun e => hm (.inl e)), k3 j (by omega) (fun e => hm (.inr (.inr e))), k2 j (by omega) (fun e => hm (.inr (.inl e))), kN.old hj]
theorem adj_is_ret {a o : Nat} {v : Int} {N : Nat} {h0 h1 h3 : AVal} {rw' : Bool} {H : AHeap} {Q : AVal → AHeap → Prop} (ho : H.obj a = some (.cells [h0, h1, .slice o 0 N (.exact N), h3] rw')) (hq : ∀ b, Says b (0 ≤ v ∧ v < N) → Q (.bool b) H) : Ret A 109 [.ptr a 0, .int .i64 v] H Q := by
 refine Ret.of (fn := F109) rfl ?_
 by_cases c1 : 0 ≤ v
 ·by_cases c2 : v < N
  ·simp (disch := first | omega | (simp only [nx] <;> omega) | fail) only [vaw, F109, ho, c1, c2, Nat.reduceAdd, Nat.reduceMul, Nat.reduceLeDiff, Nat.reduceEqDiff, ↓reduceIte]
   exact hq _ (says_yes ⟨c1, c2⟩)
  ·simp (disch := first | omega | (simp only [nx] <;> omega) | fail) only [vaw, F109, ho, c1, c2, Nat.reduceAdd, Nat.reduceMul, Nat.reduceLeDiff, Nat.reduceEqDiff, ↓reduceIte]
   exact hq _ (says_no fun h => c2 h.2)
 ·simp (disch := first | omega | (simp only [nx] <;> omega) | fail) only [vaw, F109, ho, c1, Nat.reduceAdd, Nat.reduceMul, Nat.reduceLeDiff, Nat.reduceEqDiff, ↓reduceIte]
  exact hq _ (says_no fun h => c1 h.1)
end Go.Proofs.Ytknhlpmmalcchaa

namespace Go.Proofs.Ytknhlpmmalcchaa
open Go Go.VAI
set_option linter.unusedSimpArgs false

structure Bag (lo : Nat) (H : AHeap) (rs : List AVal) (ls : List (List Int)) : Prop where
 len : rs.length = ls.length
 rows : ∀ (i : Nat) r l, rs[i]? = some r → ls[i]? = some l → Own lo H r 1 (ints l)
 two : ∀ (i i' : Nat) r r' j, rs[i]? = some r → rs[i']? = some r' → sid r = some j → sid r' = some j → i = i'
theorem Bag.keepM {lo : Nat} {M : Nat → Prop} {H H' : AHeap} {rs : List AVal} {ls : List (List Int)} (h : Bag lo H rs ls) (hk : Keep M H H') (hM : ∀ j, M j → j < lo) : Bag lo H' rs ls :=
 ⟨h.len, fun i r l e1 e2 => (h.rows i r l e1 e2).keepM hk (fun j hj hm => by have := ((h.rows i r l e1 e2).sid_ge hj).1; have := hM j hm; omega), h.two⟩
theorem Bag.kept {lo : Nat} {H H' : AHeap} {rs : List AVal} {ls : List (List Int)} (h : Bag lo H rs ls) (hk : Keep Nothing H H') : Bag lo H' rs ls := h.keepM hk (fun _ h => h.elim)
theorem set2_at {α : Type} {l : List α} {p i : Nat} {a b x : α} (hp : p + 1 < l.length) (h : ((l.set p a).set (p + 1) b)[i]? = some x) : (i = p ∧ x = a) ∨ (i = p + 1 ∧ x = b) ∨ (i ≠ p ∧ i ≠ p + 1 ∧ l[i]? = some x) := by
 rw [List.getElem?_set] at h
 split at h
 ·rename_i e
  subst e
  rw [List.length_set, if_pos hp] at h
  injection h with h
  exact .inr (.inl ⟨rfl, h.symm⟩)
 ·rename_i e
  rw [List.getElem?_set] at h
  split at h
  ·rename_i e2
   subst e2
   rw [if_pos (by omega)] at h
   injection h with h
   exact .inl ⟨rfl, h.symm⟩
  ·rename_i e2
   exact .inr (.inr ⟨fun h => e2 h.symm, fun h => e h.symm, h⟩)
theorem Bag.put {lo o p : Nat} {H H' : AHeap} {rs : List AVal} {ls : List (List Int)} {r1 r2 r1' r2' : AVal} {l1 l2 : List Int} (h : Bag lo H rs ls) (hp1 : rs[p]? = some r1) (hp2 : rs[p + 1]? = some r2) (hol : o < lo)
  (hk : Keep (fun j => j = o ∨ sid r1 = some j ∨ sid r2 = some j) H H') (g1 : Own lo H' r1' 1 (ints l1)) (g2 : Own lo H' r2' 1 (ints l2)) (hs : ∃ y1 y2, sid r1' = some y1 ∧ sid r2' = some y2 ∧ H.next ≤ y1 ∧ H.next ≤ y2 ∧ y1 ≠ y2) :
  Bag lo H' ((rs.set p r1').set (p + 1) r2') ((ls.set p l1).set (p + 1) l2) := by
 obtain ⟨y1, y2, t1, t2, q1, q2, q3⟩ := hs
 have hpl : p + 1 < rs.length := (List.getElem?_eq_some_iff.1 hp2).1
 have hl := h.len
 have old : ∀ (i : Nat) r j, rs[i]? = some r → sid r = some j → j < H.next := fun i r j e1 e2 => by
  have := (List.getElem?_eq_some_iff.1 e1).1
  exact ((h.rows i r (ls[i]'(by omega)) e1 (by simp)).sid_ge e2).2
 refine ⟨by simp [hl], fun i r l e1 e2 => ?_, fun i i' r r' j e1 e2 e3 e4 => ?_⟩
 ·rcases set2_at hpl e1 with ⟨hi, rfl⟩ | ⟨hi, rfl⟩ | ⟨n1, n2, e1⟩
  ·rcases set2_at (by omega) e2 with ⟨_, rfl⟩ | ⟨hi2, _⟩ | ⟨n1, _, _⟩
   ·exact g1
   ·omega
   ·exact absurd hi n1
  ·rcases set2_at (by omega) e2 with ⟨hi2, _⟩ | ⟨_, rfl⟩ | ⟨_, n2, _⟩
   ·omega
   ·exact g2
   ·exact absurd hi n2
  ·rcases set2_at (by omega) e2 with ⟨hi2, _⟩ | ⟨hi2, _⟩ | ⟨_, _, e2⟩
   ·exact absurd hi2 n1
   ·exact absurd hi2 n2
   ·refine (h.rows i r l e1 e2).keepM hk (fun j hj hm => ?_)
    rcases hm with hm | hm | hm
    ·have := ((h.rows i r l e1 e2).sid_ge hj).1; omega
    ·exact n1 (h.two i p r r1 j e1 hp1 hj hm)
    ·exact n2 (h.two i (p + 1) r r2 j e1 hp2 hj hm)
 ·rcases set2_at hpl e1 with ⟨hi, rfl⟩ | ⟨hi, rfl⟩ | ⟨n1, n2, f1⟩ <;> rcases set2_at hpl e2 with ⟨hi', hr'⟩ | ⟨hi', hr'⟩ | ⟨m1, m2, f2⟩
  ·omega
  ·subst hr'; rw [t1] at e3; rw [t2] at e4; injection e3 with e3; injection e4 with e4; omega
  ·rw [t1] at e3; injection e3 with e3; have := old i' r' j f2 e4; omega
  ·subst hr'; rw [t2] at e3; rw [t1] at e4; injection e3 with e3; injection e4 with e4; omega
  ·omega
  ·rw [t2] at e3; injection e3 with e3; have := old i' r' j f2 e4; omega
  ·subst hr'; rw [t1] at e4; injection e4 with e4; have := old i r j f1 e3; omega
  ·subst hr'; rw [t2] at e4; injection e4 with e4; have := old i r j f1 e3; omega
  ·exact h.two i i' r r' j f1 f2 e3 e4
theorem reps_two (n : Nat) : reps [.nilSlice, .nilSlice] n = List.replicate (2 * n) .nilSlice := by
 induction n with
 | zero => rfl
 | succ n ih => rw [reps, ih, show 2 * (n + 1) = 2 * n + 1 + 1 by omega, List.replicate_succ, List.replicate_succ]; rfl
abbrev isSrc (v : Int) : Edge → Bool := fun e => decide (e.src = v)
abbrev isDst (v : Int) : Edge → Bool := fun e => decide (e.dst = v)
structure AdjAt (H : AHeap) (a o i N : Nat) (es : List Edge) (ew : AVal) (uo ui : List AVal) : Prop where
 box : H.obj a = some (.cells [.int .i64 N, ew, .slice o 0 N (.exact N), .slice i 0 N (.exact N)] true)
 ed : Row H ew 4 (edgeCells es)
 oo : H.obj o = some (.cells uo true)
 oi : H.obj i = some (.cells ui true)
 lt : a < H.next ∧ o < H.next ∧ i < H.next
 lo : uo.length = 2 * N
 li : ui.length = 2 * N
 ro : ∀ v : Nat, v < N → ∃ r r', uo[2 * v]? = some r ∧ uo[2 * v + 1]? = some r' ∧ RowC H r 1 (ints (picks (isSrc v) es es.length)) ∧ r'.isCell = true
 ri : ∀ v : Nat, v < N → ∃ r r', ui[2 * v]? = some r ∧ ui[2 * v + 1]? = some r' ∧ RowC H r 1 (ints (picks (isDst v) es es.length)) ∧ r'.isCell = true
theorem AdjAt.kept {H H' : AHeap} {a o i N : Nat} {es : List Edge} {ew : AVal} {uo ui : List AVal} (h : AdjAt H a o i N es ew uo ui) (hk : Keep Nothing H H') : AdjAt H' a o i N es ew uo ui :=
 ⟨by rw [hk.old h.lt.1]; exact h.box, h.ed.kept hk, by rw [hk.old h.lt.2.1]; exact h.oo, by rw [hk.old h.lt.2.2]; exact h.oi, by have := h.lt; have := hk.next; omega, h.lo, h.li,
  fun v hv => by obtain ⟨r, r', h1, h2, h3, h4⟩ := h.ro v hv; exact ⟨r, r', h1, h2, h3.kept hk, h4⟩, fun v hv => by obtain ⟨r, r', h1, h2, h3, h4⟩ := h.ri v hv; exact ⟨r, r', h1, h2, h3.kept hk, h4⟩⟩
end Go.Proofs.Ytknhlpmmalcchaa

namespace Go.Proofs.Ytknhlpmmalcchaa
open Go Go.VAI
set_option linter.unusedSimpArgs false

structure AdjRows (N i : Nat) (es : List Edge) (ls : List (List Int)) : Prop where
 len : ls.length = 4 * N
 bd : ∀ l ∈ ls, l.length ≤ i
 src : ∀ v : Nat, v < N → ls[2 * v]? = some (picks (isSrc v) es i)
 dst : ∀ v : Nat, v < N → ls[2 * N + 2 * v]? = some (picks (isDst v) es i)
theorem set2_ne {α : Type} {l : List α} {p q i : Nat} {a b : α} (h1 : i ≠ p) (h2 : i ≠ q) : ((l.set p a).set q b)[i]? = l[i]? := by
 rw [List.getElem?_set, if_neg (fun h => h2 h.symm), List.getElem?_set, if_neg (fun h => h1 h.symm)]
theorem AdjRows.step {N i s d : Nat} {es : List Edge} {ls : List (List Int)} {e : Edge} (h : AdjRows N i es ls) (he : es[i]? = some e) (hs : e.src = s) (hd : e.dst = d) (hsN : s < N) (hdN : d < N) {lo li : List Int} (h1 : ls[2 * s + 1]? = some lo) (h2 : ls[2 * N + 2 * d + 1]? = some li) :
  AdjRows N (i + 1) es ((((ls.set (2 * s) (picks (isSrc s) es i ++ [(i : Int)])).set (2 * s + 1) (lo ++ [e.dst])).set (2 * N + 2 * d) (picks (isDst d) es i ++ [(i : Int)])).set (2 * N + 2 * d + 1) (li ++ [e.src])) := by
 have hl := h.len
 have b1 := h.bd lo (List.mem_of_getElem? h1)
 have b2 := h.bd li (List.mem_of_getElem? h2)
 refine ⟨by simp [hl], fun l hm => ?_, fun v hv => ?_, fun v hv => ?_⟩
 ·rcases List.mem_or_eq_of_mem_set hm with hm | hm
  ·rcases List.mem_or_eq_of_mem_set hm with hm | hm
   ·rcases List.mem_or_eq_of_mem_set hm with hm | hm
    ·rcases List.mem_or_eq_of_mem_set hm with hm | hm
     ·have := h.bd l hm; omega
     ·subst hm
      have := @picks_length (isSrc s) es i
      simp; omega
    ·subst hm; simp; omega
   ·subst hm
    have := @picks_length (isDst d) es i
    simp; omega
  ·subst hm; simp; omega
 ·rw [set2_ne (by omega) (by omega), picks_succ he]
  by_cases hvs : v = s
  ·subst hvs
   rw [List.getElem?_set, if_neg (by omega), List.getElem?_set, if_pos rfl, if_pos (by omega), if_pos (by simp [hs])]
  ·rw [set2_ne (by omega) (by omega), h.src v hv, if_neg (by simp [hs]; omega), List.append_nil]
 ·rw [picks_succ he]
  by_cases hvd : v = d
  ·subst hvd
   rw [List.getElem?_set, if_neg (by omega), List.getElem?_set, if_pos rfl, if_pos (by simp; omega), if_pos (by simp [hd])]
  ·rw [set2_ne (by omega) (by omega), set2_ne (by omega) (by omega), h.dst v hv, if_neg (by simp [hd]; omega), List.append_nil]
theorem apart_put {H : AHeap} {rs : List AVal} {w r1' r2' : AVal} {p : Nat} (ha : ∀ (k : Nat) r j, rs[k]? = some r → sid r = some j → sid w ≠ some j) (hlo : 0 ≤ p) (hw : ∀ j, sid w = some j → j < H.next) (hs : ∃ y1 y2, sid r1' = some y1 ∧ sid r2' = some y2 ∧ H.next ≤ y1 ∧ H.next ≤ y2 ∧ y1 ≠ y2) (hp : p + 1 < rs.length) :
  ∀ (k : Nat) r j, ((rs.set p r1').set (p + 1) r2')[k]? = some r → sid r = some j → sid w ≠ some j := by
 obtain ⟨y1, y2, t1, t2, q1, q2, -⟩ := hs
 intro k r j e1 e2 e3
 have := hw j e3
 rcases set2_at hp e1 with ⟨-, rfl⟩ | ⟨-, rfl⟩ | ⟨-, -, e⟩
 ·rw [t1] at e2; injection e2 with e2; omega
 ·rw [t2] at e2; injection e2 with e2; omega
 ·exact ha k r j e e2 e3
structure NewAt (H0 H : AHeap) (a o q N i : Nat) (es : List Edge) (ew : AVal) (uo ui : List AVal) (ls : List (List Int)) : Prop where
 keep : Keep Nothing H0 H
 box : H.obj a = some (.cells [.int .i64 N, ew, .slice o 0 N (.exact N), .slice q 0 N (.exact N)] true)
 ed : Own (a + 1) H ew 4 (edgeCells es)
 oo : H.obj o = some (.cells uo true)
 oi : H.obj q = some (.cells ui true)
 lo : uo.length = 2 * N
 li : ui.length = 2 * N
 bag : Bag (a + 1) H (uo ++ ui) ls
 rows : AdjRows N i es ls
 ord : H0.next ≤ o ∧ o < q ∧ q < a ∧ a < H.next
 apart : ∀ (k : Nat) r j, (uo ++ ui)[k]? = some r → sid r = some j → sid ew ≠ some j
theorem NewAt.kept {H0 H H' : AHeap} {a o q N i : Nat} {es : List Edge} {ew : AVal} {uo ui : List AVal} {ls : List (List Int)} (h : NewAt H0 H a o q N i es ew uo ui ls) (hk : Keep Nothing H H') : NewAt H0 H' a o q N i es ew uo ui ls := by
 have hb := h.ord
 have hn := hk.next
 exact ⟨h.keep.trans hk, by rw [hk.old (by omega)]; exact h.box, h.ed.kept hk, by rw [hk.old (by omega)]; exact h.oo, by rw [hk.old (by omega)]; exact h.oi, h.lo, h.li, h.bag.kept hk, h.rows, ⟨hb.1, hb.2.1, hb.2.2.1, by omega⟩, h.apart⟩
theorem NewAt.adj {H0 H : AHeap} {a o q N : Nat} {es : List Edge} {ew : AVal} {uo ui : List AVal} {ls : List (List Int)} (h : NewAt H0 H a o q N es.length es ew uo ui ls) : AdjAt H a o q N es ew uo ui := by
 have hb := h.ord
 have l1 := h.lo
 have l2 := h.li
 have hln := h.rows.len
 refine ⟨h.box, h.ed.row, h.oo, h.oi, ⟨by omega, by omega, by omega⟩, l1, l2, fun v hv => ?_, fun v hv => ?_⟩
 ·have e1 : uo[2 * v]? = some (uo[2 * v]'(by omega)) := by simp
  have e2 : uo[2 * v + 1]? = some (uo[2 * v + 1]'(by omega)) := by simp
  refine ⟨_, _, e1, e2, (h.bag.rows (2 * v) _ _ (by rw [List.getElem?_append_left (by omega)]; exact e1) (h.rows.src v hv)).rowC, ?_⟩
  exact (h.bag.rows (2 * v + 1) _ (ls[2 * v + 1]'(by omega)) (by rw [List.getElem?_append_left (by omega)]; exact e2) (by simp)).isCell
 ·have e1 : ui[2 * v]? = some (ui[2 * v]'(by omega)) := by simp
  have e2 : ui[2 * v + 1]? = some (ui[2 * v + 1]'(by omega)) := by simp
  refine ⟨_, _, e1, e2, (h.bag.rows (2 * N + 2 * v) _ _ (by rw [List.getElem?_append_right (by omega), l1, Nat.add_sub_cancel_left]; exact e1) (h.rows.dst v hv)).rowC, ?_⟩
  exact (h.bag.rows (2 * N + 2 * v + 1) _ (ls[2 * N + 2 * v + 1]'(by omega)) (by rw [List.getElem?_append_right (by omega), l1, show 2 * N + 2 * v + 1 - 2 * N = 2 * v + 1 by omega]; exact e2) (by simp)).isCell
set_option maxRecDepth 20000 in
set_option maxHeartbeats 8000000 in
theorem adjNew_ret {N : Nat} {ev : AVal} {es : List Edge} {H : AHeap} {Q : AVal → AHeap → Prop} (hr : Row H ev 4 (edgeCells es)) (hnet : ∀ e ∈ es, EdgeOk N e) (hN : N ≤ 1000) (hn : es.length ≤ 1000)
  (hq : ∀ a o i ew uo ui H', Keep Nothing H H' → AdjAt H' a o i N es ew uo ui → Q (.ptr a 0) H') : Ret A 81 [.agg [.int .i64 N, ev]] H Q := by
 refine Ret.of (fn := F81) rfl ?_
 have hl := hr.len (by omega) (edgeCells_length es)
 have be := hr.beq
 have hN0 : ¬ (N : Int) < 0 := by omega
 have hm1 : ((N : Nat) : Int) * ((48 : Nat) : Int) ≤ 140737488355328 := by omega
 simp (disch := first | omega | (simp only [nx] <;> omega) | fail) only [vaw, F81, max_two, hN0, amkSlice_int hm1 (by omega), reK_same be, Nat.reduceAdd, Nat.reduceMul, Nat.reduceLeDiff, Nat.reduceEqDiff, ↓reduceIte]
 rw [reps_two]
 have kN : Keep Nothing H ((((H.new (.cells [.int .i64 N, ev] true)).new (.cells (List.replicate (2 * N) .nilSlice) true)).new (.cells (List.replicate (2 * N) .nilSlice) true)).new (.cells [.int .i64 0, .nilSlice, .slice (H.next + 1) 0 N (.exact N), .slice (H.next + 2) 0 N (.exact N)] true)) := ((((Keep.refl _ _).new _).new _).new _).new _
 have oN : ((((H.new (.cells [.int .i64 N, ev] true)).new (.cells (List.replicate (2 * N) .nilSlice) true)).new (.cells (List.replicate (2 * N) .nilSlice) true)).new (.cells [.int .i64 0, .nilSlice, .slice (H.next + 1) 0 N (.exact N), .slice (H.next + 2) 0 N (.exact N)] true)).obj (H.next + 3) = some (.cells [.int .i64 0, .nilSlice, .slice (H.next + 1) 0 N (.exact N), .slice (H.next + 2) 0 N (.exact N)] true) := by simp (disch := first | omega | (simp only [nx] <;> omega) | fail) only [vaim]
 have o0 : ((((H.new (.cells [.int .i64 N, ev] true)).new (.cells (List.replicate (2 * N) .nilSlice) true)).new (.cells (List.replicate (2 * N) .nilSlice) true)).new (.cells [.int .i64 0, .nilSlice, .slice (H.next + 1) 0 N (.exact N), .slice (H.next + 2) 0 N (.exact N)] true)).obj H.next = some (.cells [.int .i64 N, ev] true) := by simp (disch := first | omega | (simp only [nx] <;> omega) | fail) only [vaim]
 have o1 : ((((H.new (.cells [.int .i64 N, ev] true)).new (.cells (List.replicate (2 * N) .nilSlice) true)).new (.cells (List.replicate (2 * N) .nilSlice) true)).new (.cells [.int .i64 0, .nilSlice, .slice (H.next + 1) 0 N (.exact N), .slice (H.next + 2) 0 N (.exact N)] true)).obj (H.next + 1) = some (.cells (List.replicate (2 * N) .nilSlice) true) := by simp (disch := first | omega | (simp only [nx] <;> omega) | fail) only [vaim]
 have o2 : ((((H.new (.cells [.int .i64 N, ev] true)).new (.cells (List.replicate (2 * N) .nilSlice) true)).new (.cells (List.replicate (2 * N) .nilSlice) true)).new (.cells [.int .i64 0, .nilSlice, .slice (H.next + 1) 0 N (.exact N), .slice (H.next + 2) 0 N (.exact N)] true)).obj (H.next + 2) = some (.cells (List.replicate (2 * N) .nilSlice) true) := by simp (disch := first | omega | (simp only [nx] <;> omega) | fail) only [vaim]
 have nN : ((((H.new (.cells [.int .i64 N, ev] true)).new (.cells (List.replicate (2 * N) .nilSlice) true)).new (.cells (List.replicate (2 * N) .nilSlice) true)).new (.cells [.int .i64 0, .nilSlice, .slice (H.next + 1) 0 N (.exact N), .slice (H.next + 2) 0 N (.exact N)] true)).next = H.next + 4 := rfl
 generalize (((H.new (.cells [.int .i64 N, ev] true)).new (.cells (List.replicate (2 * N) .nilSlice) true)).new (.cells (List.replicate (2 * N) .nilSlice) true)).new (.cells [.int .i64 0, .nilSlice, .slice (H.next + 1) 0 N (.exact N), .slice (H.next + 2) 0 N (.exact N)] true) = HN at *
 refine cloneE_ret (hr.kept kN) (by omega) fun ew H1 k1 g1 => ?_
 rw [nN] at g1
 have p3 := (k1.old (i := H.next + 3) (by omega)).trans oN
 have p0 := (k1.old (i := H.next) (by omega)).trans o0
 have p1 := (k1.old (i := H.next + 1) (by omega)).trans o1
 have p2 := (k1.old (i := H.next + 2) (by omega)).trans o2
 have c1 := g1.cells
 have n1 := k1.next
 simp (disch := first | omega | (simp only [nx] <;> omega) | fail) only [vaw, p3, p0, c1, hl, Nat.reduceAdd, Nat.reduceMul, Nat.reduceLeDiff, Nat.reduceEqDiff, ↓reduceIte]
 have kU : Keep (fun j => j = H.next + 3) H1 (H1.upd (H.next + 3) (some (.cells [.int .i64 N, ew, .slice (H.next + 1) 0 N (.exact N), .slice (H.next + 2) 0 N (.exact N)] true))) := (Keep.refl (fun j => j = H.next + 3) _).upd (.inr rfl) _
 have start : NewAt H (H1.upd (H.next + 3) (some (.cells [.int .i64 N, ew, .slice (H.next + 1) 0 N (.exact N), .slice (H.next + 2) 0 N (.exact N)] true))) (H.next + 3) (H.next + 1) (H.next + 2) N 0 es ew (List.replicate (2 * N) .nilSlice) (List.replicate (2 * N) .nilSlice) (List.replicate (4 * N) []) := by
  refine ⟨(kN.trans k1).upd (.inl (by omega)) _, obj_upd_eq rfl, g1.keepM kU (fun j hj e => by have := (g1.sid_ge hj).1; omega), ?_, ?_, by simp, by simp, ⟨by simp; omega, fun i r l e1 e2 => ?_, fun i i' r r' j e1 _ e3 _ => ?_⟩, ⟨by simp, fun l hm => ?_, fun v hv => ?_, fun v hv => ?_⟩, ⟨by omega, by omega, by omega, by simp only [next_upd]; omega⟩, fun k r j e1 e2 => ?_⟩
  ·rw [obj_upd_ne (by omega)]; exact p1
  ·rw [obj_upd_ne (by omega)]; exact p2
  ·have := List.mem_of_getElem? e1
   have h2 := List.mem_of_getElem? e2
   simp at this h2
   obtain ⟨-, rfl⟩ := h2
   have : r = .nilSlice := this.2
   subst this
   exact .nil
  ·have := List.mem_of_getElem? e1
   simp at this
   have : r = .nilSlice := this.2
   subst this
   cases e3
  ·simp at hm; simp [hm.2]
  ·rw [List.getElem?_replicate, if_pos (by omega)]; rfl
  ·rw [List.getElem?_replicate, if_pos (by omega)]; rfl
  ·have := List.mem_of_getElem? e1
   simp at this
   have : r = .nilSlice := this.2
   subst this
   cases e2
 refine wpx_loop (fun m t H' => ∃ (i : Nat) (uo ui : List AVal) (ls : List (List Int)), m = es.length - i ∧ i ≤ es.length ∧ t = (bots 3 (.ptr (H.next + 3) 0 :: bots 22 (ev :: .int .i64 es.length :: .int .i64 i :: bots 38 ([]))) : Tmps) ∧ NewAt H H' (H.next + 3) (H.next + 1) (H.next + 2) N i es ew uo ui ls) es.length ?_ ?_
 ·exact ⟨0, _, _, _, rfl, by omega, rfl, start⟩
 ·clear start kU
  rintro m t H2 ⟨i, uo, ui, ls, rfl, hi, rfl, g⟩
  by_cases hc : (i : Int) < es.length
  ·have hil : i < es.length := by omega
   have he : es[i]? = some es[i] := by simp [hil]
   obtain ⟨id, off, e1, hid2, e2, e3, e4, e5, e6⟩ := edge_at (hr.kept g.keep) he
   have hmem := List.getElem_mem hil
   have hok := hnet _ hmem
   generalize es[i] = e at *
   obtain ⟨⟨s0, s1⟩, ⟨d0, d1⟩, -, -⟩ := hok
   simp only [Edge.cells] at e6
   simp (disch := first | omega | (simp only [nx] <;> omega) | fail) only [vaw, hc, e1, e6, Nat.reduceAdd, Nat.reduceMul, Nat.reduceLeDiff, Nat.reduceEqDiff, ↓reduceIte]
   have k3 : Keep Nothing H2 ((H2.new (.cells [.int .i64 0, .int .i64 0, .int .i64 0, .int .i64 0] true)).upd H2.next (some (.cells [.int .i64 e.src, .int .i64 e.dst, .int .i64 e.mode, .int .i64 e.cost] true))) := ((Keep.refl _ _).new _).upd (.inl (Nat.le_refl _)) _
   have o3 : ((H2.new (.cells [.int .i64 0, .int .i64 0, .int .i64 0, .int .i64 0] true)).upd H2.next (some (.cells [.int .i64 e.src, .int .i64 e.dst, .int .i64 e.mode, .int .i64 e.cost] true))).obj H2.next = some (.cells [.int .i64 e.src, .int .i64 e.dst, .int .i64 e.mode, .int .i64 e.cost] true) := obj_upd_eq rfl
   have n3 : ((H2.new (.cells [.int .i64 0, .int .i64 0, .int .i64 0, .int .i64 0] true)).upd H2.next (some (.cells [.int .i64 e.src, .int .i64 e.dst, .int .i64 e.mode, .int .i64 e.cost] true))).next = H2.next + 1 := rfl
   generalize (H2.new (.cells [.int .i64 0, .int .i64 0, .int .i64 0, .int .i64 0] true)).upd H2.next (some (.cells [.int .i64 e.src, .int .i64 e.dst, .int .i64 e.mode, .int .i64 e.cost] true)) = H3 at *
   have g3 : NewAt H H3 (H.next + 3) (H.next + 1) (H.next + 2) N i es ew uo ui ls := g.kept k3
   obtain ⟨s, hs⟩ := Int.eq_ofNat_of_zero_le s0
   obtain ⟨d, hd⟩ := Int.eq_ofNat_of_zero_le d0
   have sN : s < N := by omega
   have dN : d < N := by omega
   rw [hs, hd] at o3
   have bx := g3.box
   refine adj_is_ret bx fun b sb => ?_
   have hb : b = true := sb.2 ⟨s0, s1⟩
   subst hb
   simp (disch := first | omega | (simp only [nx] <;> omega) | fail) only [vaw, o3, Nat.reduceAdd, Nat.reduceMul, Nat.reduceLeDiff, Nat.reduceEqDiff, ↓reduceIte]
   refine adj_is_ret bx fun b sb => ?_
   have hb : b = true := sb.2 ⟨by omega, by omega⟩
   subst hb
   have ms : s * 2 = 2 * s := Nat.mul_comm _ _
   have md : d * 2 = 2 * d := Nat.mul_comm _ _
   simp (disch := first | omega | (simp only [nx] <;> omega) | fail) only [vaw, o3, bx, ms, Int.toNat_natCast, Nat.reduceAdd, Nat.reduceMul, Nat.reduceLeDiff, Nat.reduceEqDiff, ↓reduceIte]
   have ob := g3.ord
   have l1 := g3.lo
   have l2 := g3.li
   have hln := g3.rows.len
   obtain ⟨r1, u1⟩ : ∃ r, uo[2 * s]? = some r := ⟨_, List.getElem?_eq_getElem (by omega)⟩
   obtain ⟨r2, u2⟩ : ∃ r, uo[2 * s + 1]? = some r := ⟨_, List.getElem?_eq_getElem (by omega)⟩
   obtain ⟨m2, w2⟩ : ∃ r, ls[2 * s + 1]? = some r := ⟨_, List.getElem?_eq_getElem (by omega)⟩
   obtain ⟨m4, w4⟩ : ∃ r, ls[2 * N + 2 * d + 1]? = some r := ⟨_, List.getElem?_eq_getElem (by omega)⟩
   have w1 := g3.rows.src s sN
   have w3 := g3.rows.dst d dN
   have v1 : (uo ++ ui)[2 * s]? = some r1 := by rw [List.getElem?_append_left (by omega)]; exact u1
   have v2 : (uo ++ ui)[2 * s + 1]? = some r2 := by rw [List.getElem?_append_left (by omega)]; exact u2
   have b1 := g3.rows.bd _ (List.mem_of_getElem? w1)
   have b2 := g3.rows.bd _ (List.mem_of_getElem? w2)
   have b3 := g3.rows.bd _ (List.mem_of_getElem? w3)
   have b4 := g3.rows.bd _ (List.mem_of_getElem? w4)
   have n2 : H.next + 3 < H2.next := g.ord.2.2.2
   have x1 := fun j hj => (g.bag.rows _ _ _ v1 w1).sid_ge (j := j) hj
   have x2 := fun j hj => (g.bag.rows _ _ _ v2 w2).sid_ge (j := j) hj
   refine ends_add_ret g3.oo u1 u2 (g3.bag.rows _ _ _ v1 w1) (g3.bag.rows _ _ _ v2 w2) (by omega) (by omega) (fun j h h' => by have := g3.bag.two _ _ _ _ j v1 v2 h h'; omega) (by omega) (by omega) fun r1' r2' H4 k4 o4 q1 q2 t => ?_
   have bag4 := g3.bag.put v1 v2 (by omega) k4 q1 q2 t
   have ed4 : Own (H.next + 3 + 1) H4 ew 4 (edgeCells es) := g3.ed.keepM k4 (fun j hj hm => by
    rcases hm with hm | hm | hm
    ·have := (g3.ed.sid_ge hj).1; omega
    ·exact g3.apart _ _ _ v1 hm hj
    ·exact g3.apart _ _ _ v2 hm hj)
   have ap4 := apart_put (w := ew) g3.apart (by omega) (fun j hj => (g3.ed.sid_ge hj).2) t (p := 2 * s) (by rw [List.length_append]; omega)
   have k4' : Keep Nothing H H4 := g3.keep.trans' k4 (fun j hj hm => by
    rcases hm with hm | hm | hm
    ·omega
    ·have := (x1 j hm).1; omega
    ·have := (x2 j hm).1; omega)
   have bx4 := (k4.obj (H.next + 3) (by omega) (fun hm => by
    rcases hm with hm | hm | hm
    ·omega
    ·have := (x1 _ hm).1; omega
    ·have := (x2 _ hm).1; omega)).trans bx
   have oi4 := (k4.obj (H.next + 2) (by omega) (fun hm => by
    rcases hm with hm | hm | hm
    ·omega
    ·have := (x1 _ hm).1; omega
    ·have := (x2 _ hm).1; omega)).trans g3.oi
   have o34 := (k4.obj H2.next (by omega) (fun hm => by
    rcases hm with hm | hm | hm
    ·omega
    ·have := (x1 _ hm).2; omega
    ·have := (x2 _ hm).2; omega)).trans o3
   have n4 := k4.next
   rw [List.set_append_left _ _ (by omega), List.set_append_left _ _ (by rw [List.length_set]; omega)] at bag4 ap4
   simp (disch := first | omega | (simp only [nx] <;> omega) | fail) only [vaw, o34, bx4, md, Int.toNat_natCast, Nat.reduceAdd, Nat.reduceMul, Nat.reduceLeDiff, Nat.reduceEqDiff, ↓reduceIte]
   obtain ⟨r3, u3⟩ : ∃ r, ui[2 * d]? = some r := ⟨_, List.getElem?_eq_getElem (by omega)⟩
   obtain ⟨r4, u4⟩ : ∃ r, ui[2 * d + 1]? = some r := ⟨_, List.getElem?_eq_getElem (by omega)⟩
   have l1' : ((uo.set (2 * s) r1').set (2 * s + 1) r2').length = 2 * N := by simp [l1]
   have L : (((uo.set (2 * s) r1').set (2 * s + 1) r2') ++ ui).length = 4 * N := by rw [List.length_append, l1']; omega
   have v3 : (((uo.set (2 * s) r1').set (2 * s + 1) r2') ++ ui)[2 * N + 2 * d]? = some r3 := by rw [List.getElem?_append_right (by omega), l1', Nat.add_sub_cancel_left]; exact u3
   have v4 : (((uo.set (2 * s) r1').set (2 * s + 1) r2') ++ ui)[2 * N + 2 * d + 1]? = some r4 := by rw [List.getElem?_append_right (by omega), l1', show 2 * N + 2 * d + 1 - 2 * N = 2 * d + 1 by omega]; exact u4
   have w3' : ((ls.set (2 * s) (picks (isSrc s) es i ++ [(i : Int)])).set (2 * s + 1) (m2 ++ [(d : Int)]))[2 * N + 2 * d]? = some (picks (isDst d) es i) := by rw [set2_ne (by omega) (by omega)]; exact w3
   have w4' : ((ls.set (2 * s) (picks (isSrc s) es i ++ [(i : Int)])).set (2 * s + 1) (m2 ++ [(d : Int)]))[2 * N + 2 * d + 1]? = some m4 := by rw [set2_ne (by omega) (by omega)]; exact w4
   have x3 := fun j hj => (bag4.rows _ _ _ v3 w3').sid_ge (j := j) hj
   have x4 := fun j hj => (bag4.rows _ _ _ v4 w4').sid_ge (j := j) hj
   refine ends_add_ret oi4 u3 u4 (bag4.rows _ _ _ v3 w3') (bag4.rows _ _ _ v4 w4') (by omega) (by omega) (fun j h h' => by have := bag4.two _ _ _ _ j v3 v4 h h'; omega) (by omega) (by omega) fun r3' r4' H5 k5 o5 q3 q4 t5 => ?_
   have bag5 := bag4.put v3 v4 (by omega) k5 q3 q4 t5
   have ap5 := apart_put (w := ew) ap4 (by omega) (fun j hj => (ed4.sid_ge hj).2) t5 (p := 2 * N + 2 * d) (by omega)
   rw [List.set_append_right _ _ (by omega), l1', Nat.add_sub_cancel_left, List.set_append_right _ _ (by omega), l1', show 2 * N + 2 * d + 1 - 2 * N = 2 * d + 1 by omega] at bag5 ap5
   have ed5 : Own (H.next + 3 + 1) H5 ew 4 (edgeCells es) := ed4.keepM k5 (fun j hj hm => by
    rcases hm with hm | hm | hm
    ·have := (ed4.sid_ge hj).1; omega
    ·exact ap4 _ _ _ v3 hm hj
    ·exact ap4 _ _ _ v4 hm hj)
   have k5' : Keep Nothing H H5 := k4'.trans' k5 (fun j hj hm => by
    rcases hm with hm | hm | hm
    ·omega
    ·have := (x3 j hm).1; omega
    ·have := (x4 j hm).1; omega)
   have bx5 := (k5.obj (H.next + 3) (by omega) (fun hm => by
    rcases hm with hm | hm | hm
    ·omega
    ·have := (x3 _ hm).1; omega
    ·have := (x4 _ hm).1; omega)).trans bx4
   have oo5 := (k5.obj (H.next + 1) (by omega) (fun hm => by
    rcases hm with hm | hm | hm
    ·omega
    ·have := (x3 _ hm).1; omega
    ·have := (x4 _ hm).1; omega)).trans o4
   have n5 := k5.next
   have rows5 := g3.rows.step he hs hd sN dN w2 w4
   rw [hs, hd] at rows5
   simp (disch := first | omega | (simp only [nx] <;> omega) | fail) only [vaw, Nat.reduceAdd, Nat.reduceMul, Nat.reduceLeDiff, Nat.reduceEqDiff, ↓reduceIte]
   exact ⟨es.length - (i + 1), by omega, i + 1, _, _, _, rfl, by omega, rfl, k5', bx5, ed5, oo5, o5, l1', by simp [l2], bag5, rows5, ⟨by omega, by omega, by omega, by omega⟩, ap5⟩
  ·have : i = es.length := by omega
   subst this
   simp (disch := first | omega | (simp only [nx] <;> omega) | fail) only [vaw, hc, Nat.reduceAdd, Nat.reduceMul, Nat.reduceLeDiff, Nat.reduceEqDiff, ↓reduceIte]
   exact hq _ _ _ _ _ _ _ g.keep g.adj
end Go.Proofs.Ytknhlpmmalcchaa

namespace Go.Proofs.Ytknhlpmmalcchaa
open Go Go.VAI
set_option linter.unusedSimpArgs false

theorem RowC.whole {H : AHeap} {v : AVal} {sz n : Nat} {cs : List AVal} (h : RowC H v sz cs) (hsz : 0 < sz) (hn : cs.length = n * sz) {kd : IntKind} : ∃ v', aslice sz v none (some (.int kd (n : Int))) (some (.int kd (n : Int))) = some v' ∧ Row H v' sz cs := by
 obtain ⟨hr, ho⟩ := h
 cases hr with
 | nil =>
  have : n = 0 := by
   rcases Nat.eq_zero_or_pos n with h | h
   ·exact h
   ·have := Nat.mul_pos h hsz; simp at hn; omega
  subst this
  exact ⟨.nilSlice, by simp [aslice, obound, bound, bnd], .nil⟩
 | @mk id off len _ cap c _ hid hc hl hcs =>
  subst hcs
  simp only [List.length_take, List.length_drop] at hn
  have : len * sz = n * sz := by omega
  have hln := Nat.eq_of_mul_eq_mul_right hsz this
  subst hln
  have e : aslice sz (.slice id off len cap) none (some (.int kd (len : Int))) (some (.int kd (len : Int))) = some (.slice id off len (.exact len)) := by
   have hl2 : len ≤ cap.top len := by
    cases cap with
    | exact m => exact ho
    | room s => exact Nat.le_refl _
   have : (len : Int) ≤ (cap.top len : Int) := by omega
   simp [aslice, obound, bound, bnd, this]
  exact ⟨_, e, .mk (c := c) hid hc (by omega) rfl⟩
theorem side_ret {a o N : Nat} {v : Nat} {h0 h1 h3 : AVal} {r r' : AVal} {rw' : Bool} {so : Nat} {us : List AVal} {H : AHeap} {Q : AVal → AHeap → Prop} (ho : H.obj a = some (.cells [h0, h1, .slice o 0 N (.exact N), h3] rw')) (hal : a < H.next) (hso : so < H.next) (hv : v < N) (hu : H.obj so = some (.cells us true)) (hul : us.length = 2 * N) (hr : us[2 * v]? = some r) (hr' : us[2 * v + 1]? = some r')
  (hq : ∀ H', Keep Nothing H H' → Q (.agg [r, r']) H') : Ret A 111 [.ptr a 0, .slice so 0 N (.exact N), .int .i64 v] H Q := by
 refine Ret.of (fn := F111) rfl ?_
 simp (disch := first | omega | (simp only [nx] <;> omega) | fail) only [vaw, F111, Nat.reduceAdd, Nat.reduceMul, Nat.reduceLeDiff, Nat.reduceEqDiff, ↓reduceIte]
 have k1 : Keep Nothing H (H.new (.cells [.nilSlice, .nilSlice] true)) := (Keep.refl _ _).new _
 have b1 := (k1.old hal).trans ho
 have u1 := (k1.old hso).trans hu
 have f1 : (H.new (.cells [.nilSlice, .nilSlice] true)).obj H.next = some (.cells [.nilSlice, .nilSlice] true) := obj_new_eq rfl
 have n1 : (H.new (.cells [.nilSlice, .nilSlice] true)).next = H.next + 1 := rfl
 generalize H.new (.cells [.nilSlice, .nilSlice] true) = H1 at *
 refine adj_is_ret b1 fun b sb => ?_
 have hb : b = true := sb.2 ⟨by omega, by omega⟩
 subst hb
 have mv : v * 2 = 2 * v := Nat.mul_comm _ _
 have hle : 2 * v + 2 ≤ us.length := by omega
 have d1 : (us.drop (2 * v)).take 2 = [r, r'] := by
  obtain ⟨l1, e1⟩ := List.getElem?_eq_some_iff.1 hr
  obtain ⟨l2, e2⟩ := List.getElem?_eq_some_iff.1 hr'
  rw [List.drop_eq_getElem_cons l1, List.drop_eq_getElem_cons l2, e1, e2]; rfl
 simp (disch := first | omega | (simp only [nx] <;> omega) | fail) only [vaw, u1, mv, Int.toNat_natCast, hle, d1, f1, Nat.reduceAdd, Nat.reduceMul, Nat.reduceLeDiff, Nat.reduceEqDiff, ↓reduceIte]
 exact hq _ (k1.upd (.inl (Nat.le_refl _)) _)
theorem list_ret {r r' : AVal} {xs : List Int} {H : AHeap} {Q : AVal → AHeap → Prop} (hr : RowC H r 1 (ints xs)) (hn : xs.length ≤ 1000000) (hq : ∀ v' H', Keep Nothing H H' → Own H.next H' v' 1 (ints xs) → Q v' H') : Ret A 114 [.agg [r, r']] H Q := by
 refine Ret.of (fn := F114) rfl ?_
 have hl := hr.1.len1
 rw [ints_length] at hl
 obtain ⟨v', e1, r1⟩ := RowC.whole hr (n := xs.length) (kd := .i64) (by omega) (by rw [ints_length, Nat.mul_one])
 simp (disch := first | omega | (simp only [nx] <;> omega) | fail) only [vaw, F114, hl, e1, Nat.reduceAdd, Nat.reduceMul, Nat.reduceLeDiff, Nat.reduceEqDiff, ↓reduceIte]
 have k1 : Keep Nothing H (H.new (.cells [r, r'] true)) := (Keep.refl _ _).new _
 refine cloneI_ret (r1.kept k1) (by omega) fun v2 H2 k2 g2 => ?_
 simp (disch := first | omega | (simp only [nx] <;> omega) | fail) only [vaw, g2.notBot, Nat.reduceAdd, Nat.reduceMul, Nat.reduceLeDiff, Nat.reduceEqDiff, ↓reduceIte]
 exact hq _ _ (k1.trans k2) (g2.lower (by have := k1.next; omega))
theorem adjOut_ret {a o i N : Nat} {v : Nat} {es : List Edge} {ew : AVal} {uo ui : List AVal} {H : AHeap} {Q : AVal → AHeap → Prop} (h : AdjAt H a o i N es ew uo ui) (hv : v < N) (hn : es.length ≤ 1000)
  (hq : ∀ v' H', Keep Nothing H H' → Own H.next H' v' 1 (ints (picks (isSrc v) es es.length)) → Q v' H') : Ret A 85 [.ptr a 0, .int .i64 v] H Q := by
 refine Ret.of (fn := F85) rfl ?_
 have bx := h.box
 obtain ⟨r, r', u1, u2, rc, -⟩ := h.ro v hv
 have hl := @picks_length (isSrc v) es es.length
 simp (disch := first | omega | (simp only [nx] <;> omega) | fail) only [vaw, F85, bx, Nat.reduceAdd, Nat.reduceMul, Nat.reduceLeDiff, Nat.reduceEqDiff, ↓reduceIte]
 refine side_ret bx h.lt.1 h.lt.2.1 hv h.oo h.lo u1 u2 fun H1 k1 => ?_
 simp (disch := first | omega | (simp only [nx] <;> omega) | fail) only [vaw, Nat.reduceAdd, Nat.reduceMul, Nat.reduceLeDiff, Nat.reduceEqDiff, ↓reduceIte]
 refine list_ret (RowC.kept rc k1) (by omega) fun v2 H2 k2 g2 => ?_
 simp (disch := first | omega | (simp only [nx] <;> omega) | fail) only [vaw, g2.notBot, Nat.reduceAdd, Nat.reduceMul, Nat.reduceLeDiff, Nat.reduceEqDiff, ↓reduceIte]
 exact hq _ _ (k1.trans k2) (g2.lower k1.next)
theorem adjIn_ret {a o i N : Nat} {v : Nat} {es : List Edge} {ew : AVal} {uo ui : List AVal} {H : AHeap} {Q : AVal → AHeap → Prop} (h : AdjAt H a o i N es ew uo ui) (hv : v < N) (hn : es.length ≤ 1000)
  (hq : ∀ v' H', Keep Nothing H H' → Own H.next H' v' 1 (ints (picks (isDst v) es es.length)) → Q v' H') : Ret A 86 [.ptr a 0, .int .i64 v] H Q := by
 refine Ret.of (fn := F86) rfl ?_
 have bx := h.box
 obtain ⟨r, r', u1, u2, rc, -⟩ := h.ri v hv
 have hl := @picks_length (isDst v) es es.length
 simp (disch := first | omega | (simp only [nx] <;> omega) | fail) only [vaw, F86, bx, Nat.reduceAdd, Nat.reduceMul, Nat.reduceLeDiff, Nat.reduceEqDiff, ↓reduceIte]
 refine side_ret bx h.lt.1 h.lt.2.2 hv h.oi h.li u1 u2 fun H1 k1 => ?_
 simp (disch := first | omega | (simp only [nx] <;> omega) | fail) only [vaw, Nat.reduceAdd, Nat.reduceMul, Nat.reduceLeDiff, Nat.reduceEqDiff, ↓reduceIte]
 refine list_ret (RowC.kept rc k1) (by omega) fun v2 H2 k2 g2 => ?_
 simp (disch := first | omega | (simp only [nx] <;> omega) | fail) only [vaw, g2.notBot, Nat.reduceAdd, Nat.reduceMul, Nat.reduceLeDiff, Nat.reduceEqDiff, ↓reduceIte]
 exact hq _ _ (k1.trans k2) (g2.lower k1.next)
end Go.Proofs.Ytknhlpmmalcchaa
