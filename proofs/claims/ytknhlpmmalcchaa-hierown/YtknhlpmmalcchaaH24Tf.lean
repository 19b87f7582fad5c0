/- Steps of the walk. -/
import Derived.Test.YtknhlpmmalcchaaH24Te
import Derived.Test.YtknhlpmmalcchaaH24Tb
import Derived.Sort.AssemblyPlain
import Derived.Test.YtknhlpmmalcchaaH24Ta
import Derived.Sort.LotA
import Derived.Test.YtknhlpmmalcchaaH24Td
set_option linter.all false
set_option linter.unusedVariables false
set_option linter.unusedSimpArgs false
namespace Go.Proofs.Ytknhlpmmalcchaa
open Go Go.VAI
set_option linter.unusedSimpArgs false

structure Sp (a0 a1 a2 a3 a4 a5 : Nat) (H : AHeap) (ew rv av uv dv : AVal) (LE R LA : List Int) (us ds : List AVal) (up down : List (List Int)) : Prop where
 er : Own a4 H ew 4 (ints LE)
 ei : In a4 a5 ew
 rr : Own a0 H rv 1 (ints R)
 ri : In a0 a1 rv
 ar : Own a1 H av 7 (ints LA)
 ai : In a1 a2 av
 ur : OwnRows a2 a3 H uv us up
 dr : OwnRows a3 a4 H dv ds down
 o : a0 ≤ a1 ∧ a1 ≤ a2 ∧ a2 ≤ a3 ∧ a3 ≤ a4 ∧ a4 ≤ a5 ∧ a5 ≤ H.next
theorem arc_of : ∀ (n : Nat) (L : List Int), L.length = 7 * n → ∃ arcs : List Arc, arcCells arcs = ints L ∧ arcs.length = n
 | 0, L, h => by
  have := List.eq_nil_of_length_eq_zero (by omega : L.length = 0)
  subst this
  exact ⟨[], rfl, rfl⟩
 | n + 1, L, h => by
  match L, h with
  | a :: b :: c :: d :: e :: f :: g :: L', h =>
   obtain ⟨arcs, h1, h2⟩ := arc_of n L' (by simp at h; omega)
   refine ⟨⟨a, b, c, d, e, f, g⟩ :: arcs, ?_, by simp [h2]⟩
   have e1 : arcCells (⟨a, b, c, d, e, f, g⟩ :: arcs) = (⟨a, b, c, d, e, f, g⟩ : Arc).cells ++ arcCells arcs := by simp [arcCells]
   rw [e1, h1]
   simp [Arc.cells, ints]
theorem edge_of : ∀ (n : Nat) (L : List Int), L.length = 4 * n → ∃ es : List Edge, edgeCells es = ints L ∧ es.length = n
 | 0, L, h => by
  have := List.eq_nil_of_length_eq_zero (by omega : L.length = 0)
  subst this
  exact ⟨[], rfl, rfl⟩
 | n + 1, L, h => by
  match L, h with
  | a :: b :: c :: d :: L', h =>
   obtain ⟨es, h1, h2⟩ := edge_of n L' (by simp at h; omega)
   refine ⟨⟨a, b, c, d⟩ :: es, ?_, by simp [h2]⟩
   have e1 : edgeCells (⟨a, b, c, d⟩ :: es) = (⟨a, b, c, d⟩ : Edge).cells ++ edgeCells es := by simp [edgeCells]
   rw [e1, h1]
   simp [Edge.cells, ints]
theorem idx_of {lo ne na : Nat} {n : Int} {H : AHeap} {ew rv av uv dv : AVal} {LE R LA : List Int} {up down : List (List Int)} (he : From lo H ew 4 (ints LE)) (hle : LE.length = 4 * ne) (hr : From lo H rv 1 (ints R)) (ha : From lo H av 7 (ints LA)) (hla : LA.length = 7 * na) (hu : FromRows lo H uv up) (hd : FromRows lo H dv down) :
  ∃ y : Idx, y.n = n ∧ y.rank = R ∧ y.up = up ∧ y.down = down ∧ IdxFrom lo H ew rv av uv dv y := by
 obtain ⟨es, e1, _⟩ := edge_of ne LE hle
 obtain ⟨arcs, e2, _⟩ := arc_of na LA hla
 exact ⟨⟨n, es, R, arcs, up, down⟩, rfl, rfl, rfl, rfl, ⟨by rw [e1]; exact he, hr, by rw [e2]; exact ha, hu, hd⟩⟩
theorem Own.slotN {lo sz n : Nat} {H : AHeap} {v : AVal} {cs : List AVal} (h : Own lo H v sz cs) (hsz : 0 < sz) (hn : cs.length = n * sz) {j : Nat} (hj : j < n) {k : IntKind} : ∃ id, sid v = some id ∧ lo ≤ id ∧ id < H.next ∧ aindexAddrS sz v (.int k (j : Int)) = some (.ptr id (j * sz)) ∧ H.obj id = some (.cells cs true) ∧
  ∀ (H' : AHeap) c', H.next ≤ H'.next → H'.obj id = some (.cells c' true) → c'.length = cs.length → Own lo H' v sz c' := by
 cases h with
 | nil =>
  have := Nat.mul_pos (show 0 < n by omega) hsz
  simp at hn; omega
 | @room id len _ _ hlo hhi ho hlen =>
  have : len = n := Nat.eq_of_mul_eq_mul_right hsz (by omega)
  subst this
  exact ⟨id, rfl, hlo, hhi, by rw [aindexAddrS_slice ⟨by omega, by omega⟩]; simp, ho, fun H' c' h1 h2 h3 => .room hlo (by omega) h2 (by omega)⟩
 | @full id len _ _ hlo hhi ho hlen =>
  have : len = n := Nat.eq_of_mul_eq_mul_right hsz (by omega)
  subst this
  exact ⟨id, rfl, hlo, hhi, by rw [aindexAddrS_slice ⟨by omega, by omega⟩]; simp, ho, fun H' c' h1 h2 h3 => .full hlo (by omega) h2 (by omega)⟩
section
variable {a0 a1 a2 a3 a4 a5 ne na : Nat} {H : AHeap} {ew rv av uv dv : AVal} {LE R LA : List Int} {us ds : List AVal} {up down : List (List Int)} {n : Int}
theorem Sp.M (h : Sp a0 a1 a2 a3 a4 a5 H ew rv av uv dv LE R LA us ds up down) {M : Nat → Prop} {H' : AHeap} (hk : Keep M H H') (hM : ∀ j, M j → j < a0 ∨ a5 ≤ j) : Sp a0 a1 a2 a3 a4 a5 H' ew rv av uv dv LE R LA us ds up down := by
 have o := h.o
 have nm : ∀ j, a0 ≤ j → j < a5 → ¬ M j := fun j h1 h2 hm => by have := hM j hm; omega
 exact ⟨h.er.keepM hk (fun j hj => nm j (by have := h.ei j hj; omega) (by have := h.ei j hj; omega)), h.ei, h.rr.keepM hk (fun j hj => nm j (by have := h.ri j hj; omega) (by have := h.ri j hj; omega)), h.ri, h.ar.keepM hk (fun j hj => nm j (by have := h.ai j hj; omega) (by have := h.ai j hj; omega)), h.ai,
  h.ur.M hk (fun j h1 h2 => nm j (by omega) (by omega)), h.dr.M hk (fun j h1 h2 => nm j (by omega) (by omega)), by have := hk.next; omega⟩
theorem Sp.kept (h : Sp a0 a1 a2 a3 a4 a5 H ew rv av uv dv LE R LA us ds up down) {H' : AHeap} (hk : Keep Nothing H H') : Sp a0 a1 a2 a3 a4 a5 H' ew rv av uv dv LE R LA us ds up down := h.M hk (fun _ h => h.elim)
theorem Sp.end (h : Sp a0 a1 a2 a3 a4 a5 H ew rv av uv dv LE R LA us ds up down) (hle : LE.length = 4 * ne) (hla : LA.length = 7 * na) : ∃ y : Idx, y.n = n ∧ y.rank = R ∧ y.up = up ∧ y.down = down ∧ IdxFrom a0 H ew rv av uv dv y := by
 have o := h.o
 exact idx_of ⟨h.er.row, fun j hj => by have := h.ei j hj; omega⟩ hle ⟨h.rr.row, fun j hj => by have := h.ri j hj; omega⟩ ⟨h.ar.row, fun j hj => by have := h.ai j hj; omega⟩ hla (h.ur.from (by omega)) (h.dr.from (by omega))
end
theorem OwnRows.put {a b lo : Nat} {H H' : AHeap} {M : Nat → Prop} {av r' : AVal} {us : List AVal} {ul : List (List Int)} (h : OwnRows a b H av us ul) (hlo : lo ≤ a) {k : Nat} {l' : List Int} {r : AVal} (hr : us[k]? = some r)
  (hk : Keep M H H') (hM : ∀ j, M j → sid r = some j ∨ sid av = some j) (ho : Own a H' av 1 (us.set k r')) (hn : Row H' r' 1 (ints l')) (hs : ∀ j, sid r' = some j → lo ≤ j) : FromRows lo H' av (ul.set k l') := by
 refine ⟨us.set k r', ⟨ho.row, fun j hj => by have := (h.inA j hj).1; omega⟩, by simp [h.len], fun i r1 l1 e1 e2 => ?_⟩
 by_cases hik : k = i
 ·subst hik
  have h1 : k < us.length := (List.getElem?_eq_some_iff.1 hr).1
  rw [List.getElem?_set, if_pos rfl, if_pos h1] at e1
  rw [List.getElem?_set, if_pos rfl, if_pos (by rw [← h.len]; exact h1)] at e2
  injection e1 with e1; injection e2 with e2
  subst e1; subst e2
  exact ⟨hn, hs⟩
 ·rw [List.getElem?_set, if_neg hik] at e1 e2
  refine ⟨((h.rows i r1 l1 e1 e2).keepM hk (fun j hj hm => ?_)).row, fun j hj => by have := (h.inR i r1 e1 j hj).1; omega⟩
  rcases hM j hm with h1 | h1
  ·exact hik (h.two k i r r1 j hr e1 h1 hj)
  ·exact h.apart i r1 j e1 hj h1
end Go.Proofs.Ytknhlpmmalcchaa

namespace Go.Proofs.Ytknhlpmmalcchaa
open Go Go.VAI Go.Sort
set_option linter.unusedSimpArgs false

section
variable {α : Type} {f : α → List AVal} {n : Nat}
theorem flat_size (hf : ∀ a, (f a).length = n) (l : List α) : (l.flatMap f).length = l.length * n := by
 induction l with
 | nil => simp
 | cons a l ih => rw [List.flatMap_cons, List.length_append, hf, ih, List.length_cons, Nat.succ_mul]; omega
theorem flat_get (hf : ∀ a, (f a).length = n) : ∀ (l : List α) (i : Nat) (a : α), l[i]? = some a → ((l.flatMap f).drop (i * n)).take n = f a
 | [], i, a, h => by simp at h
 | x :: l, 0, a, h => by
  simp at h; subst h
  have := hf x
  rw [List.flatMap_cons, Nat.zero_mul, List.drop_zero, List.take_append_of_le_length (by omega), List.take_of_length_le (by omega)]
 | x :: l, i + 1, a, h => by
  have hx := hf x
  rw [List.flatMap_cons, List.drop_append, List.drop_of_length_le (by rw [hx, Nat.succ_mul]; omega), List.nil_append, hx, Nat.succ_mul, Nat.add_sub_cancel]
  exact flat_get hf l i a (by simpa using h)
theorem flat_put (hf : ∀ a, (f a).length = n) : ∀ (l : List α) (i : Nat) (b : α), i < l.length → splice (l.flatMap f) (i * n) (f b) = (l.set i b).flatMap f
 | [], i, b, h => by simp at h
 | x :: l, 0, b, h => by
  have hx := hf x
  have hb := hf b
  unfold splice
  rw [List.flatMap_cons, Nat.zero_mul, List.take_zero, List.nil_append, Nat.zero_add, List.set_cons_zero, List.flatMap_cons, hb, List.drop_append, List.drop_of_length_le (by omega), List.nil_append, hx, Nat.sub_self, List.drop_zero]
 | x :: l, i + 1, b, h => by
  have hx := hf x
  have hb := hf b
  have ih := flat_put hf l i b (by simp at h; omega)
  unfold splice at ih ⊢
  have e : (i + 1) * n = n + i * n := by rw [Nat.succ_mul]; omega
  rw [List.flatMap_cons, List.set_cons_succ, List.flatMap_cons, ← ih, e, List.take_append, List.drop_append, hx]
  rw [List.take_of_length_le (by omega), List.drop_of_length_le (l := f x) (by omega)]
  rw [show n + i * n - n = i * n by omega, show n + i * n + (f b).length - n = i * n + (f b).length by omega]
  simp
def rowOf (f : α → List AVal) (d : Array α) : List AVal := d.toList.flatMap f
theorem rowOf_length (hf : ∀ a, (f a).length = n) (d : Array α) : (rowOf f d).length = d.size * n := by
 unfold rowOf; rw [flat_size hf]; simp
theorem rowOf_get [Inhabited α] (hf : ∀ a, (f a).length = n) {d : Array α} {i : Nat} (hi : i < d.size) : ((rowOf f d).drop (i * n)).take n = f d[i]! := by
 unfold rowOf
 refine flat_get hf _ i _ ?_
 rw [Array.getElem?_toList, getElem!_pos d i hi]
 simp [hi]
theorem rowOf_put (hf : ∀ a, (f a).length = n) {d : Array α} {i : Nat} (hi : i < d.size) {b : α} : splice (rowOf f d) (i * n) (f b) = rowOf f (d.setIfInBounds i b) := by
 unfold rowOf
 rw [flat_put hf _ i b (by simpa using hi)]
 simp
theorem swp_size (d : Array α) [Inhabited α] (i j : Nat) : (swp d i j).size = d.size := by simp [swp]
end
theorem rcells_len (a : Int × Int) : (rcells a).length = 2 := rfl
def CmpOk {α : Type} (f : α → List AVal) (g : Nat) (c : α → α → Int) : Prop := ∀ (a b : α) (H : AHeap) (Q : AVal → AHeap → Prop), (∀ H', Keep Nothing H H' → Q (.int .i64 (c a b)) H') → Ret A g [.agg (f a), .agg (f b)] H Q
def ltOf {α : Type} (c : α → α → Int) (x y : α) : Bool := decide (c x y < 0)
theorem insInner_stop {α : Type} [Inhabited α] {lt : α → α → Bool} {a j : Nat} {d : Array α} (h : ¬ j > a) : insInner lt a j d = d := by
 cases j with
 | zero => rfl
 | succ j => rw [insInner, if_neg]; simp; omega
theorem insInner_step {α : Type} [Inhabited α] {lt : α → α → Bool} {a j : Nat} {d : Array α} (h : j + 1 > a) (hl : lt d[j + 1]! d[j]! = true) : insInner lt a (j + 1) d = insInner lt a j (swp d (j + 1) j) := by
 rw [insInner, if_pos]
 simp [hl]; omega
theorem insInner_no {α : Type} [Inhabited α] {lt : α → α → Bool} {a j : Nat} {d : Array α} (hl : lt d[j + 1]! d[j]! = false) : insInner lt a (j + 1) d = d := by
 rw [insInner, if_neg]
 simp [hl]
set_option maxRecDepth 20000 in
set_option maxHeartbeats 8000000 in
theorem insR_ret {lo a b g : Nat} {v : AVal} {d : Array (Int × Int)} {c : Int × Int → Int × Int → Int} {H : AHeap} {Q : AVal → AHeap → Prop} (hc : CmpOk rcells g c) (hown : Own lo H v 2 (rowOf rcells d)) (hab : a ≤ b) (hb : b ≤ d.size) (hd : d.size ≤ 1000000)
  (hq : ∀ H', Keep (fun j => sid v = some j) H H' → Own lo H' v 2 (rowOf rcells (insertionSort (ltOf c) d a b)) → Q (.tuple []) H') : Ret A 131 [v, .int .i64 a, .int .i64 b, .func (.func g) [] []] H Q := by
 refine Ret.of (fn := F131) rfl ?_
 simp (disch := first | omega | (simp only [nx] <;> omega) | fail) only [vaw, F131, Nat.reduceAdd, Nat.reduceMul, Nat.reduceLeDiff, Nat.reduceEqDiff, ↓reduceIte]
 refine wpx_loop (fun m t H' => ∃ (i : Nat) (e : Array (Int × Int)), m = b - i ∧ a + 1 ≤ i ∧ t = (v :: .int .i64 a :: .int .i64 b :: .func (.func g) [] [] :: bots 4 (.int .i64 i :: bots 44 ([])) : Tmps) ∧ Keep (fun j => sid v = some j) H H' ∧ Own lo H' v 2 (rowOf rcells e) ∧ e.size = d.size ∧ insOuter (ltOf c) a b i e = insertionSort (ltOf c) d a b) (b - (a + 1)) ?_ ?_
 ·exact ⟨a + 1, d, rfl, Nat.le_refl _, rfl, .refl _ _, hown, rfl, rfl⟩
 ·rintro m t H1 ⟨i, e, rfl, hai, rfl, k1, g1, hsz, hin⟩
  by_cases hib : (i : Int) < b
  ·have hib' : i < b := by omega
   rw [insOuter, if_pos hib'] at hin
   simp (disch := first | omega | (simp only [nx] <;> omega) | fail) only [vaw, hib, Nat.reduceAdd, Nat.reduceMul, Nat.reduceLeDiff, Nat.reduceEqDiff, ↓reduceIte]
   refine wpx_loop (fun m t H' => ∃ (j : Nat) (e' : Array (Int × Int)), m = j ∧ a ≤ j ∧ j ≤ i ∧ t = (v :: .int .i64 a :: .int .i64 b :: .func (.func g) [] [] :: bots 4 (.int .i64 i :: .int .i64 j :: bots 43 ([])) : Tmps) ∧ Keep (fun j => sid v = some j) H H' ∧ Own lo H' v 2 (rowOf rcells e') ∧ e'.size = d.size ∧ insInner (ltOf c) a j e' = insInner (ltOf c) a i e) i ?_ ?_
   ·exact ⟨i, e, rfl, by omega, by omega, rfl, k1, g1, hsz, rfl⟩
   ·rintro m t H2 ⟨j, e', hm, haj, hji, rfl, k2, g2, hsz2, hin2⟩
    subst m
    by_cases hja : (a : Int) < j
    ·obtain ⟨j', rfl⟩ : ∃ j', j = j' + 1 := ⟨j - 1, by omega⟩
     have hlen := rowOf_length rcells_len e'
     obtain ⟨id, q1, q2, q3, q4, q5, q6⟩ := Own.slotN g2 (n := e'.size) (j := j' + 1) (k := .i64) (by omega) hlen (by omega)
     obtain ⟨id', r1, r2, r3, r4, r5, r6⟩ := Own.slotN g2 (n := e'.size) (j := j') (k := .i64) (by omega) hlen (by omega)
     have hidd : id' = id := by rw [q1] at r1; injection r1 with r1; exact r1.symm
     subst hidd
     have hj1 : ((j' + 1 : Nat) : Int) - 1 = (j' : Int) := by omega
     have w1 := rowOf_get rcells_len (d := e') (i := j' + 1) (by omega)
     have w2 := rowOf_get rcells_len (d := e') (i := j') (by omega)
     have l1 : (j' + 1) * 2 + 2 ≤ (rowOf rcells e').length := by omega
     have l2 : j' * 2 + 2 ≤ (rowOf rcells e').length := by omega
     simp (disch := first | omega | (simp only [nx] <;> omega) | fail) only [vaw, hja, q4, q5, hj1, r4, w1, w2, l1, l2, Nat.reduceAdd, Nat.reduceMul, Nat.reduceLeDiff, Nat.reduceEqDiff, ↓reduceIte]
     refine hc _ _ _ _ fun H3 k3 => ?_
     have q5' := (k3.old q3).trans q5
     by_cases hlt : c e'[j' + 1]! e'[j']! < 0
     ·have hl : ltOf c e'[j' + 1]! e'[j']! = true := decide_eq_true hlt
      rw [insInner_step (by omega) hl] at hin2
      have s1 := rowOf_put rcells_len (d := e') (i := j' + 1) (b := e'[j']!) (by omega)
      have s2 := rowOf_put rcells_len (d := e'.setIfInBounds (j' + 1) e'[j']!) (i := j') (b := e'[j' + 1]!) (by simp; omega)
      have hl3 : (rowOf rcells (e'.setIfInBounds (j' + 1) e'[j']!)).length = e'.size * 2 := by rw [rowOf_length rcells_len]; simp
      have l3 : j' * 2 + 2 ≤ (rowOf rcells (e'.setIfInBounds (j' + 1) e'[j']!)).length := by omega
      simp (disch := first | omega | (simp only [nx] <;> omega) | fail) only [vaw, hlt, q5', q4, r4, hj1, w1, w2, l1, l2, s1, s2, l3, rcells_len, Nat.reduceAdd, Nat.reduceMul, Nat.reduceLeDiff, Nat.reduceEqDiff, ↓reduceIte]
      have hsw : (e'.setIfInBounds (j' + 1) e'[j']!).setIfInBounds j' e'[j' + 1]! = swp e' (j' + 1) j' := rfl
      rw [hsw]
      have hls := rowOf_length rcells_len (swp e' (j' + 1) j')
      rw [swp_size] at hls
      refine ⟨j', by omega, j', swp e' (j' + 1) j', rfl, by omega, by omega, rfl, ((k2.trans k3.any).upd (.inr q1) _).upd (.inr q1) _, q6 _ _ (by simp only [next_upd]; exact k3.next) (obj_upd_eq rfl) (by omega), by rw [swp_size]; exact hsz2, hin2⟩
     ·have hl : ltOf c e'[j' + 1]! e'[j']! = false := decide_eq_false hlt
      rw [insInner_no hl] at hin2
      simp (disch := first | omega | (simp only [nx] <;> omega) | fail) only [vaw, hlt, Nat.reduceAdd, Nat.reduceMul, Nat.reduceLeDiff, Nat.reduceEqDiff, ↓reduceIte]
      refine ⟨b - (i + 1), by omega, i + 1, e', rfl, by omega, rfl, k2.trans k3.any, g2.kept k3, hsz2, ?_⟩
      rw [hin2]; exact hin
    ·rw [insInner_stop (by omega)] at hin2
     simp (disch := first | omega | (simp only [nx] <;> omega) | fail) only [vaw, hja, Nat.reduceAdd, Nat.reduceMul, Nat.reduceLeDiff, Nat.reduceEqDiff, ↓reduceIte]
     refine ⟨b - (i + 1), by omega, i + 1, e', rfl, by omega, rfl, k2, g2, hsz2, ?_⟩
     rw [hin2]; exact hin
  ·simp (disch := first | omega | (simp only [nx] <;> omega) | fail) only [vaw, hib, Nat.reduceAdd, Nat.reduceMul, Nat.reduceLeDiff, Nat.reduceEqDiff, ↓reduceIte]
   have hib' : ¬ i < b := by omega
   rw [insOuter, if_neg hib'] at hin
   rw [hin] at g1
   exact hq _ k1 g1
end Go.Proofs.Ytknhlpmmalcchaa

namespace Go.Proofs.Ytknhlpmmalcchaa
open Go Go.VAI Go.Sort
set_option linter.unusedSimpArgs false

theorem ones_ret {n : Nat} (hn : n < 32) {H : AHeap} {Q : AVal → AHeap → Prop} (hq : ∀ c : Int, (1 < c ↔ 2 ≤ ((List.range 5).filter fun i => n.testBit i).length) → Q (.int .i64 c) H) : Ret A 83 [.int .u64 n] H Q := by
 have key : ∀ c : Int, callA A 5 83 [.int .u64 n] H = some (.int .i64 c, H) → (1 < c ↔ 2 ≤ ((List.range 5).filter fun i => n.testBit i).length) → Ret A 83 [.int .u64 n] H Q := fun c h1 h2 => ⟨5, _, h1, hq c h2⟩
 have h : n = 0 ∨ n = 1 ∨ n = 2 ∨ n = 3 ∨ n = 4 ∨ n = 5 ∨ n = 6 ∨ n = 7 ∨ n = 8 ∨ n = 9 ∨ n = 10 ∨ n = 11 ∨ n = 12 ∨ n = 13 ∨ n = 14 ∨ n = 15 ∨ n = 16 ∨ n = 17 ∨ n = 18 ∨ n = 19 ∨ n = 20 ∨ n = 21 ∨ n = 22 ∨ n = 23 ∨ n = 24 ∨ n = 25 ∨ n = 26 ∨ n = 27 ∨ n = 28 ∨ n = 29 ∨ n = 30 ∨ n = 31 := by omega
 rcases h with rfl | rfl | rfl | rfl | rfl | rfl | rfl | rfl | rfl | rfl | rfl | rfl | rfl | rfl | rfl | rfl | rfl | rfl | rfl | rfl | rfl | rfl | rfl | rfl | rfl | rfl | rfl | rfl | rfl | rfl | rfl | rfl
 ·exact key 0 (by kernel_rfl) (by decide)
 ·exact key 1 (by kernel_rfl) (by decide)
 ·exact key 1 (by kernel_rfl) (by decide)
 ·exact key 2 (by kernel_rfl) (by decide)
 ·exact key 1 (by kernel_rfl) (by decide)
 ·exact key 2 (by kernel_rfl) (by decide)
 ·exact key 2 (by kernel_rfl) (by decide)
 ·exact key 3 (by kernel_rfl) (by decide)
 ·exact key 1 (by kernel_rfl) (by decide)
 ·exact key 2 (by kernel_rfl) (by decide)
 ·exact key 2 (by kernel_rfl) (by decide)
 ·exact key 3 (by kernel_rfl) (by decide)
 ·exact key 2 (by kernel_rfl) (by decide)
 ·exact key 3 (by kernel_rfl) (by decide)
 ·exact key 3 (by kernel_rfl) (by decide)
 ·exact key 4 (by kernel_rfl) (by decide)
 ·exact key 1 (by kernel_rfl) (by decide)
 ·exact key 2 (by kernel_rfl) (by decide)
 ·exact key 2 (by kernel_rfl) (by decide)
 ·exact key 3 (by kernel_rfl) (by decide)
 ·exact key 2 (by kernel_rfl) (by decide)
 ·exact key 3 (by kernel_rfl) (by decide)
 ·exact key 3 (by kernel_rfl) (by decide)
 ·exact key 4 (by kernel_rfl) (by decide)
 ·exact key 2 (by kernel_rfl) (by decide)
 ·exact key 3 (by kernel_rfl) (by decide)
 ·exact key 3 (by kernel_rfl) (by decide)
 ·exact key 4 (by kernel_rfl) (by decide)
 ·exact key 3 (by kernel_rfl) (by decide)
 ·exact key 4 (by kernel_rfl) (by decide)
 ·exact key 4 (by kernel_rfl) (by decide)
 ·exact key 5 (by kernel_rfl) (by decide)
theorem len_ret {n : Nat} (hn : n ≤ 12) {H : AHeap} {Q : AVal → AHeap → Prop} (hq : ∀ c : Nat, c ≤ 4 → Q (.int .i64 c) H) : Ret A 116 [.int .u64 n] H Q := by
 have key : ∀ c : Nat, callA A 5 116 [.int .u64 n] H = some (.int .i64 c, H) → c ≤ 4 → Ret A 116 [.int .u64 n] H Q := fun c h1 h2 => ⟨5, _, h1, hq c h2⟩
 have h : n = 0 ∨ n = 1 ∨ n = 2 ∨ n = 3 ∨ n = 4 ∨ n = 5 ∨ n = 6 ∨ n = 7 ∨ n = 8 ∨ n = 9 ∨ n = 10 ∨ n = 11 ∨ n = 12 := by omega
 rcases h with rfl | rfl | rfl | rfl | rfl | rfl | rfl | rfl | rfl | rfl | rfl | rfl | rfl
 ·exact key 0 (by kernel_rfl) (by decide)
 ·exact key 1 (by kernel_rfl) (by decide)
 ·exact key 2 (by kernel_rfl) (by decide)
 ·exact key 2 (by kernel_rfl) (by decide)
 ·exact key 3 (by kernel_rfl) (by decide)
 ·exact key 3 (by kernel_rfl) (by decide)
 ·exact key 3 (by kernel_rfl) (by decide)
 ·exact key 3 (by kernel_rfl) (by decide)
 ·exact key 4 (by kernel_rfl) (by decide)
 ·exact key 4 (by kernel_rfl) (by decide)
 ·exact key 4 (by kernel_rfl) (by decide)
 ·exact key 4 (by kernel_rfl) (by decide)
 ·exact key 4 (by kernel_rfl) (by decide)
theorem pdqR_ret {lo g : Nat} {L : Int} {v : AVal} {d : Array (Int × Int)} {c : Int × Int → Int × Int → Int} {H : AHeap} {Q : AVal → AHeap → Prop} (hc : CmpOk rcells g c) (hown : Own lo H v 2 (rowOf rcells d)) (hd : d.size ≤ 12)
  (hq : ∀ H', Keep (fun j => sid v = some j) H H' → Own lo H' v 2 (rowOf rcells (insertionSort (ltOf c) d 0 d.size)) → Q (.tuple []) H') : Ret A 115 [v, .int .i64 0, .int .i64 d.size, .int .i64 L, .func (.func g) [] []] H Q := by
 refine Ret.of (fn := F115) rfl ?_
 simp (disch := first | omega | (simp only [nx] <;> omega) | fail) only [vaw, F115, Nat.reduceAdd, Nat.reduceMul, Nat.reduceLeDiff, Nat.reduceEqDiff, ↓reduceIte]
 refine wpx_loop (fun m t H' => t = (v :: .int .i64 0 :: .int .i64 d.size :: .int .i64 L :: .func (.func g) [] [] :: bots 5 (.bool true :: .bool true :: bots 136 ([])) : Tmps) ∧ H' = H) 0 ?_ ?_
 ·exact ⟨rfl, rfl⟩
 ·rintro m t H1 ⟨rfl, rfl⟩
  have h12 : (d.size : Int) - 0 ≤ 12 := by omega
  simp (disch := first | omega | (simp only [nx] <;> omega) | fail) only [vaw, h12, Nat.reduceAdd, Nat.reduceMul, Nat.reduceLeDiff, Nat.reduceEqDiff, ↓reduceIte]
  refine insR_ret (a := 0) (b := d.size) hc hown (by omega) (by omega) (by omega) fun H2 k2 g2 => ?_
  simp (disch := first | omega | (simp only [nx] <;> omega) | fail) only [vaw, Nat.reduceAdd, Nat.reduceMul, Nat.reduceLeDiff, Nat.reduceEqDiff, ↓reduceIte]
  exact hq _ k2 g2
theorem sortR_ret {lo g : Nat} {v : AVal} {d : Array (Int × Int)} {c : Int × Int → Int × Int → Int} {H : AHeap} {Q : AVal → AHeap → Prop} (hc : CmpOk rcells g c) (hown : Own lo H v 2 (rowOf rcells d)) (hd : d.size ≤ 12)
  (hq : ∀ H', Keep (fun j => sid v = some j) H H' → Own lo H' v 2 (rowOf rcells (insertionSort (ltOf c) d 0 d.size)) → Q (.tuple []) H') : Ret A 87 [v, .func (.func g) [] []] H Q := by
 refine Ret.of (fn := F87) rfl ?_
 have hl := hown.row.len (n := d.size) (by omega) (rowOf_length rcells_len d)
 simp (disch := first | omega | (simp only [nx] <;> omega) | fail) only [vaw, F87, hl, Nat.reduceAdd, Nat.reduceMul, Nat.reduceLeDiff, Nat.reduceEqDiff, ↓reduceIte]
 have hw : IntKind.u64.wrap (d.size : Int) = (d.size : Int) := by
  show ((d.size : Int) % 18446744073709551616) = _
  omega
 rw [hw]
 refine len_ret hd fun L _ => ?_
 simp (disch := first | omega | (simp only [nx] <;> omega) | fail) only [vaw, Nat.reduceAdd, Nat.reduceMul, Nat.reduceLeDiff, Nat.reduceEqDiff, ↓reduceIte]
 refine pdqR_ret hc hown hd fun H2 k2 g2 => ?_
 simp (disch := first | omega | (simp only [nx] <;> omega) | fail) only [vaw, Nat.reduceAdd, Nat.reduceMul, Nat.reduceLeDiff, Nat.reduceEqDiff, ↓reduceIte]
 exact hq _ k2 g2
end Go.Proofs.Ytknhlpmmalcchaa

namespace Go.Proofs.Ytknhlpmmalcchaa
open Go Go.VAI
set_option linter.unusedSimpArgs false

def orModes (es : List Edge) : List Int → Nat → Nat
 | [], a => a
 | x :: l, a => orModes es l (a ||| 1 <<< ((es[x.toNat]?).elim 0 fun e => e.mode.toNat))
theorem orModes_drop {es : List Edge} {xs : List Int} {i j a : Nat} {e : Edge} (h : xs[i]? = some (j : Int)) (he : es[j]? = some e) : orModes es (xs.drop i) a = orModes es (xs.drop (i + 1)) (a ||| 1 <<< e.mode.toNat) := by
 obtain ⟨h1, h2⟩ := List.getElem?_eq_some_iff.1 h
 rw [List.drop_eq_getElem_cons h1, h2, orModes, Int.toNat_natCast, he]; rfl
theorem or32 : ∀ a : Nat, a < 32 → ∀ m : Nat, m < 5 → (orI .i64 (a : Int) (shlI .i64 1 (m : Int)) = ((a ||| 1 <<< m : Nat) : Int) ∧ a ||| 1 <<< m < 32) := by decide
theorem orModes_lt {es : List Edge} (hm : ∀ e ∈ es, 0 ≤ e.mode ∧ e.mode < 5) : ∀ (xs : List Int) (a : Nat), a < 32 → orModes es xs a < 32
 | [], a, h => h
 | x :: l, a, h => by
  rw [orModes]
  refine orModes_lt hm l _ ?_
  cases he : es[x.toNat]? with
  | none => exact (or32 a h 0 (by omega)).2
  | some e =>
   have := hm e (List.mem_of_getElem? he)
   exact (or32 a h e.mode.toNat (by omega)).2
theorem picks_nat {p : Edge → Bool} {es : List Edge} {n : Nat} {x : Int} (h : x ∈ picks p es n) : ∃ j : Nat, x = j ∧ j < n := by
 simp only [picks, List.mem_map, List.mem_filter, List.mem_range] at h
 obtain ⟨j, ⟨h1, _⟩, rfl⟩ := h
 exact ⟨j, rfl, h1⟩
def seenAt (es : List Edge) (v k : Nat) : Nat := if k = 0 then 0 else if k = 1 then orModes es (picks (isSrc v) es es.length) 0 else orModes es (picks (isDst v) es es.length) (orModes es (picks (isSrc v) es es.length) 0)
set_option maxRecDepth 20000 in
set_option maxHeartbeats 8000000 in
theorem adjModes_ret {a o q N : Nat} {v : Nat} {es : List Edge} {ew : AVal} {uo ui : List AVal} {H : AHeap} {Q : AVal → AHeap → Prop} (h : AdjAt H a o q N es ew uo ui) (hv : v < N) (hn : es.length ≤ 1000) (hm : ∀ e ∈ es, 0 ≤ e.mode ∧ e.mode < 5)
  (hq : ∀ H', Keep Nothing H H' → Q (.int .i64 (orModes es (picks (isDst v) es es.length) (orModes es (picks (isSrc v) es es.length) 0) : Nat)) H') : Ret A 82 [.ptr a 0, .int .i64 v] H Q := by
 refine Ret.of (fn := F82) rfl ?_
 have bx := h.box
 simp (disch := first | omega | (simp only [nx] <;> omega) | fail) only [vaw, F82, bx, Nat.reduceAdd, Nat.reduceMul, Nat.reduceLeDiff, Nat.reduceEqDiff, ↓reduceIte]
 refine wpx_loop (fun m t H' => ∃ (k : Nat), m = 2 - k ∧ k ≤ 2 ∧ t = (.ptr a 0 :: .int .i64 v :: bots 3 (.int .i64 (seenAt es v k : Nat) :: bots 12 (.agg [.slice o 0 N (.exact N), .slice q 0 N (.exact N)] :: .int .i64 k :: bots 27 ([]))) : Tmps) ∧ Keep Nothing H H') 2 ?_ ?_
 ·exact ⟨0, rfl, by omega, rfl, .refl _ _⟩
 ·rintro m t H1 ⟨k, rfl, hk, rfl, k1⟩
  have g := h.kept k1
  have bx1 := g.box
  have hk3 : k = 0 ∨ k = 1 ∨ k = 2 := by omega
  rcases hk3 with rfl | rfl | rfl
  ·obtain ⟨r, r', u1, u2, rc, -⟩ := g.ro v hv
   have hpl := @picks_length (isSrc v) es es.length
   simp (disch := first | omega | (simp only [nx] <;> omega) | fail) only [vaw, show ((0 : Nat) : Int) = 0 from rfl, Int.reduceLT, Int.reduceToNat, Nat.reduceAdd, Nat.reduceMul, Nat.reduceLeDiff, Nat.reduceEqDiff, ↓reduceIte]
   refine side_ret bx1 g.lt.1 g.lt.2.1 hv g.oo g.lo u1 u2 fun H2 k2 => ?_
   have hl := (RowC.kept rc k2).1.len1
   rw [ints_length] at hl
   simp (disch := first | omega | (simp only [nx] <;> omega) | fail) only [vaw, hl, Nat.reduceAdd, Nat.reduceMul, Nat.reduceLeDiff, Nat.reduceEqDiff, ↓reduceIte]
   refine wpx_loop (fun m t H' => ∃ (i acc : Nat), m = (picks (isSrc v) es es.length).length - i ∧ i ≤ (picks (isSrc v) es es.length).length ∧ t = (.ptr a 0 :: .int .i64 v :: bots 3 (.int .i64 (acc : Nat) :: bots 12 (.agg [.slice o 0 N (.exact N), .slice q 0 N (.exact N)] :: .int .i64 0 :: bots 6 (r :: .int .i64 (picks (isSrc v) es es.length).length :: .int .i64 i :: bots 18 ([])))) : Tmps) ∧ Keep Nothing H H' ∧ Keep Nothing H1 H' ∧ acc < 32 ∧ orModes es ((picks (isSrc v) es es.length).drop i) acc = seenAt es v (0 + 1)) (picks (isSrc v) es es.length).length ?_ ?_
   ·exact ⟨0, seenAt es v 0, rfl, by omega, rfl, k1.trans k2, k2, by show (0:Nat) < 32; decide, rfl⟩
   ·rintro m t H3 ⟨i, acc, rfl, hi, rfl, k3, k3', ha, ho⟩
    by_cases hc : (i : Int) < (picks (isSrc v) es es.length).length
    ·have hil : i < (picks (isSrc v) es es.length).length := by omega
     have hx : (picks (isSrc v) es es.length)[i]? = some (picks (isSrc v) es es.length)[i] := by simp [hil]
     obtain ⟨j, hj, hjn⟩ := picks_nat (List.getElem_mem hil)
     rw [hj] at hx
     have he : es[j]? = some es[j] := by simp [hjn]
     have hmem := List.getElem_mem hjn
     have hmo := hm _ hmem
     have g3 := h.kept k3
     have bx3 := g3.box
     obtain ⟨id, off, e1, hid2, e2, e3, e4, e5, e6⟩ := edge_at g3.ed he
     obtain ⟨ip, op, p1, p2, p3⟩ := (RowC.kept rc k3').1.int_at (k := .i64) hx
     rw [orModes_drop hx he] at ho
     generalize es[j] = e at *
     obtain ⟨w, hw⟩ := Int.eq_ofNat_of_zero_le hmo.1
     have hor := or32 acc ha w (by omega)
     rw [hw, Int.toNat_natCast] at ho
     simp (disch := first | omega | (simp only [nx] <;> omega) | fail) only [vaw, hc, p1, p3, bx3, e1, e4, hw, hor.1, Nat.reduceAdd, Nat.reduceMul, Nat.reduceLeDiff, Nat.reduceEqDiff, ↓reduceIte]
     exact ⟨(picks (isSrc v) es es.length).length - (i + 1), by omega, i + 1, acc ||| 1 <<< w, rfl, by omega, rfl, k3, k3', hor.2, ho⟩
    ·have : i = (picks (isSrc v) es es.length).length := by omega
     rw [this, List.drop_length] at ho
     have ho' : acc = seenAt es v (0 + 1) := ho
     subst ho'
     simp (disch := first | omega | (simp only [nx] <;> omega) | fail) only [vaw, hc, Nat.reduceAdd, Nat.reduceMul, Nat.reduceLeDiff, Nat.reduceEqDiff, ↓reduceIte]
     exact ⟨2 - (0 + 1), by omega, 0 + 1, rfl, by omega, rfl, k3⟩
  ·obtain ⟨r, r', u1, u2, rc, -⟩ := g.ri v hv
   have hpl := @picks_length (isDst v) es es.length
   simp (disch := first | omega | (simp only [nx] <;> omega) | fail) only [vaw, show ((1 : Nat) : Int) = 1 from rfl, Int.reduceLT, Int.reduceToNat, Nat.reduceAdd, Nat.reduceMul, Nat.reduceLeDiff, Nat.reduceEqDiff, ↓reduceIte]
   refine side_ret bx1 g.lt.1 g.lt.2.2 hv g.oi g.li u1 u2 fun H2 k2 => ?_
   have hl := (RowC.kept rc k2).1.len1
   rw [ints_length] at hl
   simp (disch := first | omega | (simp only [nx] <;> omega) | fail) only [vaw, hl, Nat.reduceAdd, Nat.reduceMul, Nat.reduceLeDiff, Nat.reduceEqDiff, ↓reduceIte]
   refine wpx_loop (fun m t H' => ∃ (i acc : Nat), m = (picks (isDst v) es es.length).length - i ∧ i ≤ (picks (isDst v) es es.length).length ∧ t = (.ptr a 0 :: .int .i64 v :: bots 3 (.int .i64 (acc : Nat) :: bots 12 (.agg [.slice o 0 N (.exact N), .slice q 0 N (.exact N)] :: .int .i64 1 :: bots 6 (r :: .int .i64 (picks (isDst v) es es.length).length :: .int .i64 i :: bots 18 ([])))) : Tmps) ∧ Keep Nothing H H' ∧ Keep Nothing H1 H' ∧ acc < 32 ∧ orModes es ((picks (isDst v) es es.length).drop i) acc = seenAt es v (1 + 1)) (picks (isDst v) es es.length).length ?_ ?_
   ·exact ⟨0, seenAt es v 1, rfl, by omega, rfl, k1.trans k2, k2, by exact orModes_lt hm _ _ (by omega), rfl⟩
   ·rintro m t H3 ⟨i, acc, rfl, hi, rfl, k3, k3', ha, ho⟩
    by_cases hc : (i : Int) < (picks (isDst v) es es.length).length
    ·have hil : i < (picks (isDst v) es es.length).length := by omega
     have hx : (picks (isDst v) es es.length)[i]? = some (picks (isDst v) es es.length)[i] := by simp [hil]
     obtain ⟨j, hj, hjn⟩ := picks_nat (List.getElem_mem hil)
     rw [hj] at hx
     have he : es[j]? = some es[j] := by simp [hjn]
     have hmem := List.getElem_mem hjn
     have hmo := hm _ hmem
     have g3 := h.kept k3
     have bx3 := g3.box
     obtain ⟨id, off, e1, hid2, e2, e3, e4, e5, e6⟩ := edge_at g3.ed he
     obtain ⟨ip, op, p1, p2, p3⟩ := (RowC.kept rc k3').1.int_at (k := .i64) hx
     rw [orModes_drop hx he] at ho
     generalize es[j] = e at *
     obtain ⟨w, hw⟩ := Int.eq_ofNat_of_zero_le hmo.1
     have hor := or32 acc ha w (by omega)
     rw [hw, Int.toNat_natCast] at ho
     simp (disch := first | omega | (simp only [nx] <;> omega) | fail) only [vaw, hc, p1, p3, bx3, e1, e4, hw, hor.1, Nat.reduceAdd, Nat.reduceMul, Nat.reduceLeDiff, Nat.reduceEqDiff, ↓reduceIte]
     exact ⟨(picks (isDst v) es es.length).length - (i + 1), by omega, i + 1, acc ||| 1 <<< w, rfl, by omega, rfl, k3, k3', hor.2, ho⟩
    ·have : i = (picks (isDst v) es es.length).length := by omega
     rw [this, List.drop_length] at ho
     have ho' : acc = seenAt es v (1 + 1) := ho
     subst ho'
     simp (disch := first | omega | (simp only [nx] <;> omega) | fail) only [vaw, hc, Nat.reduceAdd, Nat.reduceMul, Nat.reduceLeDiff, Nat.reduceEqDiff, ↓reduceIte]
     exact ⟨2 - (1 + 1), by omega, 1 + 1, rfl, by omega, rfl, k3⟩
  ·simp (disch := first | omega | (simp only [nx] <;> omega) | fail) only [vaw, Nat.reduceAdd, Nat.reduceMul, Nat.reduceLeDiff, Nat.reduceEqDiff, ↓reduceIte]
   exact hq _ k1
end Go.Proofs.Ytknhlpmmalcchaa

namespace Go.Proofs.Ytknhlpmmalcchaa
open Go Go.VAI
set_option linter.unusedSimpArgs false

def linkB (es : List Edge) (v : Nat) : Bool := decide (2 ≤ ((List.range 5).filter fun i => (orModes es (picks (isDst v) es es.length) (orModes es (picks (isSrc v) es es.length) 0)).testBit i).length)
theorem reps_oneB (n : Nat) (x : AVal) : reps [x] n = List.replicate n x := by
 induction n with
 | zero => rfl
 | succ n ih => rw [reps, ih, List.replicate_succ]; rfl
set_option maxRecDepth 20000 in
set_option maxHeartbeats 8000000 in
theorem linksB_ret {N : Nat} {ev : AVal} {es : List Edge} {H : AHeap} {Q : AVal → AHeap → Prop} (hr : Row H ev 4 (edgeCells es)) (hnet : ∀ e ∈ es, EdgeOk N e) (hN : N ≤ 1000) (hn : es.length ≤ 1000)
  (hq : ∀ v' H', Keep Nothing H H' → Own H.next H' v' 1 (bools ((List.range N).map (linkB es))) → Q v' H') : Ret A 38 [.agg [.int .i64 N, ev]] H Q := by
 refine Ret.of (fn := F38) rfl ?_
 have be := hr.beq
 have hN0 : ¬ (N : Int) < 0 := by omega
 have hm1 : ((N : Nat) : Int) * ((1 : Nat) : Int) ≤ 140737488355328 := by omega
 simp (disch := first | omega | (simp only [nx] <;> omega) | fail) only [vaw, F38, Nat.reduceAdd, Nat.reduceMul, Nat.reduceLeDiff, Nat.reduceEqDiff, ↓reduceIte]
 have kN : Keep Nothing H (H.new (.cells [.int .i64 N, ev] true)) := (Keep.refl _ _).new _
 have oN : (H.new (.cells [.int .i64 N, ev] true)).obj H.next = some (.cells [.int .i64 N, ev] true) := obj_new_eq rfl
 have nN : (H.new (.cells [.int .i64 N, ev] true)).next = H.next + 1 := rfl
 generalize H.new (.cells [.int .i64 N, ev] true) = HN at *
 refine adjNew_ret (hr.kept kN) hnet hN hn fun a o q ew uo ui H1 k1 g1 => ?_
 have o1 := (k1.old (i := H.next) (by omega)).trans oN
 have n1 := k1.next
 simp (disch := first | omega | (simp only [nx] <;> omega) | fail) only [vaw, o1, max_two, hN0, amkSlice_int hm1 (by omega), Nat.reduceAdd, Nat.reduceMul, Nat.reduceLeDiff, Nat.reduceEqDiff, ↓reduceIte]
 rw [reps_oneB]
 have kB : Keep Nothing H1 (H1.new (.cells (List.replicate N (.bool false)) true)) := (Keep.refl _ _).new _
 have oB : (H1.new (.cells (List.replicate N (.bool false)) true)).obj H1.next = some (.cells (List.replicate N (.bool false)) true) := obj_new_eq rfl
 have nB : (H1.new (.cells (List.replicate N (.bool false)) true)).next = H1.next + 1 := rfl
 generalize H1.new (.cells (List.replicate N (.bool false)) true) = HB at *
 refine wpx_loop (fun m t H' => ∃ (i : Nat), m = N - i ∧ i ≤ N ∧ t = (bots 3 (.func (.func 82) [.ptr a 0] [] :: .slice H1.next 0 N (.exact N) :: bots 9 (.int .i64 N :: .int .i64 i :: bots 13 ([]))) : Tmps) ∧ Keep Nothing H1 H' ∧ H1.next < H'.next ∧ H'.obj H1.next = some (.cells (bools ((List.range i).map (linkB es)) ++ List.replicate (N - i) (.bool false)) true)) N ?_ ?_
 ·exact ⟨0, rfl, by omega, rfl, kB, by omega, oB⟩
 ·rintro m t H2 ⟨i, rfl, hi, rfl, k2, n2, o2⟩
  by_cases hc : (i : Int) < N
  ·have hiN : i < N := by omega
   simp (disch := first | omega | (simp only [nx] <;> omega) | fail) only [vaw, hc, Nat.reduceAdd, Nat.reduceMul, Nat.reduceLeDiff, Nat.reduceEqDiff, ↓reduceIte]
   refine adjModes_ret (g1.kept k2) hiN hn (fun e he => ⟨(hnet e he).2.2.1.1, (hnet e he).2.2.1.2⟩) fun H3 k3 => ?_
   have hlt := orModes_lt (es := es) (fun e he => ⟨(hnet e he).2.2.1.1, (hnet e he).2.2.1.2⟩) (picks (isDst i) es es.length) _ (orModes_lt (fun e he => ⟨(hnet e he).2.2.1.1, (hnet e he).2.2.1.2⟩) (picks (isSrc i) es es.length) 0 (by omega))
   have hlb : linkB es i = decide (2 ≤ ((List.range 5).filter fun j => (orModes es (picks (isDst i) es es.length) (orModes es (picks (isSrc i) es es.length) 0)).testBit j).length) := rfl
   generalize orModes es (picks (isDst i) es es.length) (orModes es (picks (isSrc i) es es.length) 0) = z at *
   have hw : IntKind.u64.wrap (z : Int) = (z : Int) := by
    show ((z : Int) % 18446744073709551616) = _
    omega
   simp (disch := first | omega | (simp only [nx] <;> omega) | fail) only [vaw, hw, Nat.reduceAdd, Nat.reduceMul, Nat.reduceLeDiff, Nat.reduceEqDiff, ↓reduceIte]
   refine ones_ret hlt fun c hcc => ?_
   have o3 := (k3.old n2).trans o2
   have n3 := k3.next
   have hd : decide (1 < c) = linkB es i := by rw [hlb]; exact decide_eq_decide.2 hcc
   have hbl : (bools ((List.range i).map (linkB es)) ++ List.replicate (N - i) (AVal.bool false)).length = N := by simp [bools]; omega
   have hil : i + 1 ≤ (bools ((List.range i).map (linkB es)) ++ List.replicate (N - i) (AVal.bool false)).length := by omega
   have hsp := splice_one (l := bools ((List.range i).map (linkB es)) ++ List.replicate (N - i) (AVal.bool false)) (p := i) (x := .bool (linkB es i)) (by omega)
   have hset : (bools ((List.range i).map (linkB es)) ++ List.replicate (N - i) (AVal.bool false)).set i (AVal.bool (linkB es i)) = bools ((List.range (i + 1)).map (linkB es)) ++ List.replicate (N - (i + 1)) (AVal.bool false) := by
    rw [List.set_append_right _ _ (by simp [bools]), show N - i = (N - (i + 1)) + 1 by omega, List.replicate_succ]
    simp [bools, List.range_succ]
   rw [hset] at hsp
   simp (disch := first | omega | (simp only [nx] <;> omega) | fail) only [vaw, hd, o3, hil, hsp, Int.toNat_natCast, Nat.reduceAdd, Nat.reduceMul, Nat.reduceLeDiff, Nat.reduceEqDiff, ↓reduceIte]
   exact ⟨N - (i + 1), by omega, i + 1, rfl, by omega, rfl, (k2.trans k3).upd (.inl (Nat.le_refl _)) _, by omega, rfl⟩
  ·have : i = N := by omega
   subst this
   rw [Nat.sub_self, List.replicate_zero, List.append_nil] at o2
   simp (disch := first | omega | (simp only [nx] <;> omega) | fail) only [vaw, hc, Nat.reduceAdd, Nat.reduceMul, Nat.reduceLeDiff, Nat.reduceEqDiff, ↓reduceIte]
   refine hq _ _ ((kN.trans k1).trans k2) ?_
   exact .full (by omega) n2 o2 (by simp [bools])
end Go.Proofs.Ytknhlpmmalcchaa

namespace Go.Proofs.Ytknhlpmmalcchaa
open Go Go.VAI Go.Sort
set_option linter.unusedSimpArgs false

def dgB (es : List Edge) (v : Nat) : Int := (picks (isSrc v) es es.length).length + (picks (isDst v) es es.length).length
def rkB (es : List Edge) (n : Nat) : List (Int × Int) := ((List.range n).filter fun (v : Nat) => !linkB es v).map fun (v : Nat) => ((v : Int), dgB es v)
theorem rkB_succ (es : List Edge) (n : Nat) : rkB es (n + 1) = rkB es n ++ if linkB es n then [] else [((n : Int), dgB es n)] := by
 simp only [rkB, List.range_succ, List.filter_append, List.map_append, List.filter_cons, List.filter_nil]
 cases linkB es n <;> rfl
theorem rkB_len (es : List Edge) (n : Nat) : (rkB es n).length ≤ n := by
 simp only [rkB, List.length_map]
 exact Nat.le_trans (List.length_filter_le _ _) (by simp)
def odB (es : List Edge) (n : Nat) : List Int := (insertionSort (ltOf rankedCmp) (rkB es n).toArray 0 (rkB es n).length).toList.map Prod.fst
theorem aslice_sid {sz : Nat} {v v' : AVal} {lo hi mx : Option AVal} (h : aslice sz v lo hi mx = some v') : sid v' = sid v := by
 unfold aslice at h
 split at h
 ·split at h
  ·obtain ⟨_, _, h⟩ := bnd_some h
   obtain ⟨_, _, h⟩ := bnd_some h
   obtain ⟨_, _, h⟩ := bnd_some h
   split at h
   ·cases h
   ·injection h with h; subst h; rfl
  ·obtain ⟨_, _, h⟩ := bnd_some h
   obtain ⟨_, _, h⟩ := bnd_some h
   split at h
   ·injection h with h; subst h; rfl
   ·split at h
    ·injection h with h; subst h; rfl
    ·cases h
 ·obtain ⟨_, _, h⟩ := bnd_some h
  obtain ⟨_, _, h⟩ := bnd_some h
  obtain ⟨_, _, h⟩ := bnd_some h
  split at h
  ·cases h
  ·injection h with h; subst h; rfl
 ·cases h
set_option maxRecDepth 20000 in
set_option maxHeartbeats 8000000 in
theorem odBF_ret {N : Nat} {ev : AVal} {es : List Edge} {H : AHeap} {Q : AVal → AHeap → Prop} (hr : Row H ev 4 (edgeCells es)) (hnet : ∀ e ∈ es, EdgeOk N e) (hN : N ≤ 12) (hn : es.length ≤ 1000)
  (hq : ∀ v' H', Keep Nothing H H' → Row H' v' 1 (ints (odB es N)) → (∀ j, sid v' = some j → H.next ≤ j) → Q v' H') : Ret A 41 [.agg [.int .i64 N, ev]] H Q := by
 refine Ret.of (fn := F41) rfl ?_
 have be := hr.beq
 simp (disch := first | omega | (simp only [nx] <;> omega) | fail) only [vaw, F41, Nat.reduceAdd, Nat.reduceMul, Nat.reduceLeDiff, Nat.reduceEqDiff, ↓reduceIte]
 have kN : Keep Nothing H (H.new (.cells [.int .i64 N, ev] true)) := (Keep.refl _ _).new _
 have oN : (H.new (.cells [.int .i64 N, ev] true)).obj H.next = some (.cells [.int .i64 N, ev] true) := obj_new_eq rfl
 have nN : (H.new (.cells [.int .i64 N, ev] true)).next = H.next + 1 := rfl
 generalize H.new (.cells [.int .i64 N, ev] true) = HN at *
 refine adjNew_ret (hr.kept kN) hnet (by omega) hn fun a o q ew uo ui H1 k1 g1 => ?_
 have o1 := (k1.old (i := H.next) (by omega)).trans oN
 have n1 := k1.next
 simp (disch := first | omega | (simp only [nx] <;> omega) | fail) only [vaw, o1, Nat.reduceAdd, Nat.reduceMul, Nat.reduceLeDiff, Nat.reduceEqDiff, ↓reduceIte]
 refine linksB_ret ((hr.kept kN).kept k1) hnet (by omega) hn fun lv H2 k2 g2 => ?_
 have hll := g2.row.len1
 have hbl : (bools ((List.range N).map (linkB es))).length = N := by simp [bools]
 rw [hbl] at hll
 have ga := g1.kept k2
 simp (disch := first | omega | (simp only [nx] <;> omega) | fail) only [vaw, hll, Nat.reduceAdd, Nat.reduceMul, Nat.reduceLeDiff, Nat.reduceEqDiff, ↓reduceIte]
 refine wpx_loop (fun m t H' => ∃ (i : Nat) (gv : AVal), m = N - i ∧ i ≤ N ∧ t = (bots 4 (.func (.func 85) [.ptr a 0] [] :: .func (.func 86) [.ptr a 0] [] :: gv :: bots 12 (lv :: .int .i64 N :: .int .i64 i :: bots 41 ([]))) : Tmps) ∧ Keep Nothing H2 H' ∧ Own H2.next H' gv 2 ((rkB es i).flatMap rcells)) N ?_ ?_
 ·exact ⟨0, .nilSlice, rfl, by omega, rfl, .refl _ _, .nil⟩
 ·rintro m t H3 ⟨i, gv, rfl, hi, rfl, k3, g3⟩
  by_cases hc : (i : Int) < N
  ·have hiN : i < N := by omega
   have hx : (bools ((List.range N).map (linkB es)))[i]? = some (.bool (linkB es i)) := by simp [bools, hiN]
   obtain ⟨ip, op, p1, p2, p3⟩ := (g2.row.kept k3).at1 (k := .i64) (j := (i : Int)) (by omega) (by rw [Int.toNat_natCast]; exact hx)
   have hsu := rkB_succ es i
   have gA := ga.kept k3
   have hrl := rkB_len es i
   have n3 := k3.next
   cases hb : linkB es i with
   | true =>
    rw [hb] at p3 hsu
    simp (disch := first | omega | (simp only [nx] <;> omega) | fail) only [vaw, hc, p1, p3, Nat.reduceAdd, Nat.reduceMul, Nat.reduceLeDiff, Nat.reduceEqDiff, ↓reduceIte]
    refine ⟨N - (i + 1), by omega, i + 1, gv, rfl, by omega, rfl, k3, ?_⟩
    rw [hsu, if_pos rfl, List.append_nil]; exact g3
   | false =>
    rw [hb] at p3 hsu
    simp (disch := first | omega | (simp only [nx] <;> omega) | fail) only [vaw, hc, p1, p3, Nat.reduceAdd, Nat.reduceMul, Nat.reduceLeDiff, Nat.reduceEqDiff, ↓reduceIte]
    refine adjOut_ret gA hiN hn fun v4 H4 k4 g4 => ?_
    have l4 := g4.row.len1
    rw [ints_length] at l4
    have n4 := k4.next
    simp (disch := first | omega | (simp only [nx] <;> omega) | fail) only [vaw, l4, Nat.reduceAdd, Nat.reduceMul, Nat.reduceLeDiff, Nat.reduceEqDiff, ↓reduceIte]
    refine adjIn_ret (gA.kept k4) hiN hn fun v5 H5 k5 g5 => ?_
    have l5 := g5.row.len1
    rw [ints_length] at l5
    have n5 := k5.next
    have e4 := @picks_length (isSrc i) es es.length
    have e5 := @picks_length (isDst i) es es.length
    simp (disch := first | omega | (simp only [nx] <;> omega) | fail) only [vaw, l5, Nat.reduceAdd, Nat.reduceMul, Nat.reduceLeDiff, Nat.reduceEqDiff, ↓reduceIte]
    have g35 : Own H2.next H5 gv 2 ((rkB es i).flatMap rcells) := (g3.kept k4).kept k5
    refine app_ret (n := (rkB es i).length) (k := 1) g35 (by simp (disch := first | omega | (simp only [nx] <;> omega) | fail) only [vaim]; rfl) rfl (by omega) (by omega) (by rw [flat_size rcells_len]) (by omega) (by omega) ?_
    intro v6 H6 n6 k6 g6 s6
    simp (disch := first | omega | (simp only [nx] <;> omega) | fail) only [vaw, g6.notBot, Nat.reduceAdd, Nat.reduceMul, Nat.reduceLeDiff, Nat.reduceEqDiff, ↓reduceIte]
    refine ⟨N - (i + 1), by omega, i + 1, v6, rfl, by omega, rfl, ?_, ?_⟩
    ·exact (((k3.trans k4).trans k5).new _).trans' (N := fun j => sid gv = some j) ⟨n6, k6⟩ (fun j hj hm => by have := (g35.sid_ge hm).1; omega)
    ·rw [hsu, if_neg (by decide), List.flatMap_append]
     exact g6.own
  ·have : i = N := by omega
   subst this
   simp (disch := first | omega | (simp only [nx] <;> omega) | fail) only [vaw, hc, Nat.reduceAdd, Nat.reduceMul, Nat.reduceLeDiff, Nat.reduceEqDiff, ↓reduceIte]
   have hdl := rkB_len es i
   have g3' : Own H2.next H3 gv 2 (rowOf rcells (rkB es i).toArray) := by simpa [rowOf] using g3
   refine sortR_ret (c := rankedCmp) (fun a b H Q hq => rcmp_ret hq) g3' (by simp; omega) fun H4 k4 g4 => ?_
   have hs1 := g3'.row.len (n := (rkB es i).length) (by omega) (by rw [rowOf_length rcells_len]; simp)
   have hod : odB es i = (insertionSort (ltOf rankedCmp) (rkB es i).toArray 0 (rkB es i).toArray.size).toList.map Prod.fst := by simp [odB]
   generalize insertionSort (ltOf rankedCmp) (rkB es i).toArray 0 (rkB es i).toArray.size = S at *
   have hs2 := g4.row.len (n := S.size) (by omega) (rowOf_length rcells_len S)
   have hS : S.size ≤ 12 := by
    rw [hs1] at hs2; injection hs2 with hs2; injection hs2 with _ hs2; omega
   have hSl : (S.toList.map Prod.fst).length = S.size := by simp
   simp (disch := first | omega | (simp only [nx] <;> omega) | fail) only [vaw, hs2, Nat.reduceAdd, Nat.reduceMul, Nat.reduceLeDiff, Nat.reduceEqDiff, ↓reduceIte]
   refine wpx_loop (fun m t H' => ∃ (j : Nat) (ov : AVal), m = S.size - j ∧ j ≤ S.size ∧ t = (bots 9 (ov :: bots 35 (gv :: .int .i64 S.size :: .int .i64 j :: bots 15 ([]))) : Tmps) ∧ Keep Nothing H4 H' ∧ Own H4.next H' ov 1 (ints ((S.toList.map Prod.fst).take j))) S.size ?_ ?_
   ·exact ⟨0, .nilSlice, rfl, by omega, rfl, .refl _ _, .nil⟩
   ·rintro m t H5 ⟨j, ov, rfl, hj, rfl, k5, g5⟩
    by_cases hjc : (j : Int) < S.size
    ·have hjS : j < S.size := by omega
     have hlen := rowOf_length rcells_len S
     obtain ⟨id, q1, q2, q3, q4, q5, q6⟩ := Own.slotN g4 (n := S.size) (j := j) (k := .i64) (by omega) hlen (by omega)
     have w1 := rowOf_get rcells_len (d := S) (i := j) (by omega)
     have w2 : (S.toList.map Prod.fst)[j]? = some S[j]!.1 := by
      rw [List.getElem?_map, Array.getElem?_toList, getElem!_pos S j hjS]
      simp [hjS]
     have l1 : j * 2 + 2 ≤ (rowOf rcells S).length := by omega
     have q5' := (k5.old q3).trans q5
     have htk : (S.toList.map Prod.fst).take (j + 1) = (S.toList.map Prod.fst).take j ++ [S[j]!.1] := by
      rw [List.take_succ, w2]; rfl
     generalize S[j]! = x at *
     have w3 : rcells x = [.int .i64 x.1, .int .i64 x.2] := rfl
     rw [w3] at w1
     simp (disch := first | omega | (simp only [nx] <;> omega) | fail) only [vaw, hjc, q4, q5', w1, l1, Nat.reduceAdd, Nat.reduceMul, Nat.reduceLeDiff, Nat.reduceEqDiff, ↓reduceIte]
     have n5 := k5.next
     refine app_ret (n := j) (k := 1) g5 (by simp (disch := first | omega | (simp only [nx] <;> omega) | fail) only [vaim]; rfl) rfl (by omega) (by omega) (by rw [ints_length, List.length_take]; omega) (by omega) (by omega) ?_
     intro v6 H6 n6 k6 g6 s6
     simp (disch := first | omega | (simp only [nx] <;> omega) | fail) only [vaw, g6.notBot, Nat.reduceAdd, Nat.reduceMul, Nat.reduceLeDiff, Nat.reduceEqDiff, ↓reduceIte]
     refine ⟨S.size - (j + 1), by omega, j + 1, v6, rfl, by omega, rfl, ?_, ?_⟩
     ·refine Keep.trans' (N := fun j => sid ov = some j) ?_ ⟨n6, k6⟩ (fun j hj hm => by have := (g5.sid_ge hm).1; omega)
      exact ((k5.new _).upd (.inl k5.next) _).new _
     ·rw [htk, ints_append]
      exact g6.own
    ·have : j = S.size := by omega
     subst this
     rw [List.take_of_length_le (by omega), ← hod] at g5
     have hol : (odB es i).length = S.size := by rw [hod]; exact hSl
     have hvl := g5.row.len1
     rw [ints_length] at hvl
     obtain ⟨v9, z1, z2⟩ := RowC.whole g5.rowC (n := (odB es i).length) (kd := .i64) (by omega) (by rw [ints_length, Nat.mul_one])
     simp (disch := first | omega | (simp only [nx] <;> omega) | fail) only [vaw, hjc, hvl, z1, z2.notBot, Nat.reduceAdd, Nat.reduceMul, Nat.reduceLeDiff, Nat.reduceEqDiff, ↓reduceIte]
     refine hq _ _ ?_ z2 (fun j hj => by
      rw [aslice_sid z1] at hj
      have := (g5.sid_ge hj).1
      have := kN.next
      have := k1.next
      have := k2.next
      have := k3.next
      have := k4.next
      omega)
     have kk : Keep Nothing H2 H4 := k3.trans' k4 (fun j hj hm => by have := (g3.sid_ge hm).1; omega)
     exact (((kN.trans k1).trans k2).trans kk).trans k5
end Go.Proofs.Ytknhlpmmalcchaa

namespace Go.Proofs.Ytknhlpmmalcchaa
open Go Go.VAI
set_option linter.unusedSimpArgs false

def wayOf (es : List Edge) (x : Int) : Nat := (es[x.toNat]?).elim 0 fun e => e.mode.toNat
theorem bit_one (m i : Nat) : (1 <<< m).testBit i = decide (m = i) := by
 rw [Nat.one_shiftLeft, Nat.testBit_two_pow]
theorem orModes_bit (es : List Edge) (i : Nat) : ∀ (xs : List Int) (a : Nat), (orModes es xs a).testBit i = true ↔ a.testBit i = true ∨ ∃ x ∈ xs, wayOf es x = i
 | [], a => by simp [orModes]
 | x :: l, a => by
  rw [orModes, orModes_bit es i l, Nat.testBit_or, bit_one, Bool.or_eq_true, decide_eq_true_iff]
  simp only [List.mem_cons, wayOf]
  constructor
  ·rintro ((h | h) | ⟨y, h1, h2⟩)
   ·exact .inl h
   ·exact .inr ⟨x, .inl rfl, h⟩
   ·exact .inr ⟨y, .inr h1, h2⟩
  ·rintro (h | ⟨y, rfl | h1, h2⟩)
   ·exact .inl (.inl h)
   ·exact .inl (.inr h2)
   ·exact .inr ⟨y, h1, h2⟩
def ways (v : Int) (es : List Edge) (a : Nat) : Nat := es.foldl (fun s e => if e.src = v ∨ e.dst = v then s ||| 1 <<< e.mode.toNat else s) a
theorem ways_bit (v : Int) (i : Nat) : ∀ (es : List Edge) (a : Nat), (ways v es a).testBit i = true ↔ a.testBit i = true ∨ ∃ e ∈ es, (e.src = v ∨ e.dst = v) ∧ e.mode.toNat = i
 | [], a => by simp [ways]
 | e :: l, a => by
  have ih := ways_bit v i l
  unfold ways at ih ⊢
  rw [List.foldl_cons, ih]
  by_cases h : e.src = v ∨ e.dst = v
  ·rw [if_pos h, Nat.testBit_or, bit_one, Bool.or_eq_true, decide_eq_true_iff]
   constructor
   ·rintro ((h1 | h1) | ⟨y, h1, h2⟩)
    ·exact .inl h1
    ·exact .inr ⟨e, List.mem_cons_self, h, h1⟩
    ·exact .inr ⟨y, List.mem_cons_of_mem _ h1, h2⟩
   ·rintro (h1 | ⟨y, hy, h1, h2⟩)
    ·exact .inl (.inl h1)
    ·rcases List.mem_cons.1 hy with rfl | hy
     ·exact .inl (.inr h2)
     ·exact .inr ⟨y, hy, h1, h2⟩
  ·rw [if_neg h]
   constructor
   ·rintro (h1 | ⟨y, h1, h2⟩)
    ·exact .inl h1
    ·exact .inr ⟨y, List.mem_cons_of_mem _ h1, h2⟩
   ·rintro (h1 | ⟨y, hy, h1, h2⟩)
    ·exact .inl h1
    ·rcases List.mem_cons.1 hy with rfl | hy
     ·exact absurd h1 h
     ·exact .inr ⟨y, hy, h1, h2⟩
theorem ways_eq (v : Int) : ∀ (es : List Edge) (a : Nat), (∀ e ∈ es, 0 ≤ e.mode ∧ e.mode < 5) → a < 32 →
  es.foldl (fun s e => if e.src = v ∨ e.dst = v then orI .i64 s (shlI .i64 1 e.mode) else s) (a : Int) = ((ways v es a : Nat) : Int) ∧ ways v es a < 32
 | [], a, _, h => ⟨rfl, h⟩
 | e :: l, a, hm, h => by
  have ih := ways_eq v l
  unfold ways at ih ⊢
  rw [List.foldl_cons, List.foldl_cons]
  have hme := hm e List.mem_cons_self
  obtain ⟨m, hm2⟩ := Int.eq_ofNat_of_zero_le hme.1
  have o := or32 a h m (by omega)
  rw [hm2, Int.toNat_natCast]
  by_cases hs : e.src = v ∨ e.dst = v
  ·rw [if_pos hs, if_pos hs, o.1]
   exact ih _ (fun e he => hm e (List.mem_cons_of_mem _ he)) o.2
  ·rw [if_neg hs, if_neg hs]
   exact ih _ (fun e he => hm e (List.mem_cons_of_mem _ he)) h
theorem count32 : ∀ z : Nat, z < 32 → (2 ≤ ((List.range 5).filter fun i => z.testBit i).length ↔ 2 ≤ modesIn (z : Int) 5) := by decide
theorem picks_mem {p : Edge → Bool} {es : List Edge} {x : Int} : x ∈ picks p es es.length ↔ ∃ (j : Nat) (e : Edge), x = j ∧ es[j]? = some e ∧ p e = true := by
 simp only [picks, List.mem_map, List.mem_filter, List.mem_range]
 constructor
 ·rintro ⟨j, ⟨h1, h2⟩, rfl⟩
  rw [List.getElem?_eq_getElem h1] at h2
  exact ⟨j, es[j], rfl, List.getElem?_eq_getElem h1, h2⟩
 ·rintro ⟨j, e, rfl, h1, h2⟩
  refine ⟨j, ⟨(List.getElem?_eq_some_iff.1 h1).1, ?_⟩, rfl⟩
  rw [h1]; exact h2
theorem linkB_eq {es : List Edge} (hm : ∀ e ∈ es, 0 ≤ e.mode ∧ e.mode < 5) (v : Nat) : linkB es v = linkAt es (v : Int) := by
 obtain ⟨h1, h2⟩ := ways_eq (v : Int) es 0 hm (by decide)
 have hz : orModes es (picks (isDst v) es es.length) (orModes es (picks (isSrc v) es es.length) 0) = ways v es 0 := by
  refine Nat.eq_of_testBit_eq fun i => ?_
  rw [Bool.eq_iff_iff, orModes_bit, orModes_bit, ways_bit]
  simp only [Nat.zero_testBit, Bool.false_eq_true, false_or, picks_mem]
  constructor
  ·rintro (⟨x, ⟨j, e, rfl, h3, h4⟩, h5⟩ | ⟨x, ⟨j, e, rfl, h3, h4⟩, h5⟩)
   ·refine ⟨e, List.mem_of_getElem? h3, .inl (by simpa using h4), ?_⟩
    simpa [wayOf, h3] using h5
   ·refine ⟨e, List.mem_of_getElem? h3, .inr (by simpa using h4), ?_⟩
    simpa [wayOf, h3] using h5
  ·rintro ⟨e, he, h3, h4⟩
   obtain ⟨j, hj⟩ := List.mem_iff_getElem?.1 he
   rcases h3 with h3 | h3
   ·exact .inl ⟨j, ⟨j, e, rfl, hj, by simpa using h3⟩, by simpa [wayOf, hj] using h4⟩
   ·exact .inr ⟨j, ⟨j, e, rfl, hj, by simpa using h3⟩, by simpa [wayOf, hj] using h4⟩
 have e1 : linkB es v = decide (2 ≤ ((List.range 5).filter fun i => (ways v es 0).testBit i).length) := by unfold linkB; rw [hz]
 have e2 : linkAt es (v : Int) = decide (2 ≤ modesIn ((ways v es 0 : Nat) : Int) 5) := by
  unfold linkAt modesOf
  have h1' : es.foldl (fun s e => if e.src = (v : Int) ∨ e.dst = (v : Int) then orI .i64 s (shlI .i64 1 e.mode) else s) 0 = ((ways v es 0 : Nat) : Int) := h1
  rw [h1']
 rw [e1, e2]
 exact decide_eq_decide.2 (count32 _ h2)
theorem dgB_eq (es : List Edge) (v : Nat) : dgB es v = (degree es (v : Int) : Nat) := by
 exact (Int.natCast_add _ _).symm
end Go.Proofs.Ytknhlpmmalcchaa

namespace Go.Proofs.Ytknhlpmmalcchaa
open Go Go.VAI Go.Sort
set_option linter.unusedSimpArgs false

theorem cmpI_zero {x y : Int} : cmpI x y = 0 ↔ x = y := by unfold cmpI; split <;> (try split) <;> omega
theorem cmpI_neg {x y : Int} : cmpI x y < 0 ↔ x < y := by unfold cmpI; split <;> (try split) <;> omega
theorem ranked_lt {a b : Int × Int} : ltOf rankedCmp a b = true ↔ a.2 < b.2 ∨ (a.2 = b.2 ∧ a.1 < b.1) := by
 have z := @cmpI_zero a.2 b.2
 have n := @cmpI_neg a.2 b.2
 have z1 := @cmpI_zero a.1 b.1
 have n1 := @cmpI_neg a.1 b.1
 unfold ltOf rankedCmp
 rw [decide_eq_true_iff]
 simp only [orOf]
 by_cases h : cmpI a.2 b.2 = 0
 ·rw [if_neg (fun q => q h)]
  have he := z.1 h
  by_cases h1 : cmpI a.1 b.1 = 0
  ·rw [if_neg (fun q => q h1)]
   have := z1.1 h1
   omega
  ·rw [if_pos h1, n1]
   omega
 ·rw [if_pos h, n]
  have := fun q => h (z.2 q)
  omega
theorem ranked_nlt {a b : Int × Int} : ltOf rankedCmp a b = false ↔ b.2 < a.2 ∨ (a.2 = b.2 ∧ b.1 ≤ a.1) := by
 rw [← Bool.not_eq_true, ranked_lt]; omega
theorem ranked_swo : SWO (ltOf rankedCmp) where
 irrefl x := by rw [ranked_nlt]; omega
 trans x y z h1 h2 := by rw [ranked_lt] at *; omega
 ntrans x y z h1 h2 := by rw [ranked_nlt] at *; omega
theorem ranked_two (x y : Int × Int) (h1 : ltOf rankedCmp x y = false) (h2 : ltOf rankedCmp y x = false) : x = y := by
 rw [ranked_nlt] at h1 h2
 refine Prod.ext ?_ ?_ <;> omega
def pairRow (es : List Edge) (d : Int) (n : Nat) : List (Int × Int) := ((List.range n).filter fun (v : Nat) => !linkAt es v && decide ((degree es v : Int) = d)).map fun (v : Nat) => ((v : Int), d)
def pairsOf (N : Nat) (es : List Edge) (k : Nat) : List (Int × Int) := (List.range k).flatMap fun (d : Nat) => pairRow es d N
theorem pairs_fst (N : Nat) (es : List Edge) (k : Nat) : (pairsOf N es k).map Prod.fst = orderOf N es k := by
 unfold pairsOf orderOf
 rw [List.map_flatMap]
 congr 1
 funext d
 simp [pairRow, orderRow, List.map_map, Function.comp_def]
theorem pairs_sorted (N : Nat) (es : List Edge) (k : Nat) : (pairsOf N es k).Pairwise fun a b => a.2 < b.2 ∨ (a.2 = b.2 ∧ a.1 < b.1) := by
 unfold pairsOf
 rw [List.pairwise_flatMap]
 refine ⟨fun d _ => ?_, ?_⟩
 ·unfold pairRow
  rw [List.pairwise_map]
  refine (List.pairwise_lt_range.filter _).imp fun h => .inr ⟨rfl, by simpa using h⟩
 ·refine List.pairwise_lt_range.imp fun {d d'} h => ?_
  intro x hx y hy
  simp only [pairRow, List.mem_map] at hx hy
  obtain ⟨v, _, rfl⟩ := hx
  obtain ⟨v', _, rfl⟩ := hy
  exact .inl (by simpa using h)
theorem pairs_perm (N : Nat) (es : List Edge) (hm : ∀ e ∈ es, 0 ≤ e.mode ∧ e.mode < 5) : (pairsOf N es (2 * es.length + 1)).Perm (rkB es N) := by
 have nd1 : (pairsOf N es (2 * es.length + 1)).Nodup := (pairs_sorted N es _).imp fun {a b} h e => by subst e; omega
 have nd2 : (rkB es N).Nodup := by
  unfold rkB
  rw [List.nodup_iff_pairwise_ne, List.pairwise_map]
  refine (List.pairwise_lt_range.filter _).imp fun {a b} h e => ?_
  have := congrArg Prod.fst e
  simp at this
  omega
 refine (List.perm_ext_iff_of_nodup nd1 nd2).2 fun x => ?_
 simp only [pairsOf, pairRow, rkB, List.mem_flatMap, List.mem_map, List.mem_filter, List.mem_range, Bool.and_eq_true, decide_eq_true_iff]
 constructor
 ·rintro ⟨d, hd, v, ⟨hv, hl, hdg⟩, rfl⟩
  refine ⟨v, ⟨hv, by rw [linkB_eq hm]; exact hl⟩, ?_⟩
  rw [dgB_eq, hdg]
 ·rintro ⟨v, ⟨hv, hl⟩, rfl⟩
  refine ⟨degree es v, ?_, v, ⟨hv, by rw [← linkB_eq hm]; exact hl, rfl⟩, ?_⟩
  ·have h1 := @picks_length (fun e => decide (e.src = (v : Int))) es es.length
   have h2 := @picks_length (fun e => decide (e.dst = (v : Int))) es es.length
   unfold degree
   omega
  ·rw [dgB_eq]
theorem odB_eq {N : Nat} {es : List Edge} (hm : ∀ e ∈ es, 0 ≤ e.mode ∧ e.mode < 5) : odB es N = orderOf N es (2 * es.length + 1) := by
 have hs := insertionSort_holds (lt := ltOf rankedCmp) ranked_swo (rkB es N).toArray 0 (rkB es N).toArray.size (by omega) (Nat.le_refl _)
 have hu := sorted_unique_holds (lt := ltOf rankedCmp) ranked_swo ranked_two
 have a1 := hu _ _ hs.1 hs.2
 have hp := pairs_perm N es hm
 have hl := hp.length_eq
 have a2 := hu (rkB es N).toArray (pairsOf N es (2 * es.length + 1)).toArray ⟨by simp [hl], fun i h => by
   have hi : (rkB es N).length ≤ i := by simp at h; omega
   rw [getElem!_neg _ _ (by simp; omega), getElem!_neg _ _ (by simp; omega)], by
    have ht : (pairsOf N es (2 * es.length + 1)).take (rkB es N).length = pairsOf N es (2 * es.length + 1) := List.take_of_length_le (by omega)
    simpa [ht] using hp⟩ (fun i j _ hij hj => by
   have hj' : j < (pairsOf N es (2 * es.length + 1)).length := by simp at hj; omega
   have := List.pairwise_iff_getElem.1 (pairs_sorted N es (2 * es.length + 1)) i j (by omega) hj' hij
   rw [ranked_nlt, getElem!_pos _ _ (by simp; omega), getElem!_pos _ _ (by simp; omega)]
   simp only [List.getElem_toArray]
   omega)
 have e : (insertionSort (ltOf rankedCmp) (rkB es N).toArray 0 (rkB es N).toArray.size).toList = pairsOf N es (2 * es.length + 1) := by rw [a1, ← a2]
 have e0 : odB es N = (insertionSort (ltOf rankedCmp) (rkB es N).toArray 0 (rkB es N).toArray.size).toList.map Prod.fst := by simp [odB]
 rw [e0, e, pairs_fst]
end Go.Proofs.Ytknhlpmmalcchaa

namespace Go.Proofs.Ytknhlpmmalcchaa
open Go Go.VAI
set_option linter.unusedSimpArgs false

theorem HLay.ranks {H : AHeap} {b mid rid uid did gid N : Nat} {es : List Edge} {ew av : AVal} {ms : List (Key × Int)} {arcs : List Arc} {gone : List Bool} {rank : List Int} {us ds : List AVal} (h : HLay H b mid rid uid did gid N es ew av ms arcs gone rank us ds) {rank' : List Int} (hg : rank'.length = N) :
  HLay (H.upd rid (some (.cells (ints rank') true))) b mid rid uid did gid N es ew av ms arcs gone rank' us ds := by
 obtain ⟨o1, o2, o3, o4, o5, o6⟩ := h.ord
 have kM : Keep (fun j => j = rid) H (H.upd rid (some (.cells (ints rank') true))) := (Keep.refl (fun j => j = rid) _).upd (.inr rfl) _
 exact ⟨(kM.obj _ (by omega) (by omega)).trans h.bo, (kM.obj _ (by omega) (by omega)).trans h.mo, obj_upd_eq rfl, (kM.obj _ (by omega) (by omega)).trans h.uo, (kM.obj _ (by omega) (by omega)).trans h.dO, (kM.obj _ (by omega) (by omega)).trans h.go, ⟨o1, o2, o3, o4, o5, o6⟩, h.ewid, h.edges.M kM (fun j hj e => by have := h.ewid j hj; omega), h.arcsO.keepM kM (fun j hj e => by have := (h.arcsO.sid_ge hj).1; omega), hg, h.ul, h.dl, h.gl⟩
theorem HLay.ups {H : AHeap} {b mid rid uid did gid N : Nat} {es : List Edge} {ew av : AVal} {ms : List (Key × Int)} {arcs : List Arc} {gone : List Bool} {rank : List Int} {us ds : List AVal} (h : HLay H b mid rid uid did gid N es ew av ms arcs gone rank us ds) {us' : List AVal} (hg : us'.length = N) :
  HLay (H.upd uid (some (.cells us' true))) b mid rid uid did gid N es ew av ms arcs gone rank us' ds := by
 obtain ⟨o1, o2, o3, o4, o5, o6⟩ := h.ord
 have kM : Keep (fun j => j = uid) H (H.upd uid (some (.cells us' true))) := (Keep.refl (fun j => j = uid) _).upd (.inr rfl) _
 exact ⟨(kM.obj _ (by omega) (by omega)).trans h.bo, (kM.obj _ (by omega) (by omega)).trans h.mo, (kM.obj _ (by omega) (by omega)).trans h.ro, obj_upd_eq rfl, (kM.obj _ (by omega) (by omega)).trans h.dO, (kM.obj _ (by omega) (by omega)).trans h.go, ⟨o1, o2, o3, o4, o5, o6⟩, h.ewid, h.edges.M kM (fun j hj e => by have := h.ewid j hj; omega), h.arcsO.keepM kM (fun j hj e => by have := (h.arcsO.sid_ge hj).1; omega), h.rl, hg, h.dl, h.gl⟩
theorem RowsAt.M' {lo : Nat} {M : Nat → Prop} {H H' : AHeap} {av av' : AVal} {us : List AVal} {ul : List (List Int)} (h : RowsAt lo H av us ul) (hk : Keep M H H') (hM : ∀ j, M j → j < lo ∨ sid av = some j) (ha : ∀ j, sid av' = some j → sid av = some j ∨ H.next ≤ j) : RowsAt lo H' av' us ul := by
 intro v r l h1 h2
 obtain ⟨h3, h4⟩ := h v r l h1 h2
 refine ⟨h3.M hk (fun j hj hm => ?_), fun j hj => ⟨(h4 j hj).1, fun e => ?_⟩⟩
 ·rcases hM j hm with h | h
  ·have := (h4 j hj).1; omega
  ·exact (h4 j hj).2 h
 ·rcases ha j e with ha | ha
  ·exact (h4 j hj).2 ha
  ·have := h3.sid_lt hj
   omega
theorem order_few {N : Nat} {l : List Int} (h : OrderOk N l) : l.length ≤ N := by
 have := few_below N l h.nodup h.bd
 exact this
theorem rowsAt_nil {lo : Nat} {H : AHeap} {av : AVal} (N : Nat) : RowsAt lo H av (List.replicate N .nilSlice) (List.replicate N []) := by
 intro v r l h1 h2
 have e1 := List.eq_of_mem_replicate (List.mem_of_getElem? h1)
 have e2 := List.eq_of_mem_replicate (List.mem_of_getElem? h2)
 subst e1; subst e2
 exact ⟨.nil, fun j hj => by cases hj⟩
theorem ints_set (l : List Int) (i : Nat) (x : Int) : (ints l).set i (.int .i64 x) = ints (l.set i x) := by simp [ints, List.map_set]
set_option maxRecDepth 20000 in
set_option maxHeartbeats 8000000 in
theorem hbuild_ret {N : Nat} {ev : AVal} {es : List Edge} {H : AHeap} {Q : AVal → AHeap → Prop} (hr : Row H ev 4 (edgeCells es)) (hnet : NetOk N es) (hN : N ≤ 12)
  (hq : ∀ ew rv av uv dv H', Keep Nothing H H' → IdxFrom H.next H' ew rv av uv dv (idxOf N es) → Q (.agg [.int .i64 N, ew, rv, av, uv, dv]) H') : Ret A 48 [.agg [.int .i64 N, ev]] H Q := by
 obtain ⟨hN1, hN2, hn, hok⟩ := hnet
 refine Ret.of (fn := F48) rfl ?_
 have hcells := hr.cells
 have hg1 : (N : Int) * ((1 : Nat) : Int) ≤ 140737488355328 := by omega
 have hg8 : (N : Int) * ((8 : Nat) : Int) ≤ 140737488355328 := by omega
 have hg2 : (N : Int) ≤ 9223372036854775807 := by omega
 have hg3 : (N : Int) * ((24 : Nat) : Int) ≤ 140737488355328 := by omega
 simp (disch := first | omega | (simp only [nx] <;> omega) | fail) only [vaw, F48, Nat.reduceAdd, Nat.reduceMul, Nat.reduceLeDiff, Nat.reduceEqDiff, ↓reduceIte]
 have k0 : Keep Nothing H ((H.new (.cells [.int .i64 N, ev] true)).new (.cells [.int .i64 0, .nilSlice, .nilSlice, .nilSlice, .nilSlice, .nilSlice] true)) := ((Keep.refl _ _).new _).new _
 have z1 : ((H.new (.cells [.int .i64 N, ev] true)).new (.cells [.int .i64 0, .nilSlice, .nilSlice, .nilSlice, .nilSlice, .nilSlice] true)).obj H.next = some (.cells [.int .i64 N, ev] true) := by simp (disch := first | omega | (simp only [nx] <;> omega) | fail) only [vaim]
 have z2 : ((H.new (.cells [.int .i64 N, ev] true)).new (.cells [.int .i64 0, .nilSlice, .nilSlice, .nilSlice, .nilSlice, .nilSlice] true)).obj (H.next + 1) = some (.cells [.int .i64 0, .nilSlice, .nilSlice, .nilSlice, .nilSlice, .nilSlice] true) := obj_new_eq rfl
 have nz : ((H.new (.cells [.int .i64 N, ev] true)).new (.cells [.int .i64 0, .nilSlice, .nilSlice, .nilSlice, .nilSlice, .nilSlice] true)).next = H.next + 2 := rfl
 generalize (H.new (.cells [.int .i64 N, ev] true)).new (.cells [.int .i64 0, .nilSlice, .nilSlice, .nilSlice, .nilSlice, .nilSlice] true) = HZ at *
 refine cloneE_ret (hr.kept k0) (by omega) fun ew H1 k1 g1 => ?_
 have n1 := k1.next
 have y1 := (k1.old (by omega)).trans z1
 have y2 := (k1.old (by omega)).trans z2
 have cw := g1.cells
 have hew : ∀ j, sid ew = some j → H.next + 2 ≤ j ∧ j < H1.next := fun j hj => by have := g1.sid_ge hj; omega
 have hcm : ∀ i, (AVal.map i).cells = some [AVal.map i] := fun _ => rfl
 simp (disch := first | omega | (simp only [nx] <;> omega) | fail) only [vaw, y1, y2, cw, amkSlice_int hg1 hg2, amkSlice_int hg8 hg2, amkSlice_int hg3 hg2, hcm, reps_oneB, Nat.reduceAdd, Nat.reduceMul, Nat.reduceLeDiff, Nat.reduceEqDiff, ↓reduceIte]
 have hXK : Keep (fun j => j = H.next) H1 (((((((((H1.upd H.next (some (.cells [.int .i64 N, ew] true))).new (.cells (List.replicate N (.int .i64 0)) true)).new (.cells (List.replicate N .nilSlice) true)).new (.cells (List.replicate N .nilSlice) true)).new (.amap [])).new (.cells (List.replicate N (.bool false)) true)).new (.cells [.int .i64 N, ew, .slice H1.next 0 N (.exact N), .nilSlice, .slice (H1.next + 1) 0 N (.exact N), .slice (H1.next + 1 + 1) 0 N (.exact N), .map (H1.next + 1 + 1 + 1), .slice (H1.next + 1 + 1 + 1 + 1) 0 N (.exact N)] true)).new (.cells [.nilPtr] true)).upd (H1.next + 1 + 1 + 1 + 1 + 1 + 1) (some (.cells [.ptr (H1.next + 1 + 1 + 1 + 1 + 1) 0] true))) := ((((((((Keep.refl (fun j => j = H.next) H1).upd (.inr rfl) _).new _).new _).new _).new _).new _).new _).new _ |>.upd (.inl (by first | omega | (simp only [next_new, next_upd]; omega))) _
 have hXH : HLay (((((((((H1.upd H.next (some (.cells [.int .i64 N, ew] true))).new (.cells (List.replicate N (.int .i64 0)) true)).new (.cells (List.replicate N .nilSlice) true)).new (.cells (List.replicate N .nilSlice) true)).new (.amap [])).new (.cells (List.replicate N (.bool false)) true)).new (.cells [.int .i64 N, ew, .slice H1.next 0 N (.exact N), .nilSlice, .slice (H1.next + 1) 0 N (.exact N), .slice (H1.next + 1 + 1) 0 N (.exact N), .map (H1.next + 1 + 1 + 1), .slice (H1.next + 1 + 1 + 1 + 1) 0 N (.exact N)] true)).new (.cells [.nilPtr] true)).upd (H1.next + 1 + 1 + 1 + 1 + 1 + 1) (some (.cells [.ptr (H1.next + 1 + 1 + 1 + 1 + 1) 0] true))) (H1.next + 1 + 1 + 1 + 1 + 1) (H1.next + 1 + 1 + 1) H1.next (H1.next + 1) (H1.next + 1 + 1) (H1.next + 1 + 1 + 1 + 1) N es ew .nilSlice [] [] (List.replicate N false) (List.replicate N 0) (List.replicate N .nilSlice) (List.replicate N .nilSlice) := by
  have e1 : bools (List.replicate N false) = List.replicate N (.bool false) := by simp [bools]
  have e2 : ints (List.replicate N 0) = List.replicate N (.int .i64 0) := by simp [ints]
  refine ⟨by simp (disch := first | omega | (simp only [nx] <;> omega) | fail) only [vaim], by simp (disch := first | omega | (simp only [nx] <;> omega) | fail) only [vaim]; rfl, by simp (disch := first | omega | (simp only [nx] <;> omega) | fail) only [vaim]; rw [e2], by simp (disch := first | omega | (simp only [nx] <;> omega) | fail) only [vaim], by simp (disch := first | omega | (simp only [nx] <;> omega) | fail) only [vaim], by simp (disch := first | omega | (simp only [nx] <;> omega) | fail) only [vaim]; rw [e1], ⟨by omega, by omega, by omega, by omega, by omega, (by first | omega | (simp only [next_new, next_upd]; omega))⟩, fun j hj => (hew j hj).2, g1.row.M hXK (fun j hj e => by have := hew j hj; omega), .nil, by simp, by simp, by simp, by simp⟩
 have hXc : (((((((((H1.upd H.next (some (.cells [.int .i64 N, ew] true))).new (.cells (List.replicate N (.int .i64 0)) true)).new (.cells (List.replicate N .nilSlice) true)).new (.cells (List.replicate N .nilSlice) true)).new (.amap [])).new (.cells (List.replicate N (.bool false)) true)).new (.cells [.int .i64 N, ew, .slice H1.next 0 N (.exact N), .nilSlice, .slice (H1.next + 1) 0 N (.exact N), .slice (H1.next + 1 + 1) 0 N (.exact N), .map (H1.next + 1 + 1 + 1), .slice (H1.next + 1 + 1 + 1 + 1) 0 N (.exact N)] true)).new (.cells [.nilPtr] true)).upd (H1.next + 1 + 1 + 1 + 1 + 1 + 1) (some (.cells [.ptr (H1.next + 1 + 1 + 1 + 1 + 1) 0] true))).obj (H1.next + 1 + 1 + 1 + 1 + 1 + 1) = some (.cells [.ptr (H1.next + 1 + 1 + 1 + 1 + 1) 0] true) := obj_upd_eq rfl
 have hXn : (((((((((H1.upd H.next (some (.cells [.int .i64 N, ew] true))).new (.cells (List.replicate N (.int .i64 0)) true)).new (.cells (List.replicate N .nilSlice) true)).new (.cells (List.replicate N .nilSlice) true)).new (.amap [])).new (.cells (List.replicate N (.bool false)) true)).new (.cells [.int .i64 N, ew, .slice H1.next 0 N (.exact N), .nilSlice, .slice (H1.next + 1) 0 N (.exact N), .slice (H1.next + 1 + 1) 0 N (.exact N), .map (H1.next + 1 + 1 + 1), .slice (H1.next + 1 + 1 + 1 + 1) 0 N (.exact N)] true)).new (.cells [.nilPtr] true)).upd (H1.next + 1 + 1 + 1 + 1 + 1 + 1) (some (.cells [.ptr (H1.next + 1 + 1 + 1 + 1 + 1) 0] true))).obj H.next = some (.cells [.int .i64 N, ew] true) := by simp (disch := first | omega | (simp only [nx] <;> omega) | fail) only [vaim]
 have hX2 := (hXK.obj (H.next + 1) (by omega) (by omega)).trans y2
 have hXN : (((((((((H1.upd H.next (some (.cells [.int .i64 N, ew] true))).new (.cells (List.replicate N (.int .i64 0)) true)).new (.cells (List.replicate N .nilSlice) true)).new (.cells (List.replicate N .nilSlice) true)).new (.amap [])).new (.cells (List.replicate N (.bool false)) true)).new (.cells [.int .i64 N, ew, .slice H1.next 0 N (.exact N), .nilSlice, .slice (H1.next + 1) 0 N (.exact N), .slice (H1.next + 1 + 1) 0 N (.exact N), .map (H1.next + 1 + 1 + 1), .slice (H1.next + 1 + 1 + 1 + 1) 0 N (.exact N)] true)).new (.cells [.nilPtr] true)).upd (H1.next + 1 + 1 + 1 + 1 + 1 + 1) (some (.cells [.ptr (H1.next + 1 + 1 + 1 + 1 + 1) 0] true))).next = H1.next + 7 := rfl
 generalize ((((((((H1.upd H.next (some (.cells [.int .i64 N, ew] true))).new (.cells (List.replicate N (.int .i64 0)) true)).new (.cells (List.replicate N .nilSlice) true)).new (.cells (List.replicate N .nilSlice) true)).new (.amap [])).new (.cells (List.replicate N (.bool false)) true)).new (.cells [.int .i64 N, ew, .slice H1.next 0 N (.exact N), .nilSlice, .slice (H1.next + 1) 0 N (.exact N), .slice (H1.next + 1 + 1) 0 N (.exact N), .map (H1.next + 1 + 1 + 1), .slice (H1.next + 1 + 1 + 1 + 1) 0 N (.exact N)] true)).new (.cells [.nilPtr] true)).upd (H1.next + 1 + 1 + 1 + 1 + 1 + 1) (some (.cells [.ptr (H1.next + 1 + 1 + 1 + 1 + 1) 0] true)) = HX at *
 generalize hec : H1.next + 1 + 1 + 1 + 1 + 1 + 1 = c at *
 generalize heb : H1.next + 1 + 1 + 1 + 1 + 1 = b at *
 generalize heg : H1.next + 1 + 1 + 1 + 1 = gid at *
 generalize hem : H1.next + 1 + 1 + 1 = mid at *
 generalize hed : H1.next + 1 + 1 = did at *
 generalize heu : H1.next + 1 = uid at *
 generalize her : H1.next = rid at *
 refine wpx_loop (fun m t H' => ∃ (i : Nat), m = N - i ∧ i ≤ N ∧ t = (bots 1 (.ptr H.next 0 :: .ptr (H.next + 1) 0 :: .ptr c 0 :: bots 33 (.int .i64 N :: .int .i64 i :: bots 70 ([]))) : Tmps) ∧ Keep (fun j => j = rid) HX H' ∧ HLay H' b mid rid uid did gid N es ew .nilSlice [] [] (List.replicate N false) (List.replicate i (-1) ++ List.replicate (N - i) 0) (List.replicate N .nilSlice) (List.replicate N .nilSlice)) N ?_ ?_
 ·exact ⟨0, rfl, by omega, rfl, .refl _ _, hXH⟩
 ·rintro m t H2 ⟨i, rfl, hi, rfl, k2, h2⟩
  have c2 := (k2.obj c (by omega) (by omega)).trans hXc
  by_cases hc : (i : Int) < N
  ·have hiN : i < N := by omega
   have hix : aindexAddrS 1 (.slice rid 0 N (.exact N)) (.int .i64 (i : Int)) = some (.ptr rid i) := by rw [aindexAddrS_slice ⟨by omega, by omega⟩]; simp
   have hrl : (ints (List.replicate i (-1) ++ List.replicate (N - i) 0)).length = N := by rw [ints_length]; exact h2.rl
   have hle : i + 1 ≤ N := hiN
   have hsp : splice (ints (List.replicate i (-1) ++ List.replicate (N - i) 0)) i [.int .i64 (-1)] = ints (List.replicate (i + 1) (-1) ++ List.replicate (N - (i + 1)) 0) := by
    rw [splice_one (by rw [hrl]; exact hiN), ints_set]
    congr 1
    rw [List.set_append_right _ _ (by simp), show N - i = (N - (i + 1)) + 1 by omega, List.replicate_succ]
    simp [List.replicate_succ']
   simp (disch := first | omega | (simp only [nx] <;> omega) | fail) only [vaw, hc, c2, h2.bo, h2.ro, hix, hrl, hle, hsp, Nat.reduceAdd, Nat.reduceMul, Nat.reduceLeDiff, Nat.reduceEqDiff, ↓reduceIte]
   exact ⟨N - (i + 1), by omega, i + 1, rfl, by omega, rfl, k2.upd (.inr rfl) _, h2.ranks (by simp; omega)⟩
  ·have : i = N := by omega
   subst this
   rw [Nat.sub_self, List.replicate_zero, List.append_nil] at h2
   simp (disch := first | omega | (simp only [nx] <;> omega) | fail) only [vaw, hc, c2, Nat.reduceAdd, Nat.reduceMul, Nat.reduceLeDiff, Nat.reduceEqDiff, ↓reduceIte]
   refine first_ret h2 hok hn (by omega) fun H3 av3 ms3 k3 h3 c3 s3 => ?_
   have nb3 : H3.obj H.next = some (.cells [.int .i64 i, ew] true) := (k3.obj _ (by have := k2.next; omega) (fun e => by rcases e with e | e | e <;> first | omega | cases e)).trans ((k2.obj _ (by omega) (by omega)).trans hXn)
   have cc3 := (k3.obj c (by have := k2.next; omega) (fun e => by rcases e with e | e | e <;> first | omega | cases e)).trans c2
   have rs3 := (k3.obj (H.next + 1) (by have := k2.next; omega) (fun e => by rcases e with e | e | e <;> first | omega | cases e)).trans ((k2.obj _ (by omega) (by omega)).trans hX2)
   simp (disch := first | omega | (simp only [nx] <;> omega) | fail) only [vaw, nb3, Nat.reduceAdd, Nat.reduceMul, Nat.reduceLeDiff, Nat.reduceEqDiff, ↓reduceIte]
   refine odBF_ret (N := i) h3.edges hok hN (by omega) fun lv H4 k4 r4 lo4 => ?_
   have hmo : ∀ e ∈ es, 0 ≤ e.mode ∧ e.mode < 5 := fun e he => ⟨(hok e he).2.2.1.1, (hok e he).2.2.1.2⟩
   rw [odB_eq hmo] at r4
   have hlo : OrderOk i (orderOf i es (2 * es.length + 1)) := orderOf_ok i es _
   have hoa : orderAll i es = orderOf i es (2 * es.length + 1) := rfl
   have hidx : idxOf i es = ⟨i, es, (hierOf i es (orderAll i es)).rank, (hierOf i es (orderAll i es)).arcs, (hierOf i es (orderAll i es)).up, (hierOf i es (orderAll i es)).down⟩ := rfl
   have hlN := order_few hlo
   rw [← hoa] at r4 hlo hlN
   generalize orderAll i es = l at *
   have hedg : EdgesOk i es := fun e he => ⟨(hok e he).1, (hok e he).2.1, (hok e he).2.2.1, (hok e he).2.2.2.1⟩
   have hcost : ∀ e ∈ es, 0 ≤ e.cost ∧ e.cost ≤ 2147483647 := fun e he => (hok e he).2.2.2
   have n2 := k2.next
   have n3 := k3.next
   have n4 := k4.next
   have h4 := h3.kept k4
   have cc4 := (k4.old (by omega)).trans cc3
   have rs4 := (k4.old (by omega)).trans rs3
   have ll := r4.len1
   rw [ints_length] at ll
   have sa3 : ∀ j, sid av3 = some j → c < j ∧ j < H3.next := fun j hj => by
    have h1 := h3.arcsO.sid_ge hj
    rcases s3 j hj with e | e
    ·cases e
    ·omega
   simp (disch := first | omega | (simp only [nx] <;> omega) | fail) only [vaw, ll, Nat.reduceAdd, Nat.reduceMul, Nat.reduceLeDiff, Nat.reduceEqDiff, ↓reduceIte]
   refine wpx_loop (fun m t H' => ∃ (k : Nat) (av' : AVal) (ms' : List (Key × Int)) (us ds : List AVal), m = l.length - k ∧ k ≤ l.length ∧ t = (bots 2 (.ptr (H.next + 1) 0 :: .ptr c 0 :: bots 48 (lv :: .int .i64 l.length :: .int .i64 k :: bots 54 ([]))) : Tmps) ∧ Keep (fun j => j = b ∨ j = mid ∨ j = uid ∨ j = did ∨ j = gid ∨ j = rid ∨ sid av3 = some j) H4 H' ∧
    HLay H' b mid rid uid did gid i es ew av' ms' (goAll i (startOf i es) l k).arcs (goAll i (startOf i es) l k).gone (goAll i (startOf i es) l k).rank us ds ∧ MapCur i ms' (goAll i (startOf i es) l k).cur ∧ RowsAt (c + 1) H' av' us (goAll i (startOf i es) l k).up ∧ RowsAt (c + 1) H' av' ds (goAll i (startOf i es) l k).down ∧ (∀ j, sid av' = some j → sid av3 = some j ∨ H4.next ≤ j)) l.length ?_ ?_
   ·exact ⟨0, av3, ms3, _, _, rfl, by omega, rfl, .refl _ _, h4, c3, rowsAt_nil i, rowsAt_nil i, fun j hj => .inl hj⟩
   ·rintro m t H5 ⟨k, av5, ms5, us, ds, rfl, hk, rfl, k5, h5, c5, ru5, rd5, s5⟩
    have cc5 := (k5.obj c (by omega) (fun e => by rcases e with e | e | e | e | e | e | e <;> first | omega | (have := sa3 _ e; omega))).trans cc4
    have rs5 := (k5.obj (H.next + 1) (by omega) (fun e => by rcases e with e | e | e | e | e | e | e <;> first | omega | (have := sa3 _ e; omega))).trans rs4
    have n5 := k5.next
    by_cases hc2 : (k : Int) < l.length
    ·have hkl : k < l.length := by omega
     have hv : l[k]? = some l[k] := by simp [hkl]
     have hbd := hlo.bd _ (List.getElem_mem hkl)
     have hgd : l.getD k 0 = l[k] := getD_of hv
     have hgs : goAll i (startOf i es) l (k + 1) = goStep i (goAll i (startOf i es) l k) k (l.getD k 0).toNat := rfl
     rw [hgd] at hgs
     have r5 := (r4.M k5 (fun j hj e => by
      have := r4.sid_lt hj
      have := lo4 j hj
      rcases e with e | e | e | e | e | e | e <;> first | omega | (have := sa3 _ e; omega)))
     obtain ⟨i1, f1, d1, d2, d3⟩ := r5.int_at (k := .i64) hv
     obtain ⟨ex, hgo⟩ := go_gone hedg hlo k hk
     generalize l[k] = vi at *
     obtain ⟨v, rfl⟩ := Int.eq_ofNat_of_zero_le hbd.1
     rw [Int.toNat_natCast] at hgs
     have hvN : v < i := by omega
     generalize goAll i (startOf i es) l k = s at *
     have hix : aindexAddrS 1 (.slice rid 0 i (.exact i)) (.int .i64 (v : Int)) = some (.ptr rid v) := by rw [aindexAddrS_slice ⟨by omega, by omega⟩]; simp
     have hrl : (ints s.rank).length = i := by rw [ints_length]; exact h5.rl
     have hle : v + 1 ≤ i := hvN
     have hsp : splice (ints s.rank) v [.int .i64 (k : Int)] = ints (s.rank.set v (k : Int)) := by
      rw [splice_one (by rw [hrl]; exact hvN), ints_set]
     have h6 := h5.ranks (rank' := s.rank.set v (k : Int)) (by rw [List.length_set]; exact h5.rl)
     have k6 : Keep (fun j => j = rid) H5 (H5.upd rid (some (.cells (ints (s.rank.set v (k : Int))) true))) := (Keep.refl (fun j => j = rid) _).upd (.inr rfl) _
     have cc6 := (k6.obj c (by omega) (by omega)).trans cc5
     simp (disch := first | omega | (simp only [nx] <;> omega) | fail) only [vaw, hc2, d1, d3, cc5, h5.bo, h5.ro, hix, hrl, hle, hsp, Nat.reduceAdd, Nat.reduceMul, Nat.reduceLeDiff, Nat.reduceEqDiff, ↓reduceIte]
     have ru6 := ru5.M' k6 (fun j hj => .inl (by omega)) (fun j hj => .inl hj)
     have rd6 := rd5.M' k6 (fun j hj => .inl (by omega)) (fun j hj => .inl hj)
     have n6 : (H5.upd rid (some (.cells (ints (s.rank.set v (k : Int))) true))).next = H5.next := rfl
     generalize H5.upd rid (some (.cells (ints (s.rank.set v (k : Int))) true)) = H6 at *
     refine goes_ret h6 c5 hcost hlo hgo (by omega) hv hvN (by omega) fun H7 av7 ms7 ur dr k7 h7 c7 g7 q7 s7 w7 x7 => ?_
     simp (disch := first | omega | (simp only [nx] <;> omega) | fail) only [vaw, Nat.reduceAdd, Nat.reduceMul, Nat.reduceLeDiff, Nat.reduceEqDiff, ↓reduceIte]
     have sa5 : ∀ j, sid av5 = some j → c < j := fun j hj => by
      rcases s5 j hj with e | e
      ·exact (sa3 j e).1
      ·omega
     have ru7 := (ru6.M' k7 (fun j hj => by rcases hj with e | e | e | e | e | e <;> first | exact .inl (by omega) | exact .inr e) (fun j hj => s7 j hj)).set (v := v) (l := outOf i s.cur s.gone v i) g7.row (fun j hj => ⟨by have := (g7.sid_ge hj).1; omega, w7 j hj⟩) (by rw [h5.ul, hgo.upLen])
     have rd7 := (rd6.M' k7 (fun j hj => by rcases hj with e | e | e | e | e | e <;> first | exact .inl (by omega) | exact .inr e) (fun j hj => s7 j hj)).set (v := v) (l := inOf i s.cur s.gone v i) q7.row (fun j hj => ⟨by have := (q7.sid_ge hj).1; omega, x7 j hj⟩) (by rw [h5.dl, hgo.downLen])
     have kF : Keep (fun j => j = b ∨ j = mid ∨ j = uid ∨ j = did ∨ j = gid ∨ j = rid ∨ sid av3 = some j) H4 H7 := (k5.trans' k6 (fun j hj e => by simp [e])).trans' k7 (fun j hj e => by
      rcases e with e | e | e | e | e | e
      ·simp [e]
      ·simp [e]
      ·simp [e]
      ·simp [e]
      ·simp [e]
      ·rcases s5 j e with e2 | e2
       ·simp [e2]
       ·omega)
     refine ⟨l.length - (k + 1), by omega, k + 1, av7, ms7, us.set v ur, ds.set v dr, rfl, by omega, rfl, kF, by rw [hgs]; exact h7, by rw [hgs]; exact c7, by rw [hgs]; exact ru7, by rw [hgs]; exact rd7, fun j hj => ?_⟩
     rcases s7 j hj with e | e
     ·exact s5 j e
     ·exact .inr (by omega)
    ·have : k = l.length := by omega
     subst this
     obtain ⟨ex, hgo⟩ := go_gone hedg hlo l.length (Nat.le_refl _)
     simp only [hierOf] at hidx
     simp (disch := first | omega | (simp only [nx] <;> omega) | fail) only [vaw, hc2, cc5, h5.bo, Nat.reduceAdd, Nat.reduceMul, Nat.reduceLeDiff, Nat.reduceEqDiff, ↓reduceIte]
     generalize goAll i (startOf i es) l l.length = s at *
     obtain ⟨o1, o2, o3, o4, o5, o6⟩ := h5.ord
     have sa5 : ∀ j, sid av5 = some j → c < j := fun j hj => by
      rcases s5 j hj with e | e
      ·exact (sa3 j e).1
      ·omega
     refine wpx_loop (fun m t H' => ∃ (v : Nat) (us : List AVal), m = i - v ∧ v ≤ i ∧ t = (bots 2 (.ptr (H.next + 1) 0 :: .ptr c 0 :: bots 71 (.slice rid 0 i (.exact i) :: .int .i64 i :: .int .i64 v :: bots 31 ([]))) : Tmps) ∧ Keep (fun j => j = uid) H5 H' ∧
      HLay H' b mid rid uid did gid i es ew av5 ms5 s.arcs s.gone s.rank us ds ∧ RowsAt (c + 1) H' av5 us (stayAll i s s.up v) ∧ RowsAt (c + 1) H' av5 ds s.down) i ?_ ?_
     ·exact ⟨0, us, rfl, by omega, rfl, .refl _ _, h5, ru5, rd5⟩
     ·rintro m t H6 ⟨v, us6, rfl, hv1, rfl, k6, h6, ru6, rd6⟩
      have n6 := k6.next
      have cc6 := (k6.obj c (by omega) (by omega)).trans cc5
      have rs6 := (k6.obj (H.next + 1) (by omega) (by omega)).trans rs5
      by_cases hc3 : (v : Int) < i
      ·have hvN : v < i := by omega
       have hix : aindexAddrS 1 (.slice rid 0 i (.exact i)) (.int .i64 (v : Int)) = some (.ptr rid v) := by rw [aindexAddrS_slice ⟨by omega, by omega⟩]; simp
       have hst : stayAll i s s.up (v + 1) = stayStep i s (stayAll i s s.up v) v := rfl
       unfold stayStep at hst
       have kB : Keep Nothing H6 ((H6.new (.cells [.int .i64 0] true)).upd H6.next (some (.cells [.int .i64 v] true))) := ((Keep.refl _ _).new _).upd (.inl (Nat.le_refl _)) _
       have qv : ((H6.new (.cells [.int .i64 0] true)).upd H6.next (some (.cells [.int .i64 v] true))).obj H6.next = some (.cells [.int .i64 v] true) := obj_upd_eq rfl
       have nB : ((H6.new (.cells [.int .i64 0] true)).upd H6.next (some (.cells [.int .i64 v] true))).next = H6.next + 1 := rfl
       have hneg : (-1 : Int) < 0 := by decide
       cases hgd : s.gone.getD v false with
       | true =>
        obtain ⟨j, hj, hlj⟩ := (hgo.gone v hvN).1 hgd
        have hrj := hgo.ranked j _ hj hlj
        rw [Int.toNat_natCast] at hrj
        have hrj2 : (ints s.rank)[v]? = some (.int .i64 (j : Int)) := by simp [ints, hrj]
        have hjn : ¬ ((j : Int) < 0) := by omega
        rw [if_pos hgd] at hst
        simp (disch := first | omega | (simp only [nx] <;> omega) | fail) only [vaw, hc3, hix, h6.ro, hrj2, hjn, Nat.reduceAdd, Nat.reduceMul, Nat.reduceLeDiff, Nat.reduceEqDiff, ↓reduceIte]
        exact ⟨i - (v + 1), by omega, v + 1, us6, rfl, by omega, rfl, k6.trans' kB (fun j hj e => e.elim), h6.kept kB, by rw [hst]; exact ru6.M' kB (fun j hj => hj.elim) (fun j hj => .inl hj), rd6.M' kB (fun j hj => hj.elim) (fun j hj => .inl hj)⟩
       | false =>
        have hrj := hgo.unranked v hvN (fun h => by have := (hgo.gone v hvN).2 h; rw [hgd] at this; cases this)
        have hrj2 : (ints s.rank)[v]? = some (.int .i64 (-1)) := by simp [ints, hrj]
        rw [if_neg (by rw [hgd]; simp)] at hst
        have hB := h6.kept kB
        have qc := (kB.old (by omega)).trans cc6
        simp (disch := first | omega | (simp only [nx] <;> omega) | fail) only [vaw, hc3, hix, h6.ro, hrj2, hneg, cc6, h6.bo, Nat.reduceAdd, Nat.reduceMul, Nat.reduceLeDiff, Nat.reduceEqDiff, ↓reduceIte]
        generalize ((H6.new (.cells [.int .i64 0] true)).upd H6.next (some (.cells [.int .i64 v] true))) = HB at *
        have hfew := c5.few
        have hN2 : i * i ≤ 12 * 12 := Nat.mul_le_mul hN hN
        have hm1 := fun (e : Key × Int) (he : e ∈ ms5) => mayOf_of qv qc hB.bo rfl hB.go h6.gl (k := e.1) (c5.rng e he).1 (c5.rng e he).2.1
        refine arcs_ret (down := false) (es := ms5) (sel := upSel ms5 s.gone v) (.inl ⟨.inl rfl, rfl⟩) hB.bo rfl hB.mo (mayAll_of fun e he => (hm1 e he).1) (by omega) c5.nodup fun ur H7 k7 g7 => ?_
        rw [up_eq c5 s.gone hvN] at g7
        have n7 := k7.next
        have h7 := hB.kept k7
        have qv7 := (k7.old (by omega)).trans qv
        have cc7 := (k7.old (by omega)).trans qc
        have cu := g7.cells
        have hvu : aindexAddrS 1 (.slice uid 0 i (.exact i)) (.int .i64 (v : Int)) = some (.ptr uid v) := by rw [aindexAddrS_slice ⟨by omega, by omega⟩]; simp
        have hle : v + 1 ≤ i := hvN
        have hul := h6.ul
        simp (disch := first | omega | (simp only [nx] <;> omega) | fail) only [vaw, qv7, cc7, h7.bo, h7.uo, hvu, cu, hul, hle, g7.notBot, splice_one, Nat.reduceAdd, Nat.reduceMul, Nat.reduceLeDiff, Nat.reduceEqDiff, ↓reduceIte]
        have h8 := h7.ups (us' := us6.set v ur) (by rw [List.length_set]; exact hul)
        have k8 : Keep (fun j => j = uid) H7 (H7.upd uid (some (.cells (us6.set v ur) true))) := (Keep.refl (fun j => j = uid) _).upd (.inr rfl) _
        have k68 : Keep (fun j => j = uid) H6 (H7.upd uid (some (.cells (us6.set v ur) true))) := ((kB.trans k7).mono (fun j hj e => e.elim)).trans' k8 (fun j hj e => e)
        refine ⟨i - (v + 1), by omega, v + 1, us6.set v ur, rfl, by omega, rfl, k6.trans' k68 (fun j hj e => e), h8, ?_, rd6.M' k68 (fun j hj => .inl (by omega)) (fun j hj => .inl hj)⟩
        rw [hst]
        exact (ru6.M' k68 (fun j hj => .inl (by omega)) (fun j hj => .inl hj)).set (g7.row.M k8 (fun j hj e => by have := (g7.sid_ge hj).1; omega)) (fun j hj => ⟨by have := (g7.sid_ge hj).1; omega, fun e => by have := (g7.sid_ge hj).1; have := (h6.arcsO.sid_ge e).2; omega⟩) (by rw [hul, stayAll_length, hgo.upLen])
      ·have : i = v := by omega
       subst this
       simp (disch := first | omega | (simp only [nx] <;> omega) | fail) only [vaw, hc3, cc6, h6.bo, Nat.reduceAdd, Nat.reduceMul, Nat.reduceLeDiff, Nat.reduceEqDiff, ↓reduceIte]
       refine cloneA_ret h6.arcsO.row (by have := hgo.count; have hNN : i * i ≤ 12 * 12 := Nat.mul_le_mul hN hN; have hk25 : l.length * (25 * (i * i)) ≤ 12 * (25 * (12 * 12)) := Nat.mul_le_mul (by omega) (by omega); omega) fun v7 H7 k7 g7 => ?_
       have h7 := h6.kept k7
       have cc7 := (k7.old (by omega)).trans cc6
       have rs7 := (k7.old (by omega)).trans rs6
       have c7 := g7.cells
       have c1 := h7.edges.cells
       simp (disch := first | omega | (simp only [nx] <;> omega) | fail) only [vaw, cc7, h7.bo, rs7, c7, c1, Nat.reduceAdd, Nat.reduceMul, Nat.reduceLeDiff, Nat.reduceEqDiff, ↓reduceIte]
       have n7 := k7.next
       obtain ⟨hend, hhe⟩ : ∃ x, x = ((H7.upd b (some (.cells [.int .i64 i, ew, .slice rid 0 i (.exact i), v7, .slice uid 0 i (.exact i), .slice did 0 i (.exact i), .map mid, .slice gid 0 i (.exact i)] true))).upd (H.next + 1) (some (.cells [.int .i64 i, ew, .slice rid 0 i (.exact i), v7, .slice uid 0 i (.exact i), .slice did 0 i (.exact i)] true))) := ⟨_, rfl⟩
       rw [← hhe]
       have k8 : Keep (fun j => j = b ∨ j = H.next + 1) H7 hend := by rw [hhe]; exact ((Keep.refl (fun j => j = b ∨ j = H.next + 1) _).upd (.inr (.inl rfl)) _).upd (.inr (.inr rfl)) _
       have n8 := k8.next
       have kk : Keep Nothing H hend := by
        refine (((((((((k0.trans k1).trans' hXK ?_).trans' k2 ?_).trans' k3 ?_).trans' k4 ?_).trans' k5 ?_).trans' k6 ?_).trans' k7 ?_).trans' k8 ?_) <;> intro j hj e
        ·omega
        ·omega
        ·rcases e with e | e | e <;> first | omega | cases e
        ·exact e
        ·rcases e with e | e | e | e | e | e | e <;> first | omega | (have := sa3 _ e; omega)
        ·omega
        ·exact e
        ·omega
       clear hhe
       refine hq _ _ _ _ _ _ kk ?_
       rw [hidx]
       have rows : ∀ (w : Nat) (vs : List AVal) (ul : List (List Int)), w < b → H.next + 1 < w → H7.obj w = some (.cells vs true) → vs.length = i → ul.length = i → RowsAt (c + 1) H6 av5 vs ul → FromRows H.next hend (.slice w 0 i (.exact i)) ul := by
        intro w vs ul h1 h2 h4 h5 h6 h7
        refine ⟨vs, ⟨.mk (c := vs) (by omega) (by rw [cells?_of, k8.obj w (by omega) (by omega), h4]; rfl) (by omega) (by simp [← h5]), fun j hj => by injection hj with hj; omega⟩, by omega, fun i r l e1 e2 => ?_⟩
        obtain ⟨g1, g2⟩ := h7 i r l e1 e2
        exact ⟨(g1.kept k7).M k8 (fun j hj e => by have := (g2 j hj).1; omega), fun j hj => by have := (g2 j hj).1; omega⟩
       refine ⟨⟨h7.edges.M k8 (fun j hj e => by have := hew j hj; have := h7.ewid j hj; omega), fun j hj => by have := hew j hj; omega⟩, ⟨.mk (c := ints s.rank) (by omega) (by rw [cells?_of, k8.obj rid (by omega) (by omega), h7.ro]; rfl) (by rw [ints_length, h7.rl]; omega) (by rw [List.drop_zero, List.take_of_length_le (by rw [ints_length, h7.rl]; omega)]), fun j hj => by injection hj with hj; omega⟩, ⟨g7.row.M k8 (fun j hj e => by have := (g7.sid_ge hj).1; omega), fun j hj => by have := (g7.sid_ge hj).1; omega⟩,
        rows _ _ _ (by omega) (by omega) h7.uo h7.ul (by rw [stayAll_length, hgo.upLen]) ru6, rows _ _ _ (by omega) (by omega) h7.dO h7.dl hgo.downLen rd6⟩
end Go.Proofs.Ytknhlpmmalcchaa

namespace Go.Proofs.Ytknhlpmmalcchaa
open Go Go.VAI
set_option linter.unusedSimpArgs false

def knownH : List Edge := [⟨0, 1, 0, 3⟩]
theorem known_one : idxOf 1 [] = ⟨1, [], [0], [], [[]], [[]]⟩ := by decide +kernel
theorem known_two : (idxOf 2 knownH).arcs.length = 1 ∧ (idxOf 2 knownH).rank.length = 2 := by decide +kernel
set_option maxRecDepth 20000 in
set_option maxHeartbeats 8000000 in
theorem known47_ret {H : AHeap} {Q : AVal → AHeap → Prop} (hq : ∀ H', Keep Nothing H H' → Q (.bool true) H') : Ret A 47 [] H Q := by
 refine Ret.of (fn := F47) rfl ?_
 have hn1 : NetOk (1 : Nat) [] := ⟨by omega, by omega, by simp, by simp⟩
 have hn2 : NetOk (2 : Nat) knownH := ⟨by omega, by omega, by decide, fun e he => by simp only [knownH, List.mem_cons, List.not_mem_nil, or_false] at he; subst he; unfold EdgeOk; simp⟩
 simp (disch := first | omega | (simp only [nx] <;> omega) | fail) only [vaw, F47, Nat.reduceAdd, Nat.reduceMul, Nat.reduceLeDiff, Nat.reduceEqDiff, ↓reduceIte]
 refine hbuild_ret (N := 1) (es := []) .nil hn1 (by omega) fun ew rv av uv dv H1 k1 h1 => ?_
 have n1 := k1.next
 have kA : Keep Nothing H1 ((H1.new (.cells [.int .i64 0, .nilSlice, .nilSlice, .nilSlice, .nilSlice, .nilSlice] true)).upd H1.next (some (.cells [.int .i64 1, ew, rv, av, uv, dv] true))) := ((Keep.refl _ _).new _).upd (.inl (Nat.le_refl _)) _
 have oA : ((H1.new (.cells [.int .i64 0, .nilSlice, .nilSlice, .nilSlice, .nilSlice, .nilSlice] true)).upd H1.next (some (.cells [.int .i64 1, ew, rv, av, uv, dv] true))).obj H1.next = some (.cells [.int .i64 1, ew, rv, av, uv, dv] true) := obj_upd_eq rfl
 have nA : ((H1.new (.cells [.int .i64 0, .nilSlice, .nilSlice, .nilSlice, .nilSlice, .nilSlice] true)).upd H1.next (some (.cells [.int .i64 1, ew, rv, av, uv, dv] true))).next = H1.next + 1 := rfl
 rw [known_one] at h1
 have c1 := h1.es.1.cells
 have c2 := h1.rank.1.cells
 have c3 := h1.arcs.1.cells
 have c4 := h1.up.rows.cells
 have c5 := h1.down.rows.cells
 simp (disch := first | omega | (simp only [nx] <;> omega) | fail) only [vaw, c1, c2, c3, c4, c5, Nat.reduceAdd, Nat.reduceMul, Nat.reduceLeDiff, Nat.reduceEqDiff, ↓reduceIte]
 generalize ((H1.new (.cells [.int .i64 0, .nilSlice, .nilSlice, .nilSlice, .nilSlice, .nilSlice] true)).upd H1.next (some (.cells [.int .i64 1, ew, rv, av, uv, dv] true))) = HA at *
 refine hbuild_ret (N := 2) (es := knownH) (.mk (c := edgeCells knownH) (by simp only [next_new]; omega) (by simp (disch := first | omega | (simp only [nx] <;> omega) | fail) only [vaim]; rfl) (by decide) rfl) hn2 (by omega) fun ew2 rv2 av2 uv2 dv2 H2 k2 h2 => ?_
 have n2 := k2.next
 simp only [next_new] at n2
 have o2 := (k2.old (i := H1.next) (by simp only [next_new]; omega)).trans ((obj_new_ne (by omega)).trans oA)
 have kB : Keep Nothing H2 ((H2.new (.cells [.int .i64 0, .nilSlice, .nilSlice, .nilSlice, .nilSlice, .nilSlice] true)).upd H2.next (some (.cells [.int .i64 2, ew2, rv2, av2, uv2, dv2] true))) := ((Keep.refl _ _).new _).upd (.inl (Nat.le_refl _)) _
 have oB : ((H2.new (.cells [.int .i64 0, .nilSlice, .nilSlice, .nilSlice, .nilSlice, .nilSlice] true)).upd H2.next (some (.cells [.int .i64 2, ew2, rv2, av2, uv2, dv2] true))).obj H2.next = some (.cells [.int .i64 2, ew2, rv2, av2, uv2, dv2] true) := obj_upd_eq rfl
 have nB : ((H2.new (.cells [.int .i64 0, .nilSlice, .nilSlice, .nilSlice, .nilSlice, .nilSlice] true)).upd H2.next (some (.cells [.int .i64 2, ew2, rv2, av2, uv2, dv2] true))).next = H2.next + 1 := rfl
 have oB1 := (kB.old (by omega)).trans o2
 have d1 := h2.es.1.cells
 have d2 := h2.rank.1.cells
 have d3 := h2.arcs.1.cells
 have d4 := h2.up.rows.cells
 have d5 := h2.down.rows.cells
 simp (disch := first | omega | (simp only [nx] <;> omega) | fail) only [vaw, d1, d2, d3, d4, d5, Nat.reduceAdd, Nat.reduceMul, Nat.reduceLeDiff, Nat.reduceEqDiff, ↓reduceIte]
 generalize ((H2.new (.cells [.int .i64 0, .nilSlice, .nilSlice, .nilSlice, .nilSlice, .nilSlice] true)).upd H2.next (some (.cells [.int .i64 2, ew2, rv2, av2, uv2, dv2] true))) = HB at *
 have h1' := ((h1.kept (kA.trans ((Keep.refl _ _).new _))).kept k2).kept kB
 have h2' := h2.kept kB
 have al1 := idx_allowed hn1 (by omega)
 have al2 := idx_allowed hn2 (by omega)
 rw [known_one] at al1
 have l1 := h1'.arcs.1.len (n := 0) (by omega) rfl
 have l2 := h1'.rank.1.len1
 obtain ⟨i1, f1, p1, p2, p3⟩ := h1'.rank.1.int_at (k := .i64) (j := 0) (x := 0) rfl
 have l3 := h2'.arcs.1.len (n := 1) (by omega) (by rw [arcCells_length, known_two.1])
 have l4 := h2'.rank.1.len1
 rw [ints_length, known_two.2] at l4
 have q3 : ((0 : Nat) : Int) = 0 := rfl
 rw [q3] at p1
 have l1' : alenS av = some (.int .i64 0) := l1
 have l2' : alenS rv = some (.int .i64 1) := l2
 have l3' : alenS av2 = some (.int .i64 1) := l3
 have l4' : alenS rv2 = some (.int .i64 2) := l4
 have e0 : (0 : Int) = 0 := rfl
 simp (disch := first | omega | (simp only [nx] <;> omega) | fail) only [vaw, o2, oB1, oB, l1', l2', l3', l4', p1, p3, Nat.reduceAdd, Nat.reduceMul, Nat.reduceLeDiff, Nat.reduceEqDiff, ↓reduceIte]
 refine check_ret (x := ⟨1, [], [0], [], [[]], [[]]⟩) h1'.idx (by simp) (by simp) fun b H3 k3 s3 => ?_
 have := s3.2 al1
 subst this
 have n3 := k3.next
 have o3 := (k3.old (by omega)).trans oB
 simp (disch := first | omega | (simp only [nx] <;> omega) | fail) only [vaw, o3, Nat.reduceAdd, Nat.reduceMul, Nat.reduceLeDiff, Nat.reduceEqDiff, ↓reduceIte]
 obtain ⟨hs1, hs2⟩ := allowed_short al2
 obtain ⟨_, _, _, _, s5, s6⟩ := hs1
 refine check_ret (x := idxOf 2 knownH) (h2'.kept k3).idx s5 s6 fun b H4 k4 s4 => ?_
 have := s4.2 al2
 subst this
 simp (disch := first | omega | (simp only [nx] <;> omega) | fail) only [vaw, Nat.reduceAdd, Nat.reduceMul, Nat.reduceLeDiff, Nat.reduceEqDiff, ↓reduceIte]
 refine hq _ ?_
 exact ((((k1.trans kA).trans ((Keep.refl _ _).new _)).trans k2).trans kB).trans k3 |>.trans k4
end Go.Proofs.Ytknhlpmmalcchaa

namespace Go.Proofs.Ytknhlpmmalcchaa
open Go Go.VAI
set_option linter.unusedSimpArgs false

end Go.Proofs.Ytknhlpmmalcchaa

namespace Go.Proofs.Ytknhlpmmalcchaa
open Go Go.VAI
set_option linter.unusedSimpArgs false

structure UnOk (arcs : List Arc) (ex : List (List Int)) : Prop where
 len : ex.length = arcs.length
 pos : ∀ l ∈ ex, 0 < l.length ∧ l.length ≤ 1000
 form : ∀ (i : Nat) a l, arcs[i]? = some a → ex[i]? = some l → (0 ≤ a.edge ∧ l = [a.edge]) ∨ (a.edge = -1 ∧ 0 ≤ a.a ∧ a.a < i ∧ 0 ≤ a.b ∧ a.b < i ∧ ∃ lp lq, ex[a.a.toNat]? = some lp ∧ ex[a.b.toNat]? = some lq ∧ l = lp ++ lq)
def exAt (ex : List (List Int)) (k : Int) : List Int := ex.getD k.toNat []
def todoOf (ex : List (List Int)) (w : List Int) : List Int := w.reverse.flatMap (exAt ex)
def stepsOf (ex : List (List Int)) (w : List Int) : Nat := (w.map fun k => 2 * (exAt ex k).length - 1).sum
theorem todoOf_snoc {ex : List (List Int)} {w : List Int} {k : Int} : todoOf ex (w ++ [k]) = exAt ex k ++ todoOf ex w := by simp [todoOf]
theorem stepsOf_snoc {ex : List (List Int)} {w : List Int} {k : Int} : stepsOf ex (w ++ [k]) = stepsOf ex w + (2 * (exAt ex k).length - 1) := by simp [stepsOf]
theorem exAt_of {ex : List (List Int)} {k : Int} {l : List Int} (h : ex[k.toNat]? = some l) : exAt ex k = l := by simp [exAt, h]
theorem todo_long {ex : List (List Int)} {n : Nat} (hp : ∀ l ∈ ex, 0 < l.length ∧ l.length ≤ 1000) (hn : ex.length = n) : ∀ {w : List Int}, (∀ k ∈ w, 0 ≤ k ∧ k < n) → w.length ≤ (todoOf ex w).length := by
 intro w
 unfold todoOf
 rw [← List.length_reverse]
 intro h
 have h : ∀ k ∈ w.reverse, 0 ≤ k ∧ k < n := fun k hk => h k (List.mem_reverse.1 hk)
 generalize w.reverse = w at *
 induction w with
 | nil => simp
 | cons k w ih =>
  rw [List.flatMap_cons, List.length_append, List.length_cons]
  have h1 := ih (fun j hj => h j (List.mem_cons_of_mem _ hj))
  have h2 := h k List.mem_cons_self
  have h3 : k.toNat < ex.length := by omega
  have h4 := hp _ (List.getElem_mem h3)
  have h5 : exAt ex k = ex[k.toNat] := exAt_of (by simp [h3])
  rw [h5]; omega
inductive Stk (lo : Nat) (H : AHeap) : AVal → List AVal → Prop where
 | room {id len : Nat} {c cs : List AVal} (hlo : lo ≤ id) (hhi : id < H.next) (ho : H.obj id = some (.cells c true)) (hlen : len ≤ c.length) (hc : cs = c.take len) : Stk lo H (.slice id 0 len (.room 1)) cs
 | full {id len n : Nat} {c cs : List AVal} (hlo : lo ≤ id) (hhi : id < H.next) (ho : H.obj id = some (.cells c true)) (hlen : len ≤ c.length) (hn : len ≤ n) (hn1 : n ≤ 1) (hc : cs = c.take len) : Stk lo H (.slice id 0 len (.exact n)) cs
theorem Stk.len {lo : Nat} {H : AHeap} {v : AVal} {cs : List AVal} (h : Stk lo H v cs) : alenS v = some (.int .i64 cs.length) := by
 cases h with
 | room h1 h2 h3 h4 h5 => subst h5; simp [alenS]; omega
 | full h1 h2 h3 h4 h5 h6 h7 => subst h7; simp [alenS]; omega
theorem Stk.sid_ge {lo : Nat} {H : AHeap} {v : AVal} {cs : List AVal} (h : Stk lo H v cs) {j : Nat} (hj : sid v = some j) : lo ≤ j ∧ j < H.next := by
 cases h <;> (injection hj with hj; subst hj; exact ⟨by assumption, by assumption⟩)
theorem Stk.keepM {lo : Nat} {M : Nat → Prop} {H H' : AHeap} {v : AVal} {cs : List AVal} (h : Stk lo H v cs) (hk : Keep M H H') (hM : ∀ j, sid v = some j → ¬ M j) : Stk lo H' v cs := by
 have hn := hk.next
 cases h with
 | room h1 h2 h3 h4 h5 => exact .room h1 (by omega) (by rw [hk.obj _ h2 (hM _ rfl)]; exact h3) h4 h5
 | full h1 h2 h3 h4 h5 h6 h7 => exact .full h1 (by omega) (by rw [hk.obj _ h2 (hM _ rfl)]; exact h3) h4 h5 h6 h7
theorem Stk.notBot {lo : Nat} {H : AHeap} {v : AVal} {cs : List AVal} (h : Stk lo H v cs) : notBot v = some v := by
 cases h <;> rfl
theorem Stk.top {lo : Nat} {H : AHeap} {v x : AVal} {cs : List AVal} (h : Stk lo H v (cs ++ [x])) : ∃ id off, aindexAddrS 1 v (.int .i64 (cs.length : Int)) = some (.ptr id off) ∧ id < H.next ∧ (bnd (cellsOf (H.obj id)) fun c => c[off]?) = some x := by
 have key : ∀ (id len : Nat) (c : List AVal) (cap : ACap), H.obj id = some (.cells c true) → len ≤ c.length → cs ++ [x] = c.take len → id < H.next → ∃ id' off, aindexAddrS 1 (.slice id 0 len cap) (.int .i64 (cs.length : Int)) = some (.ptr id' off) ∧ id' < H.next ∧ (bnd (cellsOf (H.obj id')) fun c => c[off]?) = some x := by
  intro id len c cap ho hlen hc hid
  have hl : cs.length + 1 = min len c.length := by simpa using congrArg List.length hc
  refine ⟨id, cs.length, ?_, hid, ?_⟩
  ·simp only [aindexAddrS]
   rw [if_pos ⟨by omega, by omega⟩]
   simp
  ·rw [ho]
   simp only [cellsOf, bnd]
   have : (c.take len)[cs.length]? = some x := by rw [← hc]; simp
   rw [List.getElem?_take] at this
   split at this
   ·exact this
   ·cases this
 cases h with
 | room h1 h2 h3 h4 h5 => exact key _ _ _ _ h3 h4 h5 h2
 | full h1 h2 h3 h4 h5 h6 h7 => exact key _ _ _ _ h3 h4 h7 h2
theorem bound_nat {n y : Nat} (h : n ≤ y) : bound (.int .i64 (n : Int)) y = some n := by
 simp only [bound]
 rw [if_pos ⟨by omega, by omega⟩]
 simp
theorem Stk.pop {lo : Nat} {H : AHeap} {v x : AVal} {cs : List AVal} (h : Stk lo H v (cs ++ [x])) : ∃ v', aslice 1 v none (some (.int .i64 (cs.length : Int))) none = some v' ∧ sid v' = sid v ∧ Stk lo H v' cs := by
 have hle : ∀ (len : Nat) (c : List AVal), cs ++ [x] = c.take len → len ≤ c.length → len = cs.length + 1 ∧ cs = c.take cs.length := fun len c e h => by
  have hl : cs.length + 1 = min len c.length := by simpa using congrArg List.length e
  have : len = cs.length + 1 := by omega
  refine ⟨this, ?_⟩
  have h2 := congrArg (List.take cs.length) e
  rw [List.take_left' rfl, List.take_take, Nat.min_eq_left (by omega)] at h2
  exact h2
 cases h with
 | @room id len c cs' h1 h2 h3 h4 h5 =>
  obtain ⟨rfl, e⟩ := hle _ _ h5 h4
  refine ⟨.slice id 0 cs.length (.room 1), ?_, rfl, .room h1 h2 h3 (by omega) e⟩
  simp only [aslice, obound]
  rw [bound_nat (by simp only [ACap.top]; omega)]
  simp [bnd]
 | @full id len n c cs' h1 h2 h3 h4 h5 h6 h7 =>
  obtain ⟨rfl, e⟩ := hle _ _ h7 h4
  refine ⟨.slice id 0 cs.length (.exact n), ?_, rfl, .full h1 h2 h3 (by omega) (by omega) h6 e⟩
  simp only [aslice, obound]
  rw [bound_nat (by simp only [ACap.top]; omega)]
  simp [bnd]
theorem Stk.push {lo : Nat} {H : AHeap} {v x : AVal} {cs vs : List AVal} (h : Stk lo H v cs) (hx : taken H 1 x = some (2, vs)) (hvs : vs.length = 2) (hlen : cs.length ≤ 10000) :
  ∃ H', aappend H 1 8 v x = some (.slice H.next 0 (cs.length + 2) (.room 1), H') ∧ Keep (fun j => sid v = some j) H H' ∧ Stk lo H' (.slice H.next 0 (cs.length + 2) (.room 1)) (cs ++ vs) := by
 cases h with
 | @room id len c cs' h1 h2 h3 h4 h5 =>
  have hl : cs.length = len := by subst h5; simp; omega
  subst hl
  have hcut : (c.drop 0).take (cs.length * 1) = cs := by simpa using h5.symm
  refine ⟨(H.upd id none).new (.cells (cs ++ vs) true), ?_, ((Keep.refl (fun j => sid (AVal.slice id 0 cs.length (.room 1)) = some j) _).upd (.inr rfl) _).new _, .room (by omega) (by simp only [next_new, next_upd]; omega) (obj_new_eq rfl) (by simp; omega) (by rw [List.take_of_length_le (by simp; omega)])⟩
  simp only [aappend, hx, bnd, rw?_of, h3, ownCellsOf]
  rw [if_neg (by omega), if_pos (by omega)]
  by_cases he : 0 + cs.length * 1 = c.length
  ·rw [if_pos ⟨trivial, he, by omega⟩]
   rw [List.take_of_length_le (by simp; omega)] at hcut
   rw [hcut]
  ·rw [if_neg (fun h => he h.2.1), if_pos ⟨trivial, by omega, by omega⟩, hcut]
 | @full id len n c cs' h1 h2 h3 h4 h5 h6 h7 =>
  have hl : cs.length = len := by subst h7; simp; omega
  subst hl
  have hcut : (c.drop 0).take (cs.length * 1) = cs := by simpa using h7.symm
  refine ⟨H.new (.cells (cs ++ vs) true), ?_, (Keep.refl _ _).new _, .room (by omega) (by simp only [next_new]; omega) (obj_new_eq rfl) (by simp; omega) (by rw [List.take_of_length_le (by simp; omega)])⟩
  have htk : taken H 1 (.slice id 0 cs.length (.exact n)) = some (cs.length, cs) := by
   simp only [taken, cells?_of, h3, cellsOf, bnd]
   rw [if_pos (by omega), hcut]
  simp only [aappend, hx, bnd, htk]
  rw [if_neg (by omega), if_pos (by omega), if_neg (by omega)]
end Go.Proofs.Ytknhlpmmalcchaa

namespace Go.Proofs.Ytknhlpmmalcchaa
open Go Go.VAI
set_option linter.unusedSimpArgs false

set_option maxRecDepth 20000 in
set_option maxHeartbeats 8000000 in
theorem unpack_ret {n : Int} {ew rv av uv dv : AVal} {arcs : List Arc} {ex : List (List Int)} {i : Nat} {l : List Int} {H : AHeap} {Q : AVal → AHeap → Prop} (hr : Row H av 7 (arcCells arcs)) (hu : UnOk arcs ex) (hi : ex[i]? = some l) (hlen : arcs.length ≤ 1000000)
  (hq : ∀ v' H', Keep Nothing H H' → Own H.next H' v' 1 (ints l) → Q v' H') : Ret A 51 [.agg [.int .i64 n, ew, rv, av, uv, dv], .int .i64 i] H Q := by
 refine Ret.of (fn := F51) rfl ?_
 have hla := hr.len (n := arcs.length) (by omega) (arcCells_length arcs)
 have hbe := hr.beq
 simp (disch := first | omega | (simp only [nx] <;> omega) | fail) only [vaw, F51, Nat.reduceAdd, Nat.reduceMul, Nat.reduceLeDiff, Nat.reduceEqDiff, ↓reduceIte]
 have k0 : Keep Nothing H ((H.new (.cells [.int .i64 n, ew, rv, av, uv, dv] true)).new (.cells [.int .i64 i] true)) := ((Keep.refl _ _).new _).new _
 have o0 : ((H.new (.cells [.int .i64 n, ew, rv, av, uv, dv] true)).new (.cells [.int .i64 i] true)).obj H.next = some (.cells [.int .i64 n, ew, rv, av, uv, dv] true) := by simp (disch := first | omega | (simp only [nx] <;> omega) | fail) only [vaim]
 have o1 : ((H.new (.cells [.int .i64 n, ew, rv, av, uv, dv] true)).new (.cells [.int .i64 i] true)).obj (H.next + 1) = some (.cells [.int .i64 i] true) := obj_new_eq rfl
 have n0 : ((H.new (.cells [.int .i64 n, ew, rv, av, uv, dv] true)).new (.cells [.int .i64 i] true)).next = H.next + 2 := rfl
 generalize (H.new (.cells [.int .i64 n, ew, rv, av, uv, dv] true)).new (.cells [.int .i64 i] true) = H0 at *
 have hil : i < ex.length := (List.getElem?_eq_some_iff.1 hi).1
 have hex : exAt ex (i : Int) = l := exAt_of (by rw [Int.toNat_natCast]; exact hi)
 have hll := hu.pos l (List.mem_of_getElem? hi)
 have hul := hu.len
 refine wpx_loop (fun m t H' => ∃ (ov wv : AVal) (out w : List Int), m = stepsOf ex w ∧ t = (bots 2 (.ptr H.next 0 :: bots 2 (ov :: wv :: bots 67 ([]))) : Tmps) ∧ Keep Nothing H H' ∧ H0.next ≤ H'.next ∧ H'.obj H.next = some (.cells [.int .i64 n, ew, rv, av, uv, dv] true) ∧
  Own (H.next + 1) H' ov 1 (ints out) ∧ Stk (H.next + 1) H' wv (ints w) ∧ (∀ j, sid ov = some j → sid wv ≠ some j) ∧ (∀ k ∈ w, 0 ≤ k ∧ k < arcs.length) ∧ out ++ todoOf ex w = l) (stepsOf ex [(i : Int)]) ?_ ?_
 ·refine ⟨.nilSlice, .slice (H.next + 1) 0 1 (.exact 1), [], [(i : Int)], rfl, rfl, k0, Nat.le_refl _, o0, .nil, .full (by omega) (by omega) o1 (by simp) (by omega) (by omega) rfl, (fun j hj => by cases hj), fun k hk => ?_, ?_⟩
  ·simp at hk; omega
  ·simp [todoOf, hex]
 ·rintro m t H1 ⟨ov, wv, out, w, rfl, rfl, k1, hn1, ob1, g1, w1, hdis, hbd, htodo⟩
  have lw := w1.len
  rw [ints_length] at lw
  have lo := g1.row.len1
  rw [ints_length] at lo
  have hol : out.length + (todoOf ex w).length = l.length := by rw [← htodo, List.length_append]
  have hwl := todo_long hu.pos hul hbd
  by_cases hc : (0 : Int) < w.length
  ·obtain ⟨w0, k, rfl⟩ : ∃ w0 k, w = w0 ++ [k] := ⟨w.dropLast, w.getLast (by intro e; subst e; simp at hc), (List.dropLast_concat_getLast _).symm⟩
   have hkb := hbd k (by simp)
   have hbd0 : ∀ j ∈ w0, 0 ≤ j ∧ j < arcs.length := fun j hj => hbd j (by simp [hj])
   have hw0 := todo_long hu.pos hul hbd0
   rw [todoOf_snoc] at htodo
   rw [todoOf_snoc, List.length_append] at hol
   have hint : ints (w0 ++ [k]) = ints w0 ++ [.int .i64 k] := by simp [ints]
   rw [hint] at w1
   obtain ⟨id, off, t1, t2, t3⟩ := w1.top
   obtain ⟨wv', s1, s2, s3⟩ := w1.pop
   rw [ints_length] at t1 s1
   rw [List.length_append, List.length_singleton] at lw hc
   have hsub : ((w0.length + 1 : Nat) : Int) - 1 = w0.length := by omega
   obtain ⟨kn, rfl⟩ := Int.eq_ofNat_of_zero_le hkb.1
   have hkl : kn < arcs.length := by omega
   obtain ⟨a, ha⟩ : ∃ a, arcs[kn]? = some a := ⟨_, List.getElem?_eq_getElem hkl⟩
   obtain ⟨lk, hlk⟩ : ∃ lk, ex[kn]? = some lk := ⟨_, List.getElem?_eq_getElem (by omega)⟩
   have hek : exAt ex (kn : Int) = lk := exAt_of (by rw [Int.toNat_natCast]; exact hlk)
   have hlp := hu.pos lk (List.mem_of_getElem? hlk)
   obtain ⟨ida, offa, a1, a2, a3, a4⟩ := arc_at (hr.kept k1) ha
   unfold Arc.cells at a4
   rw [hek] at htodo hol
   have hk1 : ¬ (kn : Int) < 0 := by omega
   have hk2 : ¬ (arcs.length : Int) ≤ kn := by omega
   have lw' := s3.len
   rw [ints_length] at lw'
   have kA : Keep Nothing H1 ((H1.new (.cells [.int .i64 0, .int .i64 0, .int .i64 0, .int .i64 0, .int .i64 0, .int .i64 0, .int .i64 0] true)).upd H1.next (some (.cells [.int .i64 a.src, .int .i64 a.dst, .int .i64 a.mode, .int .i64 a.cost, .int .i64 a.edge, .int .i64 a.a, .int .i64 a.b] true))) := ((Keep.refl _ _).new _).upd (.inl (Nat.le_refl _)) _
   rcases hu.form kn a lk ha hlk with ⟨f1, f2⟩ | ⟨f1, f2, f3, f4, f5, lp, lq, f6, f7, f8⟩
   ·simp (disch := first | omega | (simp only [nx] <;> omega) | fail) only [vaw, lw, hc, hsub, t1, t3, s1, s3.notBot, hk1, hk2, ge_iff_le, ob1, hla, a1, a4, f1, lo, Nat.reduceAdd, Nat.reduceMul, Nat.reduceLeDiff, Nat.reduceEqDiff, ↓reduceIte]
    have kB := kA.new (.cells [.int .i64 a.edge] true)
    refine app_ret (n := out.length) (k := 1) g1 (by simp (disch := first | omega | (simp only [nx] <;> omega) | fail) only [vaim]; rfl) rfl (by omega) (by omega) (by rw [ints_length]; omega) (by omega) (by omega) ?_
    intro ov' H2 n2 k2 g2 sy
    have kE : Keep (fun j => sid ov = some j) H1 H2 := (kB.mono (N := fun j => sid ov = some j) (fun _ _ e => e.elim)).trans' (N := fun j => sid ov = some j) ⟨n2, k2⟩ (fun j hj hm => hm)
    have nE := kE.next
    simp (disch := first | omega | (simp only [nx] <;> omega) | fail) only [vaw, g2.notBot, Nat.reduceAdd, Nat.reduceMul, Nat.reduceLeDiff, Nat.reduceEqDiff, ↓reduceIte]
    refine ⟨stepsOf ex w0, ?_, ov', wv', out ++ [a.edge], w0, rfl, rfl, k1.trans' kE (fun j hj hm => by have := (g1.sid_ge hm).1; omega), by omega, ?_, ?_, ?_, ?_, hbd0, ?_⟩
    ·rw [stepsOf_snoc, hek]; omega
    ·rw [kE.obj _ (by omega) (fun hm => by have := (g1.sid_ge hm).1; omega)]; exact ob1
    ·rw [ints_append]; exact g2.own
    ·exact s3.keepM kE (fun j hj hm => hdis j hm (by rw [← s2]; exact hj))
    ·obtain ⟨y, y1, y2⟩ := sy
     intro j hj hj2
     have := s3.sid_ge hj2
     rw [y1] at hj
     injection hj with hj
     simp only [next_new, next_upd] at y2
     omega
    ·rw [← htodo, f2]; simp
   ·have hlp := hu.pos lp (List.mem_of_getElem? f6)
    have hlq := hu.pos lq (List.mem_of_getElem? f7)
    have hkl2 : lk.length = lp.length + lq.length := by rw [f8, List.length_append]
    have hlt : (out.length : Int) + w0.length < 2000 := by omega
    have hneg : ¬ (0 : Int) ≤ -1 := by omega
    simp (disch := first | omega | (simp only [nx] <;> omega) | fail) only [vaw, lw, hc, hsub, t1, t3, s1, s3.notBot, hk1, hk2, ge_iff_le, ob1, hla, a1, a4, f1, hneg, lo, f3, f5, lw', hlt, Nat.reduceAdd, Nat.reduceMul, Nat.reduceLeDiff, Nat.reduceEqDiff, ↓reduceIte]
    rw [f1] at kA
    have kB := kA.new (.cells [.int .i64 a.b, .int .i64 a.a] true)
    obtain ⟨H2, e1, e2, e3⟩ := (s3.keepM kB (fun _ _ e => e)).push (x := .slice (H1.next + 1) 0 2 (.exact 2)) (vs := [.int .i64 a.b, .int .i64 a.a]) (taken_one (by rw [cells?_of]; simp (disch := first | omega | (simp only [nx] <;> omega) | fail) only [vaim]) rfl) rfl (by rw [ints_length]; omega)
    have kE : Keep (fun j => sid wv' = some j) H1 H2 := (kB.mono (N := fun j => sid wv' = some j) (fun _ _ e => e.elim)).trans' (N := fun j => sid wv' = some j) e2 (fun j hj hm => hm)
    have nE := kE.next
    rw [e1]
    simp (disch := first | omega | (simp only [nx] <;> omega) | fail) only [vaw, e3.notBot, Nat.reduceAdd, Nat.reduceMul, Nat.reduceLeDiff, Nat.reduceEqDiff, ↓reduceIte]
    have hint2 : ints w0 ++ [.int .i64 a.b, .int .i64 a.a] = ints (w0 ++ [a.b] ++ [a.a]) := by simp [ints]
    rw [hint2] at e3
    have hb1 : exAt ex a.a = lp := exAt_of f6
    have hb2 : exAt ex a.b = lq := exAt_of f7
    have lw0 : (ints w0).length = w0.length := ints_length _
    rw [lw0] at e3
    refine ⟨stepsOf ex (w0 ++ [a.b] ++ [a.a]), ?_, ov, _, out, w0 ++ [a.b] ++ [a.a], rfl, by rw [lw0]; rfl, k1.trans' kE (fun j hj hm => by have := (s3.sid_ge hm).1; omega), by omega, ?_, ?_, e3, ?_, ?_, ?_⟩
    ·rw [stepsOf_snoc, stepsOf_snoc, stepsOf_snoc, hek, hb1, hb2]; omega
    ·rw [kE.obj _ (by omega) (fun hm => by have := (s3.sid_ge hm).1; omega)]; exact ob1
    ·exact g1.keepM kE (fun j hj hm => hdis j hj (by rw [← s2]; exact hm))
    ·intro j hj hj2
     have := (g1.sid_ge hj).2
     injection hj2 with hj2
     simp only [next_new, next_upd] at hj2
     omega
    ·intro j hj
     simp only [List.mem_append, List.mem_singleton] at hj
     rcases hj with (hj | hj) | hj
     ·exact hbd0 j hj
     ·subst hj; omega
     ·subst hj; omega
    ·rw [todoOf_snoc, todoOf_snoc, hb1, hb2, ← htodo, f8]; simp
  ·have : w = [] := List.eq_nil_of_length_eq_zero (by omega)
   subst this
   have lw0 : alenS wv = some (.int .i64 0) := lw
   have h00 : ¬ (0 : Int) < 0 := by omega
   simp (disch := first | omega | (simp only [nx] <;> omega) | fail) only [vaw, lw0, h00, Nat.reduceAdd, Nat.reduceMul, Nat.reduceLeDiff, Nat.reduceEqDiff, ↓reduceIte]
   refine cloneI_ret g1.row (by omega) fun v' H' k' o' => ?_
   simp (disch := first | omega | (simp only [nx] <;> omega) | fail) only [vaw, o'.notBot, Nat.reduceAdd, Nat.reduceMul, Nat.reduceLeDiff, Nat.reduceEqDiff, ↓reduceIte]
   have : out = l := by rw [← htodo]; simp [todoOf]
   subst this
   exact hq _ _ (k1.trans k') (o'.lower (by omega))
end Go.Proofs.Ytknhlpmmalcchaa
