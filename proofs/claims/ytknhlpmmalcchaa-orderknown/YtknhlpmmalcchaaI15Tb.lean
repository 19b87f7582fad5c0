/- Steps of the walk. -/
import Derived.Test.YtknhlpmmalcchaaI15Ta
import Derived.Sort.AssemblyPlain
import Derived.Sort.LotA
import Derived.Test.YtknhlpmmalcchaaRows
import Derived.ProofKit
set_option linter.all false
set_option linter.unusedVariables false
set_option linter.unusedSimpArgs false
namespace Go.Proofs.Ytknhlpmmalcchaa
open Go Go.VAI Go.Sort
set_option linter.unusedSimpArgs false

section
variable {α : Type} {f : α → List AVal} {n : Nat}
theorem flat_size (hf : ∀ a, (f a).length = n) (l : List α) : (l.flatMap f).length = l.length * n := by
  induction l with
  | nil => simp
  | cons a l ih => rw [List.flatMap_cons, List.length_append, hf, ih, List.length_cons, Nat.succ_mul]; omega
theorem flat_get (hf : ∀ a, (f a).length = n) : ∀ (l : List α) (i : Nat) (a : α), l[i]? = some a → ((l.flatMap f).drop (i * n)).take n = f a
  | [], i, a, h => by simp at h
  | x :: l, 0, a, h => by
    simp at h; subst h
    have := hf x
    rw [List.flatMap_cons, Nat.zero_mul, List.drop_zero, List.take_append_of_le_length (by omega), List.take_of_length_le (by omega)]
  | x :: l, i + 1, a, h => by
    have hx := hf x
    rw [List.flatMap_cons, List.drop_append, List.drop_of_length_le (by rw [hx, Nat.succ_mul]; omega), List.nil_append, hx, Nat.succ_mul, Nat.add_sub_cancel]
    exact flat_get hf l i a (by simpa using h)
theorem flat_put (hf : ∀ a, (f a).length = n) : ∀ (l : List α) (i : Nat) (b : α), i < l.length → splice (l.flatMap f) (i * n) (f b) = (l.set i b).flatMap f
  | [], i, b, h => by simp at h
  | x :: l, 0, b, h => by
    have hx := hf x
    have hb := hf b
    unfold splice
    rw [List.flatMap_cons, Nat.zero_mul, List.take_zero, List.nil_append, Nat.zero_add, List.set_cons_zero, List.flatMap_cons, hb, List.drop_append, List.drop_of_length_le (by omega), List.nil_append, hx, Nat.sub_self, List.drop_zero]
  | x :: l, i + 1, b, h => by
    have hx := hf x
    have hb := hf b
    have ih := flat_put hf l i b (by simp at h; omega)
    unfold splice at ih ⊢
    have e : (i + 1) * n = n + i * n := by rw [Nat.succ_mul]; omega
    rw [List.flatMap_cons, List.set_cons_succ, List.flatMap_cons, ← ih, e, List.take_append, List.drop_append, hx]
    rw [List.take_of_length_le (by omega), List.drop_of_length_le (l := f x) (by omega)]
    rw [show n + i * n - n = i * n by omega, show n + i * n + (f b).length - n = i * n + (f b).length by omega]
    simp
def rowOf (f : α → List AVal) (d : Array α) : List AVal := d.toList.flatMap f
theorem rowOf_length (hf : ∀ a, (f a).length = n) (d : Array α) : (rowOf f d).length = d.size * n := by
  unfold rowOf; rw [flat_size hf]; simp
theorem rowOf_get [Inhabited α] (hf : ∀ a, (f a).length = n) {d : Array α} {i : Nat} (hi : i < d.size) : ((rowOf f d).drop (i * n)).take n = f d[i]! := by
  unfold rowOf
  refine flat_get hf _ i _ ?_
  rw [Array.getElem?_toList, getElem!_pos d i hi]
  simp [hi]
theorem rowOf_put (hf : ∀ a, (f a).length = n) {d : Array α} {i : Nat} (hi : i < d.size) {b : α} : splice (rowOf f d) (i * n) (f b) = rowOf f (d.setIfInBounds i b) := by
  unfold rowOf
  rw [flat_put hf _ i b (by simpa using hi)]
  simp
theorem swp_size (d : Array α) [Inhabited α] (i j : Nat) : (swp d i j).size = d.size := by simp [swp]
end
theorem rcells_len (a : Int × Int) : (rcells a).length = 2 := rfl
def CmpOk {α : Type} (f : α → List AVal) (g : Nat) (c : α → α → Int) : Prop := ∀ (a b : α) (H : AHeap) (Q : AVal → AHeap → Prop), (∀ H', Keep Nothing H H' → Q (.int .i64 (c a b)) H') → Ret A g [.agg (f a), .agg (f b)] H Q
def ltOf {α : Type} (c : α → α → Int) (x y : α) : Bool := decide (c x y < 0)
theorem insInner_stop {α : Type} [Inhabited α] {lt : α → α → Bool} {a j : Nat} {d : Array α} (h : ¬ j > a) : insInner lt a j d = d := by
  cases j with
  | zero => rfl
  | succ j => rw [insInner, if_neg]; simp; omega
theorem insInner_step {α : Type} [Inhabited α] {lt : α → α → Bool} {a j : Nat} {d : Array α} (h : j + 1 > a) (hl : lt d[j + 1]! d[j]! = true) : insInner lt a (j + 1) d = insInner lt a j (swp d (j + 1) j) := by
  rw [insInner, if_pos]
  simp [hl]; omega
theorem insInner_no {α : Type} [Inhabited α] {lt : α → α → Bool} {a j : Nat} {d : Array α} (hl : lt d[j + 1]! d[j]! = false) : insInner lt a (j + 1) d = d := by
  rw [insInner, if_neg]
  simp [hl]
set_option maxRecDepth 20000 in
set_option maxHeartbeats 8000000 in
theorem insR_ret {lo a b g : Nat} {v : AVal} {d : Array (Int × Int)} {c : Int × Int → Int × Int → Int} {H : AHeap} {Q : AVal → AHeap → Prop} (hc : CmpOk rcells g c) (hown : Own lo H v 2 (rowOf rcells d)) (hab : a ≤ b) (hb : b ≤ d.size) (hd : d.size ≤ 1000000)
    (hq : ∀ H', Keep (fun j => sid v = some j) H H' → Own lo H' v 2 (rowOf rcells (insertionSort (ltOf c) d a b)) → Q (.tuple []) H') : Ret A 131 [v, .int .i64 a, .int .i64 b, .func (.func g) [] []] H Q := by
  refine Ret.of (fn := F131) rfl ?_
  simp (disch := first | omega | (simp only [nx] <;> omega) | fail) only [vaw, F131, Nat.reduceAdd, Nat.reduceMul, Nat.reduceLeDiff, Nat.reduceEqDiff, ↓reduceIte]
  refine wpx_loop (fun m t H' => ∃ (i : Nat) (e : Array (Int × Int)), m = b - i ∧ a + 1 ≤ i ∧ t = (v :: .int .i64 a :: .int .i64 b :: .func (.func g) [] [] :: bots 4 (.int .i64 i :: bots 44 ([])) : Tmps) ∧ Keep (fun j => sid v = some j) H H' ∧ Own lo H' v 2 (rowOf rcells e) ∧ e.size = d.size ∧ insOuter (ltOf c) a b i e = insertionSort (ltOf c) d a b) (b - (a + 1)) ?_ ?_
  · exact ⟨a + 1, d, rfl, Nat.le_refl _, rfl, .refl _ _, hown, rfl, rfl⟩
  · rintro m t H1 ⟨i, e, rfl, hai, rfl, k1, g1, hsz, hin⟩
    by_cases hib : (i : Int) < b
    · have hib' : i < b := by omega
      rw [insOuter, if_pos hib'] at hin
      simp (disch := first | omega | (simp only [nx] <;> omega) | fail) only [vaw, hib, Nat.reduceAdd, Nat.reduceMul, Nat.reduceLeDiff, Nat.reduceEqDiff, ↓reduceIte]
      refine wpx_loop (fun m t H' => ∃ (j : Nat) (e' : Array (Int × Int)), m = j ∧ a ≤ j ∧ j ≤ i ∧ t = (v :: .int .i64 a :: .int .i64 b :: .func (.func g) [] [] :: bots 4 (.int .i64 i :: .int .i64 j :: bots 43 ([])) : Tmps) ∧ Keep (fun j => sid v = some j) H H' ∧ Own lo H' v 2 (rowOf rcells e') ∧ e'.size = d.size ∧ insInner (ltOf c) a j e' = insInner (ltOf c) a i e) i ?_ ?_
      · exact ⟨i, e, rfl, by omega, by omega, rfl, k1, g1, hsz, rfl⟩
      · rintro m t H2 ⟨j, e', hm, haj, hji, rfl, k2, g2, hsz2, hin2⟩
        subst m
        by_cases hja : (a : Int) < j
        · obtain ⟨j', rfl⟩ : ∃ j', j = j' + 1 := ⟨j - 1, by omega⟩
          have hlen := rowOf_length rcells_len e'
          obtain ⟨id, q1, q2, q3, q4, q5, q6⟩ := Own.slotN g2 (n := e'.size) (j := j' + 1) (k := .i64) (by omega) hlen (by omega)
          obtain ⟨id', r1, r2, r3, r4, r5, r6⟩ := Own.slotN g2 (n := e'.size) (j := j') (k := .i64) (by omega) hlen (by omega)
          have hidd : id' = id := by rw [q1] at r1; injection r1 with r1; exact r1.symm
          subst hidd
          have hj1 : ((j' + 1 : Nat) : Int) - 1 = (j' : Int) := by omega
          have w1 := rowOf_get rcells_len (d := e') (i := j' + 1) (by omega)
          have w2 := rowOf_get rcells_len (d := e') (i := j') (by omega)
          have l1 : (j' + 1) * 2 + 2 ≤ (rowOf rcells e').length := by omega
          have l2 : j' * 2 + 2 ≤ (rowOf rcells e').length := by omega
          simp (disch := first | omega | (simp only [nx] <;> omega) | fail) only [vaw, hja, q4, q5, hj1, r4, w1, w2, l1, l2, Nat.reduceAdd, Nat.reduceMul, Nat.reduceLeDiff, Nat.reduceEqDiff, ↓reduceIte]
          refine hc _ _ _ _ fun H3 k3 => ?_
          have q5' := (k3.old q3).trans q5
          by_cases hlt : c e'[j' + 1]! e'[j']! < 0
          · have hl : ltOf c e'[j' + 1]! e'[j']! = true := decide_eq_true hlt
            rw [insInner_step (by omega) hl] at hin2
            have s1 := rowOf_put rcells_len (d := e') (i := j' + 1) (b := e'[j']!) (by omega)
            have s2 := rowOf_put rcells_len (d := e'.setIfInBounds (j' + 1) e'[j']!) (i := j') (b := e'[j' + 1]!) (by simp; omega)
            have hl3 : (rowOf rcells (e'.setIfInBounds (j' + 1) e'[j']!)).length = e'.size * 2 := by rw [rowOf_length rcells_len]; simp
            have l3 : j' * 2 + 2 ≤ (rowOf rcells (e'.setIfInBounds (j' + 1) e'[j']!)).length := by omega
            simp (disch := first | omega | (simp only [nx] <;> omega) | fail) only [vaw, hlt, q5', q4, r4, hj1, w1, w2, l1, l2, s1, s2, l3, rcells_len, Nat.reduceAdd, Nat.reduceMul, Nat.reduceLeDiff, Nat.reduceEqDiff, ↓reduceIte]
            have hsw : (e'.setIfInBounds (j' + 1) e'[j']!).setIfInBounds j' e'[j' + 1]! = swp e' (j' + 1) j' := rfl
            rw [hsw]
            have hls := rowOf_length rcells_len (swp e' (j' + 1) j')
            rw [swp_size] at hls
            refine ⟨j', by omega, j', swp e' (j' + 1) j', rfl, by omega, by omega, rfl, ((k2.trans k3.any).upd (.inr q1) _).upd (.inr q1) _, q6 _ _ (by simp only [next_upd]; exact k3.next) (obj_upd_eq rfl) (by omega), by rw [swp_size]; exact hsz2, hin2⟩
          · have hl : ltOf c e'[j' + 1]! e'[j']! = false := decide_eq_false hlt
            rw [insInner_no hl] at hin2
            simp (disch := first | omega | (simp only [nx] <;> omega) | fail) only [vaw, hlt, Nat.reduceAdd, Nat.reduceMul, Nat.reduceLeDiff, Nat.reduceEqDiff, ↓reduceIte]
            refine ⟨b - (i + 1), by omega, i + 1, e', rfl, by omega, rfl, k2.trans k3.any, g2.kept k3, hsz2, ?_⟩
            rw [hin2]; exact hin
        · rw [insInner_stop (by omega)] at hin2
          simp (disch := first | omega | (simp only [nx] <;> omega) | fail) only [vaw, hja, Nat.reduceAdd, Nat.reduceMul, Nat.reduceLeDiff, Nat.reduceEqDiff, ↓reduceIte]
          refine ⟨b - (i + 1), by omega, i + 1, e', rfl, by omega, rfl, k2, g2, hsz2, ?_⟩
          rw [hin2]; exact hin
    · simp (disch := first | omega | (simp only [nx] <;> omega) | fail) only [vaw, hib, Nat.reduceAdd, Nat.reduceMul, Nat.reduceLeDiff, Nat.reduceEqDiff, ↓reduceIte]
      have hib' : ¬ i < b := by omega
      rw [insOuter, if_neg hib'] at hin
      rw [hin] at g1
      exact hq _ k1 g1
end Go.Proofs.Ytknhlpmmalcchaa

namespace Go.Proofs.Ytknhlpmmalcchaa
open Go Go.VAI Go.Sort
set_option linter.unusedSimpArgs false

theorem ones_ret {n : Nat} (hn : n < 32) {H : AHeap} {Q : AVal → AHeap → Prop} (hq : ∀ c : Int, (1 < c ↔ 2 ≤ ((List.range 5).filter fun i => n.testBit i).length) → Q (.int .i64 c) H) : Ret A 83 [.int .u64 n] H Q := by
  have key : ∀ c : Int, callA A 5 83 [.int .u64 n] H = some (.int .i64 c, H) → (1 < c ↔ 2 ≤ ((List.range 5).filter fun i => n.testBit i).length) → Ret A 83 [.int .u64 n] H Q := fun c h1 h2 => ⟨5, _, h1, hq c h2⟩
  have h : n = 0 ∨ n = 1 ∨ n = 2 ∨ n = 3 ∨ n = 4 ∨ n = 5 ∨ n = 6 ∨ n = 7 ∨ n = 8 ∨ n = 9 ∨ n = 10 ∨ n = 11 ∨ n = 12 ∨ n = 13 ∨ n = 14 ∨ n = 15 ∨ n = 16 ∨ n = 17 ∨ n = 18 ∨ n = 19 ∨ n = 20 ∨ n = 21 ∨ n = 22 ∨ n = 23 ∨ n = 24 ∨ n = 25 ∨ n = 26 ∨ n = 27 ∨ n = 28 ∨ n = 29 ∨ n = 30 ∨ n = 31 := by omega
  rcases h with rfl | rfl | rfl | rfl | rfl | rfl | rfl | rfl | rfl | rfl | rfl | rfl | rfl | rfl | rfl | rfl | rfl | rfl | rfl | rfl | rfl | rfl | rfl | rfl | rfl | rfl | rfl | rfl | rfl | rfl | rfl | rfl
  · exact key 0 (by kernel_rfl) (by decide)
  · exact key 1 (by kernel_rfl) (by decide)
  · exact key 1 (by kernel_rfl) (by decide)
  · exact key 2 (by kernel_rfl) (by decide)
  · exact key 1 (by kernel_rfl) (by decide)
  · exact key 2 (by kernel_rfl) (by decide)
  · exact key 2 (by kernel_rfl) (by decide)
  · exact key 3 (by kernel_rfl) (by decide)
  · exact key 1 (by kernel_rfl) (by decide)
  · exact key 2 (by kernel_rfl) (by decide)
  · exact key 2 (by kernel_rfl) (by decide)
  · exact key 3 (by kernel_rfl) (by decide)
  · exact key 2 (by kernel_rfl) (by decide)
  · exact key 3 (by kernel_rfl) (by decide)
  · exact key 3 (by kernel_rfl) (by decide)
  · exact key 4 (by kernel_rfl) (by decide)
  · exact key 1 (by kernel_rfl) (by decide)
  · exact key 2 (by kernel_rfl) (by decide)
  · exact key 2 (by kernel_rfl) (by decide)
  · exact key 3 (by kernel_rfl) (by decide)
  · exact key 2 (by kernel_rfl) (by decide)
  · exact key 3 (by kernel_rfl) (by decide)
  · exact key 3 (by kernel_rfl) (by decide)
  · exact key 4 (by kernel_rfl) (by decide)
  · exact key 2 (by kernel_rfl) (by decide)
  · exact key 3 (by kernel_rfl) (by decide)
  · exact key 3 (by kernel_rfl) (by decide)
  · exact key 4 (by kernel_rfl) (by decide)
  · exact key 3 (by kernel_rfl) (by decide)
  · exact key 4 (by kernel_rfl) (by decide)
  · exact key 4 (by kernel_rfl) (by decide)
  · exact key 5 (by kernel_rfl) (by decide)
theorem len_ret {n : Nat} (hn : n ≤ 12) {H : AHeap} {Q : AVal → AHeap → Prop} (hq : ∀ c : Nat, c ≤ 4 → Q (.int .i64 c) H) : Ret A 116 [.int .u64 n] H Q := by
  have key : ∀ c : Nat, callA A 5 116 [.int .u64 n] H = some (.int .i64 c, H) → c ≤ 4 → Ret A 116 [.int .u64 n] H Q := fun c h1 h2 => ⟨5, _, h1, hq c h2⟩
  have h : n = 0 ∨ n = 1 ∨ n = 2 ∨ n = 3 ∨ n = 4 ∨ n = 5 ∨ n = 6 ∨ n = 7 ∨ n = 8 ∨ n = 9 ∨ n = 10 ∨ n = 11 ∨ n = 12 := by omega
  rcases h with rfl | rfl | rfl | rfl | rfl | rfl | rfl | rfl | rfl | rfl | rfl | rfl | rfl
  · exact key 0 (by kernel_rfl) (by decide)
  · exact key 1 (by kernel_rfl) (by decide)
  · exact key 2 (by kernel_rfl) (by decide)
  · exact key 2 (by kernel_rfl) (by decide)
  · exact key 3 (by kernel_rfl) (by decide)
  · exact key 3 (by kernel_rfl) (by decide)
  · exact key 3 (by kernel_rfl) (by decide)
  · exact key 3 (by kernel_rfl) (by decide)
  · exact key 4 (by kernel_rfl) (by decide)
  · exact key 4 (by kernel_rfl) (by decide)
  · exact key 4 (by kernel_rfl) (by decide)
  · exact key 4 (by kernel_rfl) (by decide)
  · exact key 4 (by kernel_rfl) (by decide)
theorem pdqR_ret {lo g : Nat} {L : Int} {v : AVal} {d : Array (Int × Int)} {c : Int × Int → Int × Int → Int} {H : AHeap} {Q : AVal → AHeap → Prop} (hc : CmpOk rcells g c) (hown : Own lo H v 2 (rowOf rcells d)) (hd : d.size ≤ 12)
    (hq : ∀ H', Keep (fun j => sid v = some j) H H' → Own lo H' v 2 (rowOf rcells (insertionSort (ltOf c) d 0 d.size)) → Q (.tuple []) H') : Ret A 115 [v, .int .i64 0, .int .i64 d.size, .int .i64 L, .func (.func g) [] []] H Q := by
  refine Ret.of (fn := F115) rfl ?_
  simp (disch := first | omega | (simp only [nx] <;> omega) | fail) only [vaw, F115, Nat.reduceAdd, Nat.reduceMul, Nat.reduceLeDiff, Nat.reduceEqDiff, ↓reduceIte]
  refine wpx_loop (fun m t H' => t = (v :: .int .i64 0 :: .int .i64 d.size :: .int .i64 L :: .func (.func g) [] [] :: bots 5 (.bool true :: .bool true :: bots 136 ([])) : Tmps) ∧ H' = H) 0 ?_ ?_
  · exact ⟨rfl, rfl⟩
  · rintro m t H1 ⟨rfl, rfl⟩
    have h12 : (d.size : Int) - 0 ≤ 12 := by omega
    simp (disch := first | omega | (simp only [nx] <;> omega) | fail) only [vaw, h12, Nat.reduceAdd, Nat.reduceMul, Nat.reduceLeDiff, Nat.reduceEqDiff, ↓reduceIte]
    refine insR_ret (a := 0) (b := d.size) hc hown (by omega) (by omega) (by omega) fun H2 k2 g2 => ?_
    simp (disch := first | omega | (simp only [nx] <;> omega) | fail) only [vaw, Nat.reduceAdd, Nat.reduceMul, Nat.reduceLeDiff, Nat.reduceEqDiff, ↓reduceIte]
    exact hq _ k2 g2
theorem sortR_ret {lo g : Nat} {v : AVal} {d : Array (Int × Int)} {c : Int × Int → Int × Int → Int} {H : AHeap} {Q : AVal → AHeap → Prop} (hc : CmpOk rcells g c) (hown : Own lo H v 2 (rowOf rcells d)) (hd : d.size ≤ 12)
    (hq : ∀ H', Keep (fun j => sid v = some j) H H' → Own lo H' v 2 (rowOf rcells (insertionSort (ltOf c) d 0 d.size)) → Q (.tuple []) H') : Ret A 87 [v, .func (.func g) [] []] H Q := by
  refine Ret.of (fn := F87) rfl ?_
  have hl := hown.row.len (n := d.size) (by omega) (rowOf_length rcells_len d)
  simp (disch := first | omega | (simp only [nx] <;> omega) | fail) only [vaw, F87, hl, Nat.reduceAdd, Nat.reduceMul, Nat.reduceLeDiff, Nat.reduceEqDiff, ↓reduceIte]
  have hw : IntKind.u64.wrap (d.size : Int) = (d.size : Int) := by
    show ((d.size : Int) % 18446744073709551616) = _
    omega
  rw [hw]
  refine len_ret hd fun L _ => ?_
  simp (disch := first | omega | (simp only [nx] <;> omega) | fail) only [vaw, Nat.reduceAdd, Nat.reduceMul, Nat.reduceLeDiff, Nat.reduceEqDiff, ↓reduceIte]
  refine pdqR_ret hc hown hd fun H2 k2 g2 => ?_
  simp (disch := first | omega | (simp only [nx] <;> omega) | fail) only [vaw, Nat.reduceAdd, Nat.reduceMul, Nat.reduceLeDiff, Nat.reduceEqDiff, ↓reduceIte]
  exact hq _ k2 g2
end Go.Proofs.Ytknhlpmmalcchaa

namespace Go.Proofs.Ytknhlpmmalcchaa
open Go Go.VAI
set_option linter.unusedSimpArgs false

def orModes (es : List Edge) : List Int → Nat → Nat
  | [], a => a
  | x :: l, a => orModes es l (a ||| 1 <<< ((es[x.toNat]?).elim 0 fun e => e.mode.toNat))
theorem orModes_drop {es : List Edge} {xs : List Int} {i j a : Nat} {e : Edge} (h : xs[i]? = some (j : Int)) (he : es[j]? = some e) : orModes es (xs.drop i) a = orModes es (xs.drop (i + 1)) (a ||| 1 <<< e.mode.toNat) := by
  obtain ⟨h1, h2⟩ := List.getElem?_eq_some_iff.1 h
  rw [List.drop_eq_getElem_cons h1, h2, orModes, Int.toNat_natCast, he]; rfl
theorem or32 : ∀ a : Nat, a < 32 → ∀ m : Nat, m < 5 → (orI .i64 (a : Int) (shlI .i64 1 (m : Int)) = ((a ||| 1 <<< m : Nat) : Int) ∧ a ||| 1 <<< m < 32) := by decide
theorem orModes_lt {es : List Edge} (hm : ∀ e ∈ es, 0 ≤ e.mode ∧ e.mode < 5) : ∀ (xs : List Int) (a : Nat), a < 32 → orModes es xs a < 32
  | [], a, h => h
  | x :: l, a, h => by
    rw [orModes]
    refine orModes_lt hm l _ ?_
    cases he : es[x.toNat]? with
    | none => exact (or32 a h 0 (by omega)).2
    | some e =>
      have := hm e (List.mem_of_getElem? he)
      exact (or32 a h e.mode.toNat (by omega)).2
theorem picks_nat {p : Edge → Bool} {es : List Edge} {n : Nat} {x : Int} (h : x ∈ picks p es n) : ∃ j : Nat, x = j ∧ j < n := by
  simp only [picks, List.mem_map, List.mem_filter, List.mem_range] at h
  obtain ⟨j, ⟨h1, _⟩, rfl⟩ := h
  exact ⟨j, rfl, h1⟩
def seenAt (es : List Edge) (v k : Nat) : Nat := if k = 0 then 0 else if k = 1 then orModes es (picks (isSrc v) es es.length) 0 else orModes es (picks (isDst v) es es.length) (orModes es (picks (isSrc v) es es.length) 0)
set_option maxRecDepth 20000 in
set_option maxHeartbeats 8000000 in
theorem adjModes_ret {a o q N : Nat} {v : Nat} {es : List Edge} {ew : AVal} {uo ui : List AVal} {H : AHeap} {Q : AVal → AHeap → Prop} (h : AdjAt H a o q N es ew uo ui) (hv : v < N) (hn : es.length ≤ 1000) (hm : ∀ e ∈ es, 0 ≤ e.mode ∧ e.mode < 5)
    (hq : ∀ H', Keep Nothing H H' → Q (.int .i64 (orModes es (picks (isDst v) es es.length) (orModes es (picks (isSrc v) es es.length) 0) : Nat)) H') : Ret A 82 [.ptr a 0, .int .i64 v] H Q := by
  refine Ret.of (fn := F82) rfl ?_
  have bx := h.box
  simp (disch := first | omega | (simp only [nx] <;> omega) | fail) only [vaw, F82, bx, Nat.reduceAdd, Nat.reduceMul, Nat.reduceLeDiff, Nat.reduceEqDiff, ↓reduceIte]
  refine wpx_loop (fun m t H' => ∃ (k : Nat), m = 2 - k ∧ k ≤ 2 ∧ t = (.ptr a 0 :: .int .i64 v :: bots 3 (.int .i64 (seenAt es v k : Nat) :: bots 12 (.agg [.slice o 0 N (.exact N), .slice q 0 N (.exact N)] :: .int .i64 k :: bots 27 ([]))) : Tmps) ∧ Keep Nothing H H') 2 ?_ ?_
  · exact ⟨0, rfl, by omega, rfl, .refl _ _⟩
  · rintro m t H1 ⟨k, rfl, hk, rfl, k1⟩
    have g := h.kept k1
    have bx1 := g.box
    have hk3 : k = 0 ∨ k = 1 ∨ k = 2 := by omega
    rcases hk3 with rfl | rfl | rfl
    · obtain ⟨r, r', u1, u2, rc, -⟩ := g.ro v hv
      have hpl := @picks_length (isSrc v) es es.length
      simp (disch := first | omega | (simp only [nx] <;> omega) | fail) only [vaw, show ((0 : Nat) : Int) = 0 from rfl, Int.reduceLT, Int.reduceToNat, Nat.reduceAdd, Nat.reduceMul, Nat.reduceLeDiff, Nat.reduceEqDiff, ↓reduceIte]
      refine side_ret bx1 g.lt.1 g.lt.2.1 hv g.oo g.lo u1 u2 fun H2 k2 => ?_
      have hl := (RowC.kept rc k2).1.len1
      rw [ints_length] at hl
      simp (disch := first | omega | (simp only [nx] <;> omega) | fail) only [vaw, hl, Nat.reduceAdd, Nat.reduceMul, Nat.reduceLeDiff, Nat.reduceEqDiff, ↓reduceIte]
      refine wpx_loop (fun m t H' => ∃ (i acc : Nat), m = (picks (isSrc v) es es.length).length - i ∧ i ≤ (picks (isSrc v) es es.length).length ∧ t = (.ptr a 0 :: .int .i64 v :: bots 3 (.int .i64 (acc : Nat) :: bots 12 (.agg [.slice o 0 N (.exact N), .slice q 0 N (.exact N)] :: .int .i64 0 :: bots 6 (r :: .int .i64 (picks (isSrc v) es es.length).length :: .int .i64 i :: bots 18 ([])))) : Tmps) ∧ Keep Nothing H H' ∧ Keep Nothing H1 H' ∧ acc < 32 ∧ orModes es ((picks (isSrc v) es es.length).drop i) acc = seenAt es v (0 + 1)) (picks (isSrc v) es es.length).length ?_ ?_
      · exact ⟨0, seenAt es v 0, rfl, by omega, rfl, k1.trans k2, k2, by show (0:Nat) < 32; decide, rfl⟩
      · rintro m t H3 ⟨i, acc, rfl, hi, rfl, k3, k3', ha, ho⟩
        by_cases hc : (i : Int) < (picks (isSrc v) es es.length).length
        · have hil : i < (picks (isSrc v) es es.length).length := by omega
          have hx : (picks (isSrc v) es es.length)[i]? = some (picks (isSrc v) es es.length)[i] := by simp [hil]
          obtain ⟨j, hj, hjn⟩ := picks_nat (List.getElem_mem hil)
          rw [hj] at hx
          have he : es[j]? = some es[j] := by simp [hjn]
          have hmem := List.getElem_mem hjn
          have hmo := hm _ hmem
          have g3 := h.kept k3
          have bx3 := g3.box
          obtain ⟨id, off, e1, hid2, e2, e3, e4, e5, e6⟩ := edge_at g3.ed he
          obtain ⟨ip, op, p1, p2, p3⟩ := (RowC.kept rc k3').1.int_at (k := .i64) hx
          rw [orModes_drop hx he] at ho
          generalize es[j] = e at *
          obtain ⟨w, hw⟩ := Int.eq_ofNat_of_zero_le hmo.1
          have hor := or32 acc ha w (by omega)
          rw [hw, Int.toNat_natCast] at ho
          simp (disch := first | omega | (simp only [nx] <;> omega) | fail) only [vaw, hc, p1, p3, bx3, e1, e4, hw, hor.1, Nat.reduceAdd, Nat.reduceMul, Nat.reduceLeDiff, Nat.reduceEqDiff, ↓reduceIte]
          exact ⟨(picks (isSrc v) es es.length).length - (i + 1), by omega, i + 1, acc ||| 1 <<< w, rfl, by omega, rfl, k3, k3', hor.2, ho⟩
        · have : i = (picks (isSrc v) es es.length).length := by omega
          rw [this, List.drop_length] at ho
          have ho' : acc = seenAt es v (0 + 1) := ho
          subst ho'
          simp (disch := first | omega | (simp only [nx] <;> omega) | fail) only [vaw, hc, Nat.reduceAdd, Nat.reduceMul, Nat.reduceLeDiff, Nat.reduceEqDiff, ↓reduceIte]
          exact ⟨2 - (0 + 1), by omega, 0 + 1, rfl, by omega, rfl, k3⟩
    · obtain ⟨r, r', u1, u2, rc, -⟩ := g.ri v hv
      have hpl := @picks_length (isDst v) es es.length
      simp (disch := first | omega | (simp only [nx] <;> omega) | fail) only [vaw, show ((1 : Nat) : Int) = 1 from rfl, Int.reduceLT, Int.reduceToNat, Nat.reduceAdd, Nat.reduceMul, Nat.reduceLeDiff, Nat.reduceEqDiff, ↓reduceIte]
      refine side_ret bx1 g.lt.1 g.lt.2.2 hv g.oi g.li u1 u2 fun H2 k2 => ?_
      have hl := (RowC.kept rc k2).1.len1
      rw [ints_length] at hl
      simp (disch := first | omega | (simp only [nx] <;> omega) | fail) only [vaw, hl, Nat.reduceAdd, Nat.reduceMul, Nat.reduceLeDiff, Nat.reduceEqDiff, ↓reduceIte]
      refine wpx_loop (fun m t H' => ∃ (i acc : Nat), m = (picks (isDst v) es es.length).length - i ∧ i ≤ (picks (isDst v) es es.length).length ∧ t = (.ptr a 0 :: .int .i64 v :: bots 3 (.int .i64 (acc : Nat) :: bots 12 (.agg [.slice o 0 N (.exact N), .slice q 0 N (.exact N)] :: .int .i64 1 :: bots 6 (r :: .int .i64 (picks (isDst v) es es.length).length :: .int .i64 i :: bots 18 ([])))) : Tmps) ∧ Keep Nothing H H' ∧ Keep Nothing H1 H' ∧ acc < 32 ∧ orModes es ((picks (isDst v) es es.length).drop i) acc = seenAt es v (1 + 1)) (picks (isDst v) es es.length).length ?_ ?_
      · exact ⟨0, seenAt es v 1, rfl, by omega, rfl, k1.trans k2, k2, by exact orModes_lt hm _ _ (by omega), rfl⟩
      · rintro m t H3 ⟨i, acc, rfl, hi, rfl, k3, k3', ha, ho⟩
        by_cases hc : (i : Int) < (picks (isDst v) es es.length).length
        · have hil : i < (picks (isDst v) es es.length).length := by omega
          have hx : (picks (isDst v) es es.length)[i]? = some (picks (isDst v) es es.length)[i] := by simp [hil]
          obtain ⟨j, hj, hjn⟩ := picks_nat (List.getElem_mem hil)
          rw [hj] at hx
          have he : es[j]? = some es[j] := by simp [hjn]
          have hmem := List.getElem_mem hjn
          have hmo := hm _ hmem
          have g3 := h.kept k3
          have bx3 := g3.box
          obtain ⟨id, off, e1, hid2, e2, e3, e4, e5, e6⟩ := edge_at g3.ed he
          obtain ⟨ip, op, p1, p2, p3⟩ := (RowC.kept rc k3').1.int_at (k := .i64) hx
          rw [orModes_drop hx he] at ho
          generalize es[j] = e at *
          obtain ⟨w, hw⟩ := Int.eq_ofNat_of_zero_le hmo.1
          have hor := or32 acc ha w (by omega)
          rw [hw, Int.toNat_natCast] at ho
          simp (disch := first | omega | (simp only [nx] <;> omega) | fail) only [vaw, hc, p1, p3, bx3, e1, e4, hw, hor.1, Nat.reduceAdd, Nat.reduceMul, Nat.reduceLeDiff, Nat.reduceEqDiff, ↓reduceIte]
          exact ⟨(picks (isDst v) es es.length).length - (i + 1), by omega, i + 1, acc ||| 1 <<< w, rfl, by omega, rfl, k3, k3', hor.2, ho⟩
        · have : i = (picks (isDst v) es es.length).length := by omega
          rw [this, List.drop_length] at ho
          have ho' : acc = seenAt es v (1 + 1) := ho
          subst ho'
          simp (disch := first | omega | (simp only [nx] <;> omega) | fail) only [vaw, hc, Nat.reduceAdd, Nat.reduceMul, Nat.reduceLeDiff, Nat.reduceEqDiff, ↓reduceIte]
          exact ⟨2 - (1 + 1), by omega, 1 + 1, rfl, by omega, rfl, k3⟩
    · simp (disch := first | omega | (simp only [nx] <;> omega) | fail) only [vaw, Nat.reduceAdd, Nat.reduceMul, Nat.reduceLeDiff, Nat.reduceEqDiff, ↓reduceIte]
      exact hq _ k1
end Go.Proofs.Ytknhlpmmalcchaa

namespace Go.Proofs.Ytknhlpmmalcchaa
open Go Go.VAI
set_option linter.unusedSimpArgs false

def linkB (es : List Edge) (v : Nat) : Bool := decide (2 ≤ ((List.range 5).filter fun i => (orModes es (picks (isDst v) es es.length) (orModes es (picks (isSrc v) es es.length) 0)).testBit i).length)
theorem reps_oneB (n : Nat) (x : AVal) : reps [x] n = List.replicate n x := by
  induction n with
  | zero => rfl
  | succ n ih => rw [reps, ih, List.replicate_succ]; rfl
set_option maxRecDepth 20000 in
set_option maxHeartbeats 8000000 in
theorem linksB_ret {N : Nat} {ev : AVal} {es : List Edge} {H : AHeap} {Q : AVal → AHeap → Prop} (hr : Row H ev 4 (edgeCells es)) (hnet : ∀ e ∈ es, EdgeOk N e) (hN : N ≤ 1000) (hn : es.length ≤ 1000)
    (hq : ∀ v' H', Keep Nothing H H' → Own H.next H' v' 1 (bools ((List.range N).map (linkB es))) → Q v' H') : Ret A 38 [.agg [.int .i64 N, ev]] H Q := by
  refine Ret.of (fn := F38) rfl ?_
  have be := hr.beq
  have hN0 : ¬ (N : Int) < 0 := by omega
  have hm1 : ((N : Nat) : Int) * ((1 : Nat) : Int) ≤ 140737488355328 := by omega
  simp (disch := first | omega | (simp only [nx] <;> omega) | fail) only [vaw, F38, Nat.reduceAdd, Nat.reduceMul, Nat.reduceLeDiff, Nat.reduceEqDiff, ↓reduceIte]
  have kN : Keep Nothing H (H.new (.cells [.int .i64 N, ev] true)) := (Keep.refl _ _).new _
  have oN : (H.new (.cells [.int .i64 N, ev] true)).obj H.next = some (.cells [.int .i64 N, ev] true) := obj_new_eq rfl
  have nN : (H.new (.cells [.int .i64 N, ev] true)).next = H.next + 1 := rfl
  generalize H.new (.cells [.int .i64 N, ev] true) = HN at *
  refine adjNew_ret (hr.kept kN) hnet hN hn fun a o q ew uo ui H1 k1 g1 => ?_
  have o1 := (k1.old (i := H.next) (by omega)).trans oN
  have n1 := k1.next
  simp (disch := first | omega | (simp only [nx] <;> omega) | fail) only [vaw, o1, max_two, hN0, amkSlice_int hm1 (by omega), Nat.reduceAdd, Nat.reduceMul, Nat.reduceLeDiff, Nat.reduceEqDiff, ↓reduceIte]
  rw [reps_oneB]
  have kB : Keep Nothing H1 (H1.new (.cells (List.replicate N (.bool false)) true)) := (Keep.refl _ _).new _
  have oB : (H1.new (.cells (List.replicate N (.bool false)) true)).obj H1.next = some (.cells (List.replicate N (.bool false)) true) := obj_new_eq rfl
  have nB : (H1.new (.cells (List.replicate N (.bool false)) true)).next = H1.next + 1 := rfl
  generalize H1.new (.cells (List.replicate N (.bool false)) true) = HB at *
  refine wpx_loop (fun m t H' => ∃ (i : Nat), m = N - i ∧ i ≤ N ∧ t = (bots 3 (.func (.func 82) [.ptr a 0] [] :: .slice H1.next 0 N (.exact N) :: bots 9 (.int .i64 N :: .int .i64 i :: bots 13 ([]))) : Tmps) ∧ Keep Nothing H1 H' ∧ H1.next < H'.next ∧ H'.obj H1.next = some (.cells (bools ((List.range i).map (linkB es)) ++ List.replicate (N - i) (.bool false)) true)) N ?_ ?_
  · exact ⟨0, rfl, by omega, rfl, kB, by omega, oB⟩
  · rintro m t H2 ⟨i, rfl, hi, rfl, k2, n2, o2⟩
    by_cases hc : (i : Int) < N
    · have hiN : i < N := by omega
      simp (disch := first | omega | (simp only [nx] <;> omega) | fail) only [vaw, hc, Nat.reduceAdd, Nat.reduceMul, Nat.reduceLeDiff, Nat.reduceEqDiff, ↓reduceIte]
      refine adjModes_ret (g1.kept k2) hiN hn (fun e he => ⟨(hnet e he).2.2.1.1, (hnet e he).2.2.1.2⟩) fun H3 k3 => ?_
      have hlt := orModes_lt (es := es) (fun e he => ⟨(hnet e he).2.2.1.1, (hnet e he).2.2.1.2⟩) (picks (isDst i) es es.length) _ (orModes_lt (fun e he => ⟨(hnet e he).2.2.1.1, (hnet e he).2.2.1.2⟩) (picks (isSrc i) es es.length) 0 (by omega))
      have hlb : linkB es i = decide (2 ≤ ((List.range 5).filter fun j => (orModes es (picks (isDst i) es es.length) (orModes es (picks (isSrc i) es es.length) 0)).testBit j).length) := rfl
      generalize orModes es (picks (isDst i) es es.length) (orModes es (picks (isSrc i) es es.length) 0) = z at *
      have hw : IntKind.u64.wrap (z : Int) = (z : Int) := by
        show ((z : Int) % 18446744073709551616) = _
        omega
      simp (disch := first | omega | (simp only [nx] <;> omega) | fail) only [vaw, hw, Nat.reduceAdd, Nat.reduceMul, Nat.reduceLeDiff, Nat.reduceEqDiff, ↓reduceIte]
      refine ones_ret hlt fun c hcc => ?_
      have o3 := (k3.old n2).trans o2
      have n3 := k3.next
      have hd : decide (1 < c) = linkB es i := by rw [hlb]; exact decide_eq_decide.2 hcc
      have hbl : (bools ((List.range i).map (linkB es)) ++ List.replicate (N - i) (AVal.bool false)).length = N := by simp [bools]; omega
      have hil : i + 1 ≤ (bools ((List.range i).map (linkB es)) ++ List.replicate (N - i) (AVal.bool false)).length := by omega
      have hsp := splice_one (l := bools ((List.range i).map (linkB es)) ++ List.replicate (N - i) (AVal.bool false)) (p := i) (x := .bool (linkB es i)) (by omega)
      have hset : (bools ((List.range i).map (linkB es)) ++ List.replicate (N - i) (AVal.bool false)).set i (AVal.bool (linkB es i)) = bools ((List.range (i + 1)).map (linkB es)) ++ List.replicate (N - (i + 1)) (AVal.bool false) := by
        rw [List.set_append_right _ _ (by simp [bools]), show N - i = (N - (i + 1)) + 1 by omega, List.replicate_succ]
        simp [bools, List.range_succ]
      rw [hset] at hsp
      simp (disch := first | omega | (simp only [nx] <;> omega) | fail) only [vaw, hd, o3, hil, hsp, Int.toNat_natCast, Nat.reduceAdd, Nat.reduceMul, Nat.reduceLeDiff, Nat.reduceEqDiff, ↓reduceIte]
      exact ⟨N - (i + 1), by omega, i + 1, rfl, by omega, rfl, (k2.trans k3).upd (.inl (Nat.le_refl _)) _, by omega, rfl⟩
    · have : i = N := by omega
      subst this
      rw [Nat.sub_self, List.replicate_zero, List.append_nil] at o2
      simp (disch := first | omega | (simp only [nx] <;> omega) | fail) only [vaw, hc, Nat.reduceAdd, Nat.reduceMul, Nat.reduceLeDiff, Nat.reduceEqDiff, ↓reduceIte]
      refine hq _ _ ((kN.trans k1).trans k2) ?_
      exact .full (by omega) n2 o2 (by simp [bools])
end Go.Proofs.Ytknhlpmmalcchaa

namespace Go.Proofs.Ytknhlpmmalcchaa
open Go Go.VAI Go.Sort
set_option linter.unusedSimpArgs false

def dgB (es : List Edge) (v : Nat) : Int := (picks (isSrc v) es es.length).length + (picks (isDst v) es es.length).length
def rkB (es : List Edge) (n : Nat) : List (Int × Int) := ((List.range n).filter fun (v : Nat) => !linkB es v).map fun (v : Nat) => ((v : Int), dgB es v)
theorem rkB_succ (es : List Edge) (n : Nat) : rkB es (n + 1) = rkB es n ++ if linkB es n then [] else [((n : Int), dgB es n)] := by
  simp only [rkB, List.range_succ, List.filter_append, List.map_append, List.filter_cons, List.filter_nil]
  cases linkB es n <;> rfl
theorem rkB_len (es : List Edge) (n : Nat) : (rkB es n).length ≤ n := by
  simp only [rkB, List.length_map]
  exact Nat.le_trans (List.length_filter_le _ _) (by simp)
def odB (es : List Edge) (n : Nat) : List Int := (insertionSort (ltOf rankedCmp) (rkB es n).toArray 0 (rkB es n).length).toList.map Prod.fst
set_option maxRecDepth 20000 in
set_option maxHeartbeats 8000000 in
theorem odB_ret {N : Nat} {ev : AVal} {es : List Edge} {H : AHeap} {Q : AVal → AHeap → Prop} (hr : Row H ev 4 (edgeCells es)) (hnet : ∀ e ∈ es, EdgeOk N e) (hN : N ≤ 12) (hn : es.length ≤ 1000)
    (hq : ∀ v' H', Keep Nothing H H' → Row H' v' 1 (ints (odB es N)) → Q v' H') : Ret A 41 [.agg [.int .i64 N, ev]] H Q := by
  refine Ret.of (fn := F41) rfl ?_
  have be := hr.beq
  simp (disch := first | omega | (simp only [nx] <;> omega) | fail) only [vaw, F41, Nat.reduceAdd, Nat.reduceMul, Nat.reduceLeDiff, Nat.reduceEqDiff, ↓reduceIte]
  have kN : Keep Nothing H (H.new (.cells [.int .i64 N, ev] true)) := (Keep.refl _ _).new _
  have oN : (H.new (.cells [.int .i64 N, ev] true)).obj H.next = some (.cells [.int .i64 N, ev] true) := obj_new_eq rfl
  have nN : (H.new (.cells [.int .i64 N, ev] true)).next = H.next + 1 := rfl
  generalize H.new (.cells [.int .i64 N, ev] true) = HN at *
  refine adjNew_ret (hr.kept kN) hnet (by omega) hn fun a o q ew uo ui H1 k1 g1 => ?_
  have o1 := (k1.old (i := H.next) (by omega)).trans oN
  have n1 := k1.next
  simp (disch := first | omega | (simp only [nx] <;> omega) | fail) only [vaw, o1, Nat.reduceAdd, Nat.reduceMul, Nat.reduceLeDiff, Nat.reduceEqDiff, ↓reduceIte]
  refine linksB_ret ((hr.kept kN).kept k1) hnet (by omega) hn fun lv H2 k2 g2 => ?_
  have hll := g2.row.len1
  have hbl : (bools ((List.range N).map (linkB es))).length = N := by simp [bools]
  rw [hbl] at hll
  have ga := g1.kept k2
  simp (disch := first | omega | (simp only [nx] <;> omega) | fail) only [vaw, hll, Nat.reduceAdd, Nat.reduceMul, Nat.reduceLeDiff, Nat.reduceEqDiff, ↓reduceIte]
  refine wpx_loop (fun m t H' => ∃ (i : Nat) (gv : AVal), m = N - i ∧ i ≤ N ∧ t = (bots 4 (.func (.func 85) [.ptr a 0] [] :: .func (.func 86) [.ptr a 0] [] :: gv :: bots 12 (lv :: .int .i64 N :: .int .i64 i :: bots 41 ([]))) : Tmps) ∧ Keep Nothing H2 H' ∧ Own H2.next H' gv 2 ((rkB es i).flatMap rcells)) N ?_ ?_
  · exact ⟨0, .nilSlice, rfl, by omega, rfl, .refl _ _, .nil⟩
  · rintro m t H3 ⟨i, gv, rfl, hi, rfl, k3, g3⟩
    by_cases hc : (i : Int) < N
    · have hiN : i < N := by omega
      have hx : (bools ((List.range N).map (linkB es)))[i]? = some (.bool (linkB es i)) := by simp [bools, hiN]
      obtain ⟨ip, op, p1, p2, p3⟩ := (g2.row.kept k3).at1 (k := .i64) (j := (i : Int)) (by omega) (by rw [Int.toNat_natCast]; exact hx)
      have hsu := rkB_succ es i
      have gA := ga.kept k3
      have hrl := rkB_len es i
      have n3 := k3.next
      cases hb : linkB es i with
      | true =>
        rw [hb] at p3 hsu
        simp (disch := first | omega | (simp only [nx] <;> omega) | fail) only [vaw, hc, p1, p3, Nat.reduceAdd, Nat.reduceMul, Nat.reduceLeDiff, Nat.reduceEqDiff, ↓reduceIte]
        refine ⟨N - (i + 1), by omega, i + 1, gv, rfl, by omega, rfl, k3, ?_⟩
        rw [hsu, if_pos rfl, List.append_nil]; exact g3
      | false =>
        rw [hb] at p3 hsu
        simp (disch := first | omega | (simp only [nx] <;> omega) | fail) only [vaw, hc, p1, p3, Nat.reduceAdd, Nat.reduceMul, Nat.reduceLeDiff, Nat.reduceEqDiff, ↓reduceIte]
        refine adjOut_ret gA hiN hn fun v4 H4 k4 g4 => ?_
        have l4 := g4.row.len1
        rw [ints_length] at l4
        have n4 := k4.next
        simp (disch := first | omega | (simp only [nx] <;> omega) | fail) only [vaw, l4, Nat.reduceAdd, Nat.reduceMul, Nat.reduceLeDiff, Nat.reduceEqDiff, ↓reduceIte]
        refine adjIn_ret (gA.kept k4) hiN hn fun v5 H5 k5 g5 => ?_
        have l5 := g5.row.len1
        rw [ints_length] at l5
        have n5 := k5.next
        have e4 := @picks_length (isSrc i) es es.length
        have e5 := @picks_length (isDst i) es es.length
        simp (disch := first | omega | (simp only [nx] <;> omega) | fail) only [vaw, l5, Nat.reduceAdd, Nat.reduceMul, Nat.reduceLeDiff, Nat.reduceEqDiff, ↓reduceIte]
        have g35 : Own H2.next H5 gv 2 ((rkB es i).flatMap rcells) := (g3.kept k4).kept k5
        refine app_ret (n := (rkB es i).length) (k := 1) g35 (by simp (disch := first | omega | (simp only [nx] <;> omega) | fail) only [vaim]; rfl) rfl (by omega) (by omega) (by rw [flat_size rcells_len]) (by omega) (by omega) ?_
        intro v6 H6 n6 k6 g6 s6
        simp (disch := first | omega | (simp only [nx] <;> omega) | fail) only [vaw, g6.notBot, Nat.reduceAdd, Nat.reduceMul, Nat.reduceLeDiff, Nat.reduceEqDiff, ↓reduceIte]
        refine ⟨N - (i + 1), by omega, i + 1, v6, rfl, by omega, rfl, ?_, ?_⟩
        · exact (((k3.trans k4).trans k5).new _).trans' (N := fun j => sid gv = some j) ⟨n6, k6⟩ (fun j hj hm => by have := (g35.sid_ge hm).1; omega)
        · rw [hsu, if_neg (by decide), List.flatMap_append]
          exact g6.own
    · have : i = N := by omega
      subst this
      simp (disch := first | omega | (simp only [nx] <;> omega) | fail) only [vaw, hc, Nat.reduceAdd, Nat.reduceMul, Nat.reduceLeDiff, Nat.reduceEqDiff, ↓reduceIte]
      have hdl := rkB_len es i
      have g3' : Own H2.next H3 gv 2 (rowOf rcells (rkB es i).toArray) := by simpa [rowOf] using g3
      refine sortR_ret (c := rankedCmp) (fun a b H Q hq => rcmp_ret hq) g3' (by simp; omega) fun H4 k4 g4 => ?_
      have hs1 := g3'.row.len (n := (rkB es i).length) (by omega) (by rw [rowOf_length rcells_len]; simp)
      have hod : odB es i = (insertionSort (ltOf rankedCmp) (rkB es i).toArray 0 (rkB es i).toArray.size).toList.map Prod.fst := by simp [odB]
      generalize insertionSort (ltOf rankedCmp) (rkB es i).toArray 0 (rkB es i).toArray.size = S at *
      have hs2 := g4.row.len (n := S.size) (by omega) (rowOf_length rcells_len S)
      have hS : S.size ≤ 12 := by
        rw [hs1] at hs2; injection hs2 with hs2; injection hs2 with _ hs2; omega
      have hSl : (S.toList.map Prod.fst).length = S.size := by simp
      simp (disch := first | omega | (simp only [nx] <;> omega) | fail) only [vaw, hs2, Nat.reduceAdd, Nat.reduceMul, Nat.reduceLeDiff, Nat.reduceEqDiff, ↓reduceIte]
      refine wpx_loop (fun m t H' => ∃ (j : Nat) (ov : AVal), m = S.size - j ∧ j ≤ S.size ∧ t = (bots 9 (ov :: bots 35 (gv :: .int .i64 S.size :: .int .i64 j :: bots 15 ([]))) : Tmps) ∧ Keep Nothing H4 H' ∧ Own H4.next H' ov 1 (ints ((S.toList.map Prod.fst).take j))) S.size ?_ ?_
      · exact ⟨0, .nilSlice, rfl, by omega, rfl, .refl _ _, .nil⟩
      · rintro m t H5 ⟨j, ov, rfl, hj, rfl, k5, g5⟩
        by_cases hjc : (j : Int) < S.size
        · have hjS : j < S.size := by omega
          have hlen := rowOf_length rcells_len S
          obtain ⟨id, q1, q2, q3, q4, q5, q6⟩ := Own.slotN g4 (n := S.size) (j := j) (k := .i64) (by omega) hlen (by omega)
          have w1 := rowOf_get rcells_len (d := S) (i := j) (by omega)
          have w2 : (S.toList.map Prod.fst)[j]? = some S[j]!.1 := by
            rw [List.getElem?_map, Array.getElem?_toList, getElem!_pos S j hjS]
            simp [hjS]
          have l1 : j * 2 + 2 ≤ (rowOf rcells S).length := by omega
          have q5' := (k5.old q3).trans q5
          have htk : (S.toList.map Prod.fst).take (j + 1) = (S.toList.map Prod.fst).take j ++ [S[j]!.1] := by
            rw [List.take_succ, w2]; rfl
          generalize S[j]! = x at *
          have w3 : rcells x = [.int .i64 x.1, .int .i64 x.2] := rfl
          rw [w3] at w1
          simp (disch := first | omega | (simp only [nx] <;> omega) | fail) only [vaw, hjc, q4, q5', w1, l1, Nat.reduceAdd, Nat.reduceMul, Nat.reduceLeDiff, Nat.reduceEqDiff, ↓reduceIte]
          have n5 := k5.next
          refine app_ret (n := j) (k := 1) g5 (by simp (disch := first | omega | (simp only [nx] <;> omega) | fail) only [vaim]; rfl) rfl (by omega) (by omega) (by rw [ints_length, List.length_take]; omega) (by omega) (by omega) ?_
          intro v6 H6 n6 k6 g6 s6
          simp (disch := first | omega | (simp only [nx] <;> omega) | fail) only [vaw, g6.notBot, Nat.reduceAdd, Nat.reduceMul, Nat.reduceLeDiff, Nat.reduceEqDiff, ↓reduceIte]
          refine ⟨S.size - (j + 1), by omega, j + 1, v6, rfl, by omega, rfl, ?_, ?_⟩
          · refine Keep.trans' (N := fun j => sid ov = some j) ?_ ⟨n6, k6⟩ (fun j hj hm => by have := (g5.sid_ge hm).1; omega)
            exact ((k5.new _).upd (.inl k5.next) _).new _
          · rw [htk, ints_append]
            exact g6.own
        · have : j = S.size := by omega
          subst this
          rw [List.take_of_length_le (by omega), ← hod] at g5
          have hol : (odB es i).length = S.size := by rw [hod]; exact hSl
          have hvl := g5.row.len1
          rw [ints_length] at hvl
          obtain ⟨v9, z1, z2⟩ := RowC.whole g5.rowC (n := (odB es i).length) (kd := .i64) (by omega) (by rw [ints_length, Nat.mul_one])
          simp (disch := first | omega | (simp only [nx] <;> omega) | fail) only [vaw, hjc, hvl, z1, z2.notBot, Nat.reduceAdd, Nat.reduceMul, Nat.reduceLeDiff, Nat.reduceEqDiff, ↓reduceIte]
          refine hq _ _ ?_ z2
          have kk : Keep Nothing H2 H4 := k3.trans' k4 (fun j hj hm => by have := (g3.sid_ge hm).1; omega)
          exact (((kN.trans k1).trans k2).trans kk).trans k5
end Go.Proofs.Ytknhlpmmalcchaa

namespace Go.Proofs.Ytknhlpmmalcchaa
open Go Go.VAI
set_option linter.unusedSimpArgs false

def wayOf (es : List Edge) (x : Int) : Nat := (es[x.toNat]?).elim 0 fun e => e.mode.toNat
theorem bit_one (m i : Nat) : (1 <<< m).testBit i = decide (m = i) := by
  rw [Nat.one_shiftLeft, Nat.testBit_two_pow]
theorem orModes_bit (es : List Edge) (i : Nat) : ∀ (xs : List Int) (a : Nat), (orModes es xs a).testBit i = true ↔ a.testBit i = true ∨ ∃ x ∈ xs, wayOf es x = i
  | [], a => by simp [orModes]
  | x :: l, a => by
    rw [orModes, orModes_bit es i l, Nat.testBit_or, bit_one, Bool.or_eq_true, decide_eq_true_iff]
    simp only [List.mem_cons, wayOf]
    constructor
    · rintro ((h | h) | ⟨y, h1, h2⟩)
      · exact .inl h
      · exact .inr ⟨x, .inl rfl, h⟩
      · exact .inr ⟨y, .inr h1, h2⟩
    · rintro (h | ⟨y, rfl | h1, h2⟩)
      · exact .inl (.inl h)
      · exact .inl (.inr h2)
      · exact .inr ⟨y, h1, h2⟩
def ways (v : Int) (es : List Edge) (a : Nat) : Nat := es.foldl (fun s e => if e.src = v ∨ e.dst = v then s ||| 1 <<< e.mode.toNat else s) a
theorem ways_bit (v : Int) (i : Nat) : ∀ (es : List Edge) (a : Nat), (ways v es a).testBit i = true ↔ a.testBit i = true ∨ ∃ e ∈ es, (e.src = v ∨ e.dst = v) ∧ e.mode.toNat = i
  | [], a => by simp [ways]
  | e :: l, a => by
    have ih := ways_bit v i l
    unfold ways at ih ⊢
    rw [List.foldl_cons, ih]
    by_cases h : e.src = v ∨ e.dst = v
    · rw [if_pos h, Nat.testBit_or, bit_one, Bool.or_eq_true, decide_eq_true_iff]
      constructor
      · rintro ((h1 | h1) | ⟨y, h1, h2⟩)
        · exact .inl h1
        · exact .inr ⟨e, List.mem_cons_self, h, h1⟩
        · exact .inr ⟨y, List.mem_cons_of_mem _ h1, h2⟩
      · rintro (h1 | ⟨y, hy, h1, h2⟩)
        · exact .inl (.inl h1)
        · rcases List.mem_cons.1 hy with rfl | hy
          · exact .inl (.inr h2)
          · exact .inr ⟨y, hy, h1, h2⟩
    · rw [if_neg h]
      constructor
      · rintro (h1 | ⟨y, h1, h2⟩)
        · exact .inl h1
        · exact .inr ⟨y, List.mem_cons_of_mem _ h1, h2⟩
      · rintro (h1 | ⟨y, hy, h1, h2⟩)
        · exact .inl h1
        · rcases List.mem_cons.1 hy with rfl | hy
          · exact absurd h1 h
          · exact .inr ⟨y, hy, h1, h2⟩
theorem ways_eq (v : Int) : ∀ (es : List Edge) (a : Nat), (∀ e ∈ es, 0 ≤ e.mode ∧ e.mode < 5) → a < 32 →
    es.foldl (fun s e => if e.src = v ∨ e.dst = v then orI .i64 s (shlI .i64 1 e.mode) else s) (a : Int) = ((ways v es a : Nat) : Int) ∧ ways v es a < 32
  | [], a, _, h => ⟨rfl, h⟩
  | e :: l, a, hm, h => by
    have ih := ways_eq v l
    unfold ways at ih ⊢
    rw [List.foldl_cons, List.foldl_cons]
    have hme := hm e List.mem_cons_self
    obtain ⟨m, hm2⟩ := Int.eq_ofNat_of_zero_le hme.1
    have o := or32 a h m (by omega)
    rw [hm2, Int.toNat_natCast]
    by_cases hs : e.src = v ∨ e.dst = v
    · rw [if_pos hs, if_pos hs, o.1]
      exact ih _ (fun e he => hm e (List.mem_cons_of_mem _ he)) o.2
    · rw [if_neg hs, if_neg hs]
      exact ih _ (fun e he => hm e (List.mem_cons_of_mem _ he)) h
theorem count32 : ∀ z : Nat, z < 32 → (2 ≤ ((List.range 5).filter fun i => z.testBit i).length ↔ 2 ≤ modesIn (z : Int) 5) := by decide
theorem picks_mem {p : Edge → Bool} {es : List Edge} {x : Int} : x ∈ picks p es es.length ↔ ∃ (j : Nat) (e : Edge), x = j ∧ es[j]? = some e ∧ p e = true := by
  simp only [picks, List.mem_map, List.mem_filter, List.mem_range]
  constructor
  · rintro ⟨j, ⟨h1, h2⟩, rfl⟩
    rw [List.getElem?_eq_getElem h1] at h2
    exact ⟨j, es[j], rfl, List.getElem?_eq_getElem h1, h2⟩
  · rintro ⟨j, e, rfl, h1, h2⟩
    refine ⟨j, ⟨(List.getElem?_eq_some_iff.1 h1).1, ?_⟩, rfl⟩
    rw [h1]; exact h2
theorem linkB_eq {es : List Edge} (hm : ∀ e ∈ es, 0 ≤ e.mode ∧ e.mode < 5) (v : Nat) : linkB es v = linkAt es (v : Int) := by
  obtain ⟨h1, h2⟩ := ways_eq (v : Int) es 0 hm (by decide)
  have hz : orModes es (picks (isDst v) es es.length) (orModes es (picks (isSrc v) es es.length) 0) = ways v es 0 := by
    refine Nat.eq_of_testBit_eq fun i => ?_
    rw [Bool.eq_iff_iff, orModes_bit, orModes_bit, ways_bit]
    simp only [Nat.zero_testBit, Bool.false_eq_true, false_or, picks_mem]
    constructor
    · rintro (⟨x, ⟨j, e, rfl, h3, h4⟩, h5⟩ | ⟨x, ⟨j, e, rfl, h3, h4⟩, h5⟩)
      · refine ⟨e, List.mem_of_getElem? h3, .inl (by simpa using h4), ?_⟩
        simpa [wayOf, h3] using h5
      · refine ⟨e, List.mem_of_getElem? h3, .inr (by simpa using h4), ?_⟩
        simpa [wayOf, h3] using h5
    · rintro ⟨e, he, h3, h4⟩
      obtain ⟨j, hj⟩ := List.mem_iff_getElem?.1 he
      rcases h3 with h3 | h3
      · exact .inl ⟨j, ⟨j, e, rfl, hj, by simpa using h3⟩, by simpa [wayOf, hj] using h4⟩
      · exact .inr ⟨j, ⟨j, e, rfl, hj, by simpa using h3⟩, by simpa [wayOf, hj] using h4⟩
  have e1 : linkB es v = decide (2 ≤ ((List.range 5).filter fun i => (ways v es 0).testBit i).length) := by unfold linkB; rw [hz]
  have e2 : linkAt es (v : Int) = decide (2 ≤ modesIn ((ways v es 0 : Nat) : Int) 5) := by
    unfold linkAt modesOf
    have h1' : es.foldl (fun s e => if e.src = (v : Int) ∨ e.dst = (v : Int) then orI .i64 s (shlI .i64 1 e.mode) else s) 0 = ((ways v es 0 : Nat) : Int) := h1
    rw [h1']
  rw [e1, e2]
  exact decide_eq_decide.2 (count32 _ h2)
theorem linksB_eq {es : List Edge} (hm : ∀ e ∈ es, 0 ≤ e.mode ∧ e.mode < 5) (N : Nat) : (List.range N).map (linkB es) = linksOf N es := by
  unfold linksOf
  exact List.map_congr_left fun v _ => linkB_eq hm v
theorem dgB_eq (es : List Edge) (v : Nat) : dgB es v = (degree es (v : Int) : Nat) := by
  exact (Int.natCast_add _ _).symm
end Go.Proofs.Ytknhlpmmalcchaa

namespace Go.Proofs.Ytknhlpmmalcchaa
open Go Go.VAI Go.Sort
set_option linter.unusedSimpArgs false

theorem cmpI_zero {x y : Int} : cmpI x y = 0 ↔ x = y := by unfold cmpI; split <;> (try split) <;> omega
theorem cmpI_neg {x y : Int} : cmpI x y < 0 ↔ x < y := by unfold cmpI; split <;> (try split) <;> omega
theorem ranked_lt {a b : Int × Int} : ltOf rankedCmp a b = true ↔ a.2 < b.2 ∨ (a.2 = b.2 ∧ a.1 < b.1) := by
  have z := @cmpI_zero a.2 b.2
  have n := @cmpI_neg a.2 b.2
  have z1 := @cmpI_zero a.1 b.1
  have n1 := @cmpI_neg a.1 b.1
  unfold ltOf rankedCmp
  rw [decide_eq_true_iff]
  simp only [orOf]
  by_cases h : cmpI a.2 b.2 = 0
  · rw [if_neg (fun q => q h)]
    have he := z.1 h
    by_cases h1 : cmpI a.1 b.1 = 0
    · rw [if_neg (fun q => q h1)]
      have := z1.1 h1
      omega
    · rw [if_pos h1, n1]
      omega
  · rw [if_pos h, n]
    have := fun q => h (z.2 q)
    omega
theorem ranked_nlt {a b : Int × Int} : ltOf rankedCmp a b = false ↔ b.2 < a.2 ∨ (a.2 = b.2 ∧ b.1 ≤ a.1) := by
  rw [← Bool.not_eq_true, ranked_lt]; omega
theorem ranked_swo : SWO (ltOf rankedCmp) where
  irrefl x := by rw [ranked_nlt]; omega
  trans x y z h1 h2 := by rw [ranked_lt] at *; omega
  ntrans x y z h1 h2 := by rw [ranked_nlt] at *; omega
theorem ranked_two (x y : Int × Int) (h1 : ltOf rankedCmp x y = false) (h2 : ltOf rankedCmp y x = false) : x = y := by
  rw [ranked_nlt] at h1 h2
  refine Prod.ext ?_ ?_ <;> omega
def pairRow (es : List Edge) (d : Int) (n : Nat) : List (Int × Int) := ((List.range n).filter fun (v : Nat) => !linkAt es v && decide ((degree es v : Int) = d)).map fun (v : Nat) => ((v : Int), d)
def pairsOf (N : Nat) (es : List Edge) (k : Nat) : List (Int × Int) := (List.range k).flatMap fun (d : Nat) => pairRow es d N
theorem pairs_fst (N : Nat) (es : List Edge) (k : Nat) : (pairsOf N es k).map Prod.fst = orderOf N es k := by
  unfold pairsOf orderOf
  rw [List.map_flatMap]
  congr 1
  funext d
  simp [pairRow, orderRow, List.map_map, Function.comp_def]
theorem pairs_sorted (N : Nat) (es : List Edge) (k : Nat) : (pairsOf N es k).Pairwise fun a b => a.2 < b.2 ∨ (a.2 = b.2 ∧ a.1 < b.1) := by
  unfold pairsOf
  rw [List.pairwise_flatMap]
  refine ⟨fun d _ => ?_, ?_⟩
  · unfold pairRow
    rw [List.pairwise_map]
    refine (List.pairwise_lt_range.filter _).imp fun h => .inr ⟨rfl, by simpa using h⟩
  · refine List.pairwise_lt_range.imp fun {d d'} h => ?_
    intro x hx y hy
    simp only [pairRow, List.mem_map] at hx hy
    obtain ⟨v, _, rfl⟩ := hx
    obtain ⟨v', _, rfl⟩ := hy
    exact .inl (by simpa using h)
theorem pairs_perm (N : Nat) (es : List Edge) (hm : ∀ e ∈ es, 0 ≤ e.mode ∧ e.mode < 5) : (pairsOf N es (2 * es.length + 1)).Perm (rkB es N) := by
  have nd1 : (pairsOf N es (2 * es.length + 1)).Nodup := (pairs_sorted N es _).imp fun {a b} h e => by subst e; omega
  have nd2 : (rkB es N).Nodup := by
    unfold rkB
    rw [List.nodup_iff_pairwise_ne, List.pairwise_map]
    refine (List.pairwise_lt_range.filter _).imp fun {a b} h e => ?_
    have := congrArg Prod.fst e
    simp at this
    omega
  refine (List.perm_ext_iff_of_nodup nd1 nd2).2 fun x => ?_
  simp only [pairsOf, pairRow, rkB, List.mem_flatMap, List.mem_map, List.mem_filter, List.mem_range, Bool.and_eq_true, decide_eq_true_iff]
  constructor
  · rintro ⟨d, hd, v, ⟨hv, hl, hdg⟩, rfl⟩
    refine ⟨v, ⟨hv, by rw [linkB_eq hm]; exact hl⟩, ?_⟩
    rw [dgB_eq, hdg]
  · rintro ⟨v, ⟨hv, hl⟩, rfl⟩
    refine ⟨degree es v, ?_, v, ⟨hv, by rw [← linkB_eq hm]; exact hl, rfl⟩, ?_⟩
    · have h1 := @picks_length (fun e => decide (e.src = (v : Int))) es es.length
      have h2 := @picks_length (fun e => decide (e.dst = (v : Int))) es es.length
      unfold degree
      omega
    · rw [dgB_eq]
theorem odB_eq {N : Nat} {es : List Edge} (hm : ∀ e ∈ es, 0 ≤ e.mode ∧ e.mode < 5) : odB es N = orderOf N es (2 * es.length + 1) := by
  have hs := insertionSort_holds (lt := ltOf rankedCmp) ranked_swo (rkB es N).toArray 0 (rkB es N).toArray.size (by omega) (Nat.le_refl _)
  have hu := sorted_unique_holds (lt := ltOf rankedCmp) ranked_swo ranked_two
  have a1 := hu _ _ hs.1 hs.2
  have hp := pairs_perm N es hm
  have hl := hp.length_eq
  have a2 := hu (rkB es N).toArray (pairsOf N es (2 * es.length + 1)).toArray ⟨by simp [hl], fun i h => by
      have hi : (rkB es N).length ≤ i := by simp at h; omega
      rw [getElem!_neg _ _ (by simp; omega), getElem!_neg _ _ (by simp; omega)], by
        have ht : (pairsOf N es (2 * es.length + 1)).take (rkB es N).length = pairsOf N es (2 * es.length + 1) := List.take_of_length_le (by omega)
        simpa [ht] using hp⟩ (fun i j _ hij hj => by
      have hj' : j < (pairsOf N es (2 * es.length + 1)).length := by simp at hj; omega
      have := List.pairwise_iff_getElem.1 (pairs_sorted N es (2 * es.length + 1)) i j (by omega) hj' hij
      rw [ranked_nlt, getElem!_pos _ _ (by simp; omega), getElem!_pos _ _ (by simp; omega)]
      simp only [List.getElem_toArray]
      omega)
  have e : (insertionSort (ltOf rankedCmp) (rkB es N).toArray 0 (rkB es N).toArray.size).toList = pairsOf N es (2 * es.length + 1) := by rw [a1, ← a2]
  have e0 : odB es N = (insertionSort (ltOf rankedCmp) (rkB es N).toArray 0 (rkB es N).toArray.size).toList.map Prod.fst := by simp [odB]
  rw [e0, e, pairs_fst]
end Go.Proofs.Ytknhlpmmalcchaa

namespace Go.Proofs.Ytknhlpmmalcchaa
open Go Go.VAI
set_option linter.unusedSimpArgs false

def knownEs : List Edge := [⟨0, 1, 0, 0⟩, ⟨1, 0, 1, 0⟩]
theorem known37_ret {H : AHeap} {Q : AVal → AHeap → Prop} (hq : ∀ H', Keep Nothing H H' → Q (.bool true) H') : Ret A 37 [] H Q := by
  refine Ret.of (fn := F37) rfl ?_
  simp (disch := first | omega | (simp only [nx] <;> omega) | fail) only [vaw, F37, Nat.reduceAdd, Nat.reduceMul, Nat.reduceLeDiff, Nat.reduceEqDiff, ↓reduceIte]
  have e1 : odB [] 1 = [0] := by rw [odB_eq (by simp)]; decide
  have e2 : (List.range 2).map (linkB knownEs) = [true, true] := by decide
  refine odB_ret (N := 1) (es := []) .nil (by simp) (by omega) (by simp) fun ov H1 k1 r1 => ?_
  rw [e1] at r1
  have n1 := k1.next
  simp (disch := first | omega | (simp only [nx] <;> omega) | fail) only [vaw, r1.notBot, Nat.reduceAdd, Nat.reduceMul, Nat.reduceLeDiff, Nat.reduceEqDiff, ↓reduceIte]
  refine linksB_ret (N := 2) (es := knownEs) (.mk (c := edgeCells knownEs) (by simp only [next_new]; omega) (by simp (disch := first | omega | (simp only [nx] <;> omega) | fail) only [vaim]; rfl) (by decide) rfl) (fun e he => by simp only [knownEs, List.mem_cons, List.not_mem_nil, or_false] at he; rcases he with rfl | rfl <;> (unfold EdgeOk; simp)) (by omega) (by decide) fun lv H2 k2 g2 => ?_
  rw [e2] at g2
  have r1' : Row H2 ov 1 (ints [0]) := (r1.kept ((Keep.refl _ _).new _)).kept k2
  have l1 := r1'.len1
  have l2 := g2.row.len1
  obtain ⟨i1, f1, a1, _, a3⟩ := r1'.int_at (k := .i64) (j := 0) (x := 0) rfl
  obtain ⟨i2, f2, b1, _, b3⟩ := g2.row.at1 (k := .i64) (j := 0) (x := .bool true) (by omega) rfl
  obtain ⟨i3, f3, c1, _, c3⟩ := g2.row.at1 (k := .i64) (j := 1) (x := .bool true) (by omega) rfl
  have q1 : ((ints [0]).length : Int) = 1 := rfl
  have q2 : ((bools [true, true]).length : Int) = 2 := rfl
  have q3 : ((0 : Nat) : Int) = 0 := rfl
  rw [q3] at a1
  rw [q1] at l1
  rw [q2] at l2
  simp (disch := first | omega | (simp only [nx] <;> omega) | fail) only [vaw, l1, l2, a1, a3, b1, b3, c1, c3, g2.notBot, Nat.reduceAdd, Nat.reduceMul, Nat.reduceLeDiff, Nat.reduceEqDiff, ↓reduceIte]
  exact hq _ ((k1.new _).trans k2)
end Go.Proofs.Ytknhlpmmalcchaa

namespace Go.Proofs.Ytknhlpmmalcchaa
open Go Go.VAI
set_option linter.unusedSimpArgs false

end Go.Proofs.Ytknhlpmmalcchaa

namespace Go.Proofs.Ytknhlpmmalcchaa
open Go Go.VAI
set_option linter.unusedSimpArgs false

end Go.Proofs.Ytknhlpmmalcchaa

namespace Go.Proofs.Ytknhlpmmalcchaa
open Go Go.VAI
set_option linter.unusedSimpArgs false

def knNet : List (Nat × List Edge) := [(3, []), (3, [⟨0, 1, 0, 0⟩, ⟨1, 2, 0, 0⟩]), (3, [⟨0, 1, 0, 0⟩, ⟨1, 2, 1, 0⟩]), (2, [⟨0, 0, 3, 0⟩]), (4, [⟨3, 2, 0, 0⟩, ⟨3, 1, 0, 0⟩, ⟨3, 0, 0, 0⟩, ⟨0, 0, 0, 0⟩]), (2, [⟨0, 0, 0, 0⟩, ⟨0, 0, 4, 0⟩])]
def knOrd : List (List Int) := [[0, 1, 2], [0, 2, 1], [0, 2], [1, 0], [1, 2, 0, 3], [1]]
def trues (l : List Bool) : Nat := (l.filter id).length
theorem kn_ok : ∀ k : Nat, k < 6 → ∀ N es ws, knNet[k]? = some (N, es) → knOrd[k]? = some ws → orderOf N es (2 * es.length + 1) = ws ∧ trues (linksOf N es) + ws.length = N ∧ N ≤ 4 ∧ es.length ≤ 4 ∧ (∀ e ∈ es, EdgeOk N e) := by
  intro k hk N es ws h1 h2
  have hc : k = 0 ∨ k = 1 ∨ k = 2 ∨ k = 3 ∨ k = 4 ∨ k = 5 := by omega
  rcases hc with rfl | rfl | rfl | rfl | rfl | rfl <;>
  · simp only [knNet, knOrd, List.getElem?_cons_zero, List.getElem?_cons_succ, Option.some.injEq, Prod.mk.injEq] at h1 h2
    obtain ⟨rfl, rfl⟩ := h1
    subst h2
    refine ⟨by decide, by decide, by decide, by decide, ?_⟩
    intro e he
    unfold EdgeOk
    revert e
    simp
theorem trues_take {l : List Bool} {i : Nat} (h : i < l.length) : trues (l.take (i + 1)) = trues (l.take i) + if l[i] then 1 else 0 := by
  rw [List.take_succ_eq_append_getElem h, trues, List.filter_append, List.length_append]
  cases l[i] <;> rfl
end Go.Proofs.Ytknhlpmmalcchaa

namespace Go.Proofs.Ytknhlpmmalcchaa
open Go Go.VAI
set_option linter.unusedSimpArgs false

def knCells (H : AHeap) : List AVal := [.int .i64 3, .nilSlice, .int .i64 3, .slice (H.next) 0 2 (.exact 2), .int .i64 3, .slice (H.next + 1) 0 2 (.exact 2), .int .i64 2, .slice (H.next + 1 + 1) 0 1 (.exact 1), .int .i64 4, .slice (H.next + 1 + 1 + 1) 0 4 (.exact 4), .int .i64 2, .slice (H.next + 1 + 1 + 1 + 1) 0 2 (.exact 2)]
def knRows (H : AHeap) : List AVal := [.slice (H.next + 1 + 1 + 1 + 1 + 1 + 1) 0 3 (.exact 3), .slice (H.next + 1 + 1 + 1 + 1 + 1 + 1 + 1) 0 3 (.exact 3), .slice (H.next + 1 + 1 + 1 + 1 + 1 + 1 + 1 + 1) 0 2 (.exact 2), .slice (H.next + 1 + 1 + 1 + 1 + 1 + 1 + 1 + 1 + 1) 0 2 (.exact 2), .slice (H.next + 1 + 1 + 1 + 1 + 1 + 1 + 1 + 1 + 1 + 1) 0 4 (.exact 4), .slice (H.next + 1 + 1 + 1 + 1 + 1 + 1 + 1 + 1 + 1 + 1 + 1) 0 1 (.exact 1)]
def knHeap (H : AHeap) : AHeap := ((((((((((((H.new (.cells ([.int .i64 0, .int .i64 1, .int .i64 0, .int .i64 0, .int .i64 1, .int .i64 2, .int .i64 0, .int .i64 0]) true)).new (.cells ([.int .i64 0, .int .i64 1, .int .i64 0, .int .i64 0, .int .i64 1, .int .i64 2, .int .i64 1, .int .i64 0]) true)).new (.cells ([.int .i64 0, .int .i64 0, .int .i64 3, .int .i64 0]) true)).new (.cells ([.int .i64 3, .int .i64 2, .int .i64 0, .int .i64 0, .int .i64 3, .int .i64 1, .int .i64 0, .int .i64 0, .int .i64 3, .int .i64 0, .int .i64 0, .int .i64 0, .int .i64 0, .int .i64 0, .int .i64 0, .int .i64 0]) true)).new (.cells ([.int .i64 0, .int .i64 0, .int .i64 0, .int .i64 0, .int .i64 0, .int .i64 0, .int .i64 4, .int .i64 0]) true)).new (.cells (knCells H) true)).new (.cells ([.int .i64 0, .int .i64 1, .int .i64 2]) true)).new (.cells ([.int .i64 0, .int .i64 2, .int .i64 1]) true)).new (.cells ([.int .i64 0, .int .i64 2]) true)).new (.cells ([.int .i64 1, .int .i64 0]) true)).new (.cells ([.int .i64 1, .int .i64 2, .int .i64 0, .int .i64 3]) true)).new (.cells ([.int .i64 1]) true)).new (.cells (knRows H) true)
theorem knHeap_next (H : AHeap) : (knHeap H).next = H.next + 13 := rfl
theorem knObj0 (H : AHeap) : (knHeap H).obj (H.next) = some (.cells ([.int .i64 0, .int .i64 1, .int .i64 0, .int .i64 0, .int .i64 1, .int .i64 2, .int .i64 0, .int .i64 0]) true) := by
  unfold knHeap
  simp (disch := first | omega | (simp only [nx] <;> omega) | fail) only [vaim]
theorem knObj1 (H : AHeap) : (knHeap H).obj (H.next + 1) = some (.cells ([.int .i64 0, .int .i64 1, .int .i64 0, .int .i64 0, .int .i64 1, .int .i64 2, .int .i64 1, .int .i64 0]) true) := by
  unfold knHeap
  simp (disch := first | omega | (simp only [nx] <;> omega) | fail) only [vaim]
theorem knObj2 (H : AHeap) : (knHeap H).obj (H.next + 1 + 1) = some (.cells ([.int .i64 0, .int .i64 0, .int .i64 3, .int .i64 0]) true) := by
  unfold knHeap
  simp (disch := first | omega | (simp only [nx] <;> omega) | fail) only [vaim]
theorem knObj3 (H : AHeap) : (knHeap H).obj (H.next + 1 + 1 + 1) = some (.cells ([.int .i64 3, .int .i64 2, .int .i64 0, .int .i64 0, .int .i64 3, .int .i64 1, .int .i64 0, .int .i64 0, .int .i64 3, .int .i64 0, .int .i64 0, .int .i64 0, .int .i64 0, .int .i64 0, .int .i64 0, .int .i64 0]) true) := by
  unfold knHeap
  simp (disch := first | omega | (simp only [nx] <;> omega) | fail) only [vaim]
theorem knObj4 (H : AHeap) : (knHeap H).obj (H.next + 1 + 1 + 1 + 1) = some (.cells ([.int .i64 0, .int .i64 0, .int .i64 0, .int .i64 0, .int .i64 0, .int .i64 0, .int .i64 4, .int .i64 0]) true) := by
  unfold knHeap
  simp (disch := first | omega | (simp only [nx] <;> omega) | fail) only [vaim]
theorem knObj5 (H : AHeap) : (knHeap H).obj (H.next + 1 + 1 + 1 + 1 + 1) = some (.cells (knCells H) true) := by
  unfold knHeap
  simp (disch := first | omega | (simp only [nx] <;> omega) | fail) only [vaim]
theorem knObj6 (H : AHeap) : (knHeap H).obj (H.next + 1 + 1 + 1 + 1 + 1 + 1) = some (.cells ([.int .i64 0, .int .i64 1, .int .i64 2]) true) := by
  unfold knHeap
  simp (disch := first | omega | (simp only [nx] <;> omega) | fail) only [vaim]
theorem knObj7 (H : AHeap) : (knHeap H).obj (H.next + 1 + 1 + 1 + 1 + 1 + 1 + 1) = some (.cells ([.int .i64 0, .int .i64 2, .int .i64 1]) true) := by
  unfold knHeap
  simp (disch := first | omega | (simp only [nx] <;> omega) | fail) only [vaim]
theorem knObj8 (H : AHeap) : (knHeap H).obj (H.next + 1 + 1 + 1 + 1 + 1 + 1 + 1 + 1) = some (.cells ([.int .i64 0, .int .i64 2]) true) := by
  unfold knHeap
  simp (disch := first | omega | (simp only [nx] <;> omega) | fail) only [vaim]
theorem knObj9 (H : AHeap) : (knHeap H).obj (H.next + 1 + 1 + 1 + 1 + 1 + 1 + 1 + 1 + 1) = some (.cells ([.int .i64 1, .int .i64 0]) true) := by
  unfold knHeap
  simp (disch := first | omega | (simp only [nx] <;> omega) | fail) only [vaim]
theorem knObj10 (H : AHeap) : (knHeap H).obj (H.next + 1 + 1 + 1 + 1 + 1 + 1 + 1 + 1 + 1 + 1) = some (.cells ([.int .i64 1, .int .i64 2, .int .i64 0, .int .i64 3]) true) := by
  unfold knHeap
  simp (disch := first | omega | (simp only [nx] <;> omega) | fail) only [vaim]
theorem knObj11 (H : AHeap) : (knHeap H).obj (H.next + 1 + 1 + 1 + 1 + 1 + 1 + 1 + 1 + 1 + 1 + 1) = some (.cells ([.int .i64 1]) true) := by
  unfold knHeap
  simp (disch := first | omega | (simp only [nx] <;> omega) | fail) only [vaim]
theorem knObj12 (H : AHeap) : (knHeap H).obj (H.next + 1 + 1 + 1 + 1 + 1 + 1 + 1 + 1 + 1 + 1 + 1 + 1) = some (.cells (knRows H) true) := by
  unfold knHeap
  simp (disch := first | omega | (simp only [nx] <;> omega) | fail) only [vaim]
structure KnAt (H HB : AHeap) (k N : Nat) (es : List Edge) (ws : List Int) (ev wv : AVal) : Prop where
  net : knNet[k]? = some (N, es)
  ord : knOrd[k]? = some ws
  two : ((knCells H).drop (k * 2)).take 2 = [.int .i64 N, ev]
  row : Row HB ev 4 (edgeCells es)
  at_ : (knRows H)[k]? = some wv
  ords : Row HB wv 1 (ints ws)
theorem kn_at (H : AHeap) : ∀ k : Nat, k < 6 → ∃ N es ws ev wv, KnAt H (knHeap H) k N es ws ev wv := by
  intro k hk
  have hn := knHeap_next H
  have hc : k = 0 ∨ k = 1 ∨ k = 2 ∨ k = 3 ∨ k = 4 ∨ k = 5 := by omega
  rcases hc with rfl | rfl | rfl | rfl | rfl | rfl
  · exact ⟨_, _, _, _, _, ⟨rfl, rfl, rfl, .nil, rfl, .mk (by omega) (by rw [cells?_of, knObj6]; rfl) (by decide) rfl⟩⟩
  · exact ⟨_, _, _, _, _, ⟨rfl, rfl, rfl, .mk (by omega) (by rw [cells?_of, knObj0]; rfl) (by decide) rfl, rfl, .mk (by omega) (by rw [cells?_of, knObj7]; rfl) (by decide) rfl⟩⟩
  · exact ⟨_, _, _, _, _, ⟨rfl, rfl, rfl, .mk (by omega) (by rw [cells?_of, knObj1]; rfl) (by decide) rfl, rfl, .mk (by omega) (by rw [cells?_of, knObj8]; rfl) (by decide) rfl⟩⟩
  · exact ⟨_, _, _, _, _, ⟨rfl, rfl, rfl, .mk (by omega) (by rw [cells?_of, knObj2]; rfl) (by decide) rfl, rfl, .mk (by omega) (by rw [cells?_of, knObj9]; rfl) (by decide) rfl⟩⟩
  · exact ⟨_, _, _, _, _, ⟨rfl, rfl, rfl, .mk (by omega) (by rw [cells?_of, knObj3]; rfl) (by decide) rfl, rfl, .mk (by omega) (by rw [cells?_of, knObj10]; rfl) (by decide) rfl⟩⟩
  · exact ⟨_, _, _, _, _, ⟨rfl, rfl, rfl, .mk (by omega) (by rw [cells?_of, knObj4]; rfl) (by decide) rfl, rfl, .mk (by omega) (by rw [cells?_of, knObj11]; rfl) (by decide) rfl⟩⟩
set_option maxRecDepth 20000 in
set_option maxHeartbeats 4000000 in
theorem orderKnown_ret {which : Int} {H : AHeap} (_ : I64 which) :
    Ret A 15 [.int .i64 which] H (fun v _ => v = .bool true) := by
  refine Ret.of (fn := F15) rfl ?_
  simp (disch := first | omega | (simp only [nx] <;> omega) | fail) only [vaw, F15, Nat.reduceAdd, Nat.reduceMul, Nat.reduceLeDiff, Nat.reduceEqDiff, ↓reduceIte]
  refine known37_ret fun H1 k1 => ?_
  simp (maxSteps := 2000000) (disch := first | omega | (simp only [nx] <;> omega) | fail) only [vaw, Bool.not_true, Nat.reduceAdd, Nat.reduceMul, Nat.reduceLeDiff, Nat.reduceEqDiff, ↓reduceIte]
  have gen : ∀ W : AVal → AHeap → Prop, (∀ HB, HB = knHeap H1 → Ret A 46 [.int .i64 which, .int .i64 ((6 : Nat) : Int)] HB W) → Ret A 46 [.int .i64 which, .int .i64 ((6 : Nat) : Int)] (knHeap H1) W := fun W h => h _ rfl
  refine gen _ fun HB hHB => ?_
  clear gen
  refine within_ret (f := 46) rfl (by omega) (by omega) ?_
  have hw0 : 0 ≤ which % ((6 : Nat) : Int) := Int.emod_nonneg _ (by omega)
  have hw1 : which % ((6 : Nat) : Int) < (6 : Nat) := Int.emod_lt_of_pos _ (by omega)
  obtain ⟨k, hk⟩ := Int.eq_ofNat_of_zero_le hw0
  rw [hk] at hw1 ⊢
  have hk6 : k < 6 := by omega
  obtain ⟨N, es, ws, ev, wv, kn⟩ := kn_at H1 k hk6
  obtain ⟨hord, htr, hN4, he4, hed⟩ := kn_ok k hk6 N es ws kn.net kn.ord
  rw [← hHB] at kn
  have o5 := knObj5 H1
  have o12 := knObj12 H1
  have hn := knHeap_next H1
  rw [← hHB] at o5 o12 hn
  clear hHB
  have hr := kn.row
  have hwr := kn.ords
  have hwat := kn.at_
  have htwo := kn.two
  have hlen : (knCells H1).length = 12 := rfl
  have hN : (knCells H1)[k * 2]? = some (.int .i64 N) := by
    have := congrArg (fun l => l[0]?) htwo
    simpa using this
  have hix2 : aindexAddrS 2 (.slice (H1.next + 1 + 1 + 1 + 1 + 1) 0 6 (.exact 6)) (.int .i64 (k : Int)) = some (.ptr (H1.next + 1 + 1 + 1 + 1 + 1) (k * 2)) := by rw [aindexAddrS_slice ⟨by omega, by omega⟩]; simp
  have hix1 : aindexAddrS 1 (.slice (H1.next + 1 + 1 + 1 + 1 + 1 + 1 + 1 + 1 + 1 + 1 + 1 + 1) 0 6 (.exact 6)) (.int .i64 (k : Int)) = some (.ptr (H1.next + 1 + 1 + 1 + 1 + 1 + 1 + 1 + 1 + 1 + 1 + 1 + 1) k) := by rw [aindexAddrS_slice ⟨by omega, by omega⟩]; simp
  have q5 : H1.next + 1 + 1 + 1 + 1 + 1 < HB.next := by omega
  have q12 : H1.next + 1 + 1 + 1 + 1 + 1 + 1 + 1 + 1 + 1 + 1 + 1 + 1 < HB.next := by omega
  generalize knCells H1 = nc at *
  generalize knRows H1 = rc at *
  generalize H1.next + 1 + 1 + 1 + 1 + 1 + 1 + 1 + 1 + 1 + 1 + 1 + 1 = p12 at *
  generalize H1.next + 1 + 1 + 1 + 1 + 1 = p5 at *
  have hle : k * 2 ≤ 10 := by omega
  have hmo : ∀ e ∈ es, 0 ≤ e.mode ∧ e.mode < 5 := fun e he => ⟨(hed e he).2.2.1.1, (hed e he).2.2.1.2⟩
  have be := hr.beq
  have hbeq : AVal.beq (.agg [.int .i64 (N : Int), ev]) (.agg [.int .i64 (N : Int), ev]) = true := by simp [AVal.beq, AVal.beqs, be]
  simp (disch := first | omega | (simp only [nx] <;> omega) | fail) only [vaw, hix2, o5, hlen, hle, htwo, Nat.reduceAdd, Nat.reduceMul, Nat.reduceLeDiff, Nat.reduceEqDiff, ↓reduceIte]
  refine odB_ret (N := N) hr hed (by omega) (by omega) fun ov H3 k3 r3 => ?_
  rw [odB_eq hmo, hord] at r3
  have o53 := (k3.old q5).trans o5
  simp (disch := first | omega | (simp only [nx] <;> omega) | fail) only [vaw, hix2, o53, hlen, hle, htwo, reK_same hbeq, Nat.reduceAdd, Nat.reduceMul, Nat.reduceLeDiff, Nat.reduceEqDiff, ↓reduceIte]
  refine linksB_ret (N := N) (hr.kept k3) hed (by omega) (by omega) fun lv H4 k4 g4 => ?_
  rw [linksB_eq hmo] at g4
  have n3 := k3.next
  have o54 := (k4.old (by omega)).trans o53
  have o124 := ((k4.old (by omega)).trans (k3.old q12)).trans o12
  have l4 := g4.row.len1
  have hlk : (linksOf N es).length = N := by simp [linksOf]
  have hlk2 : (bools (linksOf N es)).length = N := by simp [bools, hlk]
  rw [hlk2] at l4
  have hwr4 := (hwr.kept k3).kept k4
  have r4 := r3.kept k4
  have lw := hwr4.len1
  rw [ints_length] at lw
  have hlf := fun i (h : i < (linksOf N es).length) => trues_take h
  have hla := fun v (h : v < N) => linksOf_at (es := es) h
  have hat : ∀ v (h : v < (linksOf N es).length), linkAt es (v : Int) = (linksOf N es)[v] := fun v h => by simp [linksOf]
  generalize hls : linksOf N es = ls at *
  simp (disch := first | omega | (simp only [nx] <;> omega) | fail) only [vaw, g4.notBot, r3.notBot, Nat.reduceAdd, Nat.reduceMul, Nat.reduceLeDiff, Nat.reduceEqDiff, ↓reduceIte]
  refine wpx_loop (fun m t H' => ∃ (i : Nat), m = N - i ∧ i ≤ N ∧ t = (bots 3 (.slice p5 0 6 (.exact 6) :: .slice p12 0 6 (.exact 6) :: .int .i64 (k : Int) :: ov :: lv :: .int .i64 (trues (ls.take i) : Int) :: .int .i64 i :: bots 89 ([])) : Tmps) ∧ H' = H4) N ?_ ?_
  · exact ⟨0, rfl, by omega, rfl, rfl⟩
  · rintro m t H7 ⟨i, rfl, hi, rfl, rfl⟩
    by_cases hc : (i : Int) < N
    · have hiN : i < N := by omega
      have hil : i < ls.length := by omega
      obtain ⟨i2, f2, b1, _, b3⟩ := g4.row.at1 (k := .i64) (j := (i : Int)) (by omega) (by rw [Int.toNat_natCast]; exact hla i hiN)
      have ht := hlf i hil
      rw [hat i hil] at b3
      have htb : trues (ls.take i) ≤ i := by
        unfold trues
        have := List.length_filter_le id (ls.take i)
        rw [List.length_take] at this
        omega
      cases hl : ls[i] with
      | true =>
        rw [hl] at b3 ht
        have e : ((trues (ls.take (i + 1)) : Nat) : Int) = trues (ls.take i) + 1 := by rw [ht]; simp
        simp (disch := first | omega | (simp only [nx] <;> omega) | fail) only [vaw, l4, hc, b1, b3, Nat.reduceAdd, Nat.reduceMul, Nat.reduceLeDiff, Nat.reduceEqDiff, ↓reduceIte]
        exact ⟨N - (i + 1), by omega, i + 1, rfl, by omega, by rw [e]; rfl⟩
      | false =>
        rw [hl] at b3 ht
        have e : ((trues (ls.take (i + 1)) : Nat) : Int) = trues (ls.take i) := by rw [ht]; simp
        simp (disch := first | omega | (simp only [nx] <;> omega) | fail) only [vaw, l4, hc, b1, b3, Nat.reduceAdd, Nat.reduceMul, Nat.reduceLeDiff, Nat.reduceEqDiff, ↓reduceIte]
        exact ⟨N - (i + 1), by omega, i + 1, rfl, by omega, by rw [e]; rfl⟩
    · have : i = N := by omega
      subst this
      simp (disch := first | omega | (simp only [nx] <;> omega) | fail) only [vaw, vaij, l4, hc, hix1, o124, hwat, Nat.reduceAdd, Nat.reduceMul, Nat.reduceLeDiff, Nat.reduceEqDiff, ↓reduceIte]
      refine ints_ret r4 hwr4 (by omega) fun b sb => ?_
      have hbt : b = true := sb.2 rfl
      subst hbt
      have ht : ls.take i = ls := List.take_of_length_le (by omega)
      rw [ht]
      have hd : decide ((trues ls : Int) = (i : Int) - (ws.length : Int)) = true := decide_eq_true (by omega)
      simp (disch := first | omega | (simp only [nx] <;> omega) | fail) only [vaw, vaij, l4, hix2, o54, hN, hix1, o124, hwat, lw, hd, Nat.reduceAdd, Nat.reduceMul, Nat.reduceLeDiff, Nat.reduceEqDiff, ↓reduceIte]
end Go.Proofs.Ytknhlpmmalcchaa

/- Closed facts of the program: what its head says, read as a list of signs (the kernel is slow at a long text's own signs). -/
namespace Go.Proofs.Ytknhlpmmalcchaa
open Go Go.ChangeShapes Go.WideShapes Go.ChangeAt Go.RowKit
set_option maxRecDepth 100000
def headSigns : List Char := List.map Char.ofNat [104, 97, 114, 110, 101, 115, 115, 32, 55, 99, 56, 99, 100, 51, 98, 49, 52, 101, 49, 49, 99, 55, 53, 54, 51, 54, 100, 97, 101, 56, 55, 98, 55, 54, 100, 50, 48, 98, 53, 57, 56, 97, 56, 56, 56, 55, 99, 98, 51, 49, 48, 98, 100, 53, 97, 55, 54, 53, 102, 100, 48, 102, 49, 102, 50, 57, 53, 50, 52, 102, 57, 50, 32, 99, 117, 116, 32, 97, 116, 32, 109, 105, 108, 101, 115, 116, 111, 110, 101, 47, 109, 105, 108, 101, 115, 116, 111, 110, 101, 108, 97, 119, 49, 50, 46, 73, 110, 100, 101, 120, 66, 97, 99, 107, 32, 109, 105, 108, 101, 115, 116, 111, 110, 101, 47, 109, 105, 108, 101, 115, 116, 111, 110, 101, 108, 97, 119, 49, 50, 46, 73, 110, 100, 101, 120, 82, 101, 97, 100, 115, 32, 109, 105, 108, 101, 115, 116, 111, 110, 101, 47, 109, 105, 108, 101, 115, 116, 111, 110, 101, 108, 97, 119, 49, 50, 46, 73, 110, 100, 101, 120, 83, 112, 111, 105, 108, 116, 32, 109, 105, 108, 101, 115, 116, 111, 110, 101, 47, 109, 105, 108, 101, 115, 116, 111, 110, 101, 108, 97, 119, 49, 50, 46, 73, 110, 100, 101, 120, 79, 110, 108, 121, 32, 109, 105, 108, 101, 115, 116, 111, 110, 101, 47, 109, 105, 108, 101, 115, 116, 111, 110, 101, 108, 97, 119, 49, 50, 46, 73, 110, 100, 101, 120, 83, 105, 122, 101, 32, 109, 105, 108, 101, 115, 116, 111, 110, 101, 47, 109, 105, 108, 101, 115, 116, 111, 110, 101, 108, 97, 119, 49, 50, 46, 73, 110, 100, 101, 120, 65, 112, 97, 114, 116, 32, 109, 105, 108, 101, 115, 116, 111, 110, 101, 47, 109, 105, 108, 101, 115, 116, 111, 110, 101, 108, 97, 119, 49, 50, 46, 73, 110, 100, 101, 120, 67, 117, 116, 32, 109, 105, 108, 101, 115, 116, 111, 110, 101, 47, 109, 105, 108, 101, 115, 116, 111, 110, 101, 108, 97, 119, 49, 50, 46, 73, 110, 100, 101, 120, 67, 111, 117, 110, 116, 115, 32, 109, 105, 108, 101, 115, 116, 111, 110, 101, 47, 109, 105, 108, 101, 115, 116, 111, 110, 101, 108, 97, 119, 49, 50, 46, 73, 110, 100, 101, 120, 72, 101, 97, 100, 32, 109, 105, 108, 101, 115, 116, 111, 110, 101, 47, 109, 105, 108, 101, 115, 116, 111, 110, 101, 108, 97, 119, 49, 48, 46, 79, 114, 100, 101, 114, 65, 108, 108, 32, 109, 105, 108, 101, 115, 116, 111, 110, 101, 47, 109, 105, 108, 101, 115, 116, 111, 110, 101, 108, 97, 119, 49, 48, 46, 79, 114, 100, 101, 114, 69, 97, 99, 104, 32, 109, 105, 108, 101, 115, 116, 111, 110, 101, 47, 109, 105, 108, 101, 115, 116, 111, 110, 101, 108, 97, 119, 49, 48, 46, 79, 114, 100, 101, 114, 67, 111, 115, 116, 115, 32, 109, 105, 108, 101, 115, 116, 111, 110, 101, 47, 109, 105, 108, 101, 115, 116, 111, 110, 101, 108, 97, 119, 49, 48, 46, 79, 114, 100, 101, 114, 75, 110, 111, 119, 110, 32, 109, 105, 108, 101, 115, 116, 111, 110, 101, 47, 109, 105, 108, 101, 115, 116, 111, 110, 101, 108, 97, 119, 49, 48, 46, 79, 114, 100, 101, 114, 77, 111, 100, 101, 32, 109, 105, 108, 101, 115, 116, 111, 110, 101, 47, 109, 105, 108, 101, 115, 116, 111, 110, 101, 108, 97, 119, 49, 49, 46, 72, 105, 101, 114, 66, 117, 105, 108, 100, 115, 32, 109, 105, 108, 101, 115, 116, 111, 110, 101, 47, 109, 105, 108, 101, 115, 116, 111, 110, 101, 108, 97, 119, 49, 49, 46, 72, 105, 101, 114, 82, 97, 110, 107, 115, 32, 109, 105, 108, 101, 115, 116, 111, 110, 101, 47, 109, 105, 108, 101, 115, 116, 111, 110, 101, 108, 97, 119, 49, 49, 46, 72, 105, 101, 114, 75, 101, 101, 112, 115, 32, 109, 105, 108, 101, 115, 116, 111, 110, 101, 47, 109, 105, 108, 101, 115, 116, 111, 110, 101, 108, 97, 119, 49, 49, 46, 72, 105, 101, 114, 67, 111, 114, 101, 32, 109, 105, 108, 101, 115, 116, 111, 110, 101, 47, 109, 105, 108, 101, 115, 116, 111, 110, 101, 108, 97, 119, 49, 49, 46, 72, 105, 101, 114, 67, 111, 115, 116, 115, 32, 109, 105, 108, 101, 115, 116, 111, 110, 101, 47, 109, 105, 108, 101, 115, 116, 111, 110, 101, 108, 97, 119, 49, 49, 46, 72, 105, 101, 114, 65, 114, 99, 115, 32, 109, 105, 108, 101, 115, 116, 111, 110, 101, 47, 109, 105, 108, 101, 115, 116, 111, 110, 101, 108, 97, 119, 49, 49, 46, 72, 105, 101, 114, 83, 104, 111, 114, 116, 32, 109, 105, 108, 101, 115, 116, 111, 110, 101, 47, 109, 105, 108, 101, 115, 116, 111, 110, 101, 108, 97, 119, 49, 49, 46, 72, 105, 101, 114, 79, 119, 110, 32, 109, 105, 108, 101, 115, 116, 111, 110, 101, 47, 109, 105, 108, 101, 115, 116, 111, 110, 101, 108, 97, 119, 49, 49, 46, 72, 105, 101, 114, 76, 111, 110, 103]
theorem head_eq : Try.prog.initOrder = String.ofList headSigns := by kernel_rfl
theorem head_list : Try.prog.initOrder.toList = headSigns := by rw [head_eq, String.toList_ofList]
theorem head_words : ∃ rest, behindMainWord (wordsSigns headSigns) = "cut".toList :: rest := ⟨(behindMainWord (wordsSigns headSigns)).tail, by kernel_rfl⟩
theorem strip_cut (rest : List (List Char)) : stripLifts liftWords ("cut".toList :: rest) = ([], "cut".toList :: rest) := by kernel_rfl
theorem ne1 : ("cut".toList == "gc".toList) = false := by kernel_rfl
theorem ne2 : ("cut".toList == "spec".toList) = false := by kernel_rfl
theorem ne3 : ("cut".toList == "carried".toList) = false := by kernel_rfl
theorem words_of : ∃ rest, behindMainWord (wordsSigns Try.prog.initOrder.toList) = "cut".toList :: rest := by
  obtain ⟨rest, h⟩ := head_words
  exact ⟨rest, (congrArg (fun l => behindMainWord (wordsSigns l)) head_list).trans h⟩
theorem make_of (P : Program) (rest : List (List Char)) (h : behindMainWord (wordsSigns P.initOrder.toList) = "cut".toList :: rest) : P.make = some .cut := by
  unfold Program.make
  rw [h]
  simp only [ne1, ne2, beq_self_eq_true, Bool.false_or, Bool.true_or, Bool.or_self, Bool.false_eq_true, if_true, if_false]
theorem lifts_of (P : Program) (rest : List (List Char)) (h : behindMainWord (wordsSigns P.initOrder.toList) = "cut".toList :: rest) : P.liftsFinal = false := by
  unfold Program.liftsFinal Program.headLifts
  rw [h]
  have e : ((some "cut".toList : Option (List Char)) == some "carried".toList) = false := by kernel_rfl
  simp only [strip_cut, List.head?_cons, beq_self_eq_true, if_true, e, Bool.false_and, Bool.false_or]
  rfl
theorem enter_of (P : Program) (rest : List (List Char)) (h : behindMainWord (wordsSigns P.initOrder.toList) = "cut".toList :: rest) (h1 : P.laysLater = false) (h2 : P.bearsReflect = false) (h3 : P.doorFits [] = true) : P.mayEnter = true := by
  unfold Program.mayEnter
  rw [h]
  simp only [strip_cut, ne1, ne2, ne3, h1, h2, h3, List.head?_cons, beq_self_eq_true, Bool.false_or, Bool.or_false, Bool.false_and, Bool.true_and, Bool.and_true, Bool.not_false, Bool.or_true, List.contains_nil]
theorem fact_make : Try.prog.make = some .cut := by
  obtain ⟨rest, h⟩ := words_of
  exact make_of _ _ h
theorem fact_lifts : Try.prog.liftsFinal = false := by
  obtain ⟨rest, h⟩ := words_of
  exact lifts_of _ _ h
theorem fact_later : Try.prog.laysLater = false := by kernel_rfl
theorem fact_reflect : Try.prog.bearsReflect = false := by kernel_rfl
theorem fact_door : Try.prog.doorFits [] = true := by kernel_rfl
theorem fact_enter : Try.prog.mayEnter = true := by
  obtain ⟨rest, h⟩ := words_of
  exact enter_of _ _ h fact_later fact_reflect fact_door
theorem fact_laid : laidOutB Try.prog = true := by kernel_rfl
theorem fact_maps : mapsRowed Try.prog = true := by kernel_rfl
theorem fact_heard : Try.prog.stopsHeard = true := by kernel_rfl
theorem own : ownKnob Try.prog.godebug = none := by kernel_rfl
theorem follows : Try.prog.follows .mixedOrders = true := by kernel_rfl
end Go.Proofs.Ytknhlpmmalcchaa
