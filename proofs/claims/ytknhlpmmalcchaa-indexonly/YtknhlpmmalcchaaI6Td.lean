/- Steps of the walk. -/
import Derived.Test.YtknhlpmmalcchaaI6Tc
import Derived.Test.YtknhlpmmalcchaaI6Tb
import Derived.KernelRfl
set_option linter.all false
set_option linter.unusedVariables false
set_option linter.unusedSimpArgs false
namespace Go.Proofs.Ytknhlpmmalcchaa
open Go Go.VAI
set_option linter.unusedSimpArgs false

/-- The ends of arcs that may be are vertices. -/
theorem arc_ends {n : Int} {es : List Edge} {arcs : List Arc} (hn : NetOk n es) (h : ∀ (i : Nat) a, arcs[i]? = some a → ArcOk es arcs i a) : ∀ m, ∀ (i : Nat) a, i < m → arcs[i]? = some a → (0 ≤ a.src ∧ a.src < n) ∧ (0 ≤ a.dst ∧ a.dst < n) := by
  intro m
  induction m with
  | zero => intro i a hi; omega
  | succ m ih =>
    intro i a hi ha
    rcases (h i a ha).2 with ⟨h1, h2, h3, h4⟩ | ⟨h1, h2, h3, h4, h5, p, q, h6, h7, h8, h9, h10, h11, h12, h13⟩
    · have := hn.2.2.2 _ (List.mem_of_getElem? h4)
      exact ⟨this.1, this.2.1⟩
    · have e1 := ih _ p (by omega) h6
      have e2 := ih _ q (by omega) h7
      rw [h10] at e1
      rw [h12] at e2
      exact ⟨e1.1, e2.2⟩
theorem at_some {α : Type} {l : List α} {i : Nat} (h : i < l.length) : ∃ x, l[i]? = some x ∧ x ∈ l := ⟨l[i], by simp [h], List.getElem_mem h⟩
set_option maxRecDepth 20000 in
set_option maxHeartbeats 4000000 in
theorem check_ret {ew rv av uv dv : AVal} {x : Idx} {H : AHeap} {Q : AVal → AHeap → Prop} (hx : IdxAt H ew rv av uv dv x) (hnu : ∀ l ∈ x.up, l.length ≤ 4611686018427387904) (hnd : ∀ l ∈ x.down, l.length ≤ 4611686018427387904)
    (hq : ∀ b H', Keep Nothing H H' → Says b (Allowed x) → Q (.bool b) H') : Ret A 54 [.agg [.int .i64 x.n, ew, rv, av, uv, dv]] H Q := by
  refine Ret.of (fn := F54) rfl ?_
  have be := hx.es.beq
  have br : AVal.beq rv rv = true := hx.rank.beq
  have ba : AVal.beq av av = true := hx.arcs.beq
  have bu := hx.up.beq
  have bd := hx.down.beq
  have lr := hx.rank.len1
  rw [ints_length] at lr
  have lu := hx.up.len
  have ld := hx.down.len
  have la := hx.arcs.len (by omega) (arcCells_length x.arcs)
  have bx : AVal.beq (.agg [.int .i64 x.n, ew, rv, av, uv, dv]) (.agg [.int .i64 x.n, ew, rv, av, uv, dv]) = true := by simp [AVal.beq, AVal.beqs, be, br, ba, bu, bd]
  have bn : AVal.beq (.agg [.int .i64 x.n, ew]) (.agg [.int .i64 x.n, ew]) = true := by simp [AVal.beq, AVal.beqs, be]
  simp (disch := first | omega | (simp only [next_new, next_upd] <;> omega) | fail) only [vai, vaim, vaic, bots, Bool.not_true, Bool.not_false, decide_true, decide_false, wrap64, F54, Nat.reduceAdd, Nat.reduceMul, Nat.reduceLeDiff, Nat.reduceEqDiff, ↓reduceIte]
  have k0 : Keep Nothing H (H.new (.cells [.int .i64 x.n, ew, rv, av, uv, dv] true)) := (Keep.refl _ _).new _
  have q0 : (H.new (.cells [.int .i64 x.n, ew, rv, av, uv, dv] true)).obj H.next = some (.cells [.int .i64 x.n, ew, rv, av, uv, dv] true) := obj_new_eq rfl
  refine netcheck_ret (hx.es.kept k0) fun b H1 k1 s1 => ?_
  have n1 := k1.next
  simp only [next_new] at n1
  have q1 := (k1.old (i := H.next) (by simp only [next_new]; omega)).trans q0
  have kA := k0.trans k1
  cases b with
  | false =>
    simp (disch := first | omega | (simp only [next_new, next_upd] <;> omega) | fail) only [vai, vaim, vaic, bots, Bool.not_true, Bool.not_false, decide_true, decide_false, wrap64, q1, reK_same bn, Nat.reduceAdd, Nat.reduceMul, Nat.reduceLeDiff, Nat.reduceEqDiff, ↓reduceIte]
    exact hq _ _ kA (says_no fun h => by have := s1.2 h.net; cases this)
  | true =>
    have hnet := s1.1 rfl
    have hn60 := hnet.2.1
    by_cases c1 : (x.rank.length : Int) = x.n
    · by_cases c2 : (x.up.length : Int) = x.n
      · by_cases c3 : (x.down.length : Int) = x.n
        · by_cases c4 : (300000 : Int) < x.arcs.length
          · simp (disch := first | omega | (simp only [next_new, next_upd] <;> omega) | fail) only [vai, vaim, vaic, bots, Bool.not_true, Bool.not_false, decide_true, decide_false, wrap64, q1, reK_same bn, reK_same br, reK_same bu, reK_same bd, reK_same ba, lr, lu, ld, la, c1, c2, c3, c4, ne_eq, not_true_eq_false, not_false_eq_true, Nat.reduceAdd, Nat.reduceMul, Nat.reduceLeDiff, Nat.reduceEqDiff, ↓reduceIte]
            exact hq _ _ kA (says_no fun h => by have := h.count; omega)
          · simp (disch := first | omega | (simp only [next_new, next_upd] <;> omega) | fail) only [vai, vaim, vaic, bots, Bool.not_true, Bool.not_false, decide_true, decide_false, wrap64, q1, reK_same bn, reK_same br, reK_same bu, reK_same bd, reK_same ba, lr, lu, ld, la, c1, c2, c3, c4, ne_eq, not_true_eq_false, not_false_eq_true, Nat.reduceAdd, Nat.reduceMul, Nat.reduceLeDiff, Nat.reduceEqDiff, ↓reduceIte]
            refine ranks_ret (hx.rank.kept kA) (by have := hnet.2.1; omega) fun b H2 k2 s2 => ?_
            have n2 := k2.next
            have q2 := (k2.old (i := H.next) (by omega)).trans q1
            have kB := kA.trans k2
            cases b with
            | false =>
              simp (disch := first | omega | (simp only [next_new, next_upd] <;> omega) | fail) only [vai, vaim, vaic, bots, Bool.not_true, Bool.not_false, decide_true, decide_false, wrap64, q2, reK_same br, Nat.reduceAdd, Nat.reduceMul, Nat.reduceLeDiff, Nat.reduceEqDiff, ↓reduceIte]
              exact hq _ _ kB (says_no fun h => by have := s2.2 h.ranks; cases this)
            | true =>
              simp (disch := first | omega | (simp only [next_new, next_upd] <;> omega) | fail) only [vai, vaim, vaic, bots, Bool.not_true, Bool.not_false, decide_true, decide_false, wrap64, q2, reK_same br, Nat.reduceAdd, Nat.reduceMul, Nat.reduceLeDiff, Nat.reduceEqDiff, ↓reduceIte]
              have hrk := s2.1 rfl
              have kP : Keep Nothing H ((H2.new (.cells [.int .i64 0, .nilSlice, .nilSlice, .nilSlice, .nilSlice, .nilSlice] true)).upd H2.next (some (.cells [.int .i64 x.n, ew, rv, av, uv, dv] true))) := (kB.new _).upd (.inl (by omega)) _
              have qP : ((H2.new (.cells [.int .i64 0, .nilSlice, .nilSlice, .nilSlice, .nilSlice, .nilSlice] true)).upd H2.next (some (.cells [.int .i64 x.n, ew, rv, av, uv, dv] true))).obj H.next = some (.cells [.int .i64 x.n, ew, rv, av, uv, dv] true) := by rw [obj_upd_ne (by omega), obj_new_ne (by omega)]; exact q2
              have pP : ((H2.new (.cells [.int .i64 0, .nilSlice, .nilSlice, .nilSlice, .nilSlice, .nilSlice] true)).upd H2.next (some (.cells [.int .i64 x.n, ew, rv, av, uv, dv] true))).obj H2.next = some (.cells [.int .i64 x.n, ew, rv, av, uv, dv] true) := obj_upd_eq rfl
              have nP : H2.next < ((H2.new (.cells [.int .i64 0, .nilSlice, .nilSlice, .nilSlice, .nilSlice, .nilSlice] true)).upd H2.next (some (.cells [.int .i64 x.n, ew, rv, av, uv, dv] true))).next := by simp only [next_upd, next_new]; omega
              generalize (H2.new (.cells [.int .i64 0, .nilSlice, .nilSlice, .nilSlice, .nilSlice, .nilSlice] true)).upd H2.next (some (.cells [.int .i64 x.n, ew, rv, av, uv, dv] true)) = H3 at *
              generalize hy : H2.next = y at *
              refine harcs_ret (hx.es.kept kP) (hx.arcs.kept kP) (by omega) fun b H4 k4 s4 => ?_
              have q4 := (k4.old (i := H.next) (by omega)).trans qP
              have p4 := (k4.old nP).trans pP
              have n4 := k4.next
              have kC := kP.trans k4
              cases b with
              | false =>
                simp (disch := first | omega | (simp only [next_new, next_upd] <;> omega) | fail) only [vai, vaim, vaic, bots, Bool.not_true, Bool.not_false, decide_true, decide_false, wrap64, Nat.reduceAdd, Nat.reduceMul, Nat.reduceLeDiff, Nat.reduceEqDiff, ↓reduceIte]
                exact hq _ _ kC (says_no fun h => by have := s4.2 ⟨h.arcs, h.sizes⟩; cases this)
              | true =>
                have harc := s4.1 rfl
                have hends := fun i a h => arc_ends hnet harc.1 (i + 1) i a (by omega) h
                simp (disch := first | omega | (simp only [next_new, next_upd] <;> omega) | fail) only [vai, vaim, vaic, bots, Bool.not_true, Bool.not_false, decide_true, decide_false, wrap64, q4, Nat.reduceAdd, Nat.reduceMul, Nat.reduceLeDiff, Nat.reduceEqDiff, ↓reduceIte]
                refine wpx_loop (fun m t H' => ∃ (i : Nat), m = x.rank.length - i ∧ i ≤ x.rank.length ∧ t = (bots 3 (.ptr y 0 :: .func (.func 97) [] [] :: bots 51 (.int .i64 x.n :: .int .i64 i :: bots 8 ([]))) : Tmps) ∧ Keep Nothing H H' ∧ y < H'.next ∧ H'.obj y = some (.cells [.int .i64 x.n, ew, rv, av, uv, dv] true) ∧ (∀ (v : Nat) l, v < i → x.up[v]? = some l → UpOk x.rank x.arcs v l) ∧ ∀ (v : Nat) l, v < i → x.down[v]? = some l → DownOk x.rank x.arcs v l) x.rank.length ?_ ?_
                · exact ⟨0, rfl, by omega, rfl, kC, by omega, p4, fun v l h => by omega, fun v l h => by omega⟩
                · rintro m t H5 ⟨i, rfl, hi, rfl, k5, n5, q5, hU, hD⟩
                  by_cases hc : (i : Int) < x.n
                  · have hil : i < x.rank.length := by omega
                    obtain ⟨lup, hlu, mlu⟩ := at_some (l := x.up) (i := i) (by omega)
                    obtain ⟨ldn, hld, mld⟩ := at_some (l := x.down) (i := i) (by omega)
                    simp (disch := first | omega | (simp only [next_new, next_upd] <;> omega) | fail) only [vai, vaim, vaic, bots, Bool.not_true, Bool.not_false, decide_true, decide_false, wrap64, hc, q5, Nat.reduceAdd, Nat.reduceMul, Nat.reduceLeDiff, Nat.reduceEqDiff, ↓reduceIte]
                    refine hvertex_ret (hx.es.kept k5) (hx.rank.kept k5) (hx.arcs.kept k5) (hx.up.kept k5) (hx.down.kept k5) hlu hld hil (hnu _ mlu) (hnd _ mld) (fun j a h => by rw [c1]; exact hends j a h) fun b H6 k6 s6 => ?_
                    have n6 := k6.next
                    have q6 := (k6.old n5).trans q5
                    cases b with
                    | true =>
                      have hb := s6.1 rfl
                      simp (disch := first | omega | (simp only [next_new, next_upd] <;> omega) | fail) only [vai, vaim, vaic, bots, Bool.not_true, Bool.not_false, decide_true, decide_false, wrap64, Nat.reduceAdd, Nat.reduceMul, Nat.reduceLeDiff, Nat.reduceEqDiff, ↓reduceIte]
                      refine ⟨x.rank.length - (i + 1), by omega, i + 1, rfl, by omega, rfl, k5.trans k6, by omega, q6, fun v l hv hl => ?_, fun v l hv hl => ?_⟩
                      · by_cases hvi : v = i
                        · subst hvi; rw [hlu] at hl; injection hl with hl; subst hl; exact hb.1
                        · exact hU v l (by omega) hl
                      · by_cases hvi : v = i
                        · subst hvi; rw [hld] at hl; injection hl with hl; subst hl; exact hb.2
                        · exact hD v l (by omega) hl
                    | false =>
                      simp (disch := first | omega | (simp only [next_new, next_upd] <;> omega) | fail) only [vai, vaim, vaic, bots, Bool.not_true, Bool.not_false, decide_true, decide_false, wrap64, Nat.reduceAdd, Nat.reduceMul, Nat.reduceLeDiff, Nat.reduceEqDiff, ↓reduceIte]
                      exact hq _ _ (k5.trans k6) (says_no fun h => by have := s6.2 ⟨h.up i _ hlu, h.down i _ hld⟩; cases this)
                  · simp (disch := first | omega | (simp only [next_new, next_upd] <;> omega) | fail) only [vai, vaim, vaic, bots, Bool.not_true, Bool.not_false, decide_true, decide_false, wrap64, hc, Nat.reduceAdd, Nat.reduceMul, Nat.reduceLeDiff, Nat.reduceEqDiff, ↓reduceIte]
                    refine hq _ _ k5 (says_yes ⟨hnet, c1, by omega, by omega, hrk, by omega, harc.1, harc.2, fun v l hl => hU v l ?_ hl, fun v l hl => hD v l ?_ hl⟩)
                    · have := (List.getElem?_eq_some_iff.1 hl).1; omega
                    · have := (List.getElem?_eq_some_iff.1 hl).1; omega
        · simp (disch := first | omega | (simp only [next_new, next_upd] <;> omega) | fail) only [vai, vaim, vaic, bots, Bool.not_true, Bool.not_false, decide_true, decide_false, wrap64, q1, reK_same bn, reK_same br, reK_same bu, reK_same bd, lr, lu, ld, c1, c2, c3, ne_eq, not_true_eq_false, not_false_eq_true, Nat.reduceAdd, Nat.reduceMul, Nat.reduceLeDiff, Nat.reduceEqDiff, ↓reduceIte]
          exact hq _ _ kA (says_no fun h => c3 (by have := h.downLen; omega))
      · simp (disch := first | omega | (simp only [next_new, next_upd] <;> omega) | fail) only [vai, vaim, vaic, bots, Bool.not_true, Bool.not_false, decide_true, decide_false, wrap64, q1, reK_same bn, reK_same br, reK_same bu, lr, lu, c1, c2, ne_eq, not_true_eq_false, not_false_eq_true, Nat.reduceAdd, Nat.reduceMul, Nat.reduceLeDiff, Nat.reduceEqDiff, ↓reduceIte]
        exact hq _ _ kA (says_no fun h => c2 (by have := h.upLen; omega))
    · simp (disch := first | omega | (simp only [next_new, next_upd] <;> omega) | fail) only [vai, vaim, vaic, bots, Bool.not_true, Bool.not_false, decide_true, decide_false, wrap64, q1, reK_same bn, reK_same br, lr, c1, ne_eq, not_true_eq_false, not_false_eq_true, Nat.reduceAdd, Nat.reduceMul, Nat.reduceLeDiff, Nat.reduceEqDiff, ↓reduceIte]
      exact hq _ _ kA (says_no fun h => c1 h.rankLen)
end Go.Proofs.Ytknhlpmmalcchaa

namespace Go.Proofs.Ytknhlpmmalcchaa
open Go Go.VAI
set_option linter.unusedSimpArgs false

/-- The string of these bytes. -/
def strOf (l : List Int) : ByteArray := ⟨(l.map fun n => UInt8.ofNat n.toNat).toArray⟩
theorem toBytes_u8s : ∀ l : List Int, toBytes (u8s l) = some (l.map fun n => UInt8.ofNat n.toNat)
  | [] => rfl
  | a :: l => by
    have e : toBytes (u8s (a :: l)) = bnd (toBytes (u8s l)) fun r => some (UInt8.ofNat a.toNat :: r) := rfl
    rw [e, toBytes_u8s l]; rfl
theorem row_str {H : AHeap} {v : AVal} {l : List Int} (h : Row H v 1 (u8s l)) : abytesToStr H v = some (.str (strOf l)) := by
  obtain ⟨cs, hcs⟩ : ∃ cs, cs = u8s l := ⟨_, rfl⟩
  rw [← hcs] at h
  cases h with
  | nil =>
    have : l = [] := by
      cases l with
      | nil => rfl
      | cons a l => simp [u8s] at hcs
    subst this; rfl
  | mk hid hc hl he =>
    rename_i id off len cap c
    simp only [Nat.mul_one] at hl he
    simp only [abytesToStr, hc, bnd, if_pos hl, he, hcs, toBytes_u8s]
    rfl
theorem u8_inj {a b : Int} (ha : 0 ≤ a ∧ a < 256) (hb : 0 ≤ b ∧ b < 256) (h : UInt8.ofNat a.toNat = UInt8.ofNat b.toNat) : a = b := by
  have := congrArg UInt8.toNat h
  rw [UInt8.toNat_ofNat', UInt8.toNat_ofNat'] at this
  omega
theorem strOf_inj {l m : List Int} (hl : Bytes l) (hm : Bytes m) (h : strOf l = strOf m) : l = m := by
  have h1 : (l.map fun n => UInt8.ofNat n.toNat) = (m.map fun n => UInt8.ofNat n.toNat) := by
    have := congrArg (fun x : ByteArray => x.data.toList) h
    simpa [strOf] using this
  clear h
  induction l generalizing m with
  | nil =>
    cases m with
    | nil => rfl
    | cons b m => simp at h1
  | cons a l ih =>
    cases m with
    | nil => simp at h1
    | cons b m =>
      rw [List.map_cons, List.map_cons] at h1
      injection h1 with h1 h2
      rw [u8_inj (hl a (by simp)) (hm b (by simp)) h1, ih (fun x hx => hl x (by simp [hx])) (fun x hx => hm x (by simp [hx])) h2]
theorem toList_loop (b : ByteArray) : ∀ (n i : Nat) (r : List UInt8), b.size - i = n → ByteArray.toList.loop b i r = r.reverse ++ b.data.toList.drop i
  | 0, i, r, h => by
    rw [ByteArray.toList.loop, if_neg (by omega)]
    have hs : b.data.toList.length = b.size := rfl
    rw [List.drop_eq_nil_of_le (by omega), List.append_nil]
  | n + 1, i, r, h => by
    have hi : i < b.size := by omega
    have hs : b.data.toList.length = b.size := rfl
    have hg : b.get! i = b.data.toList[i] := by
      show b.data[i]! = _
      rw [getElem!_pos b.data i hi]
      simp
    rw [ByteArray.toList.loop, if_pos hi, toList_loop b n (i + 1) _ (by omega), List.drop_eq_getElem_cons (by omega : i < b.data.toList.length), hg]
    simp
theorem toList_data (b : ByteArray) : b.toList = b.data.toList := by
  rw [ByteArray.toList, toList_loop b b.size 0 [] rfl]; simp
theorem strOf_toList (l : List Int) : (strOf l).toList = l.map fun n => UInt8.ofNat n.toNat := by rw [toList_data]; simp [strOf]
theorem strOf_toList_inj {l m : List Int} (hl : Bytes l) (hm : Bytes m) (h : (strOf l).toList = (strOf m).toList) : l = m := by
  refine strOf_inj hl hm ?_
  rw [strOf_toList, strOf_toList] at h
  unfold strOf
  rw [h]
theorem abin_eql_str {l m : List Int} (hl : Bytes l) (hm : Bytes m) : abin .eql .prim (.str (strOf l)) (.str (strOf m)) = some (.bool (decide (l = m))) := by
  have e : abin .eql .prim (.str (strOf l)) (.str (strOf m)) = some (.bool ((strOf l).toList == (strOf m).toList)) := rfl
  rw [e]
  congr 2
  by_cases h : l = m
  · subst h; simp
  · rw [decide_eq_false h]
    exact beq_false_of_ne fun he => h (strOf_toList_inj hl hm he)
theorem equal_ret {v u : AVal} {l m : List Int} {H : AHeap} {Q : AVal → AHeap → Prop} (hv : Row H v 1 (u8s l)) (hu : Row H u 1 (u8s m)) (hl : Bytes l) (hm : Bytes m) (hq : Q (.bool (decide (l = m))) H) : Ret A 130 [v, u] H Q := by
  refine Ret.of (fn := F130) rfl ?_
  have hs := row_str hv
  have ht := row_str hu
  simp (disch := first | omega | (simp only [next_new, next_upd] <;> omega) | fail) only [vai, vaim, vaic, bots, Bool.not_true, Bool.not_false, decide_true, decide_false, wrap64, F130, hs, ht, abin_eql_str hl hm, Nat.reduceAdd, Nat.reduceMul, Nat.reduceLeDiff, Nat.reduceEqDiff, ↓reduceIte]
  exact hq
theorem u8s_take {l : List Int} {k : Nat} : (u8s l).take k = u8s (l.take k) := by simp [u8s]
theorem u8s_drop {l : List Int} {k : Nat} : (u8s l).drop k = u8s (l.drop k) := by simp [u8s]
theorem hasPrefix_ret {v u : AVal} {l m : List Int} {H : AHeap} {Q : AVal → AHeap → Prop} (hv : RowC H v 1 (u8s l)) (hu : Row H u 1 (u8s m)) (hl : Bytes l) (hm : Bytes m) (hq : Q (.bool (decide (l.take m.length = m))) H) : Ret A 100 [v, u] H Q := by
  refine Ret.of (fn := F100) rfl ?_
  have h1 := hv.1.len1
  have h2 := hu.len1
  rw [u8s_length] at h1 h2
  by_cases hc : (m.length : Int) ≤ l.length
  · obtain ⟨v1, e1, e2, e3⟩ := hv.upto (n := l.length) (k := m.length) (kd := .i64) (by omega) (by simp [u8s]) (by omega)
    rw [Nat.mul_one, u8s_take] at e2
    simp (disch := first | omega | (simp only [next_new, next_upd] <;> omega) | fail) only [vai, vaim, vaic, bots, Bool.not_true, Bool.not_false, decide_true, decide_false, wrap64, F100, h1, h2, hc, e1, Nat.reduceAdd, Nat.reduceMul, Nat.reduceLeDiff, Nat.reduceEqDiff, ↓reduceIte]
    refine equal_ret e2.1 hu (fun x hx => hl x (List.mem_of_mem_take hx)) hm ?_
    simp (disch := first | omega | (simp only [next_new, next_upd] <;> omega) | fail) only [vai, vaim, vaic, bots, Bool.not_true, Bool.not_false, decide_true, decide_false, wrap64, Nat.reduceAdd, Nat.reduceMul, Nat.reduceLeDiff, Nat.reduceEqDiff, ↓reduceIte]
    exact hq
  · simp (disch := first | omega | (simp only [next_new, next_upd] <;> omega) | fail) only [vai, vaim, vaic, bots, Bool.not_true, Bool.not_false, decide_true, decide_false, wrap64, F100, h1, h2, hc, Nat.reduceAdd, Nat.reduceMul, Nat.reduceLeDiff, Nat.reduceEqDiff, ↓reduceIte]
    have : ¬ (l.take m.length = m) := fun h => by
      have := congrArg List.length h
      rw [List.length_take] at this
      omega
    simpa only [this, decide_false] using hq
theorem cutPrefix_ret {v u : AVal} {l m : List Int} {H : AHeap} {Q : AVal → AHeap → Prop} (hv : RowC H v 1 (u8s l)) (hu : Row H u 1 (u8s m)) (hl : Bytes l) (hm : Bytes m)
    (hq1 : l.take m.length = m → ∀ v', RowC H v' 1 (u8s (l.drop m.length)) → sid v' = sid v → Q (.tuple [v', .bool true]) H)
    (hq0 : l.take m.length ≠ m → Q (.tuple [v, .bool false]) H) : Ret A 63 [v, u] H Q := by
  refine Ret.of (fn := F63) rfl ?_
  have h2 := hu.len1
  rw [u8s_length] at h2
  have nb := hv.1.notBot
  simp (disch := first | omega | (simp only [next_new, next_upd] <;> omega) | fail) only [vai, vaim, vaic, bots, Bool.not_true, Bool.not_false, decide_true, decide_false, wrap64, F63, Nat.reduceAdd, Nat.reduceMul, Nat.reduceLeDiff, Nat.reduceEqDiff, ↓reduceIte]
  refine hasPrefix_ret hv hu hl hm ?_
  by_cases hc : l.take m.length = m
  · have hle : m.length ≤ l.length := by
      have := congrArg List.length hc
      rw [List.length_take] at this
      omega
    obtain ⟨v1, e1, e2, e3⟩ := hv.from (n := l.length) (k := m.length) (kd := .i64) (by omega) (by simp [u8s]) hle
    rw [Nat.mul_one, u8s_drop] at e2
    have nb1 := e2.1.notBot
    simp (disch := first | omega | (simp only [next_new, next_upd] <;> omega) | fail) only [vai, vaim, vaic, bots, Bool.not_true, Bool.not_false, decide_true, decide_false, wrap64, hc, h2, e1, nb1, decide_true, Nat.reduceAdd, Nat.reduceMul, Nat.reduceLeDiff, Nat.reduceEqDiff, ↓reduceIte]
    exact hq1 hc v1 e2 e3
  · simp (disch := first | omega | (simp only [next_new, next_upd] <;> omega) | fail) only [vai, vaim, vaic, bots, Bool.not_true, Bool.not_false, decide_true, decide_false, wrap64, hc, nb, decide_false, Nat.reduceAdd, Nat.reduceMul, Nat.reduceLeDiff, Nat.reduceEqDiff, ↓reduceIte]
    exact hq0 hc
end Go.Proofs.Ytknhlpmmalcchaa

namespace Go.Proofs.Ytknhlpmmalcchaa
open Go Go.VAI
set_option linter.unusedSimpArgs false

theorem edgeCells_append (l m : List Edge) : edgeCells (l ++ m) = edgeCells l ++ edgeCells m := by simp [edgeCells]
def rRank (s : RS) : Int × RS := ((rFour s).1 - 1, (rFour s).2)
/-- What bytes say, before it is looked at whether it may be; none where they say nothing. -/
def rawOf (b : List Int) : Option Idx :=
  if b.take 4 = [77, 73, 88, 49] then
    let n := rFour ⟨b.drop 4, false⟩
    let k := rCount 16 n.2
    let es := rep rEdge k.1.toNat k.2
    if ((es.2.left.length / 4 : Nat) : Int) < n.1 ∨ es.2.bad = true then none else
    let rk := rep rRank n.1.toNat es.2
    let m := rCount 32 rk.2
    let arcs := rep rArc m.1.toNat m.2
    let up := rep rList n.1.toNat arcs.2
    let down := rep rList n.1.toNat up.2
    if down.2.bad = true ∨ 0 < down.2.left.length then none else some ⟨n.1, es.1, rk.1, arcs.1, up.1, down.1⟩
  else none
theorem rCount_left (size : Nat) (s : RS) : (rCount size s).2.left.length ≤ s.left.length := by
  unfold rCount
  simp only
  split
  · exact rFour_left s
  · exact rFour_left s
theorem rep_left {α : Type} {f : RS → α × RS} (h : ∀ s, (f s).2.left.length ≤ s.left.length) : ∀ n s, (rep f n s).2.left.length ≤ s.left.length
  | 0, s => Nat.le_refl _
  | n + 1, s => Nat.le_trans (h _) (rep_left h n s)
theorem rEdge_left (s : RS) : (rEdge s).2.left.length ≤ s.left.length := Nat.le_trans (rFour_left _) (Nat.le_trans (rFour_left _) (Nat.le_trans (rFour_left _) (rFour_left s)))
theorem rList_left (s : RS) : (rList s).2.left.length ≤ s.left.length := Nat.le_trans (rep_left rFour_left _ _) (rCount_left _ _)
/-- A row that is finished: behind what is written on. -/
def Fin' (w : Nat) (H : AHeap) (v : AVal) (sz : Nat) (cs : List AVal) : Prop := Row H v sz cs ∧ ∀ j, sid v = some j → w < j
theorem Fin'.M {w : Nat} {M : Nat → Prop} {H H' : AHeap} {v : AVal} {sz : Nat} {cs : List AVal} (h : Fin' w H v sz cs) (hk : Keep M H H') (hM : ∀ j, M j → j ≤ w) : Fin' w H' v sz cs := ⟨h.1.M hk (fun j hj e => by have := h.2 j hj; have := hM j e; omega), h.2⟩
theorem own_fin {w lo : Nat} {H : AHeap} {v : AVal} {sz : Nat} {cs : List AVal} (h : Own lo H v sz cs) (hw : w < lo) : Fin' w H v sz cs := ⟨h.row, fun j hj => by have := (h.sid_ge hj).1; omega⟩
/-- Rows of rows that are finished. -/
def FinRows (w : Nat) (H : AHeap) (v : AVal) (ll : List (List Int)) : Prop := ∃ vs, Fin' w H v 1 vs ∧ vs.length = ll.length ∧ ∀ (i : Nat) r l, vs[i]? = some r → ll[i]? = some l → Fin' w H r 1 (ints l)
theorem FinRows.M {w : Nat} {M : Nat → Prop} {H H' : AHeap} {v : AVal} {ll : List (List Int)} (h : FinRows w H v ll) (hk : Keep M H H') (hM : ∀ j, M j → j ≤ w) : FinRows w H' v ll := by
  obtain ⟨vs, h1, h2, h3⟩ := h
  exact ⟨vs, h1.M hk hM, h2, fun i r l e1 e2 => (h3 i r l e1 e2).M hk hM⟩
theorem FinRows.rows {w : Nat} {H : AHeap} {v : AVal} {ll : List (List Int)} (h : FinRows w H v ll) : RowsOf H v ll := by
  obtain ⟨vs, h1, h2, h3⟩ := h
  exact ⟨vs, h1.1, h2, fun i r l e1 e2 => (h3 i r l e1 e2).1⟩
theorem RowsAt.snoc {lo : Nat} {H : AHeap} {av r : AVal} {us : List AVal} {ul : List (List Int)} {l : List Int} (h : RowsAt lo H av us ul) (hr : Row H r 1 (ints l)) (hs : ∀ j, sid r = some j → lo ≤ j ∧ sid av ≠ some j) (hlen : us.length = ul.length) : RowsAt lo H av (us ++ [r]) (ul ++ [l]) := by
  intro w q m h1 h2
  by_cases hw : w < us.length
  · rw [List.getElem?_append_left hw] at h1
    rw [List.getElem?_append_left (by omega)] at h2
    exact h w q m h1 h2
  · have e : w = us.length := by
      have := (List.getElem?_eq_some_iff.1 h1).1
      simp at this; omega
    subst e
    rw [List.getElem?_append_right (by omega), Nat.sub_self] at h1
    rw [List.getElem?_append_right (by omega), hlen, Nat.sub_self] at h2
    simp at h1 h2
    subst h1; subst h2
    exact ⟨hr, hs⟩
theorem RowsAt.fin {lo w : Nat} {H : AHeap} {av : AVal} {us : List AVal} {ul : List (List Int)} (h : RowsAt lo H av us ul) (ha : Own lo H av 1 us) (hlen : us.length = ul.length) (hw : w < lo) : FinRows w H av ul :=
  ⟨us, own_fin ha hw, hlen, fun i r l e1 e2 => ⟨(h i r l e1 e2).1, fun j hj => by have := ((h i r l e1 e2).2 j hj).1; omega⟩⟩
theorem rCount_le' (size : Nat) (s : RS) : (rCount size s).1 ≤ ((s.left.length / size : Nat) : Int) := by
  unfold rCount
  simp only
  split
  · exact Int.natCast_nonneg _
  · rename_i hc
    exact Int.le_trans (Int.not_lt.1 hc) (Int.ofNat_le.2 (Nat.div_le_div_right (rFour_left s)))
theorem rList_len (s : RS) : (rList s).1.length ≤ s.left.length := by
  unfold rList
  simp only
  rw [rep_length]
  have := rCount_le' 4 s
  have := Nat.div_le_self s.left.length 4
  omega
theorem rep_mem : ∀ n s, ∀ l ∈ (rep rList n s).1, l.length ≤ s.left.length
  | 0, s, l, h => by simp [rep] at h
  | n + 1, s, l, h => by
    simp only [rep] at h
    rcases List.mem_append.1 h with h | h
    · exact rep_mem n s l h
    · simp at h; subst h
      exact Nat.le_trans (rList_len _) (rep_left rList_left n s)
theorem rArc_left (s : RS) : (rArc s).2.left.length ≤ s.left.length := Nat.le_trans (rFour_left _) (Nat.le_trans (rFour_left _) (Nat.le_trans (rFour_left _) (Nat.le_trans (rFour_left _) (Nat.le_trans (rFour_left _) (Nat.le_trans (rFour_left _) (Nat.le_trans (rFour_left _) (rFour_left s)))))))
/-- Decode under way. -/
structure DecAt (H0 : AHeap) (q w : Nat) (src : Option Nat) (H : AHeap) (cs : List AVal) (s : RS) : Prop where
  keep : Keep Nothing H0 H
  op : H.obj H0.next = some (.cells [.int .i64 0, .nilSlice, .nilSlice, .nilSlice, .nilSlice, .nilSlice] true)
  ob : H.obj q = some (.cells cs true)
  rd : RdAt H w src s
  len : s.left.length ≤ 1000000000
  lq : H0.next < q
  lw : q < w
  ls : ∀ j, src = some j → j < H0.next
theorem DecAt.lt {H0 : AHeap} {q w : Nat} {src : Option Nat} {H : AHeap} {cs : List AVal} {s : RS} (h : DecAt H0 q w src H cs s) : w < H.next := h.rd.lt
theorem DecAt.read {H0 : AHeap} {q w : Nat} {src : Option Nat} {H H' : AHeap} {cs : List AVal} {s s' : RS} (h : DecAt H0 q w src H cs s) (hk : Keep (fun j => j = w) H H') (hr : RdAt H' w src s') (hl : s'.left.length ≤ s.left.length) : DecAt H0 q w src H' cs s' := by
  have h1 := h.lt
  have h2 := h.lq
  have h3 := h.lw
  have h4 := h.len
  have h5 := h.keep.next
  exact ⟨⟨by have := hk.next; omega, fun j hj _ => by rw [hk.obj j (by omega) (by omega), h.keep.old hj]⟩, by rw [hk.obj _ (by omega) (by omega)]; exact h.op, by rw [hk.obj _ (by omega) (by omega)]; exact h.ob, hr, by omega, h2, h3, h.ls⟩
theorem DecAt.put {H0 : AHeap} {q w : Nat} {src : Option Nat} {H : AHeap} {cs : List AVal} {s : RS} (h : DecAt H0 q w src H cs s) (cs' : List AVal) : DecAt H0 q w src (H.upd q (some (.cells cs' true))) cs' s := by
  have h1 := h.lt
  have h2 := h.lq
  have h3 := h.lw
  have h5 := h.keep.next
  have kk : Keep (fun j => j = q) H (H.upd q (some (.cells cs' true))) := (Keep.refl (fun j => j = q) _).upd (.inr rfl) _
  exact ⟨h.keep.upd (.inl (by omega)) _, by rw [obj_upd_ne (by omega)]; exact h.op, obj_upd_eq rfl, h.rd.M kk (by omega) (fun j hj => by have := h.ls j hj; omega), h.len, h2, h3, h.ls⟩
theorem DecAt.grow {H0 : AHeap} {q w lo : Nat} {src : Option Nat} {H H' : AHeap} {cs : List AVal} {s : RS} {M : Nat → Prop} (h : DecAt H0 q w src H cs s) (hk : Keep M H H') (hM : ∀ j, M j → lo ≤ j) (hlo : w < lo) : DecAt H0 q w src H' cs s := by
  have h1 := h.lt
  have h2 := h.lq
  have h3 := h.lw
  have h5 := h.keep.next
  have hm : ∀ j, j ≤ w → ¬ M j := fun j hj hm => by have := hM j hm; omega
  exact ⟨⟨by have := hk.next; omega, fun j hj _ => by rw [hk.obj j (by omega) (hm j (by omega)), h.keep.old hj]⟩, by rw [hk.obj _ (by omega) (hm _ (by omega))]; exact h.op, by rw [hk.obj _ (by omega) (hm _ (by omega))]; exact h.ob, h.rd.M hk (hm w (by omega)) (fun j hj => hm j (by have := h.ls j hj; omega)), h.len, h2, h3, h.ls⟩
theorem DecAt.kept {H0 : AHeap} {q w : Nat} {src : Option Nat} {H H' : AHeap} {cs : List AVal} {s : RS} (h : DecAt H0 q w src H cs s) (hk : Keep Nothing H H') : DecAt H0 q w src H' cs s := h.grow (lo := w + 1) hk (fun _ h => h.elim) (by omega)
theorem wq_of {q w : Nat} {H H' : AHeap} (hk : Keep (fun j => j = w) H H') : Keep (fun j => j = w ∨ j = q) H H' := hk.mono (fun _ _ h => .inl h)
theorem wq_upd {q w : Nat} {Hs H : AHeap} (hk : Keep (fun j => j = w ∨ j = q) Hs H) (o : Option AObj) : Keep (fun j => j = w ∨ j = q) Hs (H.upd q o) := hk.upd (.inr (.inr rfl)) o
/-- After an append. -/
theorem app_keep {v : AVal} {H H' : AHeap} (h1 : H.next ≤ H'.next) (h2 : ∀ j, j < H.next → sid v ≠ some j → H'.obj j = H.obj j) : Keep (fun j => sid v = some j) H H' := ⟨h1, h2⟩
theorem IdxAt.fin {w : Nat} {Hs H : AHeap} {ew rv av uv dv : AVal} {x : Idx} (hk : Keep (fun j => j ≤ w) Hs H) (he : Fin' w Hs ew 4 (edgeCells x.es)) (hr : Fin' w Hs rv 1 (ints x.rank)) (ha : Fin' w Hs av 7 (arcCells x.arcs)) (hu : FinRows w Hs uv x.up) (hd : FinRows w Hs dv x.down) : IdxAt H ew rv av uv dv x :=
  ⟨(he.M hk (fun _ h => h)).1, (hr.M hk (fun _ h => h)).1, (ha.M hk (fun _ h => h)).1, (hu.M hk (fun _ h => h)).rows, (hd.M hk (fun _ h => h)).rows⟩
/-! ### a part that may be left by goto -/
section
variable {K : CallW} {t : Tmps} {H : AHeap} {Q : PostT}
def noGo (Q : PostT) (e : AExit) (t : Tmps) (H : AHeap) : Prop :=
  match e with
  | .goto _ => False
  | e => Q e t H
def thenG (K : CallW) (l : Nat) (rest : ACode) (Q : PostT) (e : AExit) (t : Tmps) (H : AHeap) : Prop :=
  match e with
  | .goto i => i = l ∧ wpx K rest t H (noGo Q)
  | e => Q e t H
theorem wpx_scope {a rest : ACode} {l : Nat} : wpx K (.scope a l rest) t H Q = wpx K a t H (thenG K l rest Q) := rfl
theorem thenG_goto {rest : ACode} {l : Nat} : thenG K l rest Q (.goto l) t H = wpx K rest t H (noGo Q) := by simp [thenG]
theorem thenG_ret {rest : ACode} {l : Nat} : thenG K l rest Q .ret t H = Q .ret t H := rfl
theorem noGo_ret : noGo Q .ret t H = Q .ret t H := rfl
set_option linter.defProp false in
def vaig := And.intro @wpx_scope (And.intro @thenG_goto (And.intro @thenG_ret @noGo_ret))
end
set_option maxRecDepth 20000 in
set_option maxHeartbeats 8000000 in
theorem decode_ret {bv : AVal} {b : List Int} {H : AHeap} {Q : AVal → AHeap → Prop} (hb : RowC H bv 1 (u8s b)) (hbb : Bytes b) (hlen : b.length ≤ 1000000000)
    (hq0 : (∀ x, rawOf b = some x → ¬ Allowed x) → ∀ H', Keep Nothing H H' → Q (.tuple [.agg [.int .i64 0, .nilSlice, .nilSlice, .nilSlice, .nilSlice, .nilSlice], .int .i64 9]) H')
    (hq1 : ∀ x, rawOf b = some x → Allowed x → ∀ ew rv av uv dv H', Keep Nothing H H' → IdxAt H' ew rv av uv dv x → Q (.tuple [.agg [.int .i64 x.n, ew, rv, av, uv, dv], .int .i64 0]) H') : Ret A 30 [bv] H Q := by
  refine Ret.of (fn := F30) rfl ?_
  simp (disch := first | omega | (simp only [next_new, next_upd] <;> omega) | fail) only [vai, vaim, vaic, bots, Bool.not_true, Bool.not_false, decide_true, decide_false, wrap64, F30, vaig, Nat.reduceAdd, Nat.reduceMul, Nat.reduceLeDiff, Nat.reduceEqDiff, ↓reduceIte]
  have k0 : Keep Nothing H (((H.new (.cells [.int .i64 0, .nilSlice, .nilSlice, .nilSlice, .nilSlice, .nilSlice] true)).new (.cells [.int .i64 0, .nilSlice, .nilSlice, .nilSlice, .nilSlice, .nilSlice] true)).new (.cells [.int .u8 77, .int .u8 73, .int .u8 88, .int .u8 49] true)) := (((Keep.refl _ _).new _).new _).new _
  have hpre : Bytes [77, 73, 88, 49] := by intro x hx; simp at hx; omega
  refine cutPrefix_ret (hb.kept k0) (.mk (c := u8s [77, 73, 88, 49]) (by simp only [next_new]; omega) (by simp (disch := first | omega | (simp only [next_new, next_upd] <;> omega) | fail) only [vaim]; rfl) (by decide) rfl) hbb hpre ?_ ?_
  · intro hpx v1 hv1 hs1
    have hpx' : b.take 4 = [77, 73, 88, 49] := hpx
    have hdr : b.drop [(77 : Int), 73, 88, 49].length = b.drop 4 := rfl
    rw [hdr] at hv1
    have q0 : ((((H.new (.cells [.int .i64 0, .nilSlice, .nilSlice, .nilSlice, .nilSlice, .nilSlice] true)).new (.cells [.int .i64 0, .nilSlice, .nilSlice, .nilSlice, .nilSlice, .nilSlice] true)).new (.cells [.int .u8 77, .int .u8 73, .int .u8 88, .int .u8 49] true)).new (.cells [v1, .bool false] true)).obj H.next = some (.cells [.int .i64 0, .nilSlice, .nilSlice, .nilSlice, .nilSlice, .nilSlice] true) := by simp (disch := first | omega | (simp only [next_new, next_upd] <;> omega) | fail) only [vaim]
    have q1 : ((((H.new (.cells [.int .i64 0, .nilSlice, .nilSlice, .nilSlice, .nilSlice, .nilSlice] true)).new (.cells [.int .i64 0, .nilSlice, .nilSlice, .nilSlice, .nilSlice, .nilSlice] true)).new (.cells [.int .u8 77, .int .u8 73, .int .u8 88, .int .u8 49] true)).new (.cells [v1, .bool false] true)).obj (H.next + 1) = some (.cells [.int .i64 0, .nilSlice, .nilSlice, .nilSlice, .nilSlice, .nilSlice] true) := by simp (disch := first | omega | (simp only [next_new, next_upd] <;> omega) | fail) only [vaim]
    have kv : Keep Nothing H ((((H.new (.cells [.int .i64 0, .nilSlice, .nilSlice, .nilSlice, .nilSlice, .nilSlice] true)).new (.cells [.int .i64 0, .nilSlice, .nilSlice, .nilSlice, .nilSlice, .nilSlice] true)).new (.cells [.int .u8 77, .int .u8 73, .int .u8 88, .int .u8 49] true)).new (.cells [v1, .bool false] true)) := k0.new _
    have nv : ((((H.new (.cells [.int .i64 0, .nilSlice, .nilSlice, .nilSlice, .nilSlice, .nilSlice] true)).new (.cells [.int .i64 0, .nilSlice, .nilSlice, .nilSlice, .nilSlice, .nilSlice] true)).new (.cells [.int .u8 77, .int .u8 73, .int .u8 88, .int .u8 49] true)).new (.cells [v1, .bool false] true)).next = H.next + 1 + 1 + 1 + 1 := by simp only [next_new]
    have hsrc : ∀ j, sid v1 = some j → j < H.next := fun j hj => hb.1.sid_lt (by rw [← hs1]; exact hj)
    have rd0 : RdAt ((((H.new (.cells [.int .i64 0, .nilSlice, .nilSlice, .nilSlice, .nilSlice, .nilSlice] true)).new (.cells [.int .i64 0, .nilSlice, .nilSlice, .nilSlice, .nilSlice, .nilSlice] true)).new (.cells [.int .u8 77, .int .u8 73, .int .u8 88, .int .u8 49] true)).new (.cells [v1, .bool false] true)) (H.next + 1 + 1 + 1) (sid v1) ⟨b.drop 4, false⟩ :=
      ⟨v1, obj_new_eq (by simp only [next_new]), hv1.kept ((Keep.refl _ _).new _), rfl, by rw [nv]; omega, fun e => by have := hsrc _ e; omega, fun x hx => hbb x (List.mem_of_mem_drop hx), by simp; omega⟩
    have cv : v1.cells = some [v1] := hv1.1.cells
    simp (disch := first | omega | (simp only [next_new, next_upd] <;> omega) | fail) only [vai, vaim, vaic, bots, Bool.not_true, Bool.not_false, decide_true, decide_false, wrap64, vaig, cv, Nat.reduceAdd, Nat.reduceMul, Nat.reduceLeDiff, Nat.reduceEqDiff, ↓reduceIte]
    generalize hH4 : (((H.new (.cells [.int .i64 0, .nilSlice, .nilSlice, .nilSlice, .nilSlice, .nilSlice] true)).new (.cells [.int .i64 0, .nilSlice, .nilSlice, .nilSlice, .nilSlice, .nilSlice] true)).new (.cells [.int .u8 77, .int .u8 73, .int .u8 88, .int .u8 49] true)).new (.cells [v1, .bool false] true) = H4 at *
    generalize hqq : H.next + 1 = q at *
    generalize hww : q + 1 + 1 = w at *
    have D0 : DecAt H q w (sid v1) H4 [.int .i64 0, .nilSlice, .nilSlice, .nilSlice, .nilSlice, .nilSlice] ⟨b.drop 4, false⟩ := ⟨kv, q0, q1, rd0, by simp; omega, by omega, by omega, hsrc⟩
    clear kv q0 q1 hH4 k0
    refine rfour_ret rd0 fun H5 k5 h5 n5 => ?_
    have D1 := D0.read k5 h5 (rFour_left _)
    have hn := rFour_bd rd0.bytes
    obtain ⟨n, hN⟩ : ∃ n : Nat, (rFour ⟨b.drop 4, false⟩).1 = n := ⟨(rFour ⟨b.drop 4, false⟩).1.toNat, by omega⟩
    rw [hN] at hn ⊢
    have o1 := D1.ob
    simp (disch := first | omega | (simp only [next_new, next_upd] <;> omega) | fail) only [vai, vaim, vaic, bots, Bool.not_true, Bool.not_false, decide_true, decide_false, wrap64, o1, Nat.reduceAdd, Nat.reduceMul, Nat.reduceLeDiff, Nat.reduceEqDiff, ↓reduceIte]
    have D2 := D1.put [.int .i64 n, .nilSlice, .nilSlice, .nilSlice, .nilSlice, .nilSlice]
    generalize H5.upd q (some (.cells [.int .i64 n, .nilSlice, .nilSlice, .nilSlice, .nilSlice, .nilSlice] true)) = H6 at *
    refine rcount_ret (size := 16) D2.rd (by omega) fun H7 k7 h7 n7 => ?_
    have D3 := D2.read k7 h7 (rCount_left _ _)
    have hk := rCount_bd (size := 16) D2.rd.bytes
    have hkl := rCount_le (size := 16) D2.rd.bytes
    have hl0 := D2.len
    clear k5 h5 n5 o1 D1 D0 rd0 k7 h7 n7 nv
    obtain ⟨k, hkk⟩ : ∃ k : Nat, (rCount 16 (rFour ⟨b.drop 4, false⟩).2).1 = k := ⟨(rCount 16 (rFour ⟨b.drop 4, false⟩).2).1.toNat, by omega⟩
    rw [hkk] at hk hkl ⊢
    have hk9 : k ≤ 1000000000 := by
      have := Nat.div_le_self (rFour ⟨b.drop 4, false⟩).2.left.length 16
      omega
    generalize hS0 : (rCount 16 (rFour ⟨b.drop 4, false⟩).2).2 = s0 at *
    have hw7 := D3.lt
    have hqw := D3.lw
    simp (disch := first | omega | (simp only [next_new, next_upd] <;> omega) | fail) only [vai, vaim, vaic, bots, Bool.not_true, Bool.not_false, decide_true, decide_false, wrap64, Nat.reduceAdd, Nat.reduceMul, Nat.reduceLeDiff, Nat.reduceEqDiff, ↓reduceIte]
    refine wpx_loop (fun m t H' => ∃ (i : Nat) (ev : AVal), m = k - i ∧ i ≤ k ∧ t = (bots 2 (.ptr H.next 0 :: bots 1 (.ptr q 0 :: bots 2 (.ptr w 0 :: .func (.func 64) [.ptr w 0] [] :: bots 21 (.int .i64 k :: .int .i64 i :: bots 120 ([]))))) : Tmps) ∧ DecAt H q w (sid v1) H' [.int .i64 n, ev, .nilSlice, .nilSlice, .nilSlice, .nilSlice] (rep rEdge i s0).2 ∧ Keep (fun j => j = w ∨ j = q) H7 H' ∧ Own H7.next H' ev 4 (edgeCells (rep rEdge i s0).1)) k ?_ ?_
    · exact ⟨0, .nilSlice, rfl, by omega, rfl, D3, Keep.refl _ _, .nil⟩
    · clear D2 D3
      rintro m t H8 ⟨i, ev, rfl, hi, rfl, D, kD, gD⟩
      by_cases hc : (i : Int) < k
      · have ob := D.ob
        have nD := kD.next
        simp (disch := first | omega | (simp only [next_new, next_upd] <;> omega) | fail) only [vai, vaim, vaic, bots, Bool.not_true, Bool.not_false, decide_true, decide_false, wrap64, hc, ob, Nat.reduceAdd, Nat.reduceMul, Nat.reduceLeDiff, Nat.reduceEqDiff, ↓reduceIte]
        refine redge_ret D.rd fun H9 k9 h9 => ?_
        have D4 := D.read k9 h9 (rEdge_left _)
        have g4 := gD.keepM k9 (fun j hj e => by have := (gD.sid_ge hj).1; omega)
        have ob4 := D4.ob
        have bev := gD.beq
        have n9 := k9.next
        simp (disch := first | omega | (simp only [next_new, next_upd] <;> omega) | fail) only [vai, vaim, vaic, bots, Bool.not_true, Bool.not_false, decide_true, decide_false, wrap64, ob4, reK_same bev, Edge.cells, Nat.reduceAdd, Nat.reduceMul, Nat.reduceLeDiff, Nat.reduceEqDiff, ↓reduceIte]
        have rl := rep_length rEdge i s0
        refine app_ret (n := i) g4 (by simp (disch := first | omega | (simp only [next_new, next_upd] <;> omega) | fail) only [vaim]; rfl) rfl (by omega) (by omega) (by rw [edgeCells_length, rl]) (by omega) (by omega) ?_
        intro v5 H10 n10 k10 g10 s10
        simp only [next_new] at n10 s10
        have kk := app_keep n10 k10
        have D5 := (D4.kept ((Keep.refl _ _).new _)).grow (lo := H7.next) kk (fun j hj => (g4.sid_ge hj).1) (by omega)
        have ob5 := D5.ob
        have c5 := g10.cells
        simp (disch := first | omega | (simp only [next_new, next_upd] <;> omega) | fail) only [vai, vaim, vaic, bots, Bool.not_true, Bool.not_false, decide_true, decide_false, wrap64, ob5, c5, Nat.reduceAdd, Nat.reduceMul, Nat.reduceLeDiff, Nat.reduceEqDiff, ↓reduceIte]
        refine ⟨k - (i + 1), by omega, i + 1, v5, rfl, by omega, rfl, D5.put _, wq_upd (((kD.trans (wq_of k9)).new _).trans' kk (fun j hj e => by have := (g4.sid_ge e).1; omega)) _, ?_⟩
        refine (Grown.upd ?_ (by omega) _).own
        simp only [rep]
        rw [edgeCells_append]
        exact g10
      · have hik : i = k := by omega
        subst hik
        have hE := own_fin gD hw7
        have hlE := rep_length rEdge i s0
        clear gD kD hi hw7
        generalize hS1 : (rep rEdge i s0).2 = s1 at *
        generalize hES : (rep rEdge i s0).1 = es at *
        have D1 := D
        obtain ⟨lv, r1, r2, r3, r4, r5, r6, r7⟩ := D.rd
        have hl1 := D.len
        have hll := r2.1.len1
        rw [u8s_length] at hll
        have hquo : ((s1.left.length : Int)).tdiv 4 = ((s1.left.length / 4 : Nat) : Int) := by rw [show (4 : Int) = ((4 : Nat) : Int) from rfl, Int.ofNat_tdiv]
        have hdl : s1.left.length / 4 ≤ s1.left.length := Nat.div_le_self _ _
        have z4 : (4 : Int) ≠ 0 := by omega
        have ob := D.ob
        have op := D.op
        have hraw : rawOf b = if ((s1.left.length / 4 : Nat) : Int) < (n : Int) ∨ s1.bad = true then none else
            (if (rep rList n (rep rList n (rep rArc (rCount 32 (rep rRank n s1).2).1.toNat (rCount 32 (rep rRank n s1).2).2).2).2).2.bad = true ∨ 0 < (rep rList n (rep rList n (rep rArc (rCount 32 (rep rRank n s1).2).1.toNat (rCount 32 (rep rRank n s1).2).2).2).2).2.left.length then none
              else some ⟨n, es, (rep rRank n s1).1, (rep rArc (rCount 32 (rep rRank n s1).2).1.toNat (rCount 32 (rep rRank n s1).2).2).1, (rep rList n (rep rArc (rCount 32 (rep rRank n s1).2).1.toNat (rCount 32 (rep rRank n s1).2).2).2).1, (rep rList n (rep rList n (rep rArc (rCount 32 (rep rRank n s1).2).1.toNat (rCount 32 (rep rRank n s1).2).2).2).2).1⟩) := by
          unfold rawOf
          simp only [if_pos hpx', hN, hkk, hS0, hS1, hES, Int.toNat_natCast]
        generalize hdq : s1.left.length / 4 = dq at *
        obtain ⟨left, bad⟩ := s1
        simp only at *
        by_cases c1 : ((dq : Nat) : Int) < n
        · simp (disch := first | omega | (simp only [next_new, next_upd] <;> omega) | fail) only [vai, vaim, vaic, bots, Bool.not_true, Bool.not_false, decide_true, decide_false, wrap64, hc, ob, op, r1, hll, abin_quo, hquo, c1, vaig, Nat.reduceAdd, Nat.reduceMul, Nat.reduceLeDiff, Nat.reduceEqDiff, ↓reduceIte]
          refine hq0 (fun x hx => ?_) _ (D.keep.upd (id := H.next) (.inl (Nat.le_refl _)) _)
          rw [hraw, if_pos (.inl c1)] at hx
          cases hx
        · cases bad with
          | true =>
            simp (disch := first | omega | (simp only [next_new, next_upd] <;> omega) | fail) only [vai, vaim, vaic, bots, Bool.not_true, Bool.not_false, decide_true, decide_false, wrap64, hc, ob, op, r1, hll, abin_quo, hquo, c1, vaig, Nat.reduceAdd, Nat.reduceMul, Nat.reduceLeDiff, Nat.reduceEqDiff, ↓reduceIte]
            refine hq0 (fun x hx => ?_) _ (D.keep.upd (id := H.next) (.inl (Nat.le_refl _)) _)
            rw [hraw, if_pos (.inr rfl)] at hx
            cases hx
          | false =>
            rw [if_neg (by intro h; rcases h with h | h; exact c1 h; cases h)] at hraw
            simp (disch := first | omega | (simp only [next_new, next_upd] <;> omega) | fail) only [vai, vaim, vaic, bots, Bool.not_true, Bool.not_false, decide_true, decide_false, wrap64, hc, ob, op, r1, hll, abin_quo, hquo, c1, vaig, Nat.reduceAdd, Nat.reduceMul, Nat.reduceLeDiff, Nat.reduceEqDiff, ↓reduceIte]
            clear r1 r2 r3 r4 r5 r6 r7 hll hquo ob op D hl1 hbb hb hpre hpx hpx' hN hn hkk hk hkl hk9 hS0 hS1 hES
            have hn9 : n ≤ 1000000000 := by
              have := D1.len
              simp only at this
              omega
            clear hdl c1 hdq
            generalize (⟨left, false⟩ : RS) = s1 at *
            have hw8 := D1.lt
            refine wpx_loop (fun m t H' => ∃ (i : Nat) (rv : AVal), m = n - i ∧ i ≤ n ∧ t = (bots 2 (.ptr H.next 0 :: bots 1 (.ptr q 0 :: bots 2 (.ptr w 0 :: .func (.func 64) [.ptr w 0] [] :: bots 52 (.int .i64 n :: .int .i64 i :: bots 89 ([]))))) : Tmps) ∧ DecAt H q w (sid v1) H' [.int .i64 n, ev, rv, .nilSlice, .nilSlice, .nilSlice] (rep rRank i s1).2 ∧ Keep (fun j => j = w ∨ j = q) H8 H' ∧ Own H8.next H' rv 1 (ints (rep rRank i s1).1)) n ?_ ?_
            · exact ⟨0, .nilSlice, rfl, by omega, rfl, D1, Keep.refl _ _, .nil⟩
            · clear D1
              rintro m t Ha ⟨i, rv, rfl, hi, rfl, D, kD, gD⟩
              by_cases hc : (i : Int) < n
              · have ob := D.ob
                have nD := kD.next
                have hbd := rFour_bd D.rd.bytes
                simp (disch := first | omega | (simp only [next_new, next_upd] <;> omega) | fail) only [vai, vaim, vaic, bots, Bool.not_true, Bool.not_false, decide_true, decide_false, wrap64, hc, ob, Nat.reduceAdd, Nat.reduceMul, Nat.reduceLeDiff, Nat.reduceEqDiff, ↓reduceIte]
                refine rfour_ret D.rd fun Hb kb hb nb => ?_
                have D4 := D.read kb hb (rFour_left _)
                have g4 := gD.keepM kb (fun j hj e => by have := (gD.sid_ge hj).1; omega)
                have ob4 := D4.ob
                have bev := gD.beq
                simp (disch := first | omega | (simp only [next_new, next_upd] <;> omega) | fail) only [vai, vaim, vaic, bots, Bool.not_true, Bool.not_false, decide_true, decide_false, wrap64, ob4, reK_same bev, Nat.reduceAdd, Nat.reduceMul, Nat.reduceLeDiff, Nat.reduceEqDiff, ↓reduceIte]
                have rl := rep_length rRank i s1
                refine app_ret (n := i) g4 (by simp (disch := first | omega | (simp only [next_new, next_upd] <;> omega) | fail) only [vaim]; rfl) rfl (by omega) (by omega) (by rw [ints_length, rl]; omega) (by omega) (by omega) ?_
                intro v5 H10 n10 k10 g10 s10
                simp only [next_new] at n10 s10
                have kk := app_keep n10 k10
                have D5 := (D4.kept ((Keep.refl _ _).new _)).grow (lo := H8.next) kk (fun j hj => (g4.sid_ge hj).1) (by omega)
                have ob5 := D5.ob
                have c5 := g10.cells
                simp (disch := first | omega | (simp only [next_new, next_upd] <;> omega) | fail) only [vai, vaim, vaic, bots, Bool.not_true, Bool.not_false, decide_true, decide_false, wrap64, ob5, c5, Nat.reduceAdd, Nat.reduceMul, Nat.reduceLeDiff, Nat.reduceEqDiff, ↓reduceIte]
                refine ⟨n - (i + 1), by omega, i + 1, v5, rfl, by omega, rfl, D5.put _, wq_upd (((kD.trans (wq_of kb)).new _).trans' kk (fun j hj e => by have := (g4.sid_ge e).1; omega)) _, ?_⟩
                refine (Grown.upd ?_ (by omega) _).own
                simp only [rep]
                rw [ints_append]
                exact g10
              · have hik : i = n := by omega
                subst hik
                have hE := hE.M kD (by omega)
                have hR := own_fin gD hw8
                have hlR := rep_length rRank i s1
                clear gD kD hi
                generalize (rep rRank i s1).2 = s2 at *
                generalize (rep rRank i s1).1 = rank at *
                simp (disch := first | omega | (simp only [next_new, next_upd] <;> omega) | fail) only [vai, vaim, vaic, bots, Bool.not_true, Bool.not_false, decide_true, decide_false, wrap64, hc, Nat.reduceAdd, Nat.reduceMul, Nat.reduceLeDiff, Nat.reduceEqDiff, ↓reduceIte]
                refine rcount_ret (size := 32) D.rd (by omega) fun Hb kb hb nb => ?_
                have D1 := D.read kb hb (rCount_left _ _)
                have hk := rCount_bd (size := 32) D.rd.bytes
                have hkl := rCount_le (size := 32) D.rd.bytes
                have hl0 := D.len
                have hE := hE.M kb (by omega)
                have hR := hR.M kb (by omega)
                clear D
                obtain ⟨k, hkk⟩ : ∃ k : Nat, (rCount 32 s2).1 = k := ⟨(rCount 32 s2).1.toNat, by omega⟩
                rw [hkk] at hk hkl hraw ⊢
                rw [Int.toNat_natCast] at hraw
                have hk9 : k ≤ 1000000000 := by
                  have := Nat.div_le_self s2.left.length 32
                  omega
                generalize (rCount 32 s2).2 = s3 at *
                have hwb := D1.lt
                simp (disch := first | omega | (simp only [next_new, next_upd] <;> omega) | fail) only [vai, vaim, vaic, bots, Bool.not_true, Bool.not_false, decide_true, decide_false, wrap64, Nat.reduceAdd, Nat.reduceMul, Nat.reduceLeDiff, Nat.reduceEqDiff, ↓reduceIte]
                refine wpx_loop (fun m t H' => ∃ (j : Nat) (av : AVal), m = k - j ∧ j ≤ k ∧ t = (bots 2 (.ptr H.next 0 :: bots 1 (.ptr q 0 :: bots 2 (.ptr w 0 :: bots 66 (.int .i64 k :: .int .i64 j :: bots 76 ([]))))) : Tmps) ∧ DecAt H q w (sid v1) H' [.int .i64 i, ev, rv, av, .nilSlice, .nilSlice] (rep rArc j s3).2 ∧ Keep (fun j => j = w ∨ j = q) Hb H' ∧ Own Hb.next H' av 7 (arcCells (rep rArc j s3).1)) k ?_ ?_
                · exact ⟨0, .nilSlice, rfl, by omega, rfl, D1, Keep.refl _ _, .nil⟩
                · clear D1
                  rintro m t Ha ⟨j, av, rfl, hj, rfl, D, kD, gD⟩
                  by_cases hc : (j : Int) < k
                  · have ob := D.ob
                    have nD := kD.next
                    simp (disch := first | omega | (simp only [next_new, next_upd] <;> omega) | fail) only [vai, vaim, vaic, bots, Bool.not_true, Bool.not_false, decide_true, decide_false, wrap64, hc, ob, Nat.reduceAdd, Nat.reduceMul, Nat.reduceLeDiff, Nat.reduceEqDiff, ↓reduceIte]
                    refine rarc_ret D.rd fun H9 k9 h9 => ?_
                    have D4 := D.read k9 h9 (rArc_left _)
                    have g4 := gD.keepM k9 (fun j hj e => by have := (gD.sid_ge hj).1; omega)
                    have ob4 := D4.ob
                    have bev := gD.beq
                    have n9 := k9.next
                    simp (disch := first | omega | (simp only [next_new, next_upd] <;> omega) | fail) only [vai, vaim, vaic, bots, Bool.not_true, Bool.not_false, decide_true, decide_false, wrap64, ob4, reK_same bev, Arc.cells, Nat.reduceAdd, Nat.reduceMul, Nat.reduceLeDiff, Nat.reduceEqDiff, ↓reduceIte]
                    have rl := rep_length rArc j s3
                    refine app_ret (n := j) g4 (by simp (disch := first | omega | (simp only [next_new, next_upd] <;> omega) | fail) only [vaim]; rfl) rfl (by omega) (by omega) (by rw [arcCells_length, rl]) (by omega) (by omega) ?_
                    intro v5 H10 n10 k10 g10 s10
                    simp only [next_new] at n10 s10
                    have kk := app_keep n10 k10
                    have D5 := (D4.kept ((Keep.refl _ _).new _)).grow (lo := Hb.next) kk (fun j hj => (g4.sid_ge hj).1) (by omega)
                    have ob5 := D5.ob
                    have c5 := g10.cells
                    simp (disch := first | omega | (simp only [next_new, next_upd] <;> omega) | fail) only [vai, vaim, vaic, bots, Bool.not_true, Bool.not_false, decide_true, decide_false, wrap64, ob5, c5, Nat.reduceAdd, Nat.reduceMul, Nat.reduceLeDiff, Nat.reduceEqDiff, ↓reduceIte]
                    refine ⟨k - (j + 1), by omega, j + 1, v5, rfl, by omega, rfl, D5.put _, wq_upd (((kD.trans (wq_of k9)).new _).trans' kk (fun j hj e => by have := (g4.sid_ge e).1; omega)) _, ?_⟩
                    refine (Grown.upd ?_ (by omega) _).own
                    simp only [rep]
                    rw [arcCells_append]
                    exact g10
                  · have hjk : j = k := by omega
                    subst hjk
                    have hE := hE.M kD (by omega)
                    have hR := hR.M kD (by omega)
                    have hA := own_fin gD hwb
                    have hlA := rep_length rArc j s3
                    clear gD kD hj hwb hk hkl
                    have ob := D.ob
                    simp (disch := first | omega | (simp only [next_new, next_upd] <;> omega) | fail) only [vai, vaim, vaic, bots, Bool.not_true, Bool.not_false, decide_true, decide_false, wrap64, hc, ob, Nat.reduceAdd, Nat.reduceMul, Nat.reduceLeDiff, Nat.reduceEqDiff, ↓reduceIte]
                    generalize (rep rArc j s3).2 = s4 at *
                    generalize (rep rArc j s3).1 = arcs at *
                    have hlen4 := D.len
                    have hwc := D.lt
                    have hra := hraw
                    refine wpx_loop (fun m t H' => ∃ (j : Nat) (uv : AVal) (us : List AVal), m = i - j ∧ j ≤ i ∧ t = (bots 2 (.ptr H.next 0 :: bots 1 (.ptr q 0 :: bots 2 (.ptr w 0 :: bots 79 (.int .i64 i :: .int .i64 j :: bots 63 ([]))))) : Tmps) ∧ DecAt H q w (sid v1) H' [.int .i64 i, ev, rv, av, uv, .nilSlice] (rep rList j s4).2 ∧ Keep (fun j => j = w ∨ j = q) Ha H' ∧ Own Ha.next H' uv 1 us ∧ us.length = j ∧ RowsAt Ha.next H' uv us (rep rList j s4).1) i ?_ ?_
                    · exact ⟨0, .nilSlice, [], rfl, by omega, rfl, D, Keep.refl _ _, .nil, rfl, fun v r l h1 => by simp at h1⟩
                    · clear D ob
                      rintro m t Hu ⟨j, uv, us, rfl, hj, rfl, D, kD, gD, hus, rD⟩
                      by_cases hc : (j : Int) < i
                      · have ob := D.ob
                        have nD := kD.next
                        have hwu := D.lt
                        simp (disch := first | omega | (simp only [next_new, next_upd] <;> omega) | fail) only [vai, vaim, vaic, bots, Bool.not_true, Bool.not_false, decide_true, decide_false, wrap64, hc, ob, Nat.reduceAdd, Nat.reduceMul, Nat.reduceLeDiff, Nat.reduceEqDiff, ↓reduceIte]
                        refine rlist_ret D.rd D.len fun r9 H9 k9 h9 o9 => ?_
                        have D4 := D.read k9 h9 (rList_left _)
                        have g4 := gD.keepM k9 (fun j hj e => by have := (gD.sid_ge hj).1; omega)
                        have R4 := rD.M k9 (fun j e => .inl (by omega)) (.inl rfl)
                        have ob4 := D4.ob
                        have bev := gD.beq
                        have n9 := k9.next
                        have c9 := o9.cells
                        simp (disch := first | omega | (simp only [next_new, next_upd] <;> omega) | fail) only [vai, vaim, vaic, bots, Bool.not_true, Bool.not_false, decide_true, decide_false, wrap64, ob4, reK_same bev, c9, Nat.reduceAdd, Nat.reduceMul, Nat.reduceLeDiff, Nat.reduceEqDiff, ↓reduceIte]
                        have rl := rep_length rList j s4
                        have D4n := D4.kept ((Keep.refl Nothing H9).new (.cells [r9] true))
                        have R4n := R4.M ((Keep.refl Nothing H9).new (.cells [r9] true)) (fun j h => h.elim) (.inl rfl)
                        have o9n := o9.row.kept ((Keep.refl Nothing H9).new (.cells [r9] true))
                        have s9 : ∀ y, sid r9 = some y → Hu.next ≤ y ∧ y < H9.next := fun y hy => o9.sid_ge hy
                        have s4' : ∀ y, sid uv = some y → y < Hu.next := fun y hy => (gD.sid_ge hy).2
                        refine app_ret (n := j) g4 (by simp (disch := first | omega | (simp only [next_new, next_upd] <;> omega) | fail) only [vaim]; rfl) rfl (by omega) (by omega) (by omega) (by omega) (by omega) ?_
                        intro v5 H10 n10 k10 g10 s10
                        simp only [next_new] at n10 s10
                        have kk := app_keep n10 k10
                        have D5 := D4n.grow (lo := Ha.next) kk (fun j hj => (g4.sid_ge hj).1) (by omega)
                        have R5 := R4n.M kk (fun j e => .inr e) (.inr s10)
                        have R6 := R5.snoc (l := (rList (rep rList j s4).2).1) (o9n.M kk (fun y hy e => by have := s9 y hy; have := s4' y e; omega)) (fun y hy => ⟨by have := s9 y hy; omega, fun e => by
                          obtain ⟨z, z1, z2⟩ := s10
                          rw [z1] at e; injection e with e
                          have := s9 y hy
                          omega⟩) (by rw [rl]; exact hus)
                        have ob5 := D5.ob
                        have c5 := g10.cells
                        simp (disch := first | omega | (simp only [next_new, next_upd] <;> omega) | fail) only [vai, vaim, vaic, bots, Bool.not_true, Bool.not_false, decide_true, decide_false, wrap64, ob5, c5, Nat.reduceAdd, Nat.reduceMul, Nat.reduceLeDiff, Nat.reduceEqDiff, ↓reduceIte]
                        refine ⟨i - (j + 1), by omega, j + 1, v5, us ++ [r9], rfl, by omega, rfl, D5.put _, wq_upd (((kD.trans (wq_of k9)).new _).trans' kk (fun j hj e => by have := (g4.sid_ge e).1; omega)) _, (Grown.upd g10 (by omega) _).own, by simp [hus], ?_⟩
                        simp only [rep]
                        exact R6.M (M := fun j => j = q) ((Keep.refl (fun j => j = q) _).upd (.inr rfl) _) (fun j e => .inl (by omega)) (.inl rfl)
                      · have hjk : i = j := by omega
                        have hE := hE.M kD (by omega)
                        have hR := hR.M kD (by omega)
                        have hA := hA.M kD (by omega)
                        have hU := rD.fin gD (by rw [rep_length]; exact hus) hwc
                        have hlU := rep_mem j s4
                        have hlU2 := rep_length rList j s4
                        have h4len := hlen4
                        subst hjk
                        clear gD kD rD hj hwc
                        have ob := D.ob
                        simp (disch := first | omega | (simp only [next_new, next_upd] <;> omega) | fail) only [vai, vaim, vaic, bots, Bool.not_true, Bool.not_false, decide_true, decide_false, wrap64, hc, ob, Nat.reduceAdd, Nat.reduceMul, Nat.reduceLeDiff, Nat.reduceEqDiff, ↓reduceIte]
                        generalize (rep rList i s4).2 = s5 at *
                        generalize (rep rList i s4).1 = up at *
                        have hlen5 := D.len
                        have hwd := D.lt
                        refine wpx_loop (fun m t H' => ∃ (j : Nat) (dv : AVal) (us : List AVal), m = i - j ∧ j ≤ i ∧ t = (bots 2 (.ptr H.next 0 :: bots 1 (.ptr q 0 :: bots 2 (.ptr w 0 :: bots 92 (.int .i64 i :: .int .i64 j :: bots 50 ([]))))) : Tmps) ∧ DecAt H q w (sid v1) H' [.int .i64 i, ev, rv, av, uv, dv] (rep rList j s5).2 ∧ Keep (fun j => j = w ∨ j = q) Hu H' ∧ Own Hu.next H' dv 1 us ∧ us.length = j ∧ RowsAt Hu.next H' dv us (rep rList j s5).1) i ?_ ?_
                        · exact ⟨0, .nilSlice, [], rfl, by omega, rfl, D, Keep.refl _ _, .nil, rfl, fun v r l h1 => by simp at h1⟩
                        · clear D ob
                          rintro m t Hd ⟨j, dv, us, rfl, hj, rfl, D, kD, gD, hus, rD⟩
                          by_cases hc : (j : Int) < i
                          · have ob := D.ob
                            have nD := kD.next
                            have hwu := D.lt
                            simp (disch := first | omega | (simp only [next_new, next_upd] <;> omega) | fail) only [vai, vaim, vaic, bots, Bool.not_true, Bool.not_false, decide_true, decide_false, wrap64, hc, ob, Nat.reduceAdd, Nat.reduceMul, Nat.reduceLeDiff, Nat.reduceEqDiff, ↓reduceIte]
                            refine rlist_ret D.rd D.len fun r9 H9 k9 h9 o9 => ?_
                            have D4 := D.read k9 h9 (rList_left _)
                            have g4 := gD.keepM k9 (fun j hj e => by have := (gD.sid_ge hj).1; omega)
                            have R4 := rD.M k9 (fun j e => .inl (by omega)) (.inl rfl)
                            have ob4 := D4.ob
                            have bev := gD.beq
                            have n9 := k9.next
                            have c9 := o9.cells
                            simp (disch := first | omega | (simp only [next_new, next_upd] <;> omega) | fail) only [vai, vaim, vaic, bots, Bool.not_true, Bool.not_false, decide_true, decide_false, wrap64, ob4, reK_same bev, c9, Nat.reduceAdd, Nat.reduceMul, Nat.reduceLeDiff, Nat.reduceEqDiff, ↓reduceIte]
                            have rl := rep_length rList j s5
                            have D4n := D4.kept ((Keep.refl Nothing H9).new (.cells [r9] true))
                            have R4n := R4.M ((Keep.refl Nothing H9).new (.cells [r9] true)) (fun j h => h.elim) (.inl rfl)
                            have o9n := o9.row.kept ((Keep.refl Nothing H9).new (.cells [r9] true))
                            have s9 : ∀ y, sid r9 = some y → Hd.next ≤ y ∧ y < H9.next := fun y hy => o9.sid_ge hy
                            have s5' : ∀ y, sid dv = some y → y < Hd.next := fun y hy => (gD.sid_ge hy).2
                            refine app_ret (n := j) g4 (by simp (disch := first | omega | (simp only [next_new, next_upd] <;> omega) | fail) only [vaim]; rfl) rfl (by omega) (by omega) (by omega) (by omega) (by omega) ?_
                            intro v5 H10 n10 k10 g10 s10
                            simp only [next_new] at n10 s10
                            have kk := app_keep n10 k10
                            have D5 := D4n.grow (lo := Hu.next) kk (fun j hj => (g4.sid_ge hj).1) (by omega)
                            have R5 := R4n.M kk (fun j e => .inr e) (.inr s10)
                            have R6 := R5.snoc (l := (rList (rep rList j s5).2).1) (o9n.M kk (fun y hy e => by have := s9 y hy; have := s5' y e; omega)) (fun y hy => ⟨by have := s9 y hy; omega, fun e => by
                              obtain ⟨z, z1, z2⟩ := s10
                              rw [z1] at e; injection e with e
                              have := s9 y hy
                              omega⟩) (by rw [rl]; exact hus)
                            have ob5 := D5.ob
                            have c5 := g10.cells
                            simp (disch := first | omega | (simp only [next_new, next_upd] <;> omega) | fail) only [vai, vaim, vaic, bots, Bool.not_true, Bool.not_false, decide_true, decide_false, wrap64, ob5, c5, Nat.reduceAdd, Nat.reduceMul, Nat.reduceLeDiff, Nat.reduceEqDiff, ↓reduceIte]
                            refine ⟨i - (j + 1), by omega, j + 1, v5, us ++ [r9], rfl, by omega, rfl, D5.put _, wq_upd (((kD.trans (wq_of k9)).new _).trans' kk (fun j hj e => by have := (g4.sid_ge e).1; omega)) _, (Grown.upd g10 (by omega) _).own, by simp [hus], ?_⟩
                            simp only [rep]
                            exact R6.M (M := fun j => j = q) ((Keep.refl (fun j => j = q) _).upd (.inr rfl) _) (fun j e => .inl (by omega)) (.inl rfl)
                          · have hjk : i = j := by omega
                            have hE := hE.M kD (by omega)
                            have hR := hR.M kD (by omega)
                            have hA := hA.M kD (by omega)
                            have hU := hU.M kD (by omega)
                            have hD := rD.fin gD (by rw [rep_length]; exact hus) hwd
                            have hlD := rep_mem j s5
                            have hlD2 := rep_length rList j s5
                            have h5len := hlen5
                            subst hjk
                            clear gD kD rD hj hwd
                            have ob := D.ob
                            simp (disch := first | omega | (simp only [next_new, next_upd] <;> omega) | fail) only [vai, vaim, vaic, bots, Bool.not_true, Bool.not_false, decide_true, decide_false, wrap64, hc, ob, Nat.reduceAdd, Nat.reduceMul, Nat.reduceLeDiff, Nat.reduceEqDiff, ↓reduceIte]
                            generalize (rep rList i s5).2 = s6 at *
                            generalize (rep rList i s5).1 = down at *
                            have oh := D.op
                            have obd := D.ob
                            obtain ⟨lv, r1, r2, r3, r4, r5, r6, r7⟩ := D.rd
                            have hll := r2.1.len1
                            rw [u8s_length] at hll
                            obtain ⟨left, bad⟩ := s6
                            simp only at *
                            cases bad with
                            | true =>
                              simp (disch := first | omega | (simp only [next_new, next_upd] <;> omega) | fail) only [vai, vaim, vaic, bots, Bool.not_true, Bool.not_false, decide_true, decide_false, wrap64, r1, oh, vaig, Nat.reduceAdd, Nat.reduceMul, Nat.reduceLeDiff, Nat.reduceEqDiff, ↓reduceIte]
                              refine hq0 (fun x hx => ?_) _ (D.keep.upd (id := H.next) (.inl (Nat.le_refl _)) _)
                              rw [hraw, if_pos (.inl rfl)] at hx
                              cases hx
                            | false =>
                              by_cases c2 : (0 : Int) < left.length
                              · simp (disch := first | omega | (simp only [next_new, next_upd] <;> omega) | fail) only [vai, vaim, vaic, bots, Bool.not_true, Bool.not_false, decide_true, decide_false, wrap64, r1, oh, hll, c2, vaig, Nat.reduceAdd, Nat.reduceMul, Nat.reduceLeDiff, Nat.reduceEqDiff, ↓reduceIte]
                                refine hq0 (fun x hx => ?_) _ (D.keep.upd (id := H.next) (.inl (Nat.le_refl _)) _)
                                rw [hraw, if_pos (.inr (by omega))] at hx
                                cases hx
                              · rw [if_neg (by intro h; rcases h with h | h; cases h; omega)] at hraw
                                simp (disch := first | omega | (simp only [next_new, next_upd] <;> omega) | fail) only [vai, vaim, vaic, bots, Bool.not_true, Bool.not_false, decide_true, decide_false, wrap64, r1, obd, hll, c2, vaig, Nat.reduceAdd, Nat.reduceMul, Nat.reduceLeDiff, Nat.reduceEqDiff, ↓reduceIte]
                                refine check_ret (x := ⟨i, es, rank, arcs, up, down⟩) ⟨hE.1, hR.1, hA.1, hU.rows, hD.rows⟩ (fun l hl => by have := hlU l hl; omega) (fun l hl => by have := hlD l hl; omega) fun bb Hc kc sc => ?_
                                have Dc := D.kept kc
                                have hE := hE.M kc (fun j h => h.elim)
                                have hR := hR.M kc (fun j h => h.elim)
                                have hA := hA.M kc (fun j h => h.elim)
                                have hU := hU.M kc (fun j h => h.elim)
                                have hD := hD.M kc (fun j h => h.elim)
                                have obc := Dc.ob
                                have ohc := Dc.op
                                cases bb with
                                | false =>
                                  simp (disch := first | omega | (simp only [next_new, next_upd] <;> omega) | fail) only [vai, vaim, vaic, bots, Bool.not_true, Bool.not_false, decide_true, decide_false, wrap64, obc, ohc, vaig, Nat.reduceAdd, Nat.reduceMul, Nat.reduceLeDiff, Nat.reduceEqDiff, ↓reduceIte]
                                  refine hq0 (fun x hx ha => ?_) _ (Dc.keep.upd (id := H.next) (.inl (Nat.le_refl _)) _)
                                  rw [hraw] at hx
                                  injection hx with hx
                                  subst hx
                                  have := sc.2 ha
                                  cases this
                                | true =>
                                  have hal := sc.1 rfl
                                  clear sc D r1 r2 r3 r4 r5 r6 r7 hll ob oh obd
                                  simp (disch := first | omega | (simp only [next_new, next_upd] <;> omega) | fail) only [vai, vaim, vaic, bots, Bool.not_true, Bool.not_false, decide_true, decide_false, wrap64, obc, vaig, Nat.reduceAdd, Nat.reduceMul, Nat.reduceLeDiff, Nat.reduceEqDiff, ↓reduceIte]
                                  have br := hR.1.beq
                                  have ba := hA.1.beq
                                  have bu := hU.rows.beq
                                  have bd := hD.rows.beq
                                  have hn60 := hal.net.2.1
                                  have he400 := hal.net.2.2.1
                                  have ha3 := hal.count
                                  have hrl := hal.rankLen
                                  have hul := hal.upLen
                                  have hdl2 := hal.downLen
                                  simp only at hn60 he400 ha3 hrl hul hdl2
                                  obtain ⟨us, hU1, hU2, hU3⟩ := hU
                                  obtain ⟨ds, hD1, hD2, hD3⟩ := hD
                                  refine cloneE_ret hE.1 (by omega) fun e1 Hf kf of => ?_
                                  have De := Dc.kept kf
                                  have obe := De.ob
                                  simp (disch := first | omega | (simp only [next_new, next_upd] <;> omega) | fail) only [vai, vaim, vaic, bots, Bool.not_true, Bool.not_false, decide_true, decide_false, wrap64, obe, reK_same br, reK_same ba, reK_same bu, reK_same bd, Nat.reduceAdd, Nat.reduceMul, Nat.reduceLeDiff, Nat.reduceEqDiff, ↓reduceIte]
                                  refine cloneI_ret (hR.1.kept kf) (by omega) fun x1 Hg kg og => ?_
                                  have Df := De.kept kg
                                  have obf := Df.ob
                                  have kfg := kf.trans kg
                                  simp (disch := first | omega | (simp only [next_new, next_upd] <;> omega) | fail) only [vai, vaim, vaic, bots, Bool.not_true, Bool.not_false, decide_true, decide_false, wrap64, obf, reK_same br, reK_same ba, reK_same bu, reK_same bd, Nat.reduceAdd, Nat.reduceMul, Nat.reduceLeDiff, Nat.reduceEqDiff, ↓reduceIte]
                                  refine cloneA_ret (hA.1.kept kfg) (by omega) fun a1 Hh kh oh => ?_
                                  have Dg := Df.kept kh
                                  have obg := Dg.ob
                                  have kfh := kfg.trans kh
                                  simp (disch := first | omega | (simp only [next_new, next_upd] <;> omega) | fail) only [vai, vaim, vaic, bots, Bool.not_true, Bool.not_false, decide_true, decide_false, wrap64, obg, reK_same br, reK_same ba, reK_same bu, reK_same bd, Nat.reduceAdd, Nat.reduceMul, Nat.reduceLeDiff, Nat.reduceEqDiff, ↓reduceIte]
                                  refine cloneR_ret (hU1.1.kept kfh) (by omega) fun u1 Hi ki oi => ?_
                                  have Dh := Dg.kept ki
                                  have obh := Dh.ob
                                  have kfi := kfh.trans ki
                                  simp (disch := first | omega | (simp only [next_new, next_upd] <;> omega) | fail) only [vai, vaim, vaic, bots, Bool.not_true, Bool.not_false, decide_true, decide_false, wrap64, obh, reK_same br, reK_same ba, reK_same bu, reK_same bd, Nat.reduceAdd, Nat.reduceMul, Nat.reduceLeDiff, Nat.reduceEqDiff, ↓reduceIte]
                                  refine cloneR_ret (hD1.1.kept kfi) (by omega) fun d1 Hj kj oj => ?_
                                  have Di := Dh.kept kj
                                  have obi := Di.ob
                                  have opi := Di.op
                                  have kfj := kfi.trans kj
                                  have ce := of.cells
                                  have cx := og.cells
                                  have ca := oh.cells
                                  have cu := oi.cells
                                  have cd := oj.cells
                                  have nHc := Dc.lt
                                  have nf := kf.next
                                  have ng := kg.next
                                  have nh := kh.next
                                  have ni := ki.next
                                  have fe := (own_fin (w := w) of (by omega)).M ((kg.trans kh).trans (ki.trans kj)) (fun j h => h.elim)
                                  have fx := (own_fin (w := w) og (by omega)).M (kh.trans (ki.trans kj)) (fun j h => h.elim)
                                  have fa := (own_fin (w := w) oh (by omega)).M (ki.trans kj) (fun j h => h.elim)
                                  have fu := (own_fin (w := w) oi (by omega)).M kj (fun j h => h.elim)
                                  have fd := own_fin (w := w) oj (by omega)
                                  have hqp := Di.lq
                                  simp (disch := first | omega | (simp only [next_new, next_upd] <;> omega) | fail) only [vai, vaim, vaic, bots, Bool.not_true, Bool.not_false, decide_true, decide_false, wrap64, obi, opi, ce, cx, ca, cu, cd, vaig, Nat.reduceAdd, Nat.reduceMul, Nat.reduceLeDiff, Nat.reduceEqDiff, ↓reduceIte]
                                  refine hq1 _ hraw hal e1 x1 a1 u1 d1 _ ?_ ?_
                                  · repeat (first | exact Di.keep | refine Keep.upd ?_ (.inl (by omega)) _)
                                  · refine IdxAt.fin (w := w) (Hs := Hj) ?_ fe fx fa ⟨us, fu, hU2, fun a r l z1 z2 => (hU3 a r l z1 z2).M kfj (fun j h => h.elim)⟩ ⟨ds, fd, hD2, fun a r l z1 z2 => (hD3 a r l z1 z2).M kfj (fun j h => h.elim)⟩
                                    repeat (first | exact Keep.refl _ _ | refine Keep.upd ?_ (.inr (by omega)) _)
  · intro hpx
    have hpx' : ¬ b.take 4 = [77, 73, 88, 49] := hpx
    have cv := hb.1.cells
    simp (disch := first | omega | (simp only [next_new, next_upd] <;> omega) | fail) only [vai, vaim, vaic, bots, Bool.not_true, Bool.not_false, decide_true, decide_false, wrap64, vaig, cv, Nat.reduceAdd, Nat.reduceMul, Nat.reduceLeDiff, Nat.reduceEqDiff, ↓reduceIte]
    refine hq0 (fun x hx => ?_) _ ((k0.new _).upd (id := H.next) (.inl (Nat.le_refl _)) _)
    unfold rawOf at hx
    rw [if_neg hpx'] at hx
    cases hx
end Go.Proofs.Ytknhlpmmalcchaa

namespace Go.Proofs.Ytknhlpmmalcchaa
open Go Go.VAI
set_option linter.unusedSimpArgs false

/-! ### what is written is read -/
theorem wrap8 (n : Int) : IntKind.u8.wrap n = n % 256 := rfl
theorem foursOf_cons (v : Int) (vs l : List Int) : foursOf (v :: vs) ++ l = fourOf v ++ (foursOf vs ++ l) := by simp [foursOf]
theorem foursOf_nil (l : List Int) : foursOf [] ++ l = l := rfl
/-! ### reading on -/
structure Reads {α : Type} (f : RS → α × RS) : Prop where
  bad : ∀ s, s.bad = true → (f s).2.bad = true
  ext : ∀ s, (f s).2.bad = false → ∀ r, f ⟨s.left ++ r, s.bad⟩ = ((f s).1, ⟨(f s).2.left ++ r, (f s).2.bad⟩)
def andThen {α β : Type} (f : RS → α × RS) (g : α → RS → β × RS) (s : RS) : β × RS := g (f s).1 (f s).2
theorem Reads.bind {α β : Type} {f : RS → α × RS} {g : α → RS → β × RS} (hf : Reads f) (hg : ∀ a, Reads (g a)) : Reads (andThen f g) := by
  refine ⟨fun s h => (hg _).bad _ (hf.bad s h), fun s h r => ?_⟩
  have hb : (f s).2.bad = false := by
    cases hx : (f s).2.bad with
    | false => rfl
    | true =>
      have := (hg (f s).1).bad _ hx
      unfold andThen at h
      rw [h] at this; cases this
  unfold andThen at h ⊢
  rw [hf.ext s hb r]
  exact (hg _).ext _ h r
theorem Reads.done {α : Type} (a : α) : Reads (fun s : RS => (a, s)) := ⟨fun s h => h, fun s h r => rfl⟩
theorem reads_four : Reads rFour := by
  refine ⟨fun s h => ?_, fun s h r => ?_⟩
  · obtain ⟨left, bad⟩ := s
    simp only at h; subst h
    match left with
    | [] => rfl
    | [_] => rfl
    | [_, _] => rfl
    | [_, _, _] => rfl
    | _ :: _ :: _ :: _ :: _ => rfl
  · obtain ⟨left, bad⟩ := s
    match left, h with
    | [], h => simp [rFour] at h
    | [_], h => simp [rFour] at h
    | [_, _], h => simp [rFour] at h
    | [_, _, _], h => simp [rFour] at h
    | _ :: _ :: _ :: _ :: _, h => rfl
theorem reads_count (size : Nat) : Reads (rCount size) := by
  refine ⟨fun s h => ?_, fun s h r => ?_⟩
  · unfold rCount
    simp only
    split
    · rfl
    · exact reads_four.bad s h
  · unfold rCount at h ⊢
    simp only at h ⊢
    by_cases hc : (((rFour s).2.left.length / size : Nat) : Int) < (rFour s).1
    · rw [if_pos hc] at h; cases h
    · rw [if_neg hc] at h
      have e := reads_four.ext s h r
      rw [if_neg hc, e]
      simp only
      rw [if_neg]
      intro hh
      have : (rFour s).2.left.length / size ≤ ((rFour s).2.left ++ r).length / size := Nat.div_le_div_right (by simp)
      omega
theorem rep_eq {α : Type} (f : RS → α × RS) (n : Nat) : rep f (n + 1) = andThen (rep f n) fun l => andThen f fun a s => (l ++ [a], s) := rfl
theorem reads_rep {α : Type} {f : RS → α × RS} (hf : Reads f) : ∀ n, Reads (rep f n)
  | 0 => Reads.done []
  | n + 1 => by
    rw [rep_eq]
    exact (reads_rep hf n).bind fun l => hf.bind fun a => Reads.done _
theorem rEdge_eq : rEdge = andThen rFour fun a => andThen rFour fun b => andThen rFour fun c => andThen rFour fun d s => (⟨a, b, c, d⟩, s) := rfl
theorem reads_edge : Reads rEdge := by
  rw [rEdge_eq]
  exact reads_four.bind fun a => reads_four.bind fun b => reads_four.bind fun c => reads_four.bind fun d => Reads.done _
theorem rRank_eq : rRank = andThen rFour fun a s => (a - 1, s) := rfl
theorem reads_rank : Reads rRank := by
  rw [rRank_eq]
  exact reads_four.bind fun a => Reads.done _
theorem rArc_eq : rArc = andThen rFour fun a => andThen rFour fun b => andThen rFour fun c => andThen rFour fun d => andThen rFour fun e => andThen rFour fun f => andThen rFour fun g => andThen rFour fun h s => (⟨a, b, c, orI .i64 (shlI .i64 d 32) e, f - 1, g, h⟩, s) := rfl
theorem reads_arc : Reads rArc := by
  rw [rArc_eq]
  exact reads_four.bind fun a => reads_four.bind fun b => reads_four.bind fun c => reads_four.bind fun d => reads_four.bind fun e => reads_four.bind fun f => reads_four.bind fun g => reads_four.bind fun h => Reads.done _
theorem rList_eq : rList = andThen (rCount 4) fun n => rep rFour n.toNat := rfl
theorem reads_list : Reads rList := by
  rw [rList_eq]
  exact (reads_count 4).bind fun n => reads_rep reads_four n.toNat
end Go.Proofs.Ytknhlpmmalcchaa

namespace Go.Proofs.Ytknhlpmmalcchaa
open Go Go.VAI
set_option linter.unusedSimpArgs false

end Go.Proofs.Ytknhlpmmalcchaa

namespace Go.Proofs.Ytknhlpmmalcchaa
open Go Go.VAI
set_option linter.unusedSimpArgs false

/-! ### what is read is what was written -/
theorem Bytes.drop' {a b : List Int} (h : Bytes (a ++ b)) : Bytes b := fun x hx => h x (by simp [hx])
theorem nbad {α : Type} {f : RS → α × RS} (hf : Reads f) {s : RS} (h : (f s).2.bad = false) : s.bad = false := by
  cases hx : s.bad with
  | false => rfl
  | true => have := hf.bad s hx; rw [h] at this; cases this
/-- What a reader takes is what a writer lays. -/
def Writes {α : Type} (f : RS → α × RS) (B : α → List Int) : Prop := ∀ s, Bytes s.left → (f s).2.bad = false → s.left = B (f s).1 ++ (f s).2.left
theorem Writes.bytes {α : Type} {f : RS → α × RS} {B : α → List Int} (h : Writes f B) {s : RS} (hb : Bytes s.left) (hn : (f s).2.bad = false) : Bytes (f s).2.left := by
  have := h s hb hn
  rw [this] at hb
  exact hb.drop'
theorem Writes.bind {α β : Type} {f : RS → α × RS} {g : α → RS → β × RS} {B : α → List Int} {C : α → β → List Int} (hf : Writes f B) (hg : ∀ a, Writes (g a) (C a)) (hr : ∀ a, Reads (g a)) : ∀ s, Bytes s.left → (andThen f g s).2.bad = false → s.left = B (f s).1 ++ (C (f s).1 (andThen f g s).1 ++ (andThen f g s).2.left) := by
  intro s hb hn
  have h1 : (f s).2.bad = false := nbad (hr _) hn
  have h2 := hf s hb h1
  have h3 := hg (f s).1 (f s).2 (hf.bytes hb h1) hn
  conv => lhs; rw [h2]
  congr 1
theorem fourOf_num {a b c d : Int} (ha : 0 ≤ a ∧ a < 256) (hb : 0 ≤ b ∧ b < 256) (hc : 0 ≤ c ∧ c < 256) (hd : 0 ≤ d ∧ d < 256) : fourOf (a * 16777216 + b * 65536 + c * 256 + d) = [a, b, c, d] := by
  generalize hv : a * 16777216 + b * 65536 + c * 256 + d = v
  have s24 : shrI .i64 v 24 = v / 16777216 := by
    show v.fdiv (2 ^ (Nat.min (24 : Int).toNat 64)) = _
    rw [show (2 ^ (Nat.min (24 : Int).toNat 64) : Int) = 16777216 from by decide, Int.fdiv_eq_ediv_of_nonneg _ (by omega)]
  have s16 : shrI .i64 v 16 = v / 65536 := by
    show v.fdiv (2 ^ (Nat.min (16 : Int).toNat 64)) = _
    rw [show (2 ^ (Nat.min (16 : Int).toNat 64) : Int) = 65536 from by decide, Int.fdiv_eq_ediv_of_nonneg _ (by omega)]
  have s8 : shrI .i64 v 8 = v / 256 := by
    show v.fdiv (2 ^ (Nat.min (8 : Int).toNat 64)) = _
    rw [show (2 ^ (Nat.min (8 : Int).toNat 64) : Int) = 256 from by decide, Int.fdiv_eq_ediv_of_nonneg _ (by omega)]
  unfold fourOf
  rw [wrap8, wrap8, wrap8, wrap8, s24, s16, s8]
  simp only [List.cons.injEq, and_true]
  omega
theorem writes_four : Writes rFour fourOf := by
  intro s hb hn
  obtain ⟨left, bad⟩ := s
  match left, hb, hn with
  | [], hb, hn => simp [rFour] at hn
  | [_], hb, hn => simp [rFour] at hn
  | [_, _], hb, hn => simp [rFour] at hn
  | [_, _, _], hb, hn => simp [rFour] at hn
  | a :: b :: c :: d :: l, hb, hn =>
    have d0 := hb a (by simp)
    have d1 := hb b (by simp)
    have d2 := hb c (by simp)
    have d3 := hb d (by simp)
    show _ = fourOf (numOf a b c d) ++ l
    rw [numOf_eq d0 d1 d2 d3, fourOf_num d0 d1 d2 d3]
    rfl
theorem writes_count (size : Nat) : Writes (rCount size) fourOf := by
  intro s hb hn
  unfold rCount at hn ⊢
  simp only at hn ⊢
  by_cases hc : (((rFour s).2.left.length / size : Nat) : Int) < (rFour s).1
  · rw [if_pos hc] at hn; cases hn
  · rw [if_neg hc] at hn ⊢
    exact writes_four s hb hn
theorem writes_rank : Writes rRank rankB := by
  intro s hb hn
  have := writes_four s hb hn
  show _ = foursOf [(rFour s).1 - 1 + 1] ++ (rFour s).2.left
  rw [Int.sub_add_cancel]
  simpa [foursOf] using this
theorem writes_edge : Writes rEdge edgeB := by
  intro s hb hn
  have n4 : (rFour (rFour (rFour (rFour s).2).2).2).2.bad = false := hn
  have n3 := nbad reads_four n4
  have n2 := nbad reads_four n3
  have n1 := nbad reads_four n2
  have e1 := writes_four s hb n1
  have b1 := writes_four.bytes hb n1
  have e2 := writes_four _ b1 n2
  have b2 := writes_four.bytes b1 n2
  have e3 := writes_four _ b2 n3
  have b3 := writes_four.bytes b2 n3
  have e4 := writes_four _ b3 n4
  show _ = foursOf [(rFour s).1, (rFour (rFour s).2).1, (rFour (rFour (rFour s).2).2).1, (rFour (rFour (rFour (rFour s).2).2).2).1] ++ (rFour (rFour (rFour (rFour s).2).2).2).2.left
  rw [foursOf_cons, foursOf_cons, foursOf_cons, foursOf_cons, foursOf_nil, ← e4, ← e3, ← e2, ← e1]
theorem hiLo {h l : Int} (hh : 0 ≤ h ∧ h < 4294967296) (hl : 0 ≤ l ∧ l < 4294967296) : orI .i64 (shlI .i64 h 32) l = IntKind.i64.wrap (h * 4294967296 + l) := by
  obtain ⟨m, rfl⟩ : ∃ m : Nat, h = m := ⟨h.toNat, by omega⟩
  obtain ⟨n, rfl⟩ : ∃ n : Nat, l = n := ⟨l.toNat, by omega⟩
  have hm : m < 4294967296 := by omega
  have hn : n < 4294967296 := by omega
  have e32 : (2 : Int) ^ (Nat.min (32 : Int).toNat IntKind.i64.bits) = 4294967296 := by decide
  unfold shlI orI
  rw [e32]
  have e64 : (2 : Int) ^ 64 = 18446744073709551616 := by decide
  have e63 : (2 : Int) ^ (64 - 1) = 9223372036854775808 := by decide
  have t1 : (BitVec.ofInt IntKind.i64.bits (IntKind.i64.wrap ((m : Int) * 4294967296))).toNat = m * 4294967296 := by
    show (BitVec.ofInt 64 (IntKind.i64.wrap ((m : Int) * 4294967296))).toNat = m * 4294967296
    rw [BitVec.toNat_ofInt]
    have : IntKind.i64.wrap ((m : Int) * 4294967296) % ((2 ^ 64 : Nat) : Int) = ((m * 4294967296 : Nat) : Int) := by
      simp only [IntKind.wrap, IntKind.bits, IntKind.signed, Bool.true_and, e64, e63, decide_eq_true_eq]
      have : ((2 ^ 64 : Nat) : Int) = 18446744073709551616 := by decide
      rw [this]
      split <;> omega
    rw [this, Int.toNat_natCast]
  have t2 : (BitVec.ofInt IntKind.i64.bits ((n : Nat) : Int)).toNat = n := by
    show (BitVec.ofInt 64 ((n : Nat) : Int)).toNat = n
    rw [BitVec.ofInt_natCast, BitVec.toNat_ofNat]
    exact Nat.mod_eq_of_lt (Nat.lt_trans hn (by decide))
  rw [BitVec.toNat_or, t1, t2]
  have e2 : m * 4294967296 ||| n = m * 4294967296 + n := by
    have := Nat.shiftLeft_add_eq_or_of_lt (i := 32) (b := n) (by simpa using hn) m
    rw [Nat.shiftLeft_eq] at this
    exact this.symm
  rw [e2]
  congr 1
theorem sh24 (z : Int) : shrI .i64 z 24 = z / 16777216 := by
  show z.fdiv (2 ^ (Nat.min (24 : Int).toNat 64)) = _
  rw [show (2 ^ (Nat.min (24 : Int).toNat 64) : Int) = 16777216 from by decide, Int.fdiv_eq_ediv_of_nonneg _ (by omega)]
theorem sh16 (z : Int) : shrI .i64 z 16 = z / 65536 := by
  show z.fdiv (2 ^ (Nat.min (16 : Int).toNat 64)) = _
  rw [show (2 ^ (Nat.min (16 : Int).toNat 64) : Int) = 65536 from by decide, Int.fdiv_eq_ediv_of_nonneg _ (by omega)]
theorem sh8 (z : Int) : shrI .i64 z 8 = z / 256 := by
  show z.fdiv (2 ^ (Nat.min (8 : Int).toNat 64)) = _
  rw [show (2 ^ (Nat.min (8 : Int).toNat 64) : Int) = 256 from by decide, Int.fdiv_eq_ediv_of_nonneg _ (by omega)]
theorem sh32 (z : Int) : shrI .i64 z 32 = z / 4294967296 := by
  show z.fdiv (2 ^ (Nat.min (32 : Int).toNat 64)) = _
  rw [show (2 ^ (Nat.min (32 : Int).toNat 64) : Int) = 4294967296 from by decide, Int.fdiv_eq_ediv_of_nonneg _ (by omega)]
theorem fourOf_div (z : Int) : fourOf z = [z / 16777216 % 256, z / 65536 % 256, z / 256 % 256, z % 256] := by
  unfold fourOf
  rw [wrap8, wrap8, wrap8, wrap8, sh24, sh16, sh8]
theorem fourOf_cong {a b k : Int} (h : a = b + 4294967296 * k) : fourOf a = fourOf b := by
  rw [fourOf_div, fourOf_div]
  have h1 : a / 16777216 % 256 = b / 16777216 % 256 := by omega
  have h2 : a / 65536 % 256 = b / 65536 % 256 := by omega
  have h3 : a / 256 % 256 = b / 256 % 256 := by omega
  have h4 : a % 256 = b % 256 := by omega
  rw [h1, h2, h3, h4]
theorem foursOf_hiLo {h l : Int} (hh : 0 ≤ h ∧ h < 4294967296) (hl : 0 ≤ l ∧ l < 4294967296) : foursOf [shrI .i64 (orI .i64 (shlI .i64 h 32) l) 32, orI .i64 (shlI .i64 h 32) l] = foursOf [h, l] := by
  rw [hiLo hh hl]
  generalize hv : IntKind.i64.wrap (h * 4294967296 + l) = v
  have e64 : (2 : Int) ^ 64 = 18446744073709551616 := by decide
  have e63 : (2 : Int) ^ (64 - 1) = 9223372036854775808 := by decide
  have hv2 : v = h * 4294967296 + l ∨ v = h * 4294967296 + l - 18446744073709551616 := by
    rw [← hv]
    simp only [IntKind.wrap, IntKind.bits, IntKind.signed, Bool.true_and, e64, e63, decide_eq_true_eq]
    split <;> omega
  rw [sh32]
  have f1 : fourOf (v / 4294967296) = fourOf h := by
    rcases hv2 with e | e
    · exact fourOf_cong (k := 0) (by omega)
    · exact fourOf_cong (k := -1) (by omega)
  have f2 : fourOf v = fourOf l := by
    rcases hv2 with e | e
    · exact fourOf_cong (k := h) (by omega)
    · exact fourOf_cong (k := h - 4294967296) (by omega)
  simp only [foursOf, List.flatMap_cons, List.flatMap_nil, f1, f2]
/-- What a reader takes, by what it has read. -/
def Takes {β : Type} (h : RS → β × RS) (R : β → List Int → Prop) : Prop := ∀ s, Bytes s.left → (h s).2.bad = false → ∃ l, R (h s).1 l ∧ s.left = l ++ (h s).2.left
theorem Takes.done {β : Type} (x : β) : Takes (fun s : RS => (x, s)) (fun r l => r = x ∧ l = []) := fun s _ _ => ⟨[], ⟨rfl, rfl⟩, rfl⟩
theorem Takes.bind {α β : Type} {f : RS → α × RS} {g : α → RS → β × RS} {R1 : α → List Int → Prop} {R2 : α → β → List Int → Prop} (hf : Takes f R1) (hg : ∀ a, Takes (g a) (R2 a)) (hr : ∀ a, Reads (g a)) : Takes (andThen f g) (fun r l => ∃ a l1 l2, R1 a l1 ∧ R2 a r l2 ∧ l = l1 ++ l2) := by
  intro s hb hn
  have h1 : (f s).2.bad = false := nbad (hr _) hn
  obtain ⟨l1, q1, e1⟩ := hf s hb h1
  have hb2 : Bytes (f s).2.left := by
    rw [e1] at hb
    exact hb.drop'
  obtain ⟨l2, q2, e2⟩ := hg (f s).1 (f s).2 hb2 hn
  refine ⟨l1 ++ l2, ⟨(f s).1, l1, l2, q1, q2, rfl⟩, ?_⟩
  rw [e1, e2, List.append_assoc]
  rfl
theorem takes_four : Takes rFour (fun a l => l = fourOf a ∧ 0 ≤ a ∧ a < 4294967296) := fun s hb hn => ⟨_, ⟨rfl, rFour_bd hb⟩, writes_four s hb hn⟩
theorem takes_arc : Takes rArc (fun r l => ∃ a b c d e f g h, r = ⟨a, b, c, orI .i64 (shlI .i64 d 32) e, f - 1, g, h⟩ ∧ (0 ≤ d ∧ d < 4294967296) ∧ (0 ≤ e ∧ e < 4294967296) ∧ l = fourOf a ++ (fourOf b ++ (fourOf c ++ (fourOf d ++ (fourOf e ++ (fourOf f ++ (fourOf g ++ fourOf h))))))) := by
  rw [rArc_eq]
  have key := takes_four.bind (fun a => takes_four.bind (fun b => takes_four.bind (fun c => takes_four.bind (fun d => takes_four.bind (fun e => takes_four.bind (fun f => takes_four.bind (fun g => takes_four.bind (fun h => Takes.done (⟨a, b, c, orI .i64 (shlI .i64 d 32) e, f - 1, g, h⟩ : Arc))
    (fun h => Reads.done _)) (fun g => reads_four.bind fun h => Reads.done _)) (fun f => reads_four.bind fun g => reads_four.bind fun h => Reads.done _)) (fun e => reads_four.bind fun f => reads_four.bind fun g => reads_four.bind fun h => Reads.done _)) (fun d => reads_four.bind fun e => reads_four.bind fun f => reads_four.bind fun g => reads_four.bind fun h => Reads.done _)) (fun c => reads_four.bind fun d => reads_four.bind fun e => reads_four.bind fun f => reads_four.bind fun g => reads_four.bind fun h => Reads.done _)) (fun b => reads_four.bind fun c => reads_four.bind fun d => reads_four.bind fun e => reads_four.bind fun f => reads_four.bind fun g => reads_four.bind fun h => Reads.done _)) (fun a => reads_four.bind fun b => reads_four.bind fun c => reads_four.bind fun d => reads_four.bind fun e => reads_four.bind fun f => reads_four.bind fun g => reads_four.bind fun h => Reads.done _)
  intro s hb hn
  obtain ⟨l, ⟨a, l1, m1, ⟨rfl, _⟩, ⟨b, l2, m2, ⟨rfl, _⟩, ⟨c, l3, m3, ⟨rfl, _⟩, ⟨d, l4, m4, ⟨rfl, hd⟩, ⟨e, l5, m5, ⟨rfl, he⟩, ⟨f, l6, m6, ⟨rfl, _⟩, ⟨g, l7, m7, ⟨rfl, _⟩, ⟨h, l8, m8, ⟨rfl, _⟩, ⟨hr, rfl⟩, rfl⟩, rfl⟩, rfl⟩, rfl⟩, rfl⟩, rfl⟩, rfl⟩, rfl⟩, hl⟩ := key s hb hn
  refine ⟨_, ⟨a, b, c, d, e, f, g, h, hr, hd, he, rfl⟩, ?_⟩
  simpa only [List.append_nil] using hl
theorem writes_arc : Writes rArc arcB := by
  intro s hb hn
  obtain ⟨l, ⟨a, b, c, d, e, f, g, h, hr, hd, he, rfl⟩, hl⟩ := takes_arc s hb hn
  rw [hr, hl]
  have hh := foursOf_hiLo hd he
  simp only [arcB, hh, Int.sub_add_cancel, List.append_assoc, foursOf_cons, foursOf_nil]
theorem writes_rep {α : Type} {f : RS → α × RS} {B : α → List Int} (hf : Writes f B) (hr : Reads f) : ∀ n, Writes (rep f n) (fun l => l.flatMap B)
  | 0 => fun s _ _ => rfl
  | n + 1 => by
    intro s hb hn
    have n1 : (rep f n s).2.bad = false := nbad hr hn
    have e1 := writes_rep hf hr n s hb n1
    have b1 := (writes_rep hf hr n).bytes hb n1
    have e2 := hf _ b1 hn
    show _ = ((rep f n s).1 ++ [(f (rep f n s).2).1]).flatMap B ++ (f (rep f n s).2).2.left
    rw [List.flatMap_append, List.append_assoc]
    simp only [List.flatMap_cons, List.flatMap_nil, List.append_nil]
    rw [← e2]
    exact e1
theorem rCount_len {size : Nat} {s : RS} (hb : Bytes s.left) {α : Type} {f : RS → α × RS} : (((rep f (rCount size s).1.toNat (rCount size s).2).1.length : Nat) : Int) = (rCount size s).1 := by
  rw [rep_length]
  have := rCount_bd (size := size) hb
  omega
theorem writes_list : Writes rList rowB := by
  intro s hb hn
  have n1 : (rCount 4 s).2.bad = false := nbad (reads_rep reads_four _) hn
  have e1 := writes_count 4 s hb n1
  have b1 := (writes_count 4).bytes hb n1
  have e2 := writes_rep writes_four reads_four _ _ b1 hn
  have hl : (((rList s).1.length : Nat) : Int) = (rCount 4 s).1 := rCount_len hb
  show _ = rowB (rList s).1 ++ (rList s).2.left
  unfold rowB
  rw [hl, foursOf_cons, List.append_assoc]
  have e3 : fourOf (rCount 4 s).1 ++ (foursOf [] ++ (foursOf (rList s).1 ++ (rList s).2.left)) = s.left := by
    rw [foursOf_nil]
    rw [e1]
    congr 1
    exact e2.symm
  simpa [foursOf] using e3.symm
theorem raw_only {b : List Int} {x : Idx} (hb : Bytes b) (h : rawOf b = some x) : encodeOf x = b := by
  unfold rawOf at h
  split at h
  · rename_i h4
    have hb0 : Bytes (b.drop 4) := fun y hy => hb y (List.mem_of_mem_drop hy)
    have hcut : b = [77, 73, 88, 49] ++ b.drop 4 := by rw [← h4, List.take_append_drop]
    generalize hs0 : (⟨b.drop 4, false⟩ : RS) = s0 at h
    have hb0' : Bytes s0.left := by rw [← hs0]; exact hb0
    have hl0 : s0.left = b.drop 4 := by rw [← hs0]
    simp only at h
    split at h
    · cases h
    · rename_i c1
      split at h
      · cases h
      · rename_i c2
        injection h with h
        generalize h1 : rFour s0 = r1 at *
        generalize h2 : rCount 16 r1.2 = r2 at *
        generalize h3 : rep rEdge r2.1.toNat r2.2 = r3 at *
        generalize h5 : rep rRank r1.1.toNat r3.2 = r5 at *
        generalize h6 : rCount 32 r5.2 = r6 at *
        generalize h7 : rep rArc r6.1.toNat r6.2 = r7 at *
        generalize h8 : rep rList r1.1.toNat r7.2 = r8 at *
        generalize h9 : rep rList r1.1.toNat r8.2 = r9 at *
        have n9 : r9.2.bad = false := by
          cases hx : r9.2.bad with
          | false => rfl
          | true => exact (c2 (.inl hx)).elim
        have l9 : r9.2.left = [] := List.eq_nil_of_length_eq_zero (by
          have : ¬ 0 < r9.2.left.length := fun hh => c2 (.inr hh)
          omega)
        have n8 : r8.2.bad = false := nbad (reads_rep reads_list _) (by rw [h9]; exact n9)
        have n7 : r7.2.bad = false := nbad (reads_rep reads_list _) (by rw [h8]; exact n8)
        have n6 : r6.2.bad = false := nbad (reads_rep reads_arc _) (by rw [h7]; exact n7)
        have n5 : r5.2.bad = false := nbad (reads_count 32) (by rw [h6]; exact n6)
        have n3 : r3.2.bad = false := nbad (reads_rep reads_rank _) (by rw [h5]; exact n5)
        have n2 : r2.2.bad = false := nbad (reads_rep reads_edge _) (by rw [h3]; exact n3)
        have n1 : r1.2.bad = false := nbad (reads_count 16) (by rw [h2]; exact n2)
        have e1 := writes_four s0 hb0' (by rw [h1]; exact n1)
        have b1 := writes_four.bytes hb0' (by rw [h1]; exact n1)
        rw [h1] at e1 b1
        have e2 := writes_count 16 r1.2 b1 (by rw [h2]; exact n2)
        have b2 := (writes_count 16).bytes b1 (by rw [h2]; exact n2)
        have q2 : (((rep rEdge r2.1.toNat r2.2).1.length : Nat) : Int) = r2.1 := by rw [← h2]; exact rCount_len b1
        rw [h2] at e2 b2
        have e3 := writes_rep writes_edge reads_edge _ r2.2 b2 (by rw [h3]; exact n3)
        have b3 := (writes_rep writes_edge reads_edge _).bytes b2 (by rw [h3]; exact n3)
        rw [h3] at e3 b3 q2
        have e5 := writes_rep writes_rank reads_rank _ r3.2 b3 (by rw [h5]; exact n5)
        have b5 := (writes_rep writes_rank reads_rank _).bytes b3 (by rw [h5]; exact n5)
        rw [h5] at e5 b5
        have e6 := writes_count 32 r5.2 b5 (by rw [h6]; exact n6)
        have b6 := (writes_count 32).bytes b5 (by rw [h6]; exact n6)
        have q6 : (((rep rArc r6.1.toNat r6.2).1.length : Nat) : Int) = r6.1 := by rw [← h6]; exact rCount_len b5
        rw [h6] at e6 b6
        have e7 := writes_rep writes_arc reads_arc _ r6.2 b6 (by rw [h7]; exact n7)
        have b7 := (writes_rep writes_arc reads_arc _).bytes b6 (by rw [h7]; exact n7)
        rw [h7] at e7 b7 q6
        have e8 := writes_rep writes_list reads_list _ r7.2 b7 (by rw [h8]; exact n8)
        have b8 := (writes_rep writes_list reads_list _).bytes b7 (by rw [h8]; exact n8)
        rw [h8] at e8 b8
        have e9 := writes_rep writes_list reads_list _ r8.2 b8 (by rw [h9]; exact n9)
        rw [h9, l9] at e9
        subst h
        rw [hcut, ← hl0, e1, e2, e3, e5, e6, e7, e8, e9]
        simp only [encodeOf, q2, q6, foursOf, List.flatMap_cons, List.flatMap_nil, List.append_nil, List.append_assoc]
  · cases h
end Go.Proofs.Ytknhlpmmalcchaa

namespace Go.Proofs.Ytknhlpmmalcchaa
open Go Go.VAI
set_option linter.unusedSimpArgs false

def look1 (x : Option (AVal × AHeap)) : Option (Bool × Nat × Option AObj) :=
  match x with
  | some (.bool b, H) => some (b, H.next, H.obj 0)
  | _ => none
def known26N : Nat := match look1 (callA A 100 26 [] ⟨fun _ => none, 1⟩) with | some (_, n, _) => n | none => 0
theorem e26 (f : Nat → Option AObj) : look1 (callA A 100 26 [] ⟨f, 1⟩) = some (true, known26N, f 0) := by kernel_rfl
theorem known26N_ge : 1 ≤ known26N := by decide +kernel
theorem known26_ret {f : Nat → Option AObj} {Q : AVal → AHeap → Prop} (hq : ∀ H', Keep Nothing ⟨f, 1⟩ H' → Q (.bool true) H') : Ret A 26 [] ⟨f, 1⟩ Q := by
  have h := e26 f
  unfold look1 at h
  split at h
  · rename_i b H' e
    injection h with h
    injection h with h1 h2
    injection h2 with h2 h3
    subst h1
    refine Ret.test (n := 100) (.bool true, H') e (hq H' ⟨by rw [h2]; exact known26N_ge, fun i hi _ => ?_⟩)
    have : i = 0 := by simpa using hi
    subst this; exact h3
  · cases h
end Go.Proofs.Ytknhlpmmalcchaa

namespace Go.Proofs.Ytknhlpmmalcchaa
open Go Go.VAI
set_option linter.unusedSimpArgs false

end Go.Proofs.Ytknhlpmmalcchaa

namespace Go.Proofs.Ytknhlpmmalcchaa
open Go Go.VAI
set_option linter.unusedSimpArgs false

theorem fourOf_bytes (v : Int) : Bytes (fourOf v) := by
  intro b hb
  unfold fourOf at hb
  rw [wrap8, wrap8, wrap8, wrap8] at hb
  simp only [List.mem_cons, List.not_mem_nil, or_false] at hb
  omega
theorem Bytes.app {a b : List Int} (ha : Bytes a) (hb : Bytes b) : Bytes (a ++ b) := fun x hx => (List.mem_append.1 hx).elim (ha x) (hb x)
theorem Bytes.flat {α : Type} {f : α → List Int} {l : List α} (h : ∀ a, Bytes (f a)) : Bytes (l.flatMap f) := fun x hx => by
  obtain ⟨a, _, ha⟩ := List.mem_flatMap.1 hx
  exact h a x ha
theorem foursOf_bytes (l : List Int) : Bytes (foursOf l) := Bytes.flat fourOf_bytes
theorem encode_bytes (x : Idx) : Bytes (encodeOf x) := by
  unfold encodeOf
  have hm : Bytes [77, 73, 88, 49] := by intro b hb; simp at hb; omega
  exact ((((((hm.app (foursOf_bytes _)).app (Bytes.flat fun e => foursOf_bytes _)).app (Bytes.flat fun e => foursOf_bytes _)).app (foursOf_bytes _)).app (Bytes.flat fun a => ((foursOf_bytes _).app (foursOf_bytes _)).app (foursOf_bytes _))).app (Bytes.flat fun e => (foursOf_bytes _).app (foursOf_bytes _))).app (Bytes.flat fun e => (foursOf_bytes _).app (foursOf_bytes _))
end Go.Proofs.Ytknhlpmmalcchaa

namespace Go.Proofs.Ytknhlpmmalcchaa
open Go Go.VAI
set_option linter.unusedSimpArgs false

end Go.Proofs.Ytknhlpmmalcchaa

namespace Go.Proofs.Ytknhlpmmalcchaa
open Go Go.VAI
set_option linter.unusedSimpArgs false

end Go.Proofs.Ytknhlpmmalcchaa

namespace Go.Proofs.Ytknhlpmmalcchaa
open Go Go.VAI
set_option linter.unusedSimpArgs false

end Go.Proofs.Ytknhlpmmalcchaa

namespace Go.Proofs.Ytknhlpmmalcchaa
open Go Go.VAI
set_option linter.unusedSimpArgs false

end Go.Proofs.Ytknhlpmmalcchaa

namespace Go.Proofs.Ytknhlpmmalcchaa
open Go Go.VAI
set_option linter.unusedSimpArgs false

theorem four101_ret {n : Int} {H : AHeap} {Q : AVal → AHeap → Prop} (hq : ∀ v' H', Keep Nothing H H' → Own H.next H' v' 1 (u8s (fourOf n)) → Q v' H') : Ret A 101 [.int .i64 n] H Q := by
  refine Ret.of (fn := F101) rfl ?_
  simp (disch := first | omega | (simp only [next_new, next_upd] <;> omega) | fail) only [vai, vaim, vaic, bots, Bool.not_true, Bool.not_false, decide_true, decide_false, wrap64, F101, Nat.reduceAdd, Nat.reduceMul, Nat.reduceLeDiff, Nat.reduceEqDiff, ↓reduceIte]
  exact hq _ _ ((Keep.refl _ _).new _) (.full (Nat.le_refl _) (by simp only [next_new]; omega) (obj_new_eq rfl) rfl)
theorem put_ret {lo : Nat} {bv sl : AVal} {bs xs : List Int} {H : AHeap} {Q : AVal → AHeap → Prop} (hb : Own lo H bv 1 (u8s bs)) (hlo : lo ≤ H.next) (hr : Row H sl 1 (ints xs)) (hsl : ∀ j, sid sl = some j → sid bv ≠ some j) (hlen : bs.length + 4 * xs.length ≤ 70368744177664)
    (hq : ∀ bv' H', Keep (fun j => sid bv = some j) H H' → Own lo H' bv' 1 (u8s (bs ++ foursOf xs)) → (sid bv' = sid bv ∨ ∃ y, sid bv' = some y ∧ H.next ≤ y) → Q bv' H') : Ret A 73 [bv, sl] H Q := by
  refine Ret.of (fn := F73) rfl ?_
  have hl := hr.len1
  rw [ints_length] at hl
  have nb := hb.notBot
  simp (disch := first | omega | (simp only [next_new, next_upd] <;> omega) | fail) only [vai, vaim, vaic, bots, Bool.not_true, Bool.not_false, decide_true, decide_false, wrap64, F73, Nat.reduceAdd, Nat.reduceMul, Nat.reduceLeDiff, Nat.reduceEqDiff, ↓reduceIte]
  refine wpx_loop (fun m t H' => ∃ (i : Nat) (bv' : AVal), m = xs.length - i ∧ i ≤ xs.length ∧ t = (bv' :: sl :: bots 3 (.int .i64 i :: bots 14 ([])) : Tmps) ∧ Keep (fun j => sid bv = some j) H H' ∧ Own lo H' bv' 1 (u8s (bs ++ foursOf (xs.take i))) ∧ (sid bv' = sid bv ∨ ∃ y, sid bv' = some y ∧ H.next ≤ y)) xs.length ?_ ?_
  · exact ⟨0, bv, rfl, by omega, rfl, .refl _ _, by simpa [foursOf] using hb, .inl rfl⟩
  · rintro m t H1 ⟨i, b1, rfl, hi, rfl, k1, g1, s1⟩
    have n1 := k1.next
    by_cases hc : (i : Int) < xs.length
    · have hil : i < xs.length := by omega
      have hx : xs[i]? = some xs[i] := by simp [hil]
      have hr1 := hr.M k1 (fun j hj e => hsl j hj e)
      obtain ⟨i1, o1, c1, c2, c3⟩ := hr1.int_at (k := .i64) hx
      have hf := foursOf_succ hx
      generalize xs[i] = x at *
      have hfl := foursOf_length (xs.take i)
      rw [List.length_take] at hfl
      simp (disch := first | omega | (simp only [next_new, next_upd] <;> omega) | fail) only [vai, vaim, vaic, bots, Bool.not_true, Bool.not_false, decide_true, decide_false, wrap64, hl, hc, c1, c3, Nat.reduceAdd, Nat.reduceMul, Nat.reduceLeDiff, Nat.reduceEqDiff, ↓reduceIte]
      refine four101_ret fun v2 H2 k2 g2 => ?_
      have n2 := k2.next
      have hfo : (u8s (fourOf x)).length = 4 * 1 := rfl
      simp (disch := first | omega | (simp only [next_new, next_upd] <;> omega) | fail) only [vai, vaim, vaic, bots, Bool.not_true, Bool.not_false, decide_true, decide_false, wrap64, Nat.reduceAdd, Nat.reduceMul, Nat.reduceLeDiff, Nat.reduceEqDiff, ↓reduceIte]
      refine appRow_ret (n := (bs ++ foursOf (xs.take i)).length) (k := 4) (g1.kept k2) g2.row hfo (by omega) (by rw [u8s_length]; omega) (by rw [List.length_append]; omega) (by omega) ?_ (by omega) (Nat.le_refl _) (fun _ _ _ => rfl)
      intro v3 H3 n3 k3 g3 s3
      simp (disch := first | omega | (simp only [next_new, next_upd] <;> omega) | fail) only [vai, vaim, vaic, bots, Bool.not_true, Bool.not_false, decide_true, decide_false, wrap64, Nat.reduceAdd, Nat.reduceMul, Nat.reduceLeDiff, Nat.reduceEqDiff, ↓reduceIte]
      refine ⟨xs.length - (i + 1), by omega, i + 1, v3, rfl, by omega, rfl, ?_, ?_, ?_⟩
      · refine (k1.trans k2.any).trans' (app_keep n3 k3) (fun j hj e => ?_)
        rcases s1 with s1 | ⟨y, s1, hy⟩
        · rw [s1] at e; exact e
        · rw [s1] at e; injection e with e; omega
      · rw [hf, ← List.append_assoc, u8s_append]
        exact g3
      · rcases s3 with ⟨s3, _⟩ | ⟨y, s3, hy⟩
        · rw [s3]; exact s1
        · exact .inr ⟨y, s3, by omega⟩
    · have hi : i = xs.length := by omega
      rw [hi, List.take_length] at g1
      have nb := g1.notBot
      simp (disch := first | omega | (simp only [next_new, next_upd] <;> omega) | fail) only [vai, vaim, vaic, bots, Bool.not_true, Bool.not_false, decide_true, decide_false, wrap64, hl, hc, nb, Nat.reduceAdd, Nat.reduceMul, Nat.reduceLeDiff, Nat.reduceEqDiff, ↓reduceIte]
      exact hq b1 H1 k1 g1 s1
theorem eight74_ret {x : Int} {H : AHeap} {Q : AVal → AHeap → Prop} (hq : ∀ v' H', Keep Nothing H H' → Own H.next H' v' 1 (u8s (foursOf [shrI .i64 x 32, x])) → Q v' H') : Ret A 74 [.int .i64 x] H Q := by
  refine Ret.of (fn := F74) rfl ?_
  simp (disch := first | omega | (simp only [next_new, next_upd] <;> omega) | fail) only [vai, vaim, vaic, bots, Bool.not_true, Bool.not_false, decide_true, decide_false, wrap64, F74, Nat.reduceAdd, Nat.reduceMul, Nat.reduceLeDiff, Nat.reduceEqDiff, ↓reduceIte]
  refine four101_ret fun v1 H1 k1 g1 => ?_
  simp (disch := first | omega | (simp only [next_new, next_upd] <;> omega) | fail) only [vai, vaim, vaic, bots, Bool.not_true, Bool.not_false, decide_true, decide_false, wrap64, Nat.reduceAdd, Nat.reduceMul, Nat.reduceLeDiff, Nat.reduceEqDiff, ↓reduceIte]
  refine four101_ret fun v2 H2 k2 g2 => ?_
  have n1 := k1.next
  have n2 := k2.next
  have hfo : (u8s (fourOf x)).length = 4 * 1 := rfl
  have hfo2 : (u8s (fourOf (shrI .i64 x 32))).length = 4 * 1 := rfl
  simp (disch := first | omega | (simp only [next_new, next_upd] <;> omega) | fail) only [vai, vaim, vaic, bots, Bool.not_true, Bool.not_false, decide_true, decide_false, wrap64, Nat.reduceAdd, Nat.reduceMul, Nat.reduceLeDiff, Nat.reduceEqDiff, ↓reduceIte]
  refine appRow_ret (n := 4) (k := 4) (g1.kept k2) g2.row hfo (by omega) hfo2 (by omega) (by omega) ?_ (by omega) (Nat.le_refl _) (fun _ _ _ => rfl)
  intro v3 H3 n3 k3 g3 s3
  have nb := g3.notBot
  have e : foursOf [shrI .i64 x 32, x] = fourOf (shrI .i64 x 32) ++ fourOf x := by simp [foursOf]
  simp (disch := first | omega | (simp only [next_new, next_upd] <;> omega) | fail) only [vai, vaim, vaic, bots, Bool.not_true, Bool.not_false, decide_true, decide_false, wrap64, nb, Nat.reduceAdd, Nat.reduceMul, Nat.reduceLeDiff, Nat.reduceEqDiff, ↓reduceIte]
  refine hq v3 H3 ((k1.trans k2).trans' (app_keep n3 k3) (fun j hj e => by have := (g1.sid_ge e).1; omega)) ?_
  rw [e, u8s_append]
  exact g3
/-- A writer under way. -/
structure EncR (H0 H : AHeap) (x : List AVal) (bv : AVal) (bs : List Int) : Prop where
  keep : Keep Nothing H0 H
  lt : H0.next < H.next
  box : H.obj H0.next = some (.cells x true)
  own : Own (H0.next + 1) H bv 1 (u8s bs)
theorem EncR.kept {H0 H H' : AHeap} {x : List AVal} {bv : AVal} {bs : List Int} (h : EncR H0 H x bv bs) (hk : Keep Nothing H H') : EncR H0 H' x bv bs := by
  have := h.lt
  exact ⟨h.keep.trans hk, by have := hk.next; omega, by rw [hk.old (by omega)]; exact h.box, h.own.kept hk⟩
theorem EncR.step {H0 H H' : AHeap} {x : List AVal} {bv bv' : AVal} {bs bs' : List Int} (h : EncR H0 H x bv bs) (hk : Keep (fun j => sid bv = some j) H H') (g : Own (H0.next + 1) H' bv' 1 (u8s bs')) : EncR H0 H' x bv' bs' := by
  have hlt := h.lt
  have hs : ∀ j, sid bv = some j → H0.next + 1 ≤ j := fun j hj => (h.own.sid_ge hj).1
  exact ⟨h.keep.trans' hk (fun j hj e => by have := hs j e; omega), by have := hk.next; omega, by rw [hk.obj _ (by omega) (fun e => by have := hs _ e; omega)]; exact h.box, g⟩
theorem putRow_ret {H0 H : AHeap} {x : List AVal} {bv sl : AVal} {bs xs : List Int} {Q : AVal → AHeap → Prop} (h : EncR H0 H x bv bs) (hr : Row H sl 1 (ints xs)) (hsl : ∀ j, sid sl = some j → sid bv ≠ some j)
    (hlen : bs.length + 4 * xs.length ≤ 70368744177664) (hq : ∀ bv' H', EncR H0 H' x bv' (bs ++ foursOf xs) → Keep (fun j => sid bv = some j) H H' → Q bv' H') : Ret A 73 [bv, sl] H Q :=
  put_ret h.own h.lt hr hsl hlen fun bv' H' k g s => hq bv' H' (h.step k g) k
theorem putNew_ret {H0 H1 H : AHeap} {x : List AVal} {bv : AVal} {bs xs : List Int} {y k : Nat} {cap : ACap} {Q : AVal → AHeap → Prop} (h : EncR H0 H1 x bv bs) (hk : Keep Nothing H1 H) (hy : H.obj y = some (.cells (ints xs) true)) (hyn : H1.next ≤ y ∧ y < H.next) (hkk : xs.length = k)
    (hlen : bs.length + 4 * xs.length ≤ 70368744177664) (hq : ∀ bv' H', EncR H0 H' x bv' (bs ++ foursOf xs) → Keep (fun j => sid bv = some j) H H' → Q bv' H') : Ret A 73 [bv, .slice y 0 k cap] H Q := by
  subst hkk
  refine putRow_ret (h.kept hk) (.mk (c := ints xs) hyn.2 (by rw [cells?_of, hy]; rfl) (by rw [ints_length]; omega) (by simp [← ints_length xs])) ?_ hlen hq
  intro j hj
  injection hj with hj
  subst hj
  exact fun e => by have := (h.own.sid_ge e).2; omega
end Go.Proofs.Ytknhlpmmalcchaa
