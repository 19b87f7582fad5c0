/- Steps of the walk. -/
import Derived.Test.YtknhlpmmalcchaaI3Tc
import Derived.Test.YtknhlpmmalcchaaI3Tb
import Derived.KernelRfl
set_option linter.all false
set_option linter.unusedVariables false
set_option linter.unusedSimpArgs false
namespace Go.Proofs.Ytknhlpmmalcchaa
open Go Go.VAI
set_option linter.unusedSimpArgs false

/-- The ends of arcs that may be are vertices. -/
theorem arc_ends {n : Int} {es : List Edge} {arcs : List Arc} (hn : NetOk n es) (h : ∀ (i : Nat) a, arcs[i]? = some a → ArcOk es arcs i a) : ∀ m, ∀ (i : Nat) a, i < m → arcs[i]? = some a → (0 ≤ a.src ∧ a.src < n) ∧ (0 ≤ a.dst ∧ a.dst < n) := by
  intro m
  induction m with
  | zero => intro i a hi; omega
  | succ m ih =>
    intro i a hi ha
    rcases (h i a ha).2 with ⟨h1, h2, h3, h4⟩ | ⟨h1, h2, h3, h4, h5, p, q, h6, h7, h8, h9, h10, h11, h12, h13⟩
    · have := hn.2.2.2 _ (List.mem_of_getElem? h4)
      exact ⟨this.1, this.2.1⟩
    · have e1 := ih _ p (by omega) h6
      have e2 := ih _ q (by omega) h7
      rw [h10] at e1
      rw [h12] at e2
      exact ⟨e1.1, e2.2⟩
theorem at_some {α : Type} {l : List α} {i : Nat} (h : i < l.length) : ∃ x, l[i]? = some x ∧ x ∈ l := ⟨l[i], by simp [h], List.getElem_mem h⟩
set_option maxRecDepth 20000 in
set_option maxHeartbeats 4000000 in
theorem check_ret {ew rv av uv dv : AVal} {x : Idx} {H : AHeap} {Q : AVal → AHeap → Prop} (hx : IdxAt H ew rv av uv dv x) (hnu : ∀ l ∈ x.up, l.length ≤ 4611686018427387904) (hnd : ∀ l ∈ x.down, l.length ≤ 4611686018427387904)
    (hq : ∀ b H', Keep Nothing H H' → Says b (Allowed x) → Q (.bool b) H') : Ret A 54 [.agg [.int .i64 x.n, ew, rv, av, uv, dv]] H Q := by
  refine Ret.of (fn := F54) rfl ?_
  have be := hx.es.beq
  have br : AVal.beq rv rv = true := hx.rank.beq
  have ba : AVal.beq av av = true := hx.arcs.beq
  have bu := hx.up.beq
  have bd := hx.down.beq
  have lr := hx.rank.len1
  rw [ints_length] at lr
  have lu := hx.up.len
  have ld := hx.down.len
  have la := hx.arcs.len (by omega) (arcCells_length x.arcs)
  have bx : AVal.beq (.agg [.int .i64 x.n, ew, rv, av, uv, dv]) (.agg [.int .i64 x.n, ew, rv, av, uv, dv]) = true := by simp [AVal.beq, AVal.beqs, be, br, ba, bu, bd]
  have bn : AVal.beq (.agg [.int .i64 x.n, ew]) (.agg [.int .i64 x.n, ew]) = true := by simp [AVal.beq, AVal.beqs, be]
  simp (disch := first | omega | (simp only [next_new, next_upd] <;> omega) | fail) only [vai, vaim, vaic, bots, Bool.not_true, Bool.not_false, decide_true, decide_false, wrap64, F54, Nat.reduceAdd, Nat.reduceMul, Nat.reduceLeDiff, Nat.reduceEqDiff, ↓reduceIte]
  have k0 : Keep Nothing H (H.new (.cells [.int .i64 x.n, ew, rv, av, uv, dv] true)) := (Keep.refl _ _).new _
  have q0 : (H.new (.cells [.int .i64 x.n, ew, rv, av, uv, dv] true)).obj H.next = some (.cells [.int .i64 x.n, ew, rv, av, uv, dv] true) := obj_new_eq rfl
  refine netcheck_ret (hx.es.kept k0) fun b H1 k1 s1 => ?_
  have n1 := k1.next
  simp only [next_new] at n1
  have q1 := (k1.old (i := H.next) (by simp only [next_new]; omega)).trans q0
  have kA := k0.trans k1
  cases b with
  | false =>
    simp (disch := first | omega | (simp only [next_new, next_upd] <;> omega) | fail) only [vai, vaim, vaic, bots, Bool.not_true, Bool.not_false, decide_true, decide_false, wrap64, q1, reK_same bn, Nat.reduceAdd, Nat.reduceMul, Nat.reduceLeDiff, Nat.reduceEqDiff, ↓reduceIte]
    exact hq _ _ kA (says_no fun h => by have := s1.2 h.net; cases this)
  | true =>
    have hnet := s1.1 rfl
    have hn60 := hnet.2.1
    by_cases c1 : (x.rank.length : Int) = x.n
    · by_cases c2 : (x.up.length : Int) = x.n
      · by_cases c3 : (x.down.length : Int) = x.n
        · by_cases c4 : (300000 : Int) < x.arcs.length
          · simp (disch := first | omega | (simp only [next_new, next_upd] <;> omega) | fail) only [vai, vaim, vaic, bots, Bool.not_true, Bool.not_false, decide_true, decide_false, wrap64, q1, reK_same bn, reK_same br, reK_same bu, reK_same bd, reK_same ba, lr, lu, ld, la, c1, c2, c3, c4, ne_eq, not_true_eq_false, not_false_eq_true, Nat.reduceAdd, Nat.reduceMul, Nat.reduceLeDiff, Nat.reduceEqDiff, ↓reduceIte]
            exact hq _ _ kA (says_no fun h => by have := h.count; omega)
          · simp (disch := first | omega | (simp only [next_new, next_upd] <;> omega) | fail) only [vai, vaim, vaic, bots, Bool.not_true, Bool.not_false, decide_true, decide_false, wrap64, q1, reK_same bn, reK_same br, reK_same bu, reK_same bd, reK_same ba, lr, lu, ld, la, c1, c2, c3, c4, ne_eq, not_true_eq_false, not_false_eq_true, Nat.reduceAdd, Nat.reduceMul, Nat.reduceLeDiff, Nat.reduceEqDiff, ↓reduceIte]
            refine ranks_ret (hx.rank.kept kA) (by have := hnet.2.1; omega) fun b H2 k2 s2 => ?_
            have n2 := k2.next
            have q2 := (k2.old (i := H.next) (by omega)).trans q1
            have kB := kA.trans k2
            cases b with
            | false =>
              simp (disch := first | omega | (simp only [next_new, next_upd] <;> omega) | fail) only [vai, vaim, vaic, bots, Bool.not_true, Bool.not_false, decide_true, decide_false, wrap64, q2, reK_same br, Nat.reduceAdd, Nat.reduceMul, Nat.reduceLeDiff, Nat.reduceEqDiff, ↓reduceIte]
              exact hq _ _ kB (says_no fun h => by have := s2.2 h.ranks; cases this)
            | true =>
              simp (disch := first | omega | (simp only [next_new, next_upd] <;> omega) | fail) only [vai, vaim, vaic, bots, Bool.not_true, Bool.not_false, decide_true, decide_false, wrap64, q2, reK_same br, Nat.reduceAdd, Nat.reduceMul, Nat.reduceLeDiff, Nat.reduceEqDiff, ↓reduceIte]
              have hrk := s2.1 rfl
              have kP : Keep Nothing H ((H2.new (.cells [.int .i64 0, .nilSlice, .nilSlice, .nilSlice, .nilSlice, .nilSlice] true)).upd H2.next (some (.cells [.int .i64 x.n, ew, rv, av, uv, dv] true))) := (kB.new _).upd (.inl (by omega)) _
              have qP : ((H2.new (.cells [.int .i64 0, .nilSlice, .nilSlice, .nilSlice, .nilSlice, .nilSlice] true)).upd H2.next (some (.cells [.int .i64 x.n, ew, rv, av, uv, dv] true))).obj H.next = some (.cells [.int .i64 x.n, ew, rv, av, uv, dv] true) := by rw [obj_upd_ne (by omega), obj_new_ne (by omega)]; exact q2
              have pP : ((H2.new (.cells [.int .i64 0, .nilSlice, .nilSlice, .nilSlice, .nilSlice, .nilSlice] true)).upd H2.next (some (.cells [.int .i64 x.n, ew, rv, av, uv, dv] true))).obj H2.next = some (.cells [.int .i64 x.n, ew, rv, av, uv, dv] true) := obj_upd_eq rfl
              have nP : H2.next < ((H2.new (.cells [.int .i64 0, .nilSlice, .nilSlice, .nilSlice, .nilSlice, .nilSlice] true)).upd H2.next (some (.cells [.int .i64 x.n, ew, rv, av, uv, dv] true))).next := by simp only [next_upd, next_new]; omega
              generalize (H2.new (.cells [.int .i64 0, .nilSlice, .nilSlice, .nilSlice, .nilSlice, .nilSlice] true)).upd H2.next (some (.cells [.int .i64 x.n, ew, rv, av, uv, dv] true)) = H3 at *
              generalize hy : H2.next = y at *
              refine harcs_ret (hx.es.kept kP) (hx.arcs.kept kP) (by omega) fun b H4 k4 s4 => ?_
              have q4 := (k4.old (i := H.next) (by omega)).trans qP
              have p4 := (k4.old nP).trans pP
              have n4 := k4.next
              have kC := kP.trans k4
              cases b with
              | false =>
                simp (disch := first | omega | (simp only [next_new, next_upd] <;> omega) | fail) only [vai, vaim, vaic, bots, Bool.not_true, Bool.not_false, decide_true, decide_false, wrap64, Nat.reduceAdd, Nat.reduceMul, Nat.reduceLeDiff, Nat.reduceEqDiff, ↓reduceIte]
                exact hq _ _ kC (says_no fun h => by have := s4.2 ⟨h.arcs, h.sizes⟩; cases this)
              | true =>
                have harc := s4.1 rfl
                have hends := fun i a h => arc_ends hnet harc.1 (i + 1) i a (by omega) h
                simp (disch := first | omega | (simp only [next_new, next_upd] <;> omega) | fail) only [vai, vaim, vaic, bots, Bool.not_true, Bool.not_false, decide_true, decide_false, wrap64, q4, Nat.reduceAdd, Nat.reduceMul, Nat.reduceLeDiff, Nat.reduceEqDiff, ↓reduceIte]
                refine wpx_loop (fun m t H' => ∃ (i : Nat), m = x.rank.length - i ∧ i ≤ x.rank.length ∧ t = (bots 3 (.ptr y 0 :: .func (.func 97) [] [] :: bots 51 (.int .i64 x.n :: .int .i64 i :: bots 8 ([]))) : Tmps) ∧ Keep Nothing H H' ∧ y < H'.next ∧ H'.obj y = some (.cells [.int .i64 x.n, ew, rv, av, uv, dv] true) ∧ (∀ (v : Nat) l, v < i → x.up[v]? = some l → UpOk x.rank x.arcs v l) ∧ ∀ (v : Nat) l, v < i → x.down[v]? = some l → DownOk x.rank x.arcs v l) x.rank.length ?_ ?_
                · exact ⟨0, rfl, by omega, rfl, kC, by omega, p4, fun v l h => by omega, fun v l h => by omega⟩
                · rintro m t H5 ⟨i, rfl, hi, rfl, k5, n5, q5, hU, hD⟩
                  by_cases hc : (i : Int) < x.n
                  · have hil : i < x.rank.length := by omega
                    obtain ⟨lup, hlu, mlu⟩ := at_some (l := x.up) (i := i) (by omega)
                    obtain ⟨ldn, hld, mld⟩ := at_some (l := x.down) (i := i) (by omega)
                    simp (disch := first | omega | (simp only [next_new, next_upd] <;> omega) | fail) only [vai, vaim, vaic, bots, Bool.not_true, Bool.not_false, decide_true, decide_false, wrap64, hc, q5, Nat.reduceAdd, Nat.reduceMul, Nat.reduceLeDiff, Nat.reduceEqDiff, ↓reduceIte]
                    refine hvertex_ret (hx.es.kept k5) (hx.rank.kept k5) (hx.arcs.kept k5) (hx.up.kept k5) (hx.down.kept k5) hlu hld hil (hnu _ mlu) (hnd _ mld) (fun j a h => by rw [c1]; exact hends j a h) fun b H6 k6 s6 => ?_
                    have n6 := k6.next
                    have q6 := (k6.old n5).trans q5
                    cases b with
                    | true =>
                      have hb := s6.1 rfl
                      simp (disch := first | omega | (simp only [next_new, next_upd] <;> omega) | fail) only [vai, vaim, vaic, bots, Bool.not_true, Bool.not_false, decide_true, decide_false, wrap64, Nat.reduceAdd, Nat.reduceMul, Nat.reduceLeDiff, Nat.reduceEqDiff, ↓reduceIte]
                      refine ⟨x.rank.length - (i + 1), by omega, i + 1, rfl, by omega, rfl, k5.trans k6, by omega, q6, fun v l hv hl => ?_, fun v l hv hl => ?_⟩
                      · by_cases hvi : v = i
                        · subst hvi; rw [hlu] at hl; injection hl with hl; subst hl; exact hb.1
                        · exact hU v l (by omega) hl
                      · by_cases hvi : v = i
                        · subst hvi; rw [hld] at hl; injection hl with hl; subst hl; exact hb.2
                        · exact hD v l (by omega) hl
                    | false =>
                      simp (disch := first | omega | (simp only [next_new, next_upd] <;> omega) | fail) only [vai, vaim, vaic, bots, Bool.not_true, Bool.not_false, decide_true, decide_false, wrap64, Nat.reduceAdd, Nat.reduceMul, Nat.reduceLeDiff, Nat.reduceEqDiff, ↓reduceIte]
                      exact hq _ _ (k5.trans k6) (says_no fun h => by have := s6.2 ⟨h.up i _ hlu, h.down i _ hld⟩; cases this)
                  · simp (disch := first | omega | (simp only [next_new, next_upd] <;> omega) | fail) only [vai, vaim, vaic, bots, Bool.not_true, Bool.not_false, decide_true, decide_false, wrap64, hc, Nat.reduceAdd, Nat.reduceMul, Nat.reduceLeDiff, Nat.reduceEqDiff, ↓reduceIte]
                    refine hq _ _ k5 (says_yes ⟨hnet, c1, by omega, by omega, hrk, by omega, harc.1, harc.2, fun v l hl => hU v l ?_ hl, fun v l hl => hD v l ?_ hl⟩)
                    · have := (List.getElem?_eq_some_iff.1 hl).1; omega
                    · have := (List.getElem?_eq_some_iff.1 hl).1; omega
        · simp (disch := first | omega | (simp only [next_new, next_upd] <;> omega) | fail) only [vai, vaim, vaic, bots, Bool.not_true, Bool.not_false, decide_true, decide_false, wrap64, q1, reK_same bn, reK_same br, reK_same bu, reK_same bd, lr, lu, ld, c1, c2, c3, ne_eq, not_true_eq_false, not_false_eq_true, Nat.reduceAdd, Nat.reduceMul, Nat.reduceLeDiff, Nat.reduceEqDiff, ↓reduceIte]
          exact hq _ _ kA (says_no fun h => c3 (by have := h.downLen; omega))
      · simp (disch := first | omega | (simp only [next_new, next_upd] <;> omega) | fail) only [vai, vaim, vaic, bots, Bool.not_true, Bool.not_false, decide_true, decide_false, wrap64, q1, reK_same bn, reK_same br, reK_same bu, lr, lu, c1, c2, ne_eq, not_true_eq_false, not_false_eq_true, Nat.reduceAdd, Nat.reduceMul, Nat.reduceLeDiff, Nat.reduceEqDiff, ↓reduceIte]
        exact hq _ _ kA (says_no fun h => c2 (by have := h.upLen; omega))
    · simp (disch := first | omega | (simp only [next_new, next_upd] <;> omega) | fail) only [vai, vaim, vaic, bots, Bool.not_true, Bool.not_false, decide_true, decide_false, wrap64, q1, reK_same bn, reK_same br, lr, c1, ne_eq, not_true_eq_false, not_false_eq_true, Nat.reduceAdd, Nat.reduceMul, Nat.reduceLeDiff, Nat.reduceEqDiff, ↓reduceIte]
      exact hq _ _ kA (says_no fun h => c1 h.rankLen)
end Go.Proofs.Ytknhlpmmalcchaa

namespace Go.Proofs.Ytknhlpmmalcchaa
open Go Go.VAI
set_option linter.unusedSimpArgs false

/-- The string of these bytes. -/
def strOf (l : List Int) : ByteArray := ⟨(l.map fun n => UInt8.ofNat n.toNat).toArray⟩
theorem toBytes_u8s : ∀ l : List Int, toBytes (u8s l) = some (l.map fun n => UInt8.ofNat n.toNat)
  | [] => rfl
  | a :: l => by
    have e : toBytes (u8s (a :: l)) = bnd (toBytes (u8s l)) fun r => some (UInt8.ofNat a.toNat :: r) := rfl
    rw [e, toBytes_u8s l]; rfl
theorem row_str {H : AHeap} {v : AVal} {l : List Int} (h : Row H v 1 (u8s l)) : abytesToStr H v = some (.str (strOf l)) := by
  obtain ⟨cs, hcs⟩ : ∃ cs, cs = u8s l := ⟨_, rfl⟩
  rw [← hcs] at h
  cases h with
  | nil =>
    have : l = [] := by
      cases l with
      | nil => rfl
      | cons a l => simp [u8s] at hcs
    subst this; rfl
  | mk hid hc hl he =>
    rename_i id off len cap c
    simp only [Nat.mul_one] at hl he
    simp only [abytesToStr, hc, bnd, if_pos hl, he, hcs, toBytes_u8s]
    rfl
theorem u8_inj {a b : Int} (ha : 0 ≤ a ∧ a < 256) (hb : 0 ≤ b ∧ b < 256) (h : UInt8.ofNat a.toNat = UInt8.ofNat b.toNat) : a = b := by
  have := congrArg UInt8.toNat h
  rw [UInt8.toNat_ofNat', UInt8.toNat_ofNat'] at this
  omega
theorem strOf_inj {l m : List Int} (hl : Bytes l) (hm : Bytes m) (h : strOf l = strOf m) : l = m := by
  have h1 : (l.map fun n => UInt8.ofNat n.toNat) = (m.map fun n => UInt8.ofNat n.toNat) := by
    have := congrArg (fun x : ByteArray => x.data.toList) h
    simpa [strOf] using this
  clear h
  induction l generalizing m with
  | nil =>
    cases m with
    | nil => rfl
    | cons b m => simp at h1
  | cons a l ih =>
    cases m with
    | nil => simp at h1
    | cons b m =>
      rw [List.map_cons, List.map_cons] at h1
      injection h1 with h1 h2
      rw [u8_inj (hl a (by simp)) (hm b (by simp)) h1, ih (fun x hx => hl x (by simp [hx])) (fun x hx => hm x (by simp [hx])) h2]
theorem toList_loop (b : ByteArray) : ∀ (n i : Nat) (r : List UInt8), b.size - i = n → ByteArray.toList.loop b i r = r.reverse ++ b.data.toList.drop i
  | 0, i, r, h => by
    rw [ByteArray.toList.loop, if_neg (by omega)]
    have hs : b.data.toList.length = b.size := rfl
    rw [List.drop_eq_nil_of_le (by omega), List.append_nil]
  | n + 1, i, r, h => by
    have hi : i < b.size := by omega
    have hs : b.data.toList.length = b.size := rfl
    have hg : b.get! i = b.data.toList[i] := by
      show b.data[i]! = _
      rw [getElem!_pos b.data i hi]
      simp
    rw [ByteArray.toList.loop, if_pos hi, toList_loop b n (i + 1) _ (by omega), List.drop_eq_getElem_cons (by omega : i < b.data.toList.length), hg]
    simp
theorem toList_data (b : ByteArray) : b.toList = b.data.toList := by
  rw [ByteArray.toList, toList_loop b b.size 0 [] rfl]; simp
theorem strOf_toList (l : List Int) : (strOf l).toList = l.map fun n => UInt8.ofNat n.toNat := by rw [toList_data]; simp [strOf]
theorem strOf_toList_inj {l m : List Int} (hl : Bytes l) (hm : Bytes m) (h : (strOf l).toList = (strOf m).toList) : l = m := by
  refine strOf_inj hl hm ?_
  rw [strOf_toList, strOf_toList] at h
  unfold strOf
  rw [h]
theorem abin_eql_str {l m : List Int} (hl : Bytes l) (hm : Bytes m) : abin .eql .prim (.str (strOf l)) (.str (strOf m)) = some (.bool (decide (l = m))) := by
  have e : abin .eql .prim (.str (strOf l)) (.str (strOf m)) = some (.bool ((strOf l).toList == (strOf m).toList)) := rfl
  rw [e]
  congr 2
  by_cases h : l = m
  · subst h; simp
  · rw [decide_eq_false h]
    exact beq_false_of_ne fun he => h (strOf_toList_inj hl hm he)
theorem equal_ret {v u : AVal} {l m : List Int} {H : AHeap} {Q : AVal → AHeap → Prop} (hv : Row H v 1 (u8s l)) (hu : Row H u 1 (u8s m)) (hl : Bytes l) (hm : Bytes m) (hq : Q (.bool (decide (l = m))) H) : Ret A 130 [v, u] H Q := by
  refine Ret.of (fn := F130) rfl ?_
  have hs := row_str hv
  have ht := row_str hu
  simp (disch := first | omega | (simp only [next_new, next_upd] <;> omega) | fail) only [vai, vaim, vaic, bots, Bool.not_true, Bool.not_false, decide_true, decide_false, wrap64, F130, hs, ht, abin_eql_str hl hm, Nat.reduceAdd, Nat.reduceMul, Nat.reduceLeDiff, Nat.reduceEqDiff, ↓reduceIte]
  exact hq
theorem u8s_take {l : List Int} {k : Nat} : (u8s l).take k = u8s (l.take k) := by simp [u8s]
theorem u8s_drop {l : List Int} {k : Nat} : (u8s l).drop k = u8s (l.drop k) := by simp [u8s]
theorem hasPrefix_ret {v u : AVal} {l m : List Int} {H : AHeap} {Q : AVal → AHeap → Prop} (hv : RowC H v 1 (u8s l)) (hu : Row H u 1 (u8s m)) (hl : Bytes l) (hm : Bytes m) (hq : Q (.bool (decide (l.take m.length = m))) H) : Ret A 100 [v, u] H Q := by
  refine Ret.of (fn := F100) rfl ?_
  have h1 := hv.1.len1
  have h2 := hu.len1
  rw [u8s_length] at h1 h2
  by_cases hc : (m.length : Int) ≤ l.length
  · obtain ⟨v1, e1, e2, e3⟩ := hv.upto (n := l.length) (k := m.length) (kd := .i64) (by omega) (by simp [u8s]) (by omega)
    rw [Nat.mul_one, u8s_take] at e2
    simp (disch := first | omega | (simp only [next_new, next_upd] <;> omega) | fail) only [vai, vaim, vaic, bots, Bool.not_true, Bool.not_false, decide_true, decide_false, wrap64, F100, h1, h2, hc, e1, Nat.reduceAdd, Nat.reduceMul, Nat.reduceLeDiff, Nat.reduceEqDiff, ↓reduceIte]
    refine equal_ret e2.1 hu (fun x hx => hl x (List.mem_of_mem_take hx)) hm ?_
    simp (disch := first | omega | (simp only [next_new, next_upd] <;> omega) | fail) only [vai, vaim, vaic, bots, Bool.not_true, Bool.not_false, decide_true, decide_false, wrap64, Nat.reduceAdd, Nat.reduceMul, Nat.reduceLeDiff, Nat.reduceEqDiff, ↓reduceIte]
    exact hq
  · simp (disch := first | omega | (simp only [next_new, next_upd] <;> omega) | fail) only [vai, vaim, vaic, bots, Bool.not_true, Bool.not_false, decide_true, decide_false, wrap64, F100, h1, h2, hc, Nat.reduceAdd, Nat.reduceMul, Nat.reduceLeDiff, Nat.reduceEqDiff, ↓reduceIte]
    have : ¬ (l.take m.length = m) := fun h => by
      have := congrArg List.length h
      rw [List.length_take] at this
      omega
    simpa only [this, decide_false] using hq
theorem cutPrefix_ret {v u : AVal} {l m : List Int} {H : AHeap} {Q : AVal → AHeap → Prop} (hv : RowC H v 1 (u8s l)) (hu : Row H u 1 (u8s m)) (hl : Bytes l) (hm : Bytes m)
    (hq1 : l.take m.length = m → ∀ v', RowC H v' 1 (u8s (l.drop m.length)) → sid v' = sid v → Q (.tuple [v', .bool true]) H)
    (hq0 : l.take m.length ≠ m → Q (.tuple [v, .bool false]) H) : Ret A 63 [v, u] H Q := by
  refine Ret.of (fn := F63) rfl ?_
  have h2 := hu.len1
  rw [u8s_length] at h2
  have nb := hv.1.notBot
  simp (disch := first | omega | (simp only [next_new, next_upd] <;> omega) | fail) only [vai, vaim, vaic, bots, Bool.not_true, Bool.not_false, decide_true, decide_false, wrap64, F63, Nat.reduceAdd, Nat.reduceMul, Nat.reduceLeDiff, Nat.reduceEqDiff, ↓reduceIte]
  refine hasPrefix_ret hv hu hl hm ?_
  by_cases hc : l.take m.length = m
  · have hle : m.length ≤ l.length := by
      have := congrArg List.length hc
      rw [List.length_take] at this
      omega
    obtain ⟨v1, e1, e2, e3⟩ := hv.from (n := l.length) (k := m.length) (kd := .i64) (by omega) (by simp [u8s]) hle
    rw [Nat.mul_one, u8s_drop] at e2
    have nb1 := e2.1.notBot
    simp (disch := first | omega | (simp only [next_new, next_upd] <;> omega) | fail) only [vai, vaim, vaic, bots, Bool.not_true, Bool.not_false, decide_true, decide_false, wrap64, hc, h2, e1, nb1, decide_true, Nat.reduceAdd, Nat.reduceMul, Nat.reduceLeDiff, Nat.reduceEqDiff, ↓reduceIte]
    exact hq1 hc v1 e2 e3
  · simp (disch := first | omega | (simp only [next_new, next_upd] <;> omega) | fail) only [vai, vaim, vaic, bots, Bool.not_true, Bool.not_false, decide_true, decide_false, wrap64, hc, nb, decide_false, Nat.reduceAdd, Nat.reduceMul, Nat.reduceLeDiff, Nat.reduceEqDiff, ↓reduceIte]
    exact hq0 hc
end Go.Proofs.Ytknhlpmmalcchaa

namespace Go.Proofs.Ytknhlpmmalcchaa
open Go Go.VAI
set_option linter.unusedSimpArgs false

theorem edgeCells_append (l m : List Edge) : edgeCells (l ++ m) = edgeCells l ++ edgeCells m := by simp [edgeCells]
def rRank (s : RS) : Int × RS := ((rFour s).1 - 1, (rFour s).2)
/-- What bytes say, before it is looked at whether it may be; none where they say nothing. -/
def rawOf (b : List Int) : Option Idx :=
  if b.take 4 = [77, 73, 88, 49] then
    let n := rFour ⟨b.drop 4, false⟩
    let k := rCount 16 n.2
    let es := rep rEdge k.1.toNat k.2
    if ((es.2.left.length / 4 : Nat) : Int) < n.1 ∨ es.2.bad = true then none else
    let rk := rep rRank n.1.toNat es.2
    let m := rCount 32 rk.2
    let arcs := rep rArc m.1.toNat m.2
    let up := rep rList n.1.toNat arcs.2
    let down := rep rList n.1.toNat up.2
    if down.2.bad = true ∨ 0 < down.2.left.length then none else some ⟨n.1, es.1, rk.1, arcs.1, up.1, down.1⟩
  else none
theorem rCount_left (size : Nat) (s : RS) : (rCount size s).2.left.length ≤ s.left.length := by
  unfold rCount
  simp only
  split
  · exact rFour_left s
  · exact rFour_left s
theorem rep_left {α : Type} {f : RS → α × RS} (h : ∀ s, (f s).2.left.length ≤ s.left.length) : ∀ n s, (rep f n s).2.left.length ≤ s.left.length
  | 0, s => Nat.le_refl _
  | n + 1, s => Nat.le_trans (h _) (rep_left h n s)
theorem rEdge_left (s : RS) : (rEdge s).2.left.length ≤ s.left.length := Nat.le_trans (rFour_left _) (Nat.le_trans (rFour_left _) (Nat.le_trans (rFour_left _) (rFour_left s)))
theorem rList_left (s : RS) : (rList s).2.left.length ≤ s.left.length := Nat.le_trans (rep_left rFour_left _ _) (rCount_left _ _)
/-- A row that is finished: behind what is written on. -/
def Fin' (w : Nat) (H : AHeap) (v : AVal) (sz : Nat) (cs : List AVal) : Prop := Row H v sz cs ∧ ∀ j, sid v = some j → w < j
theorem Fin'.M {w : Nat} {M : Nat → Prop} {H H' : AHeap} {v : AVal} {sz : Nat} {cs : List AVal} (h : Fin' w H v sz cs) (hk : Keep M H H') (hM : ∀ j, M j → j ≤ w) : Fin' w H' v sz cs := ⟨h.1.M hk (fun j hj e => by have := h.2 j hj; have := hM j e; omega), h.2⟩
theorem own_fin {w lo : Nat} {H : AHeap} {v : AVal} {sz : Nat} {cs : List AVal} (h : Own lo H v sz cs) (hw : w < lo) : Fin' w H v sz cs := ⟨h.row, fun j hj => by have := (h.sid_ge hj).1; omega⟩
/-- Rows of rows that are finished. -/
def FinRows (w : Nat) (H : AHeap) (v : AVal) (ll : List (List Int)) : Prop := ∃ vs, Fin' w H v 1 vs ∧ vs.length = ll.length ∧ ∀ (i : Nat) r l, vs[i]? = some r → ll[i]? = some l → Fin' w H r 1 (ints l)
theorem FinRows.M {w : Nat} {M : Nat → Prop} {H H' : AHeap} {v : AVal} {ll : List (List Int)} (h : FinRows w H v ll) (hk : Keep M H H') (hM : ∀ j, M j → j ≤ w) : FinRows w H' v ll := by
  obtain ⟨vs, h1, h2, h3⟩ := h
  exact ⟨vs, h1.M hk hM, h2, fun i r l e1 e2 => (h3 i r l e1 e2).M hk hM⟩
theorem FinRows.rows {w : Nat} {H : AHeap} {v : AVal} {ll : List (List Int)} (h : FinRows w H v ll) : RowsOf H v ll := by
  obtain ⟨vs, h1, h2, h3⟩ := h
  exact ⟨vs, h1.1, h2, fun i r l e1 e2 => (h3 i r l e1 e2).1⟩
theorem RowsAt.snoc {lo : Nat} {H : AHeap} {av r : AVal} {us : List AVal} {ul : List (List Int)} {l : List Int} (h : RowsAt lo H av us ul) (hr : Row H r 1 (ints l)) (hs : ∀ j, sid r = some j → lo ≤ j ∧ sid av ≠ some j) (hlen : us.length = ul.length) : RowsAt lo H av (us ++ [r]) (ul ++ [l]) := by
  intro w q m h1 h2
  by_cases hw : w < us.length
  · rw [List.getElem?_append_left hw] at h1
    rw [List.getElem?_append_left (by omega)] at h2
    exact h w q m h1 h2
  · have e : w = us.length := by
      have := (List.getElem?_eq_some_iff.1 h1).1
      simp at this; omega
    subst e
    rw [List.getElem?_append_right (by omega), Nat.sub_self] at h1
    rw [List.getElem?_append_right (by omega), hlen, Nat.sub_self] at h2
    simp at h1 h2
    subst h1; subst h2
    exact ⟨hr, hs⟩
theorem RowsAt.fin {lo w : Nat} {H : AHeap} {av : AVal} {us : List AVal} {ul : List (List Int)} (h : RowsAt lo H av us ul) (ha : Own lo H av 1 us) (hlen : us.length = ul.length) (hw : w < lo) : FinRows w H av ul :=
  ⟨us, own_fin ha hw, hlen, fun i r l e1 e2 => ⟨(h i r l e1 e2).1, fun j hj => by have := ((h i r l e1 e2).2 j hj).1; omega⟩⟩
theorem rCount_le' (size : Nat) (s : RS) : (rCount size s).1 ≤ ((s.left.length / size : Nat) : Int) := by
  unfold rCount
  simp only
  split
  · exact Int.natCast_nonneg _
  · rename_i hc
    exact Int.le_trans (Int.not_lt.1 hc) (Int.ofNat_le.2 (Nat.div_le_div_right (rFour_left s)))
theorem rList_len (s : RS) : (rList s).1.length ≤ s.left.length := by
  unfold rList
  simp only
  rw [rep_length]
  have := rCount_le' 4 s
  have := Nat.div_le_self s.left.length 4
  omega
theorem rep_mem : ∀ n s, ∀ l ∈ (rep rList n s).1, l.length ≤ s.left.length
  | 0, s, l, h => by simp [rep] at h
  | n + 1, s, l, h => by
    simp only [rep] at h
    rcases List.mem_append.1 h with h | h
    · exact rep_mem n s l h
    · simp at h; subst h
      exact Nat.le_trans (rList_len _) (rep_left rList_left n s)
theorem rArc_left (s : RS) : (rArc s).2.left.length ≤ s.left.length := Nat.le_trans (rFour_left _) (Nat.le_trans (rFour_left _) (Nat.le_trans (rFour_left _) (Nat.le_trans (rFour_left _) (Nat.le_trans (rFour_left _) (Nat.le_trans (rFour_left _) (Nat.le_trans (rFour_left _) (rFour_left s)))))))
/-- Decode under way. -/
structure DecAt (H0 : AHeap) (q w : Nat) (src : Option Nat) (H : AHeap) (cs : List AVal) (s : RS) : Prop where
  keep : Keep Nothing H0 H
  op : H.obj H0.next = some (.cells [.int .i64 0, .nilSlice, .nilSlice, .nilSlice, .nilSlice, .nilSlice] true)
  ob : H.obj q = some (.cells cs true)
  rd : RdAt H w src s
  len : s.left.length ≤ 1000000000
  lq : H0.next < q
  lw : q < w
  ls : ∀ j, src = some j → j < H0.next
theorem DecAt.lt {H0 : AHeap} {q w : Nat} {src : Option Nat} {H : AHeap} {cs : List AVal} {s : RS} (h : DecAt H0 q w src H cs s) : w < H.next := h.rd.lt
theorem DecAt.read {H0 : AHeap} {q w : Nat} {src : Option Nat} {H H' : AHeap} {cs : List AVal} {s s' : RS} (h : DecAt H0 q w src H cs s) (hk : Keep (fun j => j = w) H H') (hr : RdAt H' w src s') (hl : s'.left.length ≤ s.left.length) : DecAt H0 q w src H' cs s' := by
  have h1 := h.lt
  have h2 := h.lq
  have h3 := h.lw
  have h4 := h.len
  have h5 := h.keep.next
  exact ⟨⟨by have := hk.next; omega, fun j hj _ => by rw [hk.obj j (by omega) (by omega), h.keep.old hj]⟩, by rw [hk.obj _ (by omega) (by omega)]; exact h.op, by rw [hk.obj _ (by omega) (by omega)]; exact h.ob, hr, by omega, h2, h3, h.ls⟩
theorem DecAt.put {H0 : AHeap} {q w : Nat} {src : Option Nat} {H : AHeap} {cs : List AVal} {s : RS} (h : DecAt H0 q w src H cs s) (cs' : List AVal) : DecAt H0 q w src (H.upd q (some (.cells cs' true))) cs' s := by
  have h1 := h.lt
  have h2 := h.lq
  have h3 := h.lw
  have h5 := h.keep.next
  have kk : Keep (fun j => j = q) H (H.upd q (some (.cells cs' true))) := (Keep.refl (fun j => j = q) _).upd (.inr rfl) _
  exact ⟨h.keep.upd (.inl (by omega)) _, by rw [obj_upd_ne (by omega)]; exact h.op, obj_upd_eq rfl, h.rd.M kk (by omega) (fun j hj => by have := h.ls j hj; omega), h.len, h2, h3, h.ls⟩
theorem DecAt.grow {H0 : AHeap} {q w lo : Nat} {src : Option Nat} {H H' : AHeap} {cs : List AVal} {s : RS} {M : Nat → Prop} (h : DecAt H0 q w src H cs s) (hk : Keep M H H') (hM : ∀ j, M j → lo ≤ j) (hlo : w < lo) : DecAt H0 q w src H' cs s := by
  have h1 := h.lt
  have h2 := h.lq
  have h3 := h.lw
  have h5 := h.keep.next
  have hm : ∀ j, j ≤ w → ¬ M j := fun j hj hm => by have := hM j hm; omega
  exact ⟨⟨by have := hk.next; omega, fun j hj _ => by rw [hk.obj j (by omega) (hm j (by omega)), h.keep.old hj]⟩, by rw [hk.obj _ (by omega) (hm _ (by omega))]; exact h.op, by rw [hk.obj _ (by omega) (hm _ (by omega))]; exact h.ob, h.rd.M hk (hm w (by omega)) (fun j hj => hm j (by have := h.ls j hj; omega)), h.len, h2, h3, h.ls⟩
theorem DecAt.kept {H0 : AHeap} {q w : Nat} {src : Option Nat} {H H' : AHeap} {cs : List AVal} {s : RS} (h : DecAt H0 q w src H cs s) (hk : Keep Nothing H H') : DecAt H0 q w src H' cs s := h.grow (lo := w + 1) hk (fun _ h => h.elim) (by omega)
theorem wq_of {q w : Nat} {H H' : AHeap} (hk : Keep (fun j => j = w) H H') : Keep (fun j => j = w ∨ j = q) H H' := hk.mono (fun _ _ h => .inl h)
theorem wq_upd {q w : Nat} {Hs H : AHeap} (hk : Keep (fun j => j = w ∨ j = q) Hs H) (o : Option AObj) : Keep (fun j => j = w ∨ j = q) Hs (H.upd q o) := hk.upd (.inr (.inr rfl)) o
/-- After an append. -/
theorem app_keep {v : AVal} {H H' : AHeap} (h1 : H.next ≤ H'.next) (h2 : ∀ j, j < H.next → sid v ≠ some j → H'.obj j = H.obj j) : Keep (fun j => sid v = some j) H H' := ⟨h1, h2⟩
theorem IdxAt.fin {w : Nat} {Hs H : AHeap} {ew rv av uv dv : AVal} {x : Idx} (hk : Keep (fun j => j ≤ w) Hs H) (he : Fin' w Hs ew 4 (edgeCells x.es)) (hr : Fin' w Hs rv 1 (ints x.rank)) (ha : Fin' w Hs av 7 (arcCells x.arcs)) (hu : FinRows w Hs uv x.up) (hd : FinRows w Hs dv x.down) : IdxAt H ew rv av uv dv x :=
  ⟨(he.M hk (fun _ h => h)).1, (hr.M hk (fun _ h => h)).1, (ha.M hk (fun _ h => h)).1, (hu.M hk (fun _ h => h)).rows, (hd.M hk (fun _ h => h)).rows⟩
/-! ### a part that may be left by goto -/
section
variable {K : CallW} {t : Tmps} {H : AHeap} {Q : PostT}
def noGo (Q : PostT) (e : AExit) (t : Tmps) (H : AHeap) : Prop :=
  match e with
  | .goto _ => False
  | e => Q e t H
def thenG (K : CallW) (l : Nat) (rest : ACode) (Q : PostT) (e : AExit) (t : Tmps) (H : AHeap) : Prop :=
  match e with
  | .goto i => i = l ∧ wpx K rest t H (noGo Q)
  | e => Q e t H
theorem wpx_scope {a rest : ACode} {l : Nat} : wpx K (.scope a l rest) t H Q = wpx K a t H (thenG K l rest Q) := rfl
theorem thenG_goto {rest : ACode} {l : Nat} : thenG K l rest Q (.goto l) t H = wpx K rest t H (noGo Q) := by simp [thenG]
theorem thenG_ret {rest : ACode} {l : Nat} : thenG K l rest Q .ret t H = Q .ret t H := rfl
theorem noGo_ret : noGo Q .ret t H = Q .ret t H := rfl
set_option linter.defProp false in
def vaig := And.intro @wpx_scope (And.intro @thenG_goto (And.intro @thenG_ret @noGo_ret))
end
set_option maxRecDepth 20000 in
set_option maxHeartbeats 8000000 in
theorem decode_ret {bv : AVal} {b : List Int} {H : AHeap} {Q : AVal → AHeap → Prop} (hb : RowC H bv 1 (u8s b)) (hbb : Bytes b) (hlen : b.length ≤ 1000000000)
    (hq0 : (∀ x, rawOf b = some x → ¬ Allowed x) → ∀ H', Keep Nothing H H' → Q (.tuple [.agg [.int .i64 0, .nilSlice, .nilSlice, .nilSlice, .nilSlice, .nilSlice], .int .i64 9]) H')
    (hq1 : ∀ x, rawOf b = some x → Allowed x → ∀ ew rv av uv dv H', Keep Nothing H H' → IdxAt H' ew rv av uv dv x → Q (.tuple [.agg [.int .i64 x.n, ew, rv, av, uv, dv], .int .i64 0]) H') : Ret A 30 [bv] H Q := by
  refine Ret.of (fn := F30) rfl ?_
  simp (disch := first | omega | (simp only [next_new, next_upd] <;> omega) | fail) only [vai, vaim, vaic, bots, Bool.not_true, Bool.not_false, decide_true, decide_false, wrap64, F30, vaig, Nat.reduceAdd, Nat.reduceMul, Nat.reduceLeDiff, Nat.reduceEqDiff, ↓reduceIte]
  have k0 : Keep Nothing H (((H.new (.cells [.int .i64 0, .nilSlice, .nilSlice, .nilSlice, .nilSlice, .nilSlice] true)).new (.cells [.int .i64 0, .nilSlice, .nilSlice, .nilSlice, .nilSlice, .nilSlice] true)).new (.cells [.int .u8 77, .int .u8 73, .int .u8 88, .int .u8 49] true)) := (((Keep.refl _ _).new _).new _).new _
  have hpre : Bytes [77, 73, 88, 49] := by intro x hx; simp at hx; omega
  refine cutPrefix_ret (hb.kept k0) (.mk (c := u8s [77, 73, 88, 49]) (by simp only [next_new]; omega) (by simp (disch := first | omega | (simp only [next_new, next_upd] <;> omega) | fail) only [vaim]; rfl) (by decide) rfl) hbb hpre ?_ ?_
  · intro hpx v1 hv1 hs1
    have hpx' : b.take 4 = [77, 73, 88, 49] := hpx
    have hdr : b.drop [(77 : Int), 73, 88, 49].length = b.drop 4 := rfl
    rw [hdr] at hv1
    have q0 : ((((H.new (.cells [.int .i64 0, .nilSlice, .nilSlice, .nilSlice, .nilSlice, .nilSlice] true)).new (.cells [.int .i64 0, .nilSlice, .nilSlice, .nilSlice, .nilSlice, .nilSlice] true)).new (.cells [.int .u8 77, .int .u8 73, .int .u8 88, .int .u8 49] true)).new (.cells [v1, .bool false] true)).obj H.next = some (.cells [.int .i64 0, .nilSlice, .nilSlice, .nilSlice, .nilSlice, .nilSlice] true) := by simp (disch := first | omega | (simp only [next_new, next_upd] <;> omega) | fail) only [vaim]
    have q1 : ((((H.new (.cells [.int .i64 0, .nilSlice, .nilSlice, .nilSlice, .nilSlice, .nilSlice] true)).new (.cells [.int .i64 0, .nilSlice, .nilSlice, .nilSlice, .nilSlice, .nilSlice] true)).new (.cells [.int .u8 77, .int .u8 73, .int .u8 88, .int .u8 49] true)).new (.cells [v1, .bool false] true)).obj (H.next + 1) = some (.cells [.int .i64 0, .nilSlice, .nilSlice, .nilSlice, .nilSlice, .nilSlice] true) := by simp (disch := first | omega | (simp only [next_new, next_upd] <;> omega) | fail) only [vaim]
    have kv : Keep Nothing H ((((H.new (.cells [.int .i64 0, .nilSlice, .nilSlice, .nilSlice, .nilSlice, .nilSlice] true)).new (.cells [.int .i64 0, .nilSlice, .nilSlice, .nilSlice, .nilSlice, .nilSlice] true)).new (.cells [.int .u8 77, .int .u8 73, .int .u8 88, .int .u8 49] true)).new (.cells [v1, .bool false] true)) := k0.new _
    have nv : ((((H.new (.cells [.int .i64 0, .nilSlice, .nilSlice, .nilSlice, .nilSlice, .nilSlice] true)).new (.cells [.int .i64 0, .nilSlice, .nilSlice, .nilSlice, .nilSlice, .nilSlice] true)).new (.cells [.int .u8 77, .int .u8 73, .int .u8 88, .int .u8 49] true)).new (.cells [v1, .bool false] true)).next = H.next + 1 + 1 + 1 + 1 := by simp only [next_new]
    have hsrc : ∀ j, sid v1 = some j → j < H.next := fun j hj => hb.1.sid_lt (by rw [← hs1]; exact hj)
    have rd0 : RdAt ((((H.new (.cells [.int .i64 0, .nilSlice, .nilSlice, .nilSlice, .nilSlice, .nilSlice] true)).new (.cells [.int .i64 0, .nilSlice, .nilSlice, .nilSlice, .nilSlice, .nilSlice] true)).new (.cells [.int .u8 77, .int .u8 73, .int .u8 88, .int .u8 49] true)).new (.cells [v1, .bool false] true)) (H.next + 1 + 1 + 1) (sid v1) ⟨b.drop 4, false⟩ :=
      ⟨v1, obj_new_eq (by simp only [next_new]), hv1.kept ((Keep.refl _ _).new _), rfl, by rw [nv]; omega, fun e => by have := hsrc _ e; omega, fun x hx => hbb x (List.mem_of_mem_drop hx), by simp; omega⟩
    have cv : v1.cells = some [v1] := hv1.1.cells
    simp (disch := first | omega | (simp only [next_new, next_upd] <;> omega) | fail) only [vai, vaim, vaic, bots, Bool.not_true, Bool.not_false, decide_true, decide_false, wrap64, vaig, cv, Nat.reduceAdd, Nat.reduceMul, Nat.reduceLeDiff, Nat.reduceEqDiff, ↓reduceIte]
    generalize hH4 : (((H.new (.cells [.int .i64 0, .nilSlice, .nilSlice, .nilSlice, .nilSlice, .nilSlice] true)).new (.cells [.int .i64 0, .nilSlice, .nilSlice, .nilSlice, .nilSlice, .nilSlice] true)).new (.cells [.int .u8 77, .int .u8 73, .int .u8 88, .int .u8 49] true)).new (.cells [v1, .bool false] true) = H4 at *
    generalize hqq : H.next + 1 = q at *
    generalize hww : q + 1 + 1 = w at *
    have D0 : DecAt H q w (sid v1) H4 [.int .i64 0, .nilSlice, .nilSlice, .nilSlice, .nilSlice, .nilSlice] ⟨b.drop 4, false⟩ := ⟨kv, q0, q1, rd0, by simp; omega, by omega, by omega, hsrc⟩
    clear kv q0 q1 hH4 k0
    refine rfour_ret rd0 fun H5 k5 h5 n5 => ?_
    have D1 := D0.read k5 h5 (rFour_left _)
    have hn := rFour_bd rd0.bytes
    obtain ⟨n, hN⟩ : ∃ n : Nat, (rFour ⟨b.drop 4, false⟩).1 = n := ⟨(rFour ⟨b.drop 4, false⟩).1.toNat, by omega⟩
    rw [hN] at hn ⊢
    have o1 := D1.ob
    simp (disch := first | omega | (simp only [next_new, next_upd] <;> omega) | fail) only [vai, vaim, vaic, bots, Bool.not_true, Bool.not_false, decide_true, decide_false, wrap64, o1, Nat.reduceAdd, Nat.reduceMul, Nat.reduceLeDiff, Nat.reduceEqDiff, ↓reduceIte]
    have D2 := D1.put [.int .i64 n, .nilSlice, .nilSlice, .nilSlice, .nilSlice, .nilSlice]
    generalize H5.upd q (some (.cells [.int .i64 n, .nilSlice, .nilSlice, .nilSlice, .nilSlice, .nilSlice] true)) = H6 at *
    refine rcount_ret (size := 16) D2.rd (by omega) fun H7 k7 h7 n7 => ?_
    have D3 := D2.read k7 h7 (rCount_left _ _)
    have hk := rCount_bd (size := 16) D2.rd.bytes
    have hkl := rCount_le (size := 16) D2.rd.bytes
    have hl0 := D2.len
    clear k5 h5 n5 o1 D1 D0 rd0 k7 h7 n7 nv
    obtain ⟨k, hkk⟩ : ∃ k : Nat, (rCount 16 (rFour ⟨b.drop 4, false⟩).2).1 = k := ⟨(rCount 16 (rFour ⟨b.drop 4, false⟩).2).1.toNat, by omega⟩
    rw [hkk] at hk hkl ⊢
    have hk9 : k ≤ 1000000000 := by
      have := Nat.div_le_self (rFour ⟨b.drop 4, false⟩).2.left.length 16
      omega
    generalize hS0 : (rCount 16 (rFour ⟨b.drop 4, false⟩).2).2 = s0 at *
    have hw7 := D3.lt
    have hqw := D3.lw
    simp (disch := first | omega | (simp only [next_new, next_upd] <;> omega) | fail) only [vai, vaim, vaic, bots, Bool.not_true, Bool.not_false, decide_true, decide_false, wrap64, Nat.reduceAdd, Nat.reduceMul, Nat.reduceLeDiff, Nat.reduceEqDiff, ↓reduceIte]
    refine wpx_loop (fun m t H' => ∃ (i : Nat) (ev : AVal), m = k - i ∧ i ≤ k ∧ t = (bots 2 (.ptr H.next 0 :: bots 1 (.ptr q 0 :: bots 2 (.ptr w 0 :: .func (.func 64) [.ptr w 0] [] :: bots 21 (.int .i64 k :: .int .i64 i :: bots 120 ([]))))) : Tmps) ∧ DecAt H q w (sid v1) H' [.int .i64 n, ev, .nilSlice, .nilSlice, .nilSlice, .nilSlice] (rep rEdge i s0).2 ∧ Keep (fun j => j = w ∨ j = q) H7 H' ∧ Own H7.next H' ev 4 (edgeCells (rep rEdge i s0).1)) k ?_ ?_
    · exact ⟨0, .nilSlice, rfl, by omega, rfl, D3, Keep.refl _ _, .nil⟩
    · clear D2 D3
      rintro m t H8 ⟨i, ev, rfl, hi, rfl, D, kD, gD⟩
      by_cases hc : (i : Int) < k
      · have ob := D.ob
        have nD := kD.next
        simp (disch := first | omega | (simp only [next_new, next_upd] <;> omega) | fail) only [vai, vaim, vaic, bots, Bool.not_true, Bool.not_false, decide_true, decide_false, wrap64, hc, ob, Nat.reduceAdd, Nat.reduceMul, Nat.reduceLeDiff, Nat.reduceEqDiff, ↓reduceIte]
        refine redge_ret D.rd fun H9 k9 h9 => ?_
        have D4 := D.read k9 h9 (rEdge_left _)
        have g4 := gD.keepM k9 (fun j hj e => by have := (gD.sid_ge hj).1; omega)
        have ob4 := D4.ob
        have bev := gD.beq
        have n9 := k9.next
        simp (disch := first | omega | (simp only [next_new, next_upd] <;> omega) | fail) only [vai, vaim, vaic, bots, Bool.not_true, Bool.not_false, decide_true, decide_false, wrap64, ob4, reK_same bev, Edge.cells, Nat.reduceAdd, Nat.reduceMul, Nat.reduceLeDiff, Nat.reduceEqDiff, ↓reduceIte]
        have rl := rep_length rEdge i s0
        refine app_ret (n := i) g4 (by simp (disch := first | omega | (simp only [next_new, next_upd] <;> omega) | fail) only [vaim]; rfl) rfl (by omega) (by omega) (by rw [edgeCells_length, rl]) (by omega) (by omega) ?_
        intro v5 H10 n10 k10 g10 s10
        simp only [next_new] at n10 s10
        have kk := app_keep n10 k10
        have D5 := (D4.kept ((Keep.refl _ _).new _)).grow (lo := H7.next) kk (fun j hj => (g4.sid_ge hj).1) (by omega)
        have ob5 := D5.ob
        have c5 := g10.cells
        simp (disch := first | omega | (simp only [next_new, next_upd] <;> omega) | fail) only [vai, vaim, vaic, bots, Bool.not_true, Bool.not_false, decide_true, decide_false, wrap64, ob5, c5, Nat.reduceAdd, Nat.reduceMul, Nat.reduceLeDiff, Nat.reduceEqDiff, ↓reduceIte]
        refine ⟨k - (i + 1), by omega, i + 1, v5, rfl, by omega, rfl, D5.put _, wq_upd (((kD.trans (wq_of k9)).new _).trans' kk (fun j hj e => by have := (g4.sid_ge e).1; omega)) _, ?_⟩
        refine (Grown.upd ?_ (by omega) _).own
        simp only [rep]
        rw [edgeCells_append]
        exact g10
      · have hik : i = k := by omega
        subst hik
        have hE := own_fin gD hw7
        have hlE := rep_length rEdge i s0
        clear gD kD hi hw7
        generalize hS1 : (rep rEdge i s0).2 = s1 at *
        generalize hES : (rep rEdge i s0).1 = es at *
        have D1 := D
        obtain ⟨lv, r1, r2, r3, r4, r5, r6, r7⟩ := D.rd
        have hl1 := D.len
        have hll := r2.1.len1
        rw [u8s_length] at hll
        have hquo : ((s1.left.length : Int)).tdiv 4 = ((s1.left.length / 4 : Nat) : Int) := by rw [show (4 : Int) = ((4 : Nat) : Int) from rfl, Int.ofNat_tdiv]
        have hdl : s1.left.length / 4 ≤ s1.left.length := Nat.div_le_self _ _
        have z4 : (4 : Int) ≠ 0 := by omega
        have ob := D.ob
        have op := D.op
        have hraw : rawOf b = if ((s1.left.length / 4 : Nat) : Int) < (n : Int) ∨ s1.bad = true then none else
            (if (rep rList n (rep rList n (rep rArc (rCount 32 (rep rRank n s1).2).1.toNat (rCount 32 (rep rRank n s1).2).2).2).2).2.bad = true ∨ 0 < (rep rList n (rep rList n (rep rArc (rCount 32 (rep rRank n s1).2).1.toNat (rCount 32 (rep rRank n s1).2).2).2).2).2.left.length then none
              else some ⟨n, es, (rep rRank n s1).1, (rep rArc (rCount 32 (rep rRank n s1).2).1.toNat (rCount 32 (rep rRank n s1).2).2).1, (rep rList n (rep rArc (rCount 32 (rep rRank n s1).2).1.toNat (rCount 32 (rep rRank n s1).2).2).2).1, (rep rList n (rep rList n (rep rArc (rCount 32 (rep rRank n s1).2).1.toNat (rCount 32 (rep rRank n s1).2).2).2).2).1⟩) := by
          unfold rawOf
          simp only [if_pos hpx', hN, hkk, hS0, hS1, hES, Int.toNat_natCast]
        generalize hdq : s1.left.length / 4 = dq at *
        obtain ⟨left, bad⟩ := s1
        simp only at *
        by_cases c1 : ((dq : Nat) : Int) < n
        · simp (disch := first | omega | (simp only [next_new, next_upd] <;> omega) | fail) only [vai, vaim, vaic, bots, Bool.not_true, Bool.not_false, decide_true, decide_false, wrap64, hc, ob, op, r1, hll, abin_quo, hquo, c1, vaig, Nat.reduceAdd, Nat.reduceMul, Nat.reduceLeDiff, Nat.reduceEqDiff, ↓reduceIte]
          refine hq0 (fun x hx => ?_) _ (D.keep.upd (id := H.next) (.inl (Nat.le_refl _)) _)
          rw [hraw, if_pos (.inl c1)] at hx
          cases hx
        · cases bad with
          | true =>
            simp (disch := first | omega | (simp only [next_new, next_upd] <;> omega) | fail) only [vai, vaim, vaic, bots, Bool.not_true, Bool.not_false, decide_true, decide_false, wrap64, hc, ob, op, r1, hll, abin_quo, hquo, c1, vaig, Nat.reduceAdd, Nat.reduceMul, Nat.reduceLeDiff, Nat.reduceEqDiff, ↓reduceIte]
            refine hq0 (fun x hx => ?_) _ (D.keep.upd (id := H.next) (.inl (Nat.le_refl _)) _)
            rw [hraw, if_pos (.inr rfl)] at hx
            cases hx
          | false =>
            rw [if_neg (by intro h; rcases h with h | h; exact c1 h; cases h)] at hraw
            simp (disch := first | omega | (simp only [next_new, next_upd] <;> omega) | fail) only [vai, vaim, vaic, bots, Bool.not_true, Bool.not_false, decide_true, decide_false, wrap64, hc, ob, op, r1, hll, abin_quo, hquo, c1, vaig, Nat.reduceAdd, Nat.reduceMul, Nat.reduceLeDiff, Nat.reduceEqDiff, ↓reduceIte]
            clear r1 r2 r3 r4 r5 r6 r7 hll hquo ob op D hl1 hbb hb hpre hpx hpx' hN hn hkk hk hkl hk9 hS0 hS1 hES
            have hn9 : n ≤ 1000000000 := by
              have := D1.len
              simp only at this
              omega
            clear hdl c1 hdq
            generalize (⟨left, false⟩ : RS) = s1 at *
            have hw8 := D1.lt
            refine wpx_loop (fun m t H' => ∃ (i : Nat) (rv : AVal), m = n - i ∧ i ≤ n ∧ t = (bots 2 (.ptr H.next 0 :: bots 1 (.ptr q 0 :: bots 2 (.ptr w 0 :: .func (.func 64) [.ptr w 0] [] :: bots 52 (.int .i64 n :: .int .i64 i :: bots 89 ([]))))) : Tmps) ∧ DecAt H q w (sid v1) H' [.int .i64 n, ev, rv, .nilSlice, .nilSlice, .nilSlice] (rep rRank i s1).2 ∧ Keep (fun j => j = w ∨ j = q) H8 H' ∧ Own H8.next H' rv 1 (ints (rep rRank i s1).1)) n ?_ ?_
            · exact ⟨0, .nilSlice, rfl, by omega, rfl, D1, Keep.refl _ _, .nil⟩
            · clear D1
              rintro m t Ha ⟨i, rv, rfl, hi, rfl, D, kD, gD⟩
              by_cases hc : (i : Int) < n
              · have ob := D.ob
                have nD := kD.next
                have hbd := rFour_bd D.rd.bytes
                simp (disch := first | omega | (simp only [next_new, next_upd] <;> omega) | fail) only [vai, vaim, vaic, bots, Bool.not_true, Bool.not_false, decide_true, decide_false, wrap64, hc, ob, Nat.reduceAdd, Nat.reduceMul, Nat.reduceLeDiff, Nat.reduceEqDiff, ↓reduceIte]
                refine rfour_ret D.rd fun Hb kb hb nb => ?_
                have D4 := D.read kb hb (rFour_left _)
                have g4 := gD.keepM kb (fun j hj e => by have := (gD.sid_ge hj).1; omega)
                have ob4 := D4.ob
                have bev := gD.beq
                simp (disch := first | omega | (simp only [next_new, next_upd] <;> omega) | fail) only [vai, vaim, vaic, bots, Bool.not_true, Bool.not_false, decide_true, decide_false, wrap64, ob4, reK_same bev, Nat.reduceAdd, Nat.reduceMul, Nat.reduceLeDiff, Nat.reduceEqDiff, ↓reduceIte]
                have rl := rep_length rRank i s1
                refine app_ret (n := i) g4 (by simp (disch := first | omega | (simp only [next_new, next_upd] <;> omega) | fail) only [vaim]; rfl) rfl (by omega) (by omega) (by rw [ints_length, rl]; omega) (by omega) (by omega) ?_
                intro v5 H10 n10 k10 g10 s10
                simp only [next_new] at n10 s10
                have kk := app_keep n10 k10
                have D5 := (D4.kept ((Keep.refl _ _).new _)).grow (lo := H8.next) kk (fun j hj => (g4.sid_ge hj).1) (by omega)
                have ob5 := D5.ob
                have c5 := g10.cells
                simp (disch := first | omega | (simp only [next_new, next_upd] <;> omega) | fail) only [vai, vaim, vaic, bots, Bool.not_true, Bool.not_false, decide_true, decide_false, wrap64, ob5, c5, Nat.reduceAdd, Nat.reduceMul, Nat.reduceLeDiff, Nat.reduceEqDiff, ↓reduceIte]
                refine ⟨n - (i + 1), by omega, i + 1, v5, rfl, by omega, rfl, D5.put _, wq_upd (((kD.trans (wq_of kb)).new _).trans' kk (fun j hj e => by have := (g4.sid_ge e).1; omega)) _, ?_⟩
                refine (Grown.upd ?_ (by omega) _).own
                simp only [rep]
                rw [ints_append]
                exact g10
              · have hik : i = n := by omega
                subst hik
                have hE := hE.M kD (by omega)
                have hR := own_fin gD hw8
                have hlR := rep_length rRank i s1
                clear gD kD hi
                generalize (rep rRank i s1).2 = s2 at *
                generalize (rep rRank i s1).1 = rank at *
                simp (disch := first | omega | (simp only [next_new, next_upd] <;> omega) | fail) only [vai, vaim, vaic, bots, Bool.not_true, Bool.not_false, decide_true, decide_false, wrap64, hc, Nat.reduceAdd, Nat.reduceMul, Nat.reduceLeDiff, Nat.reduceEqDiff, ↓reduceIte]
                refine rcount_ret (size := 32) D.rd (by omega) fun Hb kb hb nb => ?_
                have D1 := D.read kb hb (rCount_left _ _)
                have hk := rCount_bd (size := 32) D.rd.bytes
                have hkl := rCount_le (size := 32) D.rd.bytes
                have hl0 := D.len
                have hE := hE.M kb (by omega)
                have hR := hR.M kb (by omega)
                clear D
                obtain ⟨k, hkk⟩ : ∃ k : Nat, (rCount 32 s2).1 = k := ⟨(rCount 32 s2).1.toNat, by omega⟩
                rw [hkk] at hk hkl hraw ⊢
                rw [Int.toNat_natCast] at hraw
                have hk9 : k ≤ 1000000000 := by
                  have := Nat.div_le_self s2.left.length 32
                  omega
                generalize (rCount 32 s2).2 = s3 at *
                have hwb := D1.lt
                simp (disch := first | omega | (simp only [next_new, next_upd] <;> omega) | fail) only [vai, vaim, vaic, bots, Bool.not_true, Bool.not_false, decide_true, decide_false, wrap64, Nat.reduceAdd, Nat.reduceMul, Nat.reduceLeDiff, Nat.reduceEqDiff, ↓reduceIte]
                refine wpx_loop (fun m t H' => ∃ (j : Nat) (av : AVal), m = k - j ∧ j ≤ k ∧ t = (bots 2 (.ptr H.next 0 :: bots 1 (.ptr q 0 :: bots 2 (.ptr w 0 :: bots 66 (.int .i64 k :: .int .i64 j :: bots 76 ([]))))) : Tmps) ∧ DecAt H q w (sid v1) H' [.int .i64 i, ev, rv, av, .nilSlice, .nilSlice] (rep rArc j s3).2 ∧ Keep (fun j => j = w ∨ j = q) Hb H' ∧ Own Hb.next H' av 7 (arcCells (rep rArc j s3).1)) k ?_ ?_
                · exact ⟨0, .nilSlice, rfl, by omega, rfl, D1, Keep.refl _ _, .nil⟩
                · clear D1
                  rintro m t Ha ⟨j, av, rfl, hj, rfl, D, kD, gD⟩
                  by_cases hc : (j : Int) < k
                  · have ob := D.ob
                    have nD := kD.next
                    simp (disch := first | omega | (simp only [next_new, next_upd] <;> omega) | fail) only [vai, vaim, vaic, bots, Bool.not_true, Bool.not_false, decide_true, decide_false, wrap64, hc, ob, Nat.reduceAdd, Nat.reduceMul, Nat.reduceLeDiff, Nat.reduceEqDiff, ↓reduceIte]
                    refine rarc_ret D.rd fun H9 k9 h9 => ?_
                    have D4 := D.read k9 h9 (rArc_left _)
                    have g4 := gD.keepM k9 (fun j hj e => by have := (gD.sid_ge hj).1; omega)
                    have ob4 := D4.ob
                    have bev := gD.beq
                    have n9 := k9.next
                    simp (disch := first | omega | (simp only [next_new, next_upd] <;> omega) | fail) only [vai, vaim, vaic, bots, Bool.not_true, Bool.not_false, decide_true, decide_false, wrap64, ob4, reK_same bev, Arc.cells, Nat.reduceAdd, Nat.reduceMul, Nat.reduceLeDiff, Nat.reduceEqDiff, ↓reduceIte]
                    have rl := rep_length rArc j s3
                    refine app_ret (n := j) g4 (by simp (disch := first | omega | (simp only [next_new, next_upd] <;> omega) | fail) only [vaim]; rfl) rfl (by omega) (by omega) (by rw [arcCells_length, rl]) (by omega) (by omega) ?_
                    intro v5 H10 n10 k10 g10 s10
                    simp only [next_new] at n10 s10
                    have kk := app_keep n10 k10
                    have D5 := (D4.kept ((Keep.refl _ _).new _)).grow (lo := Hb.next) kk (fun j hj => (g4.sid_ge hj).1) (by omega)
                    have ob5 := D5.ob
                    have c5 := g10.cells
                    simp (disch := first | omega | (simp only [next_new, next_upd] <;> omega) | fail) only [vai, vaim, vaic, bots, Bool.not_true, Bool.not_false, decide_true, decide_false, wrap64, ob5, c5, Nat.reduceAdd, Nat.reduceMul, Nat.reduceLeDiff, Nat.reduceEqDiff, ↓reduceIte]
                    refine ⟨k - (j + 1), by omega, j + 1, v5, rfl, by omega, rfl, D5.put _, wq_upd (((kD.trans (wq_of k9)).new _).trans' kk (fun j hj e => by have := (g4.sid_ge e).1; omega)) _, ?_⟩
                    refine (Grown.upd ?_ (by omega) _).own
                    simp only [rep]
                    rw [arcCells_append]
                    exact g10
                  · have hjk : j = k := by omega
                    subst hjk
                    have hE := hE.M kD (by omega)
                    have hR := hR.M kD (by omega)
                    have hA := own_fin gD hwb
                    have hlA := rep_length rArc j s3
                    clear gD kD hj hwb hk hkl
                    have ob := D.ob
                    simp (disch := first | omega | (simp only [next_new, next_upd] <;> omega) | fail) only [vai, vaim, vaic, bots, Bool.not_true, Bool.not_false, decide_true, decide_false, wrap64, hc, ob, Nat.reduceAdd, Nat.reduceMul, Nat.reduceLeDiff, Nat.reduceEqDiff, ↓reduceIte]
                    generalize (rep rArc j s3).2 = s4 at *
                    generalize (rep rArc j s3).1 = arcs at *
                    have hlen4 := D.len
                    have hwc := D.lt
                    have hra := hraw
                    refine wpx_loop (fun m t H' => ∃ (j : Nat) (uv : AVal) (us : List AVal), m = i - j ∧ j ≤ i ∧ t = (bots 2 (.ptr H.next 0 :: bots 1 (.ptr q 0 :: bots 2 (.ptr w 0 :: bots 79 (.int .i64 i :: .int .i64 j :: bots 63 ([]))))) : Tmps) ∧ DecAt H q w (sid v1) H' [.int .i64 i, ev, rv, av, uv, .nilSlice] (rep rList j s4).2 ∧ Keep (fun j => j = w ∨ j = q) Ha H' ∧ Own Ha.next H' uv 1 us ∧ us.length = j ∧ RowsAt Ha.next H' uv us (rep rList j s4).1) i ?_ ?_
                    · exact ⟨0, .nilSlice, [], rfl, by omega, rfl, D, Keep.refl _ _, .nil, rfl, fun v r l h1 => by simp at h1⟩
                    · clear D ob
                      rintro m t Hu ⟨j, uv, us, rfl, hj, rfl, D, kD, gD, hus, rD⟩
                      by_cases hc : (j : Int) < i
                      · have ob := D.ob
                        have nD := kD.next
                        have hwu := D.lt
                        simp (disch := first | omega | (simp only [next_new, next_upd] <;> omega) | fail) only [vai, vaim, vaic, bots, Bool.not_true, Bool.not_false, decide_true, decide_false, wrap64, hc, ob, Nat.reduceAdd, Nat.reduceMul, Nat.reduceLeDiff, Nat.reduceEqDiff, ↓reduceIte]
                        refine rlist_ret D.rd D.len fun r9 H9 k9 h9 o9 => ?_
                        have D4 := D.read k9 h9 (rList_left _)
                        have g4 := gD.keepM k9 (fun j hj e => by have := (gD.sid_ge hj).1; omega)
                        have R4 := rD.M k9 (fun j e => .inl (by omega)) (.inl rfl)
                        have ob4 := D4.ob
                        have bev := gD.beq
                        have n9 := k9.next
                        have c9 := o9.cells
                        simp (disch := first | omega | (simp only [next_new, next_upd] <;> omega) | fail) only [vai, vaim, vaic, bots, Bool.not_true, Bool.not_false, decide_true, decide_false, wrap64, ob4, reK_same bev, c9, Nat.reduceAdd, Nat.reduceMul, Nat.reduceLeDiff, Nat.reduceEqDiff, ↓reduceIte]
                        have rl := rep_length rList j s4
                        have D4n := D4.kept ((Keep.refl Nothing H9).new (.cells [r9] true))
                        have R4n := R4.M ((Keep.refl Nothing H9).new (.cells [r9] true)) (fun j h => h.elim) (.inl rfl)
                        have o9n := o9.row.kept ((Keep.refl Nothing H9).new (.cells [r9] true))
                        have s9 : ∀ y, sid r9 = some y → Hu.next ≤ y ∧ y < H9.next := fun y hy => o9.sid_ge hy
                        have s4' : ∀ y, sid uv = some y → y < Hu.next := fun y hy => (gD.sid_ge hy).2
                        refine app_ret (n := j) g4 (by simp (disch := first | omega | (simp only [next_new, next_upd] <;> omega) | fail) only [vaim]; rfl) rfl (by omega) (by omega) (by omega) (by omega) (by omega) ?_
                        intro v5 H10 n10 k10 g10 s10
                        simp only [next_new] at n10 s10
                        have kk := app_keep n10 k10
                        have D5 := D4n.grow (lo := Ha.next) kk (fun j hj => (g4.sid_ge hj).1) (by omega)
                        have R5 := R4n.M kk (fun j e => .inr e) (.inr s10)
                        have R6 := R5.snoc (l := (rList (rep rList j s4).2).1) (o9n.M kk (fun y hy e => by have := s9 y hy; have := s4' y e; omega)) (fun y hy => ⟨by have := s9 y hy; omega, fun e => by
                          obtain ⟨z, z1, z2⟩ := s10
                          rw [z1] at e; injection e with e
                          have := s9 y hy
                          omega⟩) (by rw [rl]; exact hus)
                        have ob5 := D5.ob
                        have c5 := g10.cells
                        simp (disch := first | omega | (simp only [next_new, next_upd] <;> omega) | fail) only [vai, vaim, vaic, bots, Bool.not_true, Bool.not_false, decide_true, decide_false, wrap64, ob5, c5, Nat.reduceAdd, Nat.reduceMul, Nat.reduceLeDiff, Nat.reduceEqDiff, ↓reduceIte]
                        refine ⟨i - (j + 1), by omega, j + 1, v5, us ++ [r9], rfl, by omega, rfl, D5.put _, wq_upd (((kD.trans (wq_of k9)).new _).trans' kk (fun j hj e => by have := (g4.sid_ge e).1; omega)) _, (Grown.upd g10 (by omega) _).own, by simp [hus], ?_⟩
                        simp only [rep]
                        exact R6.M (M := fun j => j = q) ((Keep.refl (fun j => j = q) _).upd (.inr rfl) _) (fun j e => .inl (by omega)) (.inl rfl)
                      · have hjk : i = j := by omega
                        have hE := hE.M kD (by omega)
                        have hR := hR.M kD (by omega)
                        have hA := hA.M kD (by omega)
                        have hU := rD.fin gD (by rw [rep_length]; exact hus) hwc
                        have hlU := rep_mem j s4
                        have hlU2 := rep_length rList j s4
                        have h4len := hlen4
                        subst hjk
                        clear gD kD rD hj hwc
                        have ob := D.ob
                        simp (disch := first | omega | (simp only [next_new, next_upd] <;> omega) | fail) only [vai, vaim, vaic, bots, Bool.not_true, Bool.not_false, decide_true, decide_false, wrap64, hc, ob, Nat.reduceAdd, Nat.reduceMul, Nat.reduceLeDiff, Nat.reduceEqDiff, ↓reduceIte]
                        generalize (rep rList i s4).2 = s5 at *
                        generalize (rep rList i s4).1 = up at *
                        have hlen5 := D.len
                        have hwd := D.lt
                        refine wpx_loop (fun m t H' => ∃ (j : Nat) (dv : AVal) (us : List AVal), m = i - j ∧ j ≤ i ∧ t = (bots 2 (.ptr H.next 0 :: bots 1 (.ptr q 0 :: bots 2 (.ptr w 0 :: bots 92 (.int .i64 i :: .int .i64 j :: bots 50 ([]))))) : Tmps) ∧ DecAt H q w (sid v1) H' [.int .i64 i, ev, rv, av, uv, dv] (rep rList j s5).2 ∧ Keep (fun j => j = w ∨ j = q) Hu H' ∧ Own Hu.next H' dv 1 us ∧ us.length = j ∧ RowsAt Hu.next H' dv us (rep rList j s5).1) i ?_ ?_
                        · exact ⟨0, .nilSlice, [], rfl, by omega, rfl, D, Keep.refl _ _, .nil, rfl, fun v r l h1 => by simp at h1⟩
                        · clear D ob
                          rintro m t Hd ⟨j, dv, us, rfl, hj, rfl, D, kD, gD, hus, rD⟩
                          by_cases hc : (j : Int) < i
                          · have ob := D.ob
                            have nD := kD.next
                            have hwu := D.lt
                            simp (disch := first | omega | (simp only [next_new, next_upd] <;> omega) | fail) only [vai, vaim, vaic, bots, Bool.not_true, Bool.not_false, decide_true, decide_false, wrap64, hc, ob, Nat.reduceAdd, Nat.reduceMul, Nat.reduceLeDiff, Nat.reduceEqDiff, ↓reduceIte]
                            refine rlist_ret D.rd D.len fun r9 H9 k9 h9 o9 => ?_
                            have D4 := D.read k9 h9 (rList_left _)
                            have g4 := gD.keepM k9 (fun j hj e => by have := (gD.sid_ge hj).1; omega)
                            have R4 := rD.M k9 (fun j e => .inl (by omega)) (.inl rfl)
                            have ob4 := D4.ob
                            have bev := gD.beq
                            have n9 := k9.next
                            have c9 := o9.cells
                            simp (disch := first | omega | (simp only [next_new, next_upd] <;> omega) | fail) only [vai, vaim, vaic, bots, Bool.not_true, Bool.not_false, decide_true, decide_false, wrap64, ob4, reK_same bev, c9, Nat.reduceAdd, Nat.reduceMul, Nat.reduceLeDiff, Nat.reduceEqDiff, ↓reduceIte]
                            have rl := rep_length rList j s5
                            have D4n := D4.kept ((Keep.refl Nothing H9).new (.cells [r9] true))
                            have R4n := R4.M ((Keep.refl Nothing H9).new (.cells [r9] true)) (fun j h => h.elim) (.inl rfl)
                            have o9n := o9.row.kept ((Keep.refl Nothing H9).new (.cells [r9] true))
                            have s9 : ∀ y, sid r9 = some y → Hd.next ≤ y ∧ y < H9.next := fun y hy => o9.sid_ge hy
                            have s5' : ∀ y, sid dv = some y → y < Hd.next := fun y hy => (gD.sid_ge hy).2
                            refine app_ret (n := j) g4 (by simp (disch := first | omega | (simp only [next_new, next_upd] <;> omega) | fail) only [vaim]; rfl) rfl (by omega) (by omega) (by omega) (by omega) (by omega) ?_
                            intro v5 H10 n10 k10 g10 s10
                            simp only [next_new] at n10 s10
                            have kk := app_keep n10 k10
                            have D5 := D4n.grow (lo := Hu.next) kk (fun j hj => (g4.sid_ge hj).1) (by omega)
                            have R5 := R4n.M kk (fun j e => .inr e) (.inr s10)
                            have R6 := R5.snoc (l := (rList (rep rList j s5).2).1) (o9n.M kk (fun y hy e => by have := s9 y hy; have := s5' y e; omega)) (fun y hy => ⟨by have := s9 y hy; omega, fun e => by
                              obtain ⟨z, z1, z2⟩ := s10
                              rw [z1] at e; injection e with e
                              have := s9 y hy
                              omega⟩) (by rw [rl]; exact hus)
                            have ob5 := D5.ob
                            have c5 := g10.cells
                            simp (disch := first | omega | (simp only [next_new, next_upd] <;> omega) | fail) only [vai, vaim, vaic, bots, Bool.not_true, Bool.not_false, decide_true, decide_false, wrap64, ob5, c5, Nat.reduceAdd, Nat.reduceMul, Nat.reduceLeDiff, Nat.reduceEqDiff, ↓reduceIte]
                            refine ⟨i - (j + 1), by omega, j + 1, v5, us ++ [r9], rfl, by omega, rfl, D5.put _, wq_upd (((kD.trans (wq_of k9)).new _).trans' kk (fun j hj e => by have := (g4.sid_ge e).1; omega)) _, (Grown.upd g10 (by omega) _).own, by simp [hus], ?_⟩
                            simp only [rep]
                            exact R6.M (M := fun j => j = q) ((Keep.refl (fun j => j = q) _).upd (.inr rfl) _) (fun j e => .inl (by omega)) (.inl rfl)
                          · have hjk : i = j := by omega
                            have hE := hE.M kD (by omega)
                            have hR := hR.M kD (by omega)
                            have hA := hA.M kD (by omega)
                            have hU := hU.M kD (by omega)
                            have hD := rD.fin gD (by rw [rep_length]; exact hus) hwd
                            have hlD := rep_mem j s5
                            have hlD2 := rep_length rList j s5
                            have h5len := hlen5
                            subst hjk
                            clear gD kD rD hj hwd
                            have ob := D.ob
                            simp (disch := first | omega | (simp only [next_new, next_upd] <;> omega) | fail) only [vai, vaim, vaic, bots, Bool.not_true, Bool.not_false, decide_true, decide_false, wrap64, hc, ob, Nat.reduceAdd, Nat.reduceMul, Nat.reduceLeDiff, Nat.reduceEqDiff, ↓reduceIte]
                            generalize (rep rList i s5).2 = s6 at *
                            generalize (rep rList i s5).1 = down at *
                            have oh := D.op
                            have obd := D.ob
                            obtain ⟨lv, r1, r2, r3, r4, r5, r6, r7⟩ := D.rd
                            have hll := r2.1.len1
                            rw [u8s_length] at hll
                            obtain ⟨left, bad⟩ := s6
                            simp only at *
                            cases bad with
                            | true =>
                              simp (disch := first | omega | (simp only [next_new, next_upd] <;> omega) | fail) only [vai, vaim, vaic, bots, Bool.not_true, Bool.not_false, decide_true, decide_false, wrap64, r1, oh, vaig, Nat.reduceAdd, Nat.reduceMul, Nat.reduceLeDiff, Nat.reduceEqDiff, ↓reduceIte]
                              refine hq0 (fun x hx => ?_) _ (D.keep.upd (id := H.next) (.inl (Nat.le_refl _)) _)
                              rw [hraw, if_pos (.inl rfl)] at hx
                              cases hx
                            | false =>
                              by_cases c2 : (0 : Int) < left.length
                              · simp (disch := first | omega | (simp only [next_new, next_upd] <;> omega) | fail) only [vai, vaim, vaic, bots, Bool.not_true, Bool.not_false, decide_true, decide_false, wrap64, r1, oh, hll, c2, vaig, Nat.reduceAdd, Nat.reduceMul, Nat.reduceLeDiff, Nat.reduceEqDiff, ↓reduceIte]
                                refine hq0 (fun x hx => ?_) _ (D.keep.upd (id := H.next) (.inl (Nat.le_refl _)) _)
                                rw [hraw, if_pos (.inr (by omega))] at hx
                                cases hx
                              · rw [if_neg (by intro h; rcases h with h | h; cases h; omega)] at hraw
                                simp (disch := first | omega | (simp only [next_new, next_upd] <;> omega) | fail) only [vai, vaim, vaic, bots, Bool.not_true, Bool.not_false, decide_true, decide_false, wrap64, r1, obd, hll, c2, vaig, Nat.reduceAdd, Nat.reduceMul, Nat.reduceLeDiff, Nat.reduceEqDiff, ↓reduceIte]
                                refine check_ret (x := ⟨i, es, rank, arcs, up, down⟩) ⟨hE.1, hR.1, hA.1, hU.rows, hD.rows⟩ (fun l hl => by have := hlU l hl; omega) (fun l hl => by have := hlD l hl; omega) fun bb Hc kc sc => ?_
                                have Dc := D.kept kc
                                have hE := hE.M kc (fun j h => h.elim)
                                have hR := hR.M kc (fun j h => h.elim)
                                have hA := hA.M kc (fun j h => h.elim)
                                have hU := hU.M kc (fun j h => h.elim)
                                have hD := hD.M kc (fun j h => h.elim)
                                have obc := Dc.ob
                                have ohc := Dc.op
                                cases bb with
                                | false =>
                                  simp (disch := first | omega | (simp only [next_new, next_upd] <;> omega) | fail) only [vai, vaim, vaic, bots, Bool.not_true, Bool.not_false, decide_true, decide_false, wrap64, obc, ohc, vaig, Nat.reduceAdd, Nat.reduceMul, Nat.reduceLeDiff, Nat.reduceEqDiff, ↓reduceIte]
                                  refine hq0 (fun x hx ha => ?_) _ (Dc.keep.upd (id := H.next) (.inl (Nat.le_refl _)) _)
                                  rw [hraw] at hx
                                  injection hx with hx
                                  subst hx
                                  have := sc.2 ha
                                  cases this
                                | true =>
                                  have hal := sc.1 rfl
                                  clear sc D r1 r2 r3 r4 r5 r6 r7 hll ob oh obd
                                  simp (disch := first | omega | (simp only [next_new, next_upd] <;> omega) | fail) only [vai, vaim, vaic, bots, Bool.not_true, Bool.not_false, decide_true, decide_false, wrap64, obc, vaig, Nat.reduceAdd, Nat.reduceMul, Nat.reduceLeDiff, Nat.reduceEqDiff, ↓reduceIte]
                                  have br := hR.1.beq
                                  have ba := hA.1.beq
                                  have bu := hU.rows.beq
                                  have bd := hD.rows.beq
                                  have hn60 := hal.net.2.1
                                  have he400 := hal.net.2.2.1
                                  have ha3 := hal.count
                                  have hrl := hal.rankLen
                                  have hul := hal.upLen
                                  have hdl2 := hal.downLen
                                  simp only at hn60 he400 ha3 hrl hul hdl2
                                  obtain ⟨us, hU1, hU2, hU3⟩ := hU
                                  obtain ⟨ds, hD1, hD2, hD3⟩ := hD
                                  refine cloneE_ret hE.1 (by omega) fun e1 Hf kf of => ?_
                                  have De := Dc.kept kf
                                  have obe := De.ob
                                  simp (disch := first | omega | (simp only [next_new, next_upd] <;> omega) | fail) only [vai, vaim, vaic, bots, Bool.not_true, Bool.not_false, decide_true, decide_false, wrap64, obe, reK_same br, reK_same ba, reK_same bu, reK_same bd, Nat.reduceAdd, Nat.reduceMul, Nat.reduceLeDiff, Nat.reduceEqDiff, ↓reduceIte]
                                  refine cloneI_ret (hR.1.kept kf) (by omega) fun x1 Hg kg og => ?_
                                  have Df := De.kept kg
                                  have obf := Df.ob
                                  have kfg := kf.trans kg
                                  simp (disch := first | omega | (simp only [next_new, next_upd] <;> omega) | fail) only [vai, vaim, vaic, bots, Bool.not_true, Bool.not_false, decide_true, decide_false, wrap64, obf, reK_same br, reK_same ba, reK_same bu, reK_same bd, Nat.reduceAdd, Nat.reduceMul, Nat.reduceLeDiff, Nat.reduceEqDiff, ↓reduceIte]
                                  refine cloneA_ret (hA.1.kept kfg) (by omega) fun a1 Hh kh oh => ?_
                                  have Dg := Df.kept kh
                                  have obg := Dg.ob
                                  have kfh := kfg.trans kh
                                  simp (disch := first | omega | (simp only [next_new, next_upd] <;> omega) | fail) only [vai, vaim, vaic, bots, Bool.not_true, Bool.not_false, decide_true, decide_false, wrap64, obg, reK_same br, reK_same ba, reK_same bu, reK_same bd, Nat.reduceAdd, Nat.reduceMul, Nat.reduceLeDiff, Nat.reduceEqDiff, ↓reduceIte]
                                  refine cloneR_ret (hU1.1.kept kfh) (by omega) fun u1 Hi ki oi => ?_
                                  have Dh := Dg.kept ki
                                  have obh := Dh.ob
                                  have kfi := kfh.trans ki
                                  simp (disch := first | omega | (simp only [next_new, next_upd] <;> omega) | fail) only [vai, vaim, vaic, bots, Bool.not_true, Bool.not_false, decide_true, decide_false, wrap64, obh, reK_same br, reK_same ba, reK_same bu, reK_same bd, Nat.reduceAdd, Nat.reduceMul, Nat.reduceLeDiff, Nat.reduceEqDiff, ↓reduceIte]
                                  refine cloneR_ret (hD1.1.kept kfi) (by omega) fun d1 Hj kj oj => ?_
                                  have Di := Dh.kept kj
                                  have obi := Di.ob
                                  have opi := Di.op
                                  have kfj := kfi.trans kj
                                  have ce := of.cells
                                  have cx := og.cells
                                  have ca := oh.cells
                                  have cu := oi.cells
                                  have cd := oj.cells
                                  have nHc := Dc.lt
                                  have nf := kf.next
                                  have ng := kg.next
                                  have nh := kh.next
                                  have ni := ki.next
                                  have fe := (own_fin (w := w) of (by omega)).M ((kg.trans kh).trans (ki.trans kj)) (fun j h => h.elim)
                                  have fx := (own_fin (w := w) og (by omega)).M (kh.trans (ki.trans kj)) (fun j h => h.elim)
                                  have fa := (own_fin (w := w) oh (by omega)).M (ki.trans kj) (fun j h => h.elim)
                                  have fu := (own_fin (w := w) oi (by omega)).M kj (fun j h => h.elim)
                                  have fd := own_fin (w := w) oj (by omega)
                                  have hqp := Di.lq
                                  simp (disch := first | omega | (simp only [next_new, next_upd] <;> omega) | fail) only [vai, vaim, vaic, bots, Bool.not_true, Bool.not_false, decide_true, decide_false, wrap64, obi, opi, ce, cx, ca, cu, cd, vaig, Nat.reduceAdd, Nat.reduceMul, Nat.reduceLeDiff, Nat.reduceEqDiff, ↓reduceIte]
                                  refine hq1 _ hraw hal e1 x1 a1 u1 d1 _ ?_ ?_
                                  · repeat (first | exact Di.keep | refine Keep.upd ?_ (.inl (by omega)) _)
                                  · refine IdxAt.fin (w := w) (Hs := Hj) ?_ fe fx fa ⟨us, fu, hU2, fun a r l z1 z2 => (hU3 a r l z1 z2).M kfj (fun j h => h.elim)⟩ ⟨ds, fd, hD2, fun a r l z1 z2 => (hD3 a r l z1 z2).M kfj (fun j h => h.elim)⟩
                                    repeat (first | exact Keep.refl _ _ | refine Keep.upd ?_ (.inr (by omega)) _)
  · intro hpx
    have hpx' : ¬ b.take 4 = [77, 73, 88, 49] := hpx
    have cv := hb.1.cells
    simp (disch := first | omega | (simp only [next_new, next_upd] <;> omega) | fail) only [vai, vaim, vaic, bots, Bool.not_true, Bool.not_false, decide_true, decide_false, wrap64, vaig, cv, Nat.reduceAdd, Nat.reduceMul, Nat.reduceLeDiff, Nat.reduceEqDiff, ↓reduceIte]
    refine hq0 (fun x hx => ?_) _ ((k0.new _).upd (id := H.next) (.inl (Nat.le_refl _)) _)
    unfold rawOf at hx
    rw [if_neg hpx'] at hx
    cases hx
end Go.Proofs.Ytknhlpmmalcchaa

namespace Go.Proofs.Ytknhlpmmalcchaa
open Go Go.VAI
set_option linter.unusedSimpArgs false

/-! ### what is written is read -/
theorem wrap8 (n : Int) : IntKind.u8.wrap n = n % 256 := rfl
theorem rFour_four (v : Int) (l : List Int) (bad : Bool) : rFour ⟨fourOf v ++ l, bad⟩ = (v % 4294967296, ⟨l, bad⟩) := by
  have s24 : shrI .i64 v 24 = v / 16777216 := by
    show v.fdiv (2 ^ (Nat.min (24 : Int).toNat 64)) = _
    rw [show (2 ^ (Nat.min (24 : Int).toNat 64) : Int) = 16777216 from by decide, Int.fdiv_eq_ediv_of_nonneg _ (by omega)]
  have s16 : shrI .i64 v 16 = v / 65536 := by
    show v.fdiv (2 ^ (Nat.min (16 : Int).toNat 64)) = _
    rw [show (2 ^ (Nat.min (16 : Int).toNat 64) : Int) = 65536 from by decide, Int.fdiv_eq_ediv_of_nonneg _ (by omega)]
  have s8 : shrI .i64 v 8 = v / 256 := by
    show v.fdiv (2 ^ (Nat.min (8 : Int).toNat 64)) = _
    rw [show (2 ^ (Nat.min (8 : Int).toNat 64) : Int) = 256 from by decide, Int.fdiv_eq_ediv_of_nonneg _ (by omega)]
  show (numOf _ _ _ _, _) = _
  rw [wrap8, wrap8, wrap8, wrap8, s24, s16, s8, numOf_eq (by omega) (by omega) (by omega) (by omega)]
  congr 1
  omega
theorem foursOf_cons (v : Int) (vs l : List Int) : foursOf (v :: vs) ++ l = fourOf v ++ (foursOf vs ++ l) := by simp [foursOf]
theorem foursOf_nil (l : List Int) : foursOf [] ++ l = l := rfl
theorem rEdge_edge {e : Edge} (h : (0 ≤ e.src ∧ e.src < 4294967296) ∧ (0 ≤ e.dst ∧ e.dst < 4294967296) ∧ (0 ≤ e.mode ∧ e.mode < 4294967296) ∧ (0 ≤ e.cost ∧ e.cost < 4294967296)) (l : List Int) (bad : Bool) : rEdge ⟨edgeB e ++ l, bad⟩ = (e, ⟨l, bad⟩) := by
  obtain ⟨a, b, c, d⟩ := e
  simp only at h
  simp only [edgeB, foursOf_cons, foursOf_nil, rEdge, rFour_four]
  simp only [Prod.mk.injEq, Edge.mk.injEq, and_true]
  omega
theorem rRank_rank {r : Int} (h : -1 ≤ r ∧ r < 4294967295) (l : List Int) (bad : Bool) : rRank ⟨rankB r ++ l, bad⟩ = (r, ⟨l, bad⟩) := by
  simp only [rankB, foursOf_cons, foursOf_nil, rRank, rFour_four]
  simp only [Prod.mk.injEq, and_true]
  omega
theorem rArc_arc {a : Arc} (h1 : 0 ≤ a.src ∧ a.src < 4294967296) (h2 : 0 ≤ a.dst ∧ a.dst < 4294967296) (h3 : 0 ≤ a.mode ∧ a.mode < 4294967296) (h4 : 0 ≤ a.cost ∧ a.cost ≤ 4398046511104) (h5 : -1 ≤ a.edge ∧ a.edge < 4294967295) (h6 : 0 ≤ a.a ∧ a.a < 4294967296) (h7 : 0 ≤ a.b ∧ a.b < 4294967296) (l : List Int) (bad : Bool) : rArc ⟨arcB a ++ l, bad⟩ = (a, ⟨l, bad⟩) := by
  obtain ⟨s, d, m, c, e, p, q⟩ := a
  simp only at h1 h2 h3 h4 h5 h6 h7
  have s32 : shrI .i64 c 32 = c / 4294967296 := by
    show c.fdiv (2 ^ (Nat.min (32 : Int).toNat 64)) = _
    rw [show (2 ^ (Nat.min (32 : Int).toNat 64) : Int) = 4294967296 from by decide, Int.fdiv_eq_ediv_of_nonneg _ (by omega)]
  have e32 : (2 : Int) ^ 32 = 4294967296 := by decide
  have hs : shlI .i64 (c / 4294967296 % 4294967296) 32 = (c / 4294967296 % 4294967296) * 2 ^ 32 := shlI_small (k := 32) (by omega) (by omega) (by rw [e32]; omega)
  have ho : orI .i64 ((c / 4294967296 % 4294967296) * 2 ^ 32) (c % 4294967296) = (c / 4294967296 % 4294967296) * 2 ^ 32 + c % 4294967296 := orI_add (k := 32) (by omega) (by omega) (by rw [e32]; omega) (by rw [e32]; omega)
  simp only [arcB, List.append_assoc, foursOf_cons, foursOf_nil, rArc, rFour_four, s32, hs, ho]
  rw [e32]
  simp only [Prod.mk.injEq, Arc.mk.injEq, and_true]
  omega
theorem rCount_four {size n : Nat} {l : List Int} {bad : Bool} (h : n ≤ l.length / size) (hn : n < 4294967296) : rCount size ⟨fourOf n ++ l, bad⟩ = ((n : Int), ⟨l, bad⟩) := by
  have e : ((n : Int) % 4294967296) = n := by omega
  simp only [rCount, rFour_four, e]
  rw [if_neg (by omega)]
theorem rep_flat {α : Type} {f : RS → α × RS} {B : α → List Int} {bad : Bool} : ∀ (n : Nat) (l : List α), l.length = n → (∀ a ∈ l, ∀ r, f ⟨B a ++ r, bad⟩ = (a, ⟨r, bad⟩)) → ∀ r, rep f n ⟨l.flatMap B ++ r, bad⟩ = (l, ⟨r, bad⟩)
  | 0, l, h, _, r => by
    have := List.eq_nil_of_length_eq_zero h
    subst this; rfl
  | n + 1, l, h, hf, r => by
    obtain ⟨l', a, rfl⟩ : ∃ l' a, l = l' ++ [a] := by
      have hne : l ≠ [] := fun e => by simp [e] at h
      exact ⟨l.dropLast, l.getLast hne, (List.dropLast_concat_getLast hne).symm⟩
    simp at h
    have ih := rep_flat (f := f) (B := B) n l' h (fun b hb => hf b (by simp [hb])) (B a ++ r)
    have e : (l' ++ [a]).flatMap B ++ r = l'.flatMap B ++ (B a ++ r) := by simp
    rw [e, rep, ih, hf a (by simp)]
theorem rList_row {l : List Int} (h : ∀ x ∈ l, 0 ≤ x ∧ x < 4294967296) (hl : l.length < 4294967296) (r : List Int) (bad : Bool) : rList ⟨rowB l ++ r, bad⟩ = (l, ⟨r, bad⟩) := by
  have e : rowB l ++ r = fourOf (l.length : Int) ++ (foursOf l ++ r) := by simp [rowB, foursOf]
  have hc : rCount 4 ⟨fourOf (l.length : Int) ++ (foursOf l ++ r), bad⟩ = ((l.length : Int), ⟨foursOf l ++ r, bad⟩) := rCount_four (by rw [List.length_append, foursOf_length]; omega) hl
  simp only [rList, e, hc, Int.toNat_natCast]
  exact rep_flat l.length l rfl (fun a ha r => by
    have := h a ha
    rw [rFour_four]
    rw [show a % 4294967296 = a by omega]) r

/-! ### reading on -/
structure Reads {α : Type} (f : RS → α × RS) : Prop where
  bad : ∀ s, s.bad = true → (f s).2.bad = true
  ext : ∀ s, (f s).2.bad = false → ∀ r, f ⟨s.left ++ r, s.bad⟩ = ((f s).1, ⟨(f s).2.left ++ r, (f s).2.bad⟩)
def andThen {α β : Type} (f : RS → α × RS) (g : α → RS → β × RS) (s : RS) : β × RS := g (f s).1 (f s).2
theorem Reads.bind {α β : Type} {f : RS → α × RS} {g : α → RS → β × RS} (hf : Reads f) (hg : ∀ a, Reads (g a)) : Reads (andThen f g) := by
  refine ⟨fun s h => (hg _).bad _ (hf.bad s h), fun s h r => ?_⟩
  have hb : (f s).2.bad = false := by
    cases hx : (f s).2.bad with
    | false => rfl
    | true =>
      have := (hg (f s).1).bad _ hx
      unfold andThen at h
      rw [h] at this; cases this
  unfold andThen at h ⊢
  rw [hf.ext s hb r]
  exact (hg _).ext _ h r
theorem Reads.done {α : Type} (a : α) : Reads (fun s : RS => (a, s)) := ⟨fun s h => h, fun s h r => rfl⟩
/-- The first part, up to the edges; then the rest. -/
def partA : RS → (Int × List Edge) × RS := andThen rFour fun n => andThen (rCount 16) fun k => andThen (rep rEdge k.toNat) fun es s => ((n, es), s)
def partB (n : Int) : RS → (List Int × List Arc × List (List Int) × List (List Int)) × RS := andThen (rep rRank n.toNat) fun rank => andThen (rCount 32) fun m => andThen (rep rArc m.toNat) fun arcs => andThen (rep rList n.toNat) fun up => andThen (rep rList n.toNat) fun down s => ((rank, arcs, up, down), s)
def rawAB (b : List Int) : Option Idx :=
  if b.take 4 = [77, 73, 88, 49] then
    if (((partA ⟨b.drop 4, false⟩).2.left.length / 4 : Nat) : Int) < (partA ⟨b.drop 4, false⟩).1.1 ∨ (partA ⟨b.drop 4, false⟩).2.bad = true then none else
    if (partB (partA ⟨b.drop 4, false⟩).1.1 (partA ⟨b.drop 4, false⟩).2).2.bad = true ∨ 0 < (partB (partA ⟨b.drop 4, false⟩).1.1 (partA ⟨b.drop 4, false⟩).2).2.left.length then none
    else some ⟨(partA ⟨b.drop 4, false⟩).1.1, (partA ⟨b.drop 4, false⟩).1.2, (partB (partA ⟨b.drop 4, false⟩).1.1 (partA ⟨b.drop 4, false⟩).2).1.1, (partB (partA ⟨b.drop 4, false⟩).1.1 (partA ⟨b.drop 4, false⟩).2).1.2.1, (partB (partA ⟨b.drop 4, false⟩).1.1 (partA ⟨b.drop 4, false⟩).2).1.2.2.1, (partB (partA ⟨b.drop 4, false⟩).1.1 (partA ⟨b.drop 4, false⟩).2).1.2.2.2⟩
  else none
theorem raw_eq (b : List Int) : rawOf b = rawAB b := rfl
end Go.Proofs.Ytknhlpmmalcchaa

namespace Go.Proofs.Ytknhlpmmalcchaa
open Go Go.VAI
set_option linter.unusedSimpArgs false

theorem arc_mode {n : Int} {es : List Edge} {arcs : List Arc} (hn : NetOk n es) (h : ∀ (i : Nat) a, arcs[i]? = some a → ArcOk es arcs i a) : ∀ m, ∀ (i : Nat) a, i < m → arcs[i]? = some a → 0 ≤ a.mode ∧ a.mode < 5 := by
  intro m
  induction m with
  | zero => intro i a hi; omega
  | succ m ih =>
    intro i a hi ha
    rcases (h i a ha).2 with ⟨h1, h2, h3, h4⟩ | ⟨h1, h2, h3, h4, h5, p, q, h6, h7, h8, h9⟩
    · exact (hn.2.2.2 _ (List.mem_of_getElem? h4)).2.2.1
    · have e1 := ih _ p (by omega) h6
      rw [h8] at e1
      exact e1
theorem rank_lt {x : Idx} (h : Allowed x) : ∀ r ∈ x.rank, -1 ≤ r ∧ r < 4294967295 := by
  intro r hr
  have h1 := (allowed_enc h).1 r hr
  omega
theorem row_lt {arcs : List Arc} {l : List Int} (h : ∀ y ∈ l, 0 ≤ y ∧ ∃ a, arcs[y.toNat]? = some a) (hn : l.Nodup) (hc : arcs.length ≤ 300000) : (∀ y ∈ l, 0 ≤ y ∧ y < 4294967296) ∧ l.length < 4294967296 := by
  have h1 : ∀ y ∈ l, 0 ≤ y ∧ y < arcs.length := fun y hy => by
    obtain ⟨h1, a, h2⟩ := h y hy
    have := (List.getElem?_eq_some_iff.1 h2).1
    exact ⟨h1, by omega⟩
  have h2 := few_below arcs.length l hn h1
  exact ⟨fun y hy => by have := h1 y hy; omega, by omega⟩
theorem mem_at {α : Type} {l : List α} {a : α} (h : a ∈ l) : ∃ i : Nat, l[i]? = some a := by
  obtain ⟨i, hi, e⟩ := List.getElem_of_mem h
  exact ⟨i, by simp [hi, e]⟩
theorem reads_up {x : Idx} (h : Allowed x) : ∀ l ∈ x.up, ∀ r, rList ⟨rowB l ++ r, false⟩ = (l, ⟨r, false⟩) := by
  intro l hl r
  obtain ⟨i, hi⟩ := mem_at hl
  have hu := h.up i l hi
  have := row_lt (arcs := x.arcs) (fun y hy => by obtain ⟨h1, a, h2, _⟩ := hu.2 y hy; exact ⟨h1, a, h2⟩) hu.1 h.count
  exact rList_row this.1 this.2 r false
theorem reads_down {x : Idx} (h : Allowed x) : ∀ l ∈ x.down, ∀ r, rList ⟨rowB l ++ r, false⟩ = (l, ⟨r, false⟩) := by
  intro l hl r
  obtain ⟨i, hi⟩ := mem_at hl
  have hu := h.down i l hi
  have := row_lt (arcs := x.arcs) (fun y hy => by obtain ⟨h1, a, h2, _⟩ := hu.2 y hy; exact ⟨h1, a, h2⟩) hu.1 h.count
  exact rList_row this.1 this.2 r false
theorem reads_arcs {x : Idx} (h : Allowed x) : ∀ a ∈ x.arcs, ∀ r, rArc ⟨arcB a ++ r, false⟩ = (a, ⟨r, false⟩) := by
  intro a ha r
  obtain ⟨i, hi⟩ := mem_at ha
  have hil := (List.getElem?_eq_some_iff.1 hi).1
  have hc := h.count
  have he := arc_ends h.net h.arcs (i + 1) i a (by omega) hi
  have hm := arc_mode h.net h.arcs (i + 1) i a (by omega) hi
  have hn := h.net.2.1
  have hel := h.net.2.2.1
  obtain ⟨h1, h2⟩ := h.arcs i a hi
  rcases h2 with ⟨q1, q2, q3, q4⟩ | ⟨q1, q2, q3, q4, q5, _⟩
  · have := (List.getElem?_eq_some_iff.1 q4).1
    exact rArc_arc (by omega) (by omega) (by omega) h1 (by omega) (by omega) (by omega) r false
  · exact rArc_arc (by omega) (by omega) (by omega) h1 (by omega) (by omega) (by omega) r false
theorem raw_encode {x : Idx} (h : Allowed x) : rawOf (encodeOf x) = some x := by
  obtain ⟨n1, n2, n3, n4⟩ := h.net
  have hr := h.rankLen
  have hu := h.upLen
  have hd := h.downLen
  have hc := h.count
  obtain ⟨n, hn⟩ : ∃ n : Nat, x.n = n := ⟨x.n.toNat, by omega⟩
  have hul : x.up.length = n := by omega
  have hdl : x.down.length = n := by omega
  have hrl : x.rank.length = n := by omega
  have hE := rep_flat (f := rEdge) (B := edgeB) (bad := false) x.es.length x.es rfl (fun e he r => rEdge_edge (by
    obtain ⟨a1, a2, a3, a4⟩ := n4 e he
    refine ⟨?_, ?_, ?_, ?_⟩ <;> omega) r false)
  have hR := rep_flat (f := rRank) (B := rankB) (bad := false) n x.rank hrl (fun e he r => rRank_rank (rank_lt h e he) r false)
  have hA := rep_flat (f := rArc) (B := arcB) (bad := false) x.arcs.length x.arcs rfl (reads_arcs h)
  have hU := rep_flat (f := rList) (B := rowB) (bad := false) n x.up hul (reads_up h)
  have hD := rep_flat (f := rList) (B := rowB) (bad := false) n x.down hdl (reads_down h)
  have e0 : encodeOf x = [77, 73, 88, 49] ++ (fourOf n ++ (fourOf (x.es.length : Int) ++ (x.es.flatMap edgeB ++ (x.rank.flatMap rankB ++ (fourOf (x.arcs.length : Int) ++ (x.arcs.flatMap arcB ++ (x.up.flatMap rowB ++ (x.down.flatMap rowB ++ [])))))))) := by
    simp [encodeOf, foursOf, hn]
  have hn32 : (n : Int) % 4294967296 = n := by omega
  rw [raw_eq, e0]
  generalize hT : x.down.flatMap rowB ++ [] = tD at *
  have hD' : rep rList n ⟨tD, false⟩ = (x.down, ⟨[], false⟩) := by rw [← hT]; exact hD []
  generalize hT2 : x.up.flatMap rowB ++ tD = tU at *
  have hU' : rep rList n ⟨tU, false⟩ = (x.up, ⟨tD, false⟩) := by rw [← hT2]; exact hU tD
  have cA : rCount 32 ⟨fourOf (x.arcs.length : Int) ++ (x.arcs.flatMap arcB ++ tU), false⟩ = ((x.arcs.length : Int), ⟨x.arcs.flatMap arcB ++ tU, false⟩) := rCount_four (by rw [List.length_append, flat_len arcB_len]; omega) (by omega)
  generalize hT3 : x.arcs.flatMap arcB ++ tU = tA at *
  have hA' : rep rArc x.arcs.length ⟨tA, false⟩ = (x.arcs, ⟨tU, false⟩) := by rw [← hT3]; exact hA tU
  generalize hT4 : fourOf (x.arcs.length : Int) ++ tA = tM at *
  have hR' := hR tM
  have lR : (x.rank.flatMap rankB ++ tM).length / 4 ≥ n := by rw [List.length_append, flat_len rankB_len]; omega
  generalize hT5 : x.rank.flatMap rankB ++ tM = tR at *
  have cE : rCount 16 ⟨fourOf (x.es.length : Int) ++ (x.es.flatMap edgeB ++ tR), false⟩ = ((x.es.length : Int), ⟨x.es.flatMap edgeB ++ tR, false⟩) := rCount_four (by rw [List.length_append, flat_len edgeB_len]; omega) (by omega)
  have hE' := hE tR
  have pA : partA ⟨fourOf (n : Int) ++ (fourOf (x.es.length : Int) ++ (x.es.flatMap edgeB ++ tR)), false⟩ = (((n : Int), x.es), ⟨tR, false⟩) := by
    simp only [partA, andThen, rFour_four, hn32, cE, Int.toNat_natCast, hE']
  have pB : partB n ⟨tR, false⟩ = ((x.rank, x.arcs, x.up, x.down), ⟨[], false⟩) := by
    simp only [partB, andThen, Int.toNat_natCast, hR', cA, hA', hU', hD']
  generalize hT6 : fourOf (n : Int) ++ (fourOf (x.es.length : Int) ++ (x.es.flatMap edgeB ++ tR)) = tN at *
  have t4 : ([77, 73, 88, 49] ++ tN).take 4 = [(77 : Int), 73, 88, 49] := rfl
  have d4 : ([77, 73, 88, 49] ++ tN).drop 4 = tN := rfl
  unfold rawAB
  rw [if_pos t4, d4, pA]
  simp only
  rw [if_neg (by intro hh; rcases hh with hh | hh; omega; cases hh), pB]
  simp only
  rw [if_neg (by intro hh; rcases hh with hh | hh; cases hh; simp at hh)]
  obtain ⟨xn, _, _, _, _, _⟩ := x
  simp only at hn
  rw [hn]
end Go.Proofs.Ytknhlpmmalcchaa

namespace Go.Proofs.Ytknhlpmmalcchaa
open Go Go.VAI
set_option linter.unusedSimpArgs false

/-! ### what is read is what was written -/
theorem Bytes.drop' {a b : List Int} (h : Bytes (a ++ b)) : Bytes b := fun x hx => h x (by simp [hx])
theorem nbad {α : Type} {f : RS → α × RS} (hf : Reads f) {s : RS} (h : (f s).2.bad = false) : s.bad = false := by
  cases hx : s.bad with
  | false => rfl
  | true => have := hf.bad s hx; rw [h] at this; cases this
/-- What a reader takes is what a writer lays. -/
def Writes {α : Type} (f : RS → α × RS) (B : α → List Int) : Prop := ∀ s, Bytes s.left → (f s).2.bad = false → s.left = B (f s).1 ++ (f s).2.left
theorem Writes.bytes {α : Type} {f : RS → α × RS} {B : α → List Int} (h : Writes f B) {s : RS} (hb : Bytes s.left) (hn : (f s).2.bad = false) : Bytes (f s).2.left := by
  have := h s hb hn
  rw [this] at hb
  exact hb.drop'
theorem Writes.bind {α β : Type} {f : RS → α × RS} {g : α → RS → β × RS} {B : α → List Int} {C : α → β → List Int} (hf : Writes f B) (hg : ∀ a, Writes (g a) (C a)) (hr : ∀ a, Reads (g a)) : ∀ s, Bytes s.left → (andThen f g s).2.bad = false → s.left = B (f s).1 ++ (C (f s).1 (andThen f g s).1 ++ (andThen f g s).2.left) := by
  intro s hb hn
  have h1 : (f s).2.bad = false := nbad (hr _) hn
  have h2 := hf s hb h1
  have h3 := hg (f s).1 (f s).2 (hf.bytes hb h1) hn
  conv => lhs; rw [h2]
  congr 1
/-- What a reader takes, by what it has read. -/
def Takes {β : Type} (h : RS → β × RS) (R : β → List Int → Prop) : Prop := ∀ s, Bytes s.left → (h s).2.bad = false → ∃ l, R (h s).1 l ∧ s.left = l ++ (h s).2.left
theorem Takes.done {β : Type} (x : β) : Takes (fun s : RS => (x, s)) (fun r l => r = x ∧ l = []) := fun s _ _ => ⟨[], ⟨rfl, rfl⟩, rfl⟩
theorem Takes.bind {α β : Type} {f : RS → α × RS} {g : α → RS → β × RS} {R1 : α → List Int → Prop} {R2 : α → β → List Int → Prop} (hf : Takes f R1) (hg : ∀ a, Takes (g a) (R2 a)) (hr : ∀ a, Reads (g a)) : Takes (andThen f g) (fun r l => ∃ a l1 l2, R1 a l1 ∧ R2 a r l2 ∧ l = l1 ++ l2) := by
  intro s hb hn
  have h1 : (f s).2.bad = false := nbad (hr _) hn
  obtain ⟨l1, q1, e1⟩ := hf s hb h1
  have hb2 : Bytes (f s).2.left := by
    rw [e1] at hb
    exact hb.drop'
  obtain ⟨l2, q2, e2⟩ := hg (f s).1 (f s).2 hb2 hn
  refine ⟨l1 ++ l2, ⟨(f s).1, l1, l2, q1, q2, rfl⟩, ?_⟩
  rw [e1, e2, List.append_assoc]
  rfl
end Go.Proofs.Ytknhlpmmalcchaa

namespace Go.Proofs.Ytknhlpmmalcchaa
open Go Go.VAI
set_option linter.unusedSimpArgs false

def look1 (x : Option (AVal × AHeap)) : Option (Bool × Nat × Option AObj) :=
  match x with
  | some (.bool b, H) => some (b, H.next, H.obj 0)
  | _ => none
def known26N : Nat := match look1 (callA A 100 26 [] ⟨fun _ => none, 1⟩) with | some (_, n, _) => n | none => 0
theorem e26 (f : Nat → Option AObj) : look1 (callA A 100 26 [] ⟨f, 1⟩) = some (true, known26N, f 0) := by kernel_rfl
theorem known26N_ge : 1 ≤ known26N := by decide +kernel
theorem known26_ret {f : Nat → Option AObj} {Q : AVal → AHeap → Prop} (hq : ∀ H', Keep Nothing ⟨f, 1⟩ H' → Q (.bool true) H') : Ret A 26 [] ⟨f, 1⟩ Q := by
  have h := e26 f
  unfold look1 at h
  split at h
  · rename_i b H' e
    injection h with h
    injection h with h1 h2
    injection h2 with h2 h3
    subst h1
    refine Ret.test (n := 100) (.bool true, H') e (hq H' ⟨by rw [h2]; exact known26N_ge, fun i hi _ => ?_⟩)
    have : i = 0 := by simpa using hi
    subst this; exact h3
  · cases h
end Go.Proofs.Ytknhlpmmalcchaa

namespace Go.Proofs.Ytknhlpmmalcchaa
open Go Go.VAI
set_option linter.unusedSimpArgs false

end Go.Proofs.Ytknhlpmmalcchaa

namespace Go.Proofs.Ytknhlpmmalcchaa
open Go Go.VAI
set_option linter.unusedSimpArgs false

theorem fourOf_bytes (v : Int) : Bytes (fourOf v) := by
  intro b hb
  unfold fourOf at hb
  rw [wrap8, wrap8, wrap8, wrap8] at hb
  simp only [List.mem_cons, List.not_mem_nil, or_false] at hb
  omega
theorem Bytes.app {a b : List Int} (ha : Bytes a) (hb : Bytes b) : Bytes (a ++ b) := fun x hx => (List.mem_append.1 hx).elim (ha x) (hb x)
theorem Bytes.flat {α : Type} {f : α → List Int} {l : List α} (h : ∀ a, Bytes (f a)) : Bytes (l.flatMap f) := fun x hx => by
  obtain ⟨a, _, ha⟩ := List.mem_flatMap.1 hx
  exact h a x ha
theorem foursOf_bytes (l : List Int) : Bytes (foursOf l) := Bytes.flat fourOf_bytes
theorem encode_bytes (x : Idx) : Bytes (encodeOf x) := by
  unfold encodeOf
  have hm : Bytes [77, 73, 88, 49] := by intro b hb; simp at hb; omega
  exact ((((((hm.app (foursOf_bytes _)).app (Bytes.flat fun e => foursOf_bytes _)).app (Bytes.flat fun e => foursOf_bytes _)).app (foursOf_bytes _)).app (Bytes.flat fun a => ((foursOf_bytes _).app (foursOf_bytes _)).app (foursOf_bytes _))).app (Bytes.flat fun e => (foursOf_bytes _).app (foursOf_bytes _))).app (Bytes.flat fun e => (foursOf_bytes _).app (foursOf_bytes _))
end Go.Proofs.Ytknhlpmmalcchaa

namespace Go.Proofs.Ytknhlpmmalcchaa
open Go Go.VAI
set_option linter.unusedSimpArgs false

end Go.Proofs.Ytknhlpmmalcchaa

namespace Go.Proofs.Ytknhlpmmalcchaa
open Go Go.VAI
set_option linter.unusedSimpArgs false

theorem allowed_small {x : Idx} (h : Allowed x) : (encodeOf x).length ≤ 200000000 := by
  obtain ⟨n1, n2, n3, n4⟩ := h.net
  have hrl := h.rankLen
  have hul := h.upLen
  have hdl := h.downLen
  have hac := h.count
  have hu : ∀ l ∈ x.up, l.length ≤ 300000 := fun l hl => by
    obtain ⟨v, hv, e⟩ := List.getElem_of_mem hl
    obtain ⟨h1, h2⟩ := h.up v l (by rw [List.getElem?_eq_getElem hv, e])
    have := few_below x.arcs.length l h1 (fun y hy => by
      obtain ⟨h3, a, h4, _⟩ := h2 y hy
      have := (List.getElem?_eq_some_iff.1 h4).1
      omega)
    omega
  have hd : ∀ l ∈ x.down, l.length ≤ 300000 := fun l hl => by
    obtain ⟨v, hv, e⟩ := List.getElem_of_mem hl
    obtain ⟨h1, h2⟩ := h.down v l (by rw [List.getElem?_eq_getElem hv, e])
    have := few_below x.arcs.length l h1 (fun y hy => by
      obtain ⟨h3, a, h4, _⟩ := h2 y hy
      have := (List.getElem?_eq_some_iff.1 h4).1
      omega)
    omega
  have b1 := flat_bound hu
  have b2 := flat_bound hd
  rw [encodeOf_len]
  have b3 : (4 + 4 * 300000) * x.up.length ≤ (4 + 4 * 300000) * 60 := Nat.mul_le_mul (Nat.le_refl _) (by omega)
  have b4 : (4 + 4 * 300000) * x.down.length ≤ (4 + 4 * 300000) * 60 := Nat.mul_le_mul (Nat.le_refl _) (by omega)
  omega
end Go.Proofs.Ytknhlpmmalcchaa

namespace Go.Proofs.Ytknhlpmmalcchaa
open Go Go.VAI
set_option linter.unusedSimpArgs false

theorem take_eq_succ {α : Type} {l m : List α} {i : Nat} {x : α} (h : l.take i = m.take i) (hl : l[i]? = some x) (hm : m[i]? = some x) : l.take (i + 1) = m.take (i + 1) := by
  obtain ⟨a, b⟩ := List.getElem?_eq_some_iff.1 hl
  obtain ⟨c, d⟩ := List.getElem?_eq_some_iff.1 hm
  rw [List.take_succ_eq_append_getElem a, List.take_succ_eq_append_getElem c, h, b, d]
theorem take_all_eq {α : Type} {l m : List α} (hn : l.length = m.length) (h : l.take l.length = m.take l.length) : l = m := by
  rw [List.take_length, hn, List.take_length] at h
  exact h
set_option maxRecDepth 20000 in
theorem ints_ret {lv mv : AVal} {l m : List Int} {H : AHeap} {Q : AVal → AHeap → Prop} (hl : Row H lv 1 (ints l)) (hm : Row H mv 1 (ints m)) (hlen : l.length ≤ 4611686018427387904) (hq : ∀ b, Says b (l = m) → Q (.bool b) H) : Ret A 40 [lv, mv] H Q := by
  refine Ret.of (fn := F40) rfl ?_
  have h1 := hl.len1
  have h2 := hm.len1
  rw [ints_length] at h1 h2
  by_cases hn : (l.length : Int) = m.length
  · simp (disch := first | omega | (simp only [next_new, next_upd] <;> omega) | fail) only [vai, vaim, vaic, bots, Bool.not_true, Bool.not_false, decide_true, decide_false, wrap64, F40, h1, h2, hn, ne_eq, not_true_eq_false, Nat.reduceAdd, Nat.reduceMul, Nat.reduceLeDiff, Nat.reduceEqDiff, ↓reduceIte]
    refine wpx_loop (fun k t H' => ∃ (i : Nat), k = l.length - i ∧ i ≤ l.length ∧ t = (lv :: mv :: bots 3 (.int .i64 i :: bots 20 ([])) : Tmps) ∧ H' = H ∧ l.take i = m.take i) l.length ?_ ?_
    · exact ⟨0, rfl, by omega, rfl, rfl, by simp⟩
    · rintro k t H1 ⟨i, rfl, hi, rfl, rfl, hin⟩
      by_cases hc : (i : Int) < m.length
      · have hil : i < l.length := by omega
        have him : i < m.length := by omega
        have ex : l[i]? = some l[i] := by simp [hil]
        have ey : m[i]? = some m[i] := by simp [him]
        obtain ⟨ix, ox, x1, x2, x3⟩ := hl.int_at (k := .i64) ex
        obtain ⟨iy, oy, y1, y2, y3⟩ := hm.int_at (k := .i64) ey
        have hne : l[i] ≠ m[i] → l ≠ m := fun h e => h (by subst e; rfl)
        generalize l[i] = x at *
        generalize m[i] = y at *
        by_cases hxy : x = y
        · subst hxy
          simp (disch := first | omega | (simp only [next_new, next_upd] <;> omega) | fail) only [vai, vaim, vaic, bots, Bool.not_true, Bool.not_false, decide_true, decide_false, wrap64, h1, hn, hc, x1, x3, y1, y3, ne_eq, not_true_eq_false, Nat.reduceAdd, Nat.reduceMul, Nat.reduceLeDiff, Nat.reduceEqDiff, ↓reduceIte]
          exact ⟨l.length - (i + 1), by omega, i + 1, rfl, by omega, rfl, take_eq_succ hin ex ey⟩
        · simp (disch := first | omega | (simp only [next_new, next_upd] <;> omega) | fail) only [vai, vaim, vaic, bots, Bool.not_true, Bool.not_false, decide_true, decide_false, wrap64, h1, hn, hc, x1, x3, y1, y3, hxy, ne_eq, not_true_eq_false, not_false_eq_true, Nat.reduceAdd, Nat.reduceMul, Nat.reduceLeDiff, Nat.reduceEqDiff, ↓reduceIte]
          exact hq _ (says_no (hne hxy))
      · have : i = l.length := by omega
        subst this
        simp (disch := first | omega | (simp only [next_new, next_upd] <;> omega) | fail) only [vai, vaim, vaic, bots, Bool.not_true, Bool.not_false, decide_true, decide_false, wrap64, h1, hn, hc, Int.lt_irrefl, Nat.reduceAdd, Nat.reduceMul, Nat.reduceLeDiff, Nat.reduceEqDiff, ↓reduceIte]
        exact hq _ (says_yes (take_all_eq (by omega) hin))
  · simp (disch := first | omega | (simp only [next_new, next_upd] <;> omega) | fail) only [vai, vaim, vaic, bots, Bool.not_true, Bool.not_false, decide_true, decide_false, wrap64, F40, h1, h2, hn, ne_eq, not_false_eq_true, Nat.reduceAdd, Nat.reduceMul, Nat.reduceLeDiff, Nat.reduceEqDiff, ↓reduceIte]
    exact hq _ (says_no fun e => hn (by rw [e]))
theorem nflat4 {a b c d e f g h : Int} : abin .neq (.flat [.int, .int, .int, .int]) (.agg [.int .i64 a, .int .i64 b, .int .i64 c, .int .i64 d]) (.agg [.int .i64 e, .int .i64 f, .int .i64 g, .int .i64 h]) = some (.bool (!(decide (a = e) && (decide (b = f) && (decide (c = g) && (decide (d = h) && true)))))) := rfl
theorem nflat7 {a b c d e f g a' b' c' d' e' f' g' : Int} : abin .neq (.flat [.int, .int, .int, .int, .int, .int, .int]) (.agg [.int .i64 a, .int .i64 b, .int .i64 c, .int .i64 d, .int .i64 e, .int .i64 f, .int .i64 g]) (.agg [.int .i64 a', .int .i64 b', .int .i64 c', .int .i64 d', .int .i64 e', .int .i64 f', .int .i64 g']) = some (.bool (!(decide (a = a') && (decide (b = b') && (decide (c = c') && (decide (d = d') && (decide (e = e') && (decide (f = f') && (decide (g = g') && true))))))))) := rfl
theorem edge_neq {x y : Edge} : abin .neq (.flat [.int, .int, .int, .int]) (.agg x.cells) (.agg y.cells) = some (.bool (decide (x ≠ y))) := by
  obtain ⟨a, b, c, d⟩ := x
  obtain ⟨e, f, g, h⟩ := y
  simp only [Edge.cells, nflat4]
  congr 2
  by_cases h1 : a = e <;> by_cases h2 : b = f <;> by_cases h3 : c = g <;> by_cases h4 : d = h <;> simp [h1, h2, h3, h4]
theorem arc_neq {x y : Arc} : abin .neq (.flat [.int, .int, .int, .int, .int, .int, .int]) (.agg x.cells) (.agg y.cells) = some (.bool (decide (x ≠ y))) := by
  obtain ⟨a, b, c, d, e, f, g⟩ := x
  obtain ⟨a', b', c', d', e', f', g'⟩ := y
  simp only [Arc.cells, nflat7]
  congr 2
  simp only [ne_eq, Arc.mk.injEq, Bool.and_true, ← Bool.decide_and, ← decide_not]
set_option maxRecDepth 20000 in
theorem netSame_ret {n m : Int} {ev fv : AVal} {es fs : List Edge} {H : AHeap} {Q : AVal → AHeap → Prop} (he : Row H ev 4 (edgeCells es)) (hf : Row H fv 4 (edgeCells fs)) (hlen : es.length ≤ 4611686018427387904)
    (hq : ∀ b H', Keep Nothing H H' → Says b (n = m ∧ es = fs) → Q (.bool b) H') : Ret A 49 [.agg [.int .i64 n, ev], .agg [.int .i64 m, fv]] H Q := by
  refine Ret.of (fn := F49) rfl ?_
  have h1 := he.len (by omega) (edgeCells_length es)
  have h2 := hf.len (by omega) (edgeCells_length fs)
  have be := he.beq
  have bf := hf.beq
  have k0 : Keep Nothing H ((H.new (.cells [.int .i64 n, ev] true)).new (.cells [.int .i64 m, fv] true)) := ((Keep.refl _ _).new _).new _
  by_cases hnm : n = m
  · by_cases hn : (es.length : Int) = fs.length
    · simp (disch := first | omega | (simp only [next_new, next_upd] <;> omega) | fail) only [vai, vaim, vaic, bots, Bool.not_true, Bool.not_false, decide_true, decide_false, wrap64, F49, h1, h2, hnm, hn, ne_eq, not_true_eq_false, Nat.reduceAdd, Nat.reduceMul, Nat.reduceLeDiff, Nat.reduceEqDiff, ↓reduceIte]
      refine wpx_loop (fun k t H' => ∃ (i : Nat), k = es.length - i ∧ i ≤ es.length ∧ t = (bots 2 (.ptr H.next 0 :: .ptr (H.next + 1) 0 :: bots 1 (.int .i64 i :: bots 32 ([]))) : Tmps) ∧ H' = (H.new (.cells [.int .i64 m, ev] true)).new (.cells [.int .i64 m, fv] true) ∧ es.take i = fs.take i) es.length ?_ ?_
      · exact ⟨0, rfl, by omega, rfl, rfl, by simp⟩
      · rintro k t H1 ⟨i, rfl, hi, rfl, rfl, hin⟩
        by_cases hc : (i : Int) < fs.length
        · have hil : i < es.length := by omega
          have him : i < fs.length := by omega
          have ex : es[i]? = some es[i] := by simp [hil]
          have ey : fs[i]? = some fs[i] := by simp [him]
          obtain ⟨ix, ox, x1, _, x2, _, _, _, x3⟩ := edge_at he ex
          obtain ⟨iy, oy, y1, _, y2, _, _, _, y3⟩ := edge_at hf ey
          have hne : es[i] ≠ fs[i] → es ≠ fs := fun h e => h (by subst e; rfl)
          generalize es[i] = x at *
          generalize fs[i] = y at *
          by_cases hxy : x = y
          · simp (disch := first | omega | (simp only [next_new, next_upd] <;> omega) | fail) only [vai, vaim, vaic, bots, Bool.not_true, Bool.not_false, decide_true, decide_false, wrap64, h1, hn, hc, x1, x3, y1, y3, edge_neq, hxy, ne_eq, not_true_eq_false, Nat.reduceAdd, Nat.reduceMul, Nat.reduceLeDiff, Nat.reduceEqDiff, ↓reduceIte]
            subst hxy
            exact ⟨es.length - (i + 1), by omega, i + 1, rfl, by omega, rfl, take_eq_succ hin ex ey⟩
          · simp (disch := first | omega | (simp only [next_new, next_upd] <;> omega) | fail) only [vai, vaim, vaic, bots, Bool.not_true, Bool.not_false, decide_true, decide_false, wrap64, h1, hn, hc, x1, x3, y1, y3, edge_neq, hxy, ne_eq, not_true_eq_false, not_false_eq_true, Nat.reduceAdd, Nat.reduceMul, Nat.reduceLeDiff, Nat.reduceEqDiff, ↓reduceIte]
            subst hnm
            exact hq _ _ k0 (says_no fun e => hne hxy e.2)
        · have : i = es.length := by omega
          subst this
          simp (disch := first | omega | (simp only [next_new, next_upd] <;> omega) | fail) only [vai, vaim, vaic, bots, Bool.not_true, Bool.not_false, decide_true, decide_false, wrap64, h1, hn, hc, Int.lt_irrefl, Nat.reduceAdd, Nat.reduceMul, Nat.reduceLeDiff, Nat.reduceEqDiff, ↓reduceIte]
          subst hnm
          exact hq _ _ k0 (says_yes ⟨rfl, take_all_eq (by omega) hin⟩)
    · simp (disch := first | omega | (simp only [next_new, next_upd] <;> omega) | fail) only [vai, vaim, vaic, bots, Bool.not_true, Bool.not_false, decide_true, decide_false, wrap64, F49, h1, h2, hnm, hn, ne_eq, not_true_eq_false, not_false_eq_true, Nat.reduceAdd, Nat.reduceMul, Nat.reduceLeDiff, Nat.reduceEqDiff, ↓reduceIte]
      subst hnm
      exact hq _ _ k0 (says_no fun e => hn (by rw [e.2]))
  · simp (disch := first | omega | (simp only [next_new, next_upd] <;> omega) | fail) only [vai, vaim, vaic, bots, Bool.not_true, Bool.not_false, decide_true, decide_false, wrap64, F49, h1, h2, hnm, ne_eq, not_false_eq_true, Nat.reduceAdd, Nat.reduceMul, Nat.reduceLeDiff, Nat.reduceEqDiff, ↓reduceIte]
    exact hq _ _ k0 (says_no fun e => hnm e.1)
end Go.Proofs.Ytknhlpmmalcchaa

namespace Go.Proofs.Ytknhlpmmalcchaa
open Go Go.VAI
set_option linter.unusedSimpArgs false

def Short62 (x : Idx) : Prop := x.es.length ≤ 4611686018427387904 ∧ x.rank.length ≤ 4611686018427387904 ∧ x.arcs.length ≤ 4611686018427387904 ∧ x.up.length ≤ 4611686018427387904 ∧ (∀ l ∈ x.up, l.length ≤ 4611686018427387904) ∧ ∀ l ∈ x.down, l.length ≤ 4611686018427387904
set_option maxRecDepth 20000 in
set_option maxHeartbeats 4000000 in
theorem same_ret {ew rv av uv dv ew' rv' av' uv' dv' : AVal} {x y : Idx} {H : AHeap} {Q : AVal → AHeap → Prop} (hx : IdxAt H ew rv av uv dv x) (hy : IdxAt H ew' rv' av' uv' dv' y) (hs : Short62 x) (hud : x.up.length = x.down.length)
    (hq : ∀ b H', Keep Nothing H H' → Says b (x = y) → Q (.bool b) H') : Ret A 32 [.agg [.int .i64 x.n, ew, rv, av, uv, dv], .agg [.int .i64 y.n, ew', rv', av', uv', dv']] H Q := by
  refine Ret.of (fn := F32) rfl ?_
  obtain ⟨s1, s2, s3, s4, s5, s6⟩ := hs
  have a1 := hx.arcs.len (by omega) (arcCells_length x.arcs)
  have a2 := hy.arcs.len (by omega) (arcCells_length y.arcs)
  have u1 := hx.up.len
  have u2 := hy.up.len
  have d1 := hx.down.len
  have d2 := hy.down.len
  simp (disch := first | omega | (simp only [next_new, next_upd] <;> omega) | fail) only [vai, vaim, vaic, bots, Bool.not_true, Bool.not_false, decide_true, decide_false, wrap64, F32, Nat.reduceAdd, Nat.reduceMul, Nat.reduceLeDiff, Nat.reduceEqDiff, ↓reduceIte]
  have k0 : Keep Nothing H ((H.new (.cells [.int .i64 x.n, ew, rv, av, uv, dv] true)).new (.cells [.int .i64 y.n, ew', rv', av', uv', dv'] true)) := ((Keep.refl _ _).new _).new _
  refine netSame_ret (hx.es.kept k0) (hy.es.kept k0) s1 fun b H1 k1 c1 => ?_
  have n1 := k1.next
  simp only [next_new] at n1
  have o1 : H1.obj H.next = some (.cells [.int .i64 x.n, ew, rv, av, uv, dv] true) := by rw [k1.old (by simp only [next_new]; omega)]; simp (disch := first | omega | (simp only [next_new, next_upd] <;> omega) | fail) only [vaim]
  have o2 : H1.obj (H.next + 1) = some (.cells [.int .i64 y.n, ew', rv', av', uv', dv'] true) := by rw [k1.old (by simp only [next_new]; omega)]; simp (disch := first | omega | (simp only [next_new, next_upd] <;> omega) | fail) only [vaim]
  have kA := k0.trans k1
  have hx1 := hx.kept kA
  have hy1 := hy.kept kA
  cases b with
  | false =>
    simp (disch := first | omega | (simp only [next_new, next_upd] <;> omega) | fail) only [vai, vaim, vaic, bots, Bool.not_true, Bool.not_false, decide_true, decide_false, wrap64, Nat.reduceAdd, Nat.reduceMul, Nat.reduceLeDiff, Nat.reduceEqDiff, ↓reduceIte]
    exact hq _ _ kA (says_no fun e => by have := c1.2 ⟨by rw [e], by rw [e]⟩; cases this)
  | true =>
    have e1 := c1.1 rfl
    simp (disch := first | omega | (simp only [next_new, next_upd] <;> omega) | fail) only [vai, vaim, vaic, bots, Bool.not_true, Bool.not_false, decide_true, decide_false, wrap64, o1, o2, Nat.reduceAdd, Nat.reduceMul, Nat.reduceLeDiff, Nat.reduceEqDiff, ↓reduceIte]
    refine ints_ret hx1.rank hy1.rank s2 fun b c2 => ?_
    cases b with
    | false =>
      simp (disch := first | omega | (simp only [next_new, next_upd] <;> omega) | fail) only [vai, vaim, vaic, bots, Bool.not_true, Bool.not_false, decide_true, decide_false, wrap64, Nat.reduceAdd, Nat.reduceMul, Nat.reduceLeDiff, Nat.reduceEqDiff, ↓reduceIte]
      exact hq _ _ kA (says_no fun e => by have := c2.2 (by rw [e]); cases this)
    | true =>
      have e2 := c2.1 rfl
      by_cases g1 : (x.arcs.length : Int) = y.arcs.length
      · by_cases g2 : (x.up.length : Int) = y.up.length
        · by_cases g3 : (x.down.length : Int) = y.down.length
          · simp (disch := first | omega | (simp only [next_new, next_upd] <;> omega) | fail) only [vai, vaim, vaic, bots, Bool.not_true, Bool.not_false, decide_true, decide_false, wrap64, o1, o2, a1, a2, u1, u2, d1, d2, g1, g2, g3, ne_eq, not_true_eq_false, Nat.reduceAdd, Nat.reduceMul, Nat.reduceLeDiff, Nat.reduceEqDiff, ↓reduceIte]
            refine wpx_loop (fun k t H' => ∃ (i : Nat), k = x.arcs.length - i ∧ i ≤ x.arcs.length ∧ t = (bots 2 (.ptr H.next 0 :: .ptr (H.next + 1) 0 :: bots 1 (.int .i64 i :: bots 100 ([]))) : Tmps) ∧ H' = H1 ∧ x.arcs.take i = y.arcs.take i) x.arcs.length ?_ ?_
            · exact ⟨0, rfl, by omega, rfl, rfl, by simp⟩
            · rintro k t H2 ⟨i, rfl, hi, rfl, rfl, hin⟩
              by_cases hc : (i : Int) < y.arcs.length
              · have hil : i < x.arcs.length := by omega
                have him : i < y.arcs.length := by omega
                have ex : x.arcs[i]? = some x.arcs[i] := by simp [hil]
                have ey : y.arcs[i]? = some y.arcs[i] := by simp [him]
                obtain ⟨ix, ox, x1, _, _, x3⟩ := arc_at hx1.arcs ex
                obtain ⟨iy, oy, y1, _, _, y3⟩ := arc_at hy1.arcs ey
                have hne : x.arcs[i] ≠ y.arcs[i] → x ≠ y := fun h e => h (by subst e; rfl)
                generalize x.arcs[i] = p at *
                generalize y.arcs[i] = q at *
                by_cases hxy : p = q
                · simp (disch := first | omega | (simp only [next_new, next_upd] <;> omega) | fail) only [vai, vaim, vaic, bots, Bool.not_true, Bool.not_false, decide_true, decide_false, wrap64, o1, o2, a1, a2, g1, hc, x1, x3, y1, y3, arc_neq, hxy, ne_eq, not_true_eq_false, Nat.reduceAdd, Nat.reduceMul, Nat.reduceLeDiff, Nat.reduceEqDiff, ↓reduceIte]
                  subst hxy
                  exact ⟨x.arcs.length - (i + 1), by omega, i + 1, rfl, by omega, rfl, take_eq_succ hin ex ey⟩
                · simp (disch := first | omega | (simp only [next_new, next_upd] <;> omega) | fail) only [vai, vaim, vaic, bots, Bool.not_true, Bool.not_false, decide_true, decide_false, wrap64, o1, o2, a1, a2, g1, hc, x1, x3, y1, y3, arc_neq, hxy, ne_eq, not_true_eq_false, not_false_eq_true, Nat.reduceAdd, Nat.reduceMul, Nat.reduceLeDiff, Nat.reduceEqDiff, ↓reduceIte]
                  exact hq _ _ kA (says_no fun e => hne hxy e)
              · have : i = x.arcs.length := by omega
                subst this
                have e3 := take_all_eq (by omega) hin
                simp (disch := first | omega | (simp only [next_new, next_upd] <;> omega) | fail) only [vai, vaim, vaic, bots, Bool.not_true, Bool.not_false, decide_true, decide_false, wrap64, o1, a1, g1, hc, Int.lt_irrefl, Nat.reduceAdd, Nat.reduceMul, Nat.reduceLeDiff, Nat.reduceEqDiff, ↓reduceIte]
                refine wpx_loop (fun k t H' => ∃ (i : Nat), k = x.up.length - i ∧ i ≤ x.up.length ∧ t = (bots 2 (.ptr H.next 0 :: .ptr (H.next + 1) 0 :: bots 2 (.int .i64 i :: bots 99 ([]))) : Tmps) ∧ H' = H2 ∧ x.up.take i = y.up.take i ∧ x.down.take i = y.down.take i) x.up.length ?_ ?_
                · exact ⟨0, rfl, by omega, rfl, rfl, by simp, by simp⟩
                · rintro k t H3 ⟨i, rfl, hi, rfl, rfl, hin1, hin2⟩
                  by_cases hc : (i : Int) < y.up.length
                  · have hil : i < x.up.length := by omega
                    have him : i < y.up.length := by omega
                    have hdl : i < x.down.length := by omega
                    have hdm : i < y.down.length := by omega
                    have ex : x.up[i]? = some x.up[i] := by simp [hil]
                    have ey : y.up[i]? = some y.up[i] := by simp [him]
                    have fx : x.down[i]? = some x.down[i] := by simp [hdl]
                    have fy : y.down[i]? = some y.down[i] := by simp [hdm]
                    obtain ⟨ix, ox, rx, x1, _, x3, x4⟩ := hx1.up.at (k := .i64) ex
                    obtain ⟨iy, oy, ry, y1, _, y3, y4⟩ := hy1.up.at (k := .i64) ey
                    obtain ⟨jx, px, qx, z1, _, z3, z4⟩ := hx1.down.at (k := .i64) fx
                    obtain ⟨jy, py, qy, w1, _, w3, w4⟩ := hy1.down.at (k := .i64) fy
                    have hne : x.up[i] ≠ y.up[i] → x ≠ y := fun h e => h (by subst e; rfl)
                    have hne2 : x.down[i] ≠ y.down[i] → x ≠ y := fun h e => h (by subst e; rfl)
                    have l1 := s5 _ (List.getElem_mem hil)
                    have l2 := s6 _ (List.getElem_mem hdl)
                    have hcd : ¬ (y.down.length : Int) ≤ i := by omega
                    generalize x.up[i] = p at *
                    generalize y.up[i] = q at *
                    generalize x.down[i] = p' at *
                    generalize y.down[i] = q' at *
                    simp (disch := first | omega | (simp only [next_new, next_upd] <;> omega) | fail) only [vai, vaim, vaic, bots, Bool.not_true, Bool.not_false, decide_true, decide_false, wrap64, o1, o2, u1, u2, g2, hc, x1, x3, y1, y3, Nat.reduceAdd, Nat.reduceMul, Nat.reduceLeDiff, Nat.reduceEqDiff, ↓reduceIte]
                    refine ints_ret x4 y4 l1 fun b c3 => ?_
                    cases b with
                    | false =>
                      simp (disch := first | omega | (simp only [next_new, next_upd] <;> omega) | fail) only [vai, vaim, vaic, bots, Bool.not_true, Bool.not_false, decide_true, decide_false, wrap64, Nat.reduceAdd, Nat.reduceMul, Nat.reduceLeDiff, Nat.reduceEqDiff, ↓reduceIte]
                      exact hq _ _ kA (says_no fun e => hne (fun h => by have := c3.2 h; cases this) e)
                    | true =>
                      have e4 := c3.1 rfl
                      subst e4
                      simp (disch := first | omega | (simp only [next_new, next_upd] <;> omega) | fail) only [vai, vaim, vaic, bots, Bool.not_true, Bool.not_false, decide_true, decide_false, wrap64, o1, o2, d1, d2, g3, hcd, z1, z3, w1, w3, Nat.reduceAdd, Nat.reduceMul, Nat.reduceLeDiff, Nat.reduceEqDiff, ↓reduceIte]
                      refine ints_ret z4 w4 l2 fun b c4 => ?_
                      cases b with
                      | false =>
                        simp (disch := first | omega | (simp only [next_new, next_upd] <;> omega) | fail) only [vai, vaim, vaic, bots, Bool.not_true, Bool.not_false, decide_true, decide_false, wrap64, Nat.reduceAdd, Nat.reduceMul, Nat.reduceLeDiff, Nat.reduceEqDiff, ↓reduceIte]
                        exact hq _ _ kA (says_no fun e => hne2 (fun h => by have := c4.2 h; cases this) e)
                      | true =>
                        have e5 := c4.1 rfl
                        subst e5
                        simp (disch := first | omega | (simp only [next_new, next_upd] <;> omega) | fail) only [vai, vaim, vaic, bots, Bool.not_true, Bool.not_false, decide_true, decide_false, wrap64, Nat.reduceAdd, Nat.reduceMul, Nat.reduceLeDiff, Nat.reduceEqDiff, ↓reduceIte]
                        exact ⟨x.up.length - (i + 1), by omega, i + 1, rfl, by omega, rfl, take_eq_succ hin1 ex ey, take_eq_succ hin2 fx fy⟩
                  · have : i = x.up.length := by omega
                    subst this
                    have e4 := take_all_eq (by omega) hin1
                    have e5 : x.down = y.down := by
                      rw [hud] at hin2
                      exact take_all_eq (by omega) hin2
                    simp (disch := first | omega | (simp only [next_new, next_upd] <;> omega) | fail) only [vai, vaim, vaic, bots, Bool.not_true, Bool.not_false, decide_true, decide_false, wrap64, o1, u1, g2, hc, Int.lt_irrefl, Nat.reduceAdd, Nat.reduceMul, Nat.reduceLeDiff, Nat.reduceEqDiff, ↓reduceIte]
                    refine hq _ _ kA (says_yes ?_)
                    obtain ⟨xn, xe, xr, xa, xu, xd⟩ := x
                    obtain ⟨yn, ye, yr, ya, yu, yd⟩ := y
                    simp only at e1 e2 e3 e4 e5
                    obtain ⟨rfl, rfl⟩ := e1
                    subst e2; subst e3; subst e4; subst e5
                    rfl
          · simp (disch := first | omega | (simp only [next_new, next_upd] <;> omega) | fail) only [vai, vaim, vaic, bots, Bool.not_true, Bool.not_false, decide_true, decide_false, wrap64, o1, o2, a1, a2, u1, u2, d1, d2, g1, g2, g3, ne_eq, not_true_eq_false, not_false_eq_true, Nat.reduceAdd, Nat.reduceMul, Nat.reduceLeDiff, Nat.reduceEqDiff, ↓reduceIte]
            exact hq _ _ kA (says_no fun e => g3 (by rw [e]))
        · simp (disch := first | omega | (simp only [next_new, next_upd] <;> omega) | fail) only [vai, vaim, vaic, bots, Bool.not_true, Bool.not_false, decide_true, decide_false, wrap64, o1, o2, a1, a2, u1, u2, g1, g2, ne_eq, not_true_eq_false, not_false_eq_true, Nat.reduceAdd, Nat.reduceMul, Nat.reduceLeDiff, Nat.reduceEqDiff, ↓reduceIte]
          exact hq _ _ kA (says_no fun e => g2 (by rw [e]))
      · simp (disch := first | omega | (simp only [next_new, next_upd] <;> omega) | fail) only [vai, vaim, vaic, bots, Bool.not_true, Bool.not_false, decide_true, decide_false, wrap64, o1, o2, a1, a2, g1, ne_eq, not_true_eq_false, not_false_eq_true, Nat.reduceAdd, Nat.reduceMul, Nat.reduceLeDiff, Nat.reduceEqDiff, ↓reduceIte]
        exact hq _ _ kA (says_no fun e => g1 (by rw [e]))
end Go.Proofs.Ytknhlpmmalcchaa
