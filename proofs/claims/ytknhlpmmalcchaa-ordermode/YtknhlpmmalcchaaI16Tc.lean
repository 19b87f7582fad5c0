/- Steps of the walk. -/
import Derived.Test.YtknhlpmmalcchaaI16Tb
import Derived.Test.YtknhlpmmalcchaaRows
import Derived.ProofKit
set_option linter.all false
set_option linter.unusedVariables false
set_option linter.unusedSimpArgs false
namespace Go.Proofs.Ytknhlpmmalcchaa
open Go Go.VAI
set_option linter.unusedSimpArgs false

def hadIn (es : List Edge) (N : Nat) : List Bool := (List.range N).map fun (u : Nat) => touch es (u : Int)
theorem hadIn_at {es : List Edge} {N v : Nat} (hv : v < N) : (bools (hadIn es N))[v]? = some (.bool (touch es (v : Int))) := by
  simp [bools, hadIn, hv]
theorem hadIn_length (es : List Edge) (N : Nat) : (bools (hadIn es N)).length = N := by simp [bools, hadIn]
theorem hadIn_nil (N : Nat) : bools (hadIn [] N) = List.replicate N (.bool false) := by
  refine List.ext_getElem? fun u => ?_
  by_cases hu : u < N
  · simp [bools, hadIn, hu, touch]
  · simp [bools, hadIn, hu]
theorem hadIn_set {es : List Edge} {N i a b : Nat} {e : Edge} (h : es[i]? = some e) (ha : e.src = (a : Int)) (hb : e.dst = (b : Int)) (hN : a < N) : ((bools (hadIn (es.take i) N)).set a (.bool true)).set b (.bool true) = bools (hadIn (es.take (i + 1)) N) := by
  obtain ⟨hi, h2⟩ := List.getElem?_eq_some_iff.1 h
  rw [List.take_succ_eq_append_getElem hi, h2]
  refine List.ext_getElem? fun u => ?_
  rw [List.getElem?_set, List.getElem?_set, List.length_set, hadIn_length]
  have ht : touch (es.take i ++ [e]) (u : Int) = (touch (es.take i) (u : Int) || decide (a = u ∨ b = u)) := by
    unfold touch
    rw [List.any_append]
    congr 1
    simp only [List.any_cons, List.any_nil, Bool.or_false, ha, hb]
    exact decide_eq_decide.2 (by omega)
  by_cases hu : u < N
  · rw [hadIn_at hu, hadIn_at hu, ht]
    by_cases e1 : b = u
    · subst e1
      simp [hu]
    · by_cases e2 : a = u
      · subst e2
        simp [e1, hu]
      · simp [e1, e2]
  · by_cases e1 : b = u
    · subst e1
      simp [bools, hadIn, hu]
    · by_cases e2 : a = u
      · omega
      · simp [bools, hadIn, hu, e1, e2]
set_option maxRecDepth 20000 in
set_option maxHeartbeats 4000000 in
theorem orderMode_ret {size fr to : Int} {ns : AVal} {xs : List Int} {H : AHeap} (_ : I64 size) (hr : Row H ns 1 (ints xs)) (hx : ∀ x ∈ xs, I64 x) (hx2 : xs.length ≤ 9223372036854775807) (_ : I64 fr) (_ : I64 to) :
    Ret A 16 [.int .i64 size, ns, .int .i64 fr, .int .i64 to] H (fun v _ => v = .bool true) := by
  refine Ret.of (fn := F16) rfl ?_
  simp (disch := first | omega | (simp only [nx] <;> omega) | fail) only [vaw, F16, Nat.reduceAdd, Nat.reduceMul, Nat.reduceLeDiff, Nat.reduceEqDiff, ↓reduceIte]
  refine known37_ret fun H1 k1 => ?_
  simp (disch := first | omega | (simp only [nx] <;> omega) | fail) only [vaw, Bool.not_true, Nat.reduceAdd, Nat.reduceMul, Nat.reduceLeDiff, Nat.reduceEqDiff, ↓reduceIte]
  refine mk_ret (hr.kept k1) hx hx2 fun ev H2 k2 g2 => ?_
  have hnet := mk_net size 2 xs
  have hsm := mk_small size
  have h12 : mkN size ≤ 12 := by unfold mkN; omega
  generalize mkEs size 2 xs = es at *
  generalize mkN size = N at *
  have hn2 := k2.next
  have hsid : ∀ j, sid ev = some j → j < H2.next := fun j hj => (g2.own.sid_ge hj).2
  simp (disch := first | omega | (simp only [nx] <;> omega) | fail) only [vaw, Nat.reduceAdd, Nat.reduceMul, Nat.reduceLeDiff, Nat.reduceEqDiff, ↓reduceIte]
  have oB : ((H2.new (.cells [.int .i64 0, .nilSlice] true)).upd H2.next (some (.cells [.int .i64 N, ev] true))).obj H2.next = some (.cells [.int .i64 N, ev] true) := obj_upd_eq rfl
  have nB : ((H2.new (.cells [.int .i64 0, .nilSlice] true)).upd H2.next (some (.cells [.int .i64 N, ev] true))).next = H2.next + 1 := rfl
  have kB : Keep Nothing H2 ((H2.new (.cells [.int .i64 0, .nilSlice] true)).upd H2.next (some (.cells [.int .i64 N, ev] true))) := ((Keep.refl _ _).new _).upd (.inl (Nat.le_refl _)) _
  have gB := g2.own.kept kB
  generalize (H2.new (.cells [.int .i64 0, .nilSlice] true)).upd H2.next (some (.cells [.int .i64 N, ev] true)) = HB at *
  have hel := hnet.2.2.1
  have hed := hnet.2.2.2
  have hN1 := hnet.1
  generalize H2.next = p at *
  refine wpx_loop (fun m t H' => ∃ (i : Nat), m = es.length - i ∧ i ≤ es.length ∧ t = (bots 2 (.int .i64 fr :: .int .i64 to :: bots 5 (.ptr p 0 :: .int .i64 i :: bots 108 ([]))) : Tmps) ∧ p < H'.next ∧ H'.obj p = some (.cells [.int .i64 N, ev] true) ∧ Own H1.next H' ev 4 (edgeCells (twos es i))) es.length ?_ ?_
  · exact ⟨0, rfl, by omega, rfl, by omega, oB, gB⟩
  · clear oB nB gB kB
    rintro m t H3 ⟨i, rfl, hi, rfl, n3, o3, g3⟩
    have hl := g3.row.len (by omega) (edgeCells_length _)
    rw [twos_length] at hl
    by_cases hc : (i : Int) < es.length
    · have hil : i < es.length := by omega
      have he : es[i]? = some es[i] := by simp [hil]
      have he2 := twos_at he
      obtain ⟨id, s1, s2, s3, s4, s5, s6⟩ := Own.edgeSlot g3 (i := i) (by rw [twos_length]; exact hil)
      have hset := edge_setM (twos es i) i es[i] 2 he2
      rw [twos_succ he] at hset
      have hel2 := edgeCells_length (twos es i)
      rw [twos_length] at hel2
      have hle : i * 4 + 2 + 1 ≤ (edgeCells (twos es i)).length := by omega
      have hnp : p ≠ id := by have := hsid _ s1; omega
      simp (disch := first | omega | (simp only [nx] <;> omega) | fail) only [vaw, o3, hl, hc, s4, s5, hle, hset, Nat.reduceAdd, Nat.reduceMul, Nat.reduceLeDiff, Nat.reduceEqDiff, ↓reduceIte]
      exact ⟨es.length - (i + 1), by omega, i + 1, rfl, by omega, rfl, n3, s6 _ _ (Nat.le_refl _) (obj_upd_eq rfl) (by rw [edgeCells_length, edgeCells_length, twos_length, twos_length])⟩
    · have : i = es.length := by omega
      subst this
      rw [twos_all] at g3
      have hm1 : ((N : Nat) : Int) * ((1 : Nat) : Int) ≤ 140737488355328 := by omega
      simp (disch := first | omega | (simp only [nx] <;> omega) | fail) only [vaw, o3, hl, hc, Nat.reduceAdd, Nat.reduceMul, Nat.reduceLeDiff, Nat.reduceEqDiff, ↓reduceIte]
      refine within_ret (f := 46) rfl (by omega) (by omega) ?_
      simp (disch := first | omega | (simp only [nx] <;> omega) | fail) only [vaw, o3, Nat.reduceAdd, Nat.reduceMul, Nat.reduceLeDiff, Nat.reduceEqDiff, ↓reduceIte]
      refine within_ret (f := 46) rfl (by omega) (by omega) ?_
      have ha0 : 0 ≤ fr % (N : Int) := Int.emod_nonneg _ (by omega)
      have ha1 : fr % (N : Int) < N := Int.emod_lt_of_pos _ (by omega)
      have hb0 : 0 ≤ to % (N : Int) := Int.emod_nonneg _ (by omega)
      have hb1 : to % (N : Int) < N := Int.emod_lt_of_pos _ (by omega)
      generalize fr % (N : Int) = a at *
      generalize to % (N : Int) = b at *
      have aN : (a.toNat : Int) = a := Int.toNat_of_nonneg ha0
      have bN : (b.toNat : Int) = b := Int.toNat_of_nonneg hb0
      have hme : ∀ e ∈ es.map two, EdgeOk N e := fun e he => by
        obtain ⟨x, hx, rfl⟩ := List.mem_map.1 he
        obtain ⟨x1, x2, x3, x4⟩ := hed x hx
        exact ⟨x1, x2, by simp [two], x4⟩
      have hnew : ∀ e ∈ es.map two ++ [⟨a, b, 4, 0⟩], EdgeOk N e := fun e he => by
        rcases List.mem_append.1 he with he | he
        · exact hme e he
        · simp at he; subst he
          exact ⟨⟨ha0, ha1⟩, ⟨hb0, hb1⟩, by simp, by simp⟩
      simp (disch := first | omega | (simp only [nx] <;> omega) | fail) only [vaw, o3, amkSlice_int hm1 (by omega), Nat.reduceAdd, Nat.reduceMul, Nat.reduceLeDiff, Nat.reduceEqDiff, ↓reduceIte]
      rw [reps_oneB]
      have oC : (H3.new (.cells (List.replicate N (.bool false)) true)).obj H3.next = some (.cells (List.replicate N (.bool false)) true) := obj_new_eq rfl
      have nC : (H3.new (.cells (List.replicate N (.bool false)) true)).next = H3.next + 1 := rfl
      have kC : Keep Nothing H3 (H3.new (.cells (List.replicate N (.bool false)) true)) := (Keep.refl _ _).new _
      have gC := g3.kept kC
      have o3C := (kC.old n3).trans o3
      generalize H3.new (.cells (List.replicate N (.bool false)) true) = HC at *
      generalize H3.next = q at *
      refine wpx_loop (fun m t H' => ∃ (i : Nat), m = es.length - i ∧ i ≤ es.length ∧ t = (bots 9 (.ptr p 0 :: bots 1 (.int .i64 a :: .int .i64 b :: .slice q 0 N (.exact N) :: .int .i64 i :: bots 104 ([]))) : Tmps) ∧ q < H'.next ∧ H'.obj p = some (.cells [.int .i64 N, ev] true) ∧ Own H1.next H' ev 4 (edgeCells (es.map two)) ∧ H'.obj q = some (.cells (bools (hadIn (es.take i) N)) true)) es.length ?_ ?_
      · exact ⟨0, rfl, by omega, rfl, by omega, o3C, gC, by rw [List.take_zero, hadIn_nil]; exact oC⟩
      · clear oC nC gC o3C hc
        rintro m t H4 ⟨i, rfl, hi, rfl, n4, o4, g4, c4⟩
        have hl4 := g4.row.len (by omega) (edgeCells_length _)
        rw [List.length_map] at hl4
        by_cases hc : (i : Int) < es.length
        · have hil : i < es.length := by omega
          have he : es[i]? = some es[i] := by simp [hil]
          have hmem := hed _ (List.getElem_mem hil)
          generalize es[i] = e at *
          have hew : (es.map two)[i]? = some (two e) := by simp [he]
          obtain ⟨id, off, e1, hid2, e2, e3, e4, e5, e6⟩ := edge_at g4.row hew
          obtain ⟨u, hu⟩ := Int.eq_ofNat_of_zero_le hmem.1.1
          obtain ⟨w, hw⟩ := Int.eq_ofNat_of_zero_le hmem.2.1.1
          have hu2 : (two e).src = (u : Int) := hu
          have hw2 : (two e).dst = (w : Int) := hw
          rw [hu2] at e2
          rw [hw2] at e3
          have hmu := hmem.1.2
          have hmw := hmem.2.1.2
          have huN : u < N := by omega
          have hwN : w < N := by omega
          have hix1 : aindexAddrS 1 (.slice q 0 N (.exact N)) (.int .i64 (u : Int)) = some (.ptr q u) := by rw [aindexAddrS_slice ⟨by omega, by omega⟩]; simp
          have hix2 : aindexAddrS 1 (.slice q 0 N (.exact N)) (.int .i64 (w : Int)) = some (.ptr q w) := by rw [aindexAddrS_slice ⟨by omega, by omega⟩]; simp
          have hbl := hadIn_length (es.take i) N
          have hle1 : u + 1 ≤ N := huN
          have hle2 : w + 1 ≤ N := hwN
          have hs1 := splice_one (l := bools (hadIn (es.take i) N)) (p := u) (x := .bool true) (by rw [hbl]; exact huN)
          have hs2 := splice_one (l := (bools (hadIn (es.take i) N)).set u (.bool true)) (p := w) (x := .bool true) (by rw [List.length_set, hbl]; exact hwN)
          rw [hadIn_set he hu hw huN] at hs2
          simp (disch := first | omega | (simp only [nx] <;> omega) | fail) only [vaw, o4, hl4, hc, e1, e2, e3, hix1, hix2, c4, hbl, hle1, hle2, hs1, hs2, List.length_set, Nat.reduceAdd, Nat.reduceMul, Nat.reduceLeDiff, Nat.reduceEqDiff, ↓reduceIte]
          have gU := (g4.upd (id := q) (fun j hj => by have := hsid j hj; omega) (some (.cells ((bools (hadIn (es.take i) N)).set u (.bool true)) true))).upd (id := q) (fun j hj => by have := hsid j hj; omega) (some (.cells (bools (hadIn (es.take (i + 1)) N)) true))
          exact ⟨es.length - (i + 1), by omega, i + 1, rfl, by omega, rfl, n4, gU, rfl⟩
        · have : i = es.length := by omega
          subst this
          rw [List.take_length] at c4
          simp (disch := first | omega | (simp only [nx] <;> omega) | fail) only [vaw, o4, hl4, hc, Nat.reduceAdd, Nat.reduceMul, Nat.reduceLeDiff, Nat.reduceEqDiff, ↓reduceIte]
          refine app_ret (n := es.length) (k := 1) g4 (by simp (disch := first | omega | (simp only [nx] <;> omega) | fail) only [vaim]; rfl) rfl (by omega) (by omega) (by rw [edgeCells_length, List.length_map]) (by omega) (by omega) ?_
          intro v6 H6 n6 k6 g6 s6
          simp only [next_new, next_upd] at n6 k6
          have s3 : ∀ j, sid ev = some j → j < p := hsid
          have q9 : H6.obj p = some (.cells [.int .i64 N, ev] true) := by
            rw [k6 _ (by omega) (fun e => by have := s3 _ e; omega)]
            simp (disch := first | omega | (simp only [nx] <;> omega) | fail) only [vaim, o4]
          have q10 : H6.obj q = some (.cells (bools (hadIn es N)) true) := by
            rw [k6 _ (by omega) (fun e => by have := s3 _ e; omega)]
            simp (disch := first | omega | (simp only [nx] <;> omega) | fail) only [vaim, c4]
          have c6 := g6.cells
          simp (disch := first | omega | (simp only [nx] <;> omega) | fail) only [vaw, q9, c6, Nat.reduceAdd, Nat.reduceMul, Nat.reduceLeDiff, Nat.reduceEqDiff, ↓reduceIte]
          have oP : (H6.upd p (some (.cells [.int .i64 N, v6] true))).obj p = some (.cells [.int .i64 N, v6] true) := obj_upd_eq rfl
          have oQ : (H6.upd p (some (.cells [.int .i64 N, v6] true))).obj q = some (.cells (bools (hadIn es N)) true) := by rw [obj_upd_ne (by omega)]; exact q10
          have nP : (H6.upd p (some (.cells [.int .i64 N, v6] true))).next = H6.next := rfl
          have hnp6 : ∀ j, sid v6 = some j → j ≠ p := fun j hj => by
            obtain ⟨y, hy, hy2⟩ := s6
            rw [hy] at hj
            injection hj with hj
            simp only [next_new, next_upd] at hy2
            omega
          have own6 := g6.own.upd (id := p) hnp6 (some (.cells [.int .i64 N, v6] true))
          have cells_new : edgeCells (es.map two) ++ [.int .i64 a, .int .i64 b, .int .i64 4, .int .i64 0] = edgeCells (es.map two ++ [⟨a, b, 4, 0⟩]) := by rw [edgeCells_add]; rfl
          rw [cells_new] at own6
          generalize H6.upd p (some (.cells [.int .i64 N, v6] true)) = H7 at *
          have hbeq : AVal.beq (.agg [.int .i64 (N : Int), v6]) (.agg [.int .i64 (N : Int), v6]) = true := by simp [AVal.beq, AVal.beqs, own6.beq]
          have hmo : ∀ e ∈ es.map two ++ [⟨a, b, 4, 0⟩], 0 ≤ e.mode ∧ e.mode < 5 := fun e he => ⟨(hnew e he).2.2.1.1, (hnew e he).2.2.1.2⟩
          have hln : (es.map two ++ [(⟨a, b, 4, 0⟩ : Edge)]).length ≤ 1000 := by simp; omega
          refine linksB_ret (N := N) own6.row hnew (by omega) hln fun lv H8 k8 g8 => ?_
          rw [linksB_eq hmo] at g8
          have o8 := (k8.old (by omega)).trans oP
          have q8 := (k8.old (by omega)).trans oQ
          have l8 := g8.row.len1
          have hlk : (bools (linksOf N (es.map two ++ [⟨a, b, 4, 0⟩]))).length = N := by simp [bools, linksOf]
          rw [hlk] at l8
          simp (disch := first | omega | (simp only [nx] <;> omega) | fail) only [vaw, l8, o8, g8.notBot, ne_eq, not_true_eq_false, Nat.reduceAdd, Nat.reduceMul, Nat.reduceLeDiff, Nat.reduceEqDiff, ↓reduceIte]
          refine wpx_loop (fun m t H' => ∃ (i : Nat), m = N - i ∧ i ≤ N ∧ t = (bots 9 (.ptr p 0 :: bots 1 (.int .i64 a :: .int .i64 b :: .slice q 0 N (.exact N) :: bots 1 (lv :: .int .i64 i :: bots 102 ([])))) : Tmps) ∧ H' = H8) N ?_ ?_
          · exact ⟨0, rfl, by omega, rfl, rfl⟩
          · rintro m t H9 ⟨i, rfl, hi, rfl, rfl⟩
            by_cases hc2 : (i : Int) < N
            · have hiN : i < N := by omega
              obtain ⟨i2, f2, b1, _, b3⟩ := g8.row.at1 (k := .i64) (j := (i : Int)) (by omega) (by rw [Int.toNat_natCast]; exact linksOf_at hiN)
              rw [link_two] at b3
              have hix : aindexAddrS 1 (.slice q 0 N (.exact N)) (.int .i64 (i : Int)) = some (.ptr q i) := by rw [aindexAddrS_slice ⟨by omega, by omega⟩]; simp
              have hsn := hadIn_at (es := es) hiN
              cases ht : touch es (i : Int) with
              | true =>
                rw [ht] at b3 hsn
                by_cases ca : (i : Int) = a
                · have da : decide ((i : Int) = a) = true := decide_eq_true ca
                  rw [da, Bool.true_or, Bool.and_true] at b3
                  simp (disch := first | omega | (simp only [nx] <;> omega) | fail) only [vaw, vaij, o8, hc2, hix, q8, hsn, b1, b3, da, beq_self_eq_true, Nat.reduceAdd, Nat.reduceMul, Nat.reduceLeDiff, Nat.reduceEqDiff, ↓reduceIte]
                  exact ⟨N - (i + 1), by omega, i + 1, rfl, by omega, rfl⟩
                · have da : decide ((i : Int) = a) = false := decide_eq_false ca
                  by_cases cb : (i : Int) = b
                  · have db : decide ((i : Int) = b) = true := decide_eq_true cb
                    rw [da, db, Bool.false_or, Bool.and_true] at b3
                    simp (disch := first | omega | (simp only [nx] <;> omega) | fail) only [vaw, vaij, o8, hc2, hix, q8, hsn, b1, b3, da, db, beq_self_eq_true, Nat.reduceAdd, Nat.reduceMul, Nat.reduceLeDiff, Nat.reduceEqDiff, ↓reduceIte]
                    exact ⟨N - (i + 1), by omega, i + 1, rfl, by omega, rfl⟩
                  · have db : decide ((i : Int) = b) = false := decide_eq_false cb
                    rw [da, db, Bool.false_or, Bool.and_false] at b3
                    simp (disch := first | omega | (simp only [nx] <;> omega) | fail) only [vaw, vaij, o8, hc2, hix, q8, hsn, b1, b3, da, db, beq_self_eq_true, Nat.reduceAdd, Nat.reduceMul, Nat.reduceLeDiff, Nat.reduceEqDiff, ↓reduceIte]
                    exact ⟨N - (i + 1), by omega, i + 1, rfl, by omega, rfl⟩
              | false =>
                rw [ht] at b3 hsn
                rw [Bool.false_and] at b3
                simp (disch := first | omega | (simp only [nx] <;> omega) | fail) only [vaw, vaij, o8, hc2, hix, q8, hsn, b1, b3, beq_self_eq_true, Nat.reduceAdd, Nat.reduceMul, Nat.reduceLeDiff, Nat.reduceEqDiff, ↓reduceIte]
                exact ⟨N - (i + 1), by omega, i + 1, rfl, by omega, rfl⟩
            · simp (disch := first | omega | (simp only [nx] <;> omega) | fail) only [vaw, o8, hc2, Nat.reduceAdd, Nat.reduceMul, Nat.reduceLeDiff, Nat.reduceEqDiff, ↓reduceIte]
              refine odB_ret (N := N) (own6.row.kept k8) hnew (by omega) hln fun ov K1 j1 r1 => ?_
              rw [odB_eq hmo] at r1
              have u1 := (j1.old (by have := k8.next; omega)).trans o8
              have lo1 := r1.len1
              have hol := order_len (N := N) hmo
              rw [ints_length] at lo1
              simp (disch := first | omega | (simp only [nx] <;> omega) | fail) only [vaw, vaij, u1, lo1, Nat.reduceAdd, Nat.reduceMul, Nat.reduceLeDiff, Nat.reduceEqDiff, ↓reduceIte]
              refine order_ret (N := 1) (es := []) .nil (by simp) (by omega) (by simp) fun pv K2 j2 g2' => ?_
              have u2 := (j2.old (by have := k8.next; have := j1.next; omega)).trans u1
              have lo2 := g2'.row.len1
              have e1 : orderOf 1 [] (2 * ([] : List Edge).length + 1) = [0] := by decide
              rw [e1] at lo2
              have q1 : ((ints [0]).length : Int) = 1 := rfl
              rw [q1] at lo2
              simp (disch := first | omega | (simp only [nx] <;> omega) | fail) only [vaw, vaij, u2, lo2, Nat.reduceAdd, Nat.reduceMul, Nat.reduceLeDiff, Nat.reduceEqDiff, ↓reduceIte]
              rw [decide_eq_true (by omega)]
end Go.Proofs.Ytknhlpmmalcchaa

/- Closed facts of the program: what its head says, read as a list of signs (the kernel is slow at a long text's own signs). -/
namespace Go.Proofs.Ytknhlpmmalcchaa
open Go Go.ChangeShapes Go.WideShapes Go.ChangeAt Go.RowKit
set_option maxRecDepth 100000
def headSigns : List Char := List.map Char.ofNat [104, 97, 114, 110, 101, 115, 115, 32, 55, 99, 56, 99, 100, 51, 98, 49, 52, 101, 49, 49, 99, 55, 53, 54, 51, 54, 100, 97, 101, 56, 55, 98, 55, 54, 100, 50, 48, 98, 53, 57, 56, 97, 56, 56, 56, 55, 99, 98, 51, 49, 48, 98, 100, 53, 97, 55, 54, 53, 102, 100, 48, 102, 49, 102, 50, 57, 53, 50, 52, 102, 57, 50, 32, 99, 117, 116, 32, 97, 116, 32, 109, 105, 108, 101, 115, 116, 111, 110, 101, 47, 109, 105, 108, 101, 115, 116, 111, 110, 101, 108, 97, 119, 49, 50, 46, 73, 110, 100, 101, 120, 66, 97, 99, 107, 32, 109, 105, 108, 101, 115, 116, 111, 110, 101, 47, 109, 105, 108, 101, 115, 116, 111, 110, 101, 108, 97, 119, 49, 50, 46, 73, 110, 100, 101, 120, 82, 101, 97, 100, 115, 32, 109, 105, 108, 101, 115, 116, 111, 110, 101, 47, 109, 105, 108, 101, 115, 116, 111, 110, 101, 108, 97, 119, 49, 50, 46, 73, 110, 100, 101, 120, 83, 112, 111, 105, 108, 116, 32, 109, 105, 108, 101, 115, 116, 111, 110, 101, 47, 109, 105, 108, 101, 115, 116, 111, 110, 101, 108, 97, 119, 49, 50, 46, 73, 110, 100, 101, 120, 79, 110, 108, 121, 32, 109, 105, 108, 101, 115, 116, 111, 110, 101, 47, 109, 105, 108, 101, 115, 116, 111, 110, 101, 108, 97, 119, 49, 50, 46, 73, 110, 100, 101, 120, 83, 105, 122, 101, 32, 109, 105, 108, 101, 115, 116, 111, 110, 101, 47, 109, 105, 108, 101, 115, 116, 111, 110, 101, 108, 97, 119, 49, 50, 46, 73, 110, 100, 101, 120, 65, 112, 97, 114, 116, 32, 109, 105, 108, 101, 115, 116, 111, 110, 101, 47, 109, 105, 108, 101, 115, 116, 111, 110, 101, 108, 97, 119, 49, 50, 46, 73, 110, 100, 101, 120, 67, 117, 116, 32, 109, 105, 108, 101, 115, 116, 111, 110, 101, 47, 109, 105, 108, 101, 115, 116, 111, 110, 101, 108, 97, 119, 49, 50, 46, 73, 110, 100, 101, 120, 67, 111, 117, 110, 116, 115, 32, 109, 105, 108, 101, 115, 116, 111, 110, 101, 47, 109, 105, 108, 101, 115, 116, 111, 110, 101, 108, 97, 119, 49, 50, 46, 73, 110, 100, 101, 120, 72, 101, 97, 100, 32, 109, 105, 108, 101, 115, 116, 111, 110, 101, 47, 109, 105, 108, 101, 115, 116, 111, 110, 101, 108, 97, 119, 49, 48, 46, 79, 114, 100, 101, 114, 65, 108, 108, 32, 109, 105, 108, 101, 115, 116, 111, 110, 101, 47, 109, 105, 108, 101, 115, 116, 111, 110, 101, 108, 97, 119, 49, 48, 46, 79, 114, 100, 101, 114, 69, 97, 99, 104, 32, 109, 105, 108, 101, 115, 116, 111, 110, 101, 47, 109, 105, 108, 101, 115, 116, 111, 110, 101, 108, 97, 119, 49, 48, 46, 79, 114, 100, 101, 114, 67, 111, 115, 116, 115, 32, 109, 105, 108, 101, 115, 116, 111, 110, 101, 47, 109, 105, 108, 101, 115, 116, 111, 110, 101, 108, 97, 119, 49, 48, 46, 79, 114, 100, 101, 114, 75, 110, 111, 119, 110, 32, 109, 105, 108, 101, 115, 116, 111, 110, 101, 47, 109, 105, 108, 101, 115, 116, 111, 110, 101, 108, 97, 119, 49, 48, 46, 79, 114, 100, 101, 114, 77, 111, 100, 101, 32, 109, 105, 108, 101, 115, 116, 111, 110, 101, 47, 109, 105, 108, 101, 115, 116, 111, 110, 101, 108, 97, 119, 49, 49, 46, 72, 105, 101, 114, 66, 117, 105, 108, 100, 115, 32, 109, 105, 108, 101, 115, 116, 111, 110, 101, 47, 109, 105, 108, 101, 115, 116, 111, 110, 101, 108, 97, 119, 49, 49, 46, 72, 105, 101, 114, 82, 97, 110, 107, 115, 32, 109, 105, 108, 101, 115, 116, 111, 110, 101, 47, 109, 105, 108, 101, 115, 116, 111, 110, 101, 108, 97, 119, 49, 49, 46, 72, 105, 101, 114, 75, 101, 101, 112, 115, 32, 109, 105, 108, 101, 115, 116, 111, 110, 101, 47, 109, 105, 108, 101, 115, 116, 111, 110, 101, 108, 97, 119, 49, 49, 46, 72, 105, 101, 114, 67, 111, 114, 101, 32, 109, 105, 108, 101, 115, 116, 111, 110, 101, 47, 109, 105, 108, 101, 115, 116, 111, 110, 101, 108, 97, 119, 49, 49, 46, 72, 105, 101, 114, 67, 111, 115, 116, 115, 32, 109, 105, 108, 101, 115, 116, 111, 110, 101, 47, 109, 105, 108, 101, 115, 116, 111, 110, 101, 108, 97, 119, 49, 49, 46, 72, 105, 101, 114, 65, 114, 99, 115, 32, 109, 105, 108, 101, 115, 116, 111, 110, 101, 47, 109, 105, 108, 101, 115, 116, 111, 110, 101, 108, 97, 119, 49, 49, 46, 72, 105, 101, 114, 83, 104, 111, 114, 116, 32, 109, 105, 108, 101, 115, 116, 111, 110, 101, 47, 109, 105, 108, 101, 115, 116, 111, 110, 101, 108, 97, 119, 49, 49, 46, 72, 105, 101, 114, 79, 119, 110, 32, 109, 105, 108, 101, 115, 116, 111, 110, 101, 47, 109, 105, 108, 101, 115, 116, 111, 110, 101, 108, 97, 119, 49, 49, 46, 72, 105, 101, 114, 76, 111, 110, 103]
theorem head_eq : Try.prog.initOrder = String.ofList headSigns := by kernel_rfl
theorem head_list : Try.prog.initOrder.toList = headSigns := by rw [head_eq, String.toList_ofList]
theorem head_words : ∃ rest, behindMainWord (wordsSigns headSigns) = "cut".toList :: rest := ⟨(behindMainWord (wordsSigns headSigns)).tail, by kernel_rfl⟩
theorem strip_cut (rest : List (List Char)) : stripLifts liftWords ("cut".toList :: rest) = ([], "cut".toList :: rest) := by kernel_rfl
theorem ne1 : ("cut".toList == "gc".toList) = false := by kernel_rfl
theorem ne2 : ("cut".toList == "spec".toList) = false := by kernel_rfl
theorem ne3 : ("cut".toList == "carried".toList) = false := by kernel_rfl
theorem words_of : ∃ rest, behindMainWord (wordsSigns Try.prog.initOrder.toList) = "cut".toList :: rest := by
  obtain ⟨rest, h⟩ := head_words
  exact ⟨rest, (congrArg (fun l => behindMainWord (wordsSigns l)) head_list).trans h⟩
theorem make_of (P : Program) (rest : List (List Char)) (h : behindMainWord (wordsSigns P.initOrder.toList) = "cut".toList :: rest) : P.make = some .cut := by
  unfold Program.make
  rw [h]
  simp only [ne1, ne2, beq_self_eq_true, Bool.false_or, Bool.true_or, Bool.or_self, Bool.false_eq_true, if_true, if_false]
theorem lifts_of (P : Program) (rest : List (List Char)) (h : behindMainWord (wordsSigns P.initOrder.toList) = "cut".toList :: rest) : P.liftsFinal = false := by
  unfold Program.liftsFinal Program.headLifts
  rw [h]
  have e : ((some "cut".toList : Option (List Char)) == some "carried".toList) = false := by kernel_rfl
  simp only [strip_cut, List.head?_cons, beq_self_eq_true, if_true, e, Bool.false_and, Bool.false_or]
  rfl
theorem enter_of (P : Program) (rest : List (List Char)) (h : behindMainWord (wordsSigns P.initOrder.toList) = "cut".toList :: rest) (h1 : P.laysLater = false) (h2 : P.bearsReflect = false) (h3 : P.doorFits [] = true) : P.mayEnter = true := by
  unfold Program.mayEnter
  rw [h]
  simp only [strip_cut, ne1, ne2, ne3, h1, h2, h3, List.head?_cons, beq_self_eq_true, Bool.false_or, Bool.or_false, Bool.false_and, Bool.true_and, Bool.and_true, Bool.not_false, Bool.or_true, List.contains_nil]
theorem fact_make : Try.prog.make = some .cut := by
  obtain ⟨rest, h⟩ := words_of
  exact make_of _ _ h
theorem fact_lifts : Try.prog.liftsFinal = false := by
  obtain ⟨rest, h⟩ := words_of
  exact lifts_of _ _ h
theorem fact_later : Try.prog.laysLater = false := by kernel_rfl
theorem fact_reflect : Try.prog.bearsReflect = false := by kernel_rfl
theorem fact_door : Try.prog.doorFits [] = true := by kernel_rfl
theorem fact_enter : Try.prog.mayEnter = true := by
  obtain ⟨rest, h⟩ := words_of
  exact enter_of _ _ h fact_later fact_reflect fact_door
theorem fact_laid : laidOutB Try.prog = true := by kernel_rfl
theorem fact_maps : mapsRowed Try.prog = true := by kernel_rfl
theorem fact_heard : Try.prog.stopsHeard = true := by kernel_rfl
theorem own : ownKnob Try.prog.godebug = none := by kernel_rfl
theorem follows : Try.prog.follows .mixedOrders = true := by kernel_rfl
end Go.Proofs.Ytknhlpmmalcchaa
