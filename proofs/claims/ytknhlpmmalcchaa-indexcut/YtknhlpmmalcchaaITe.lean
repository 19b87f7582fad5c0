/- Steps of the walk. -/
import Derived.Test.YtknhlpmmalcchaaITd
import Derived.Test.YtknhlpmmalcchaaRows
import Derived.ProofKit
set_option linter.all false
set_option linter.unusedVariables false
set_option linter.unusedSimpArgs false
namespace Go.Proofs.Ytknhlpmmalcchaa
open Go Go.VAI
set_option linter.unusedSimpArgs false

theorem allowed_small {x : Idx} (h : Allowed x) : (encodeOf x).length ≤ 200000000 := by
  obtain ⟨n1, n2, n3, n4⟩ := h.net
  have hrl := h.rankLen
  have hul := h.upLen
  have hdl := h.downLen
  have hac := h.count
  have hu : ∀ l ∈ x.up, l.length ≤ 300000 := fun l hl => by
    obtain ⟨v, hv, e⟩ := List.getElem_of_mem hl
    obtain ⟨h1, h2⟩ := h.up v l (by rw [List.getElem?_eq_getElem hv, e])
    have := few_below x.arcs.length l h1 (fun y hy => by
      obtain ⟨h3, a, h4, _⟩ := h2 y hy
      have := (List.getElem?_eq_some_iff.1 h4).1
      omega)
    omega
  have hd : ∀ l ∈ x.down, l.length ≤ 300000 := fun l hl => by
    obtain ⟨v, hv, e⟩ := List.getElem_of_mem hl
    obtain ⟨h1, h2⟩ := h.down v l (by rw [List.getElem?_eq_getElem hv, e])
    have := few_below x.arcs.length l h1 (fun y hy => by
      obtain ⟨h3, a, h4, _⟩ := h2 y hy
      have := (List.getElem?_eq_some_iff.1 h4).1
      omega)
    omega
  have b1 := flat_bound hu
  have b2 := flat_bound hd
  rw [encodeOf_len]
  have b3 : (4 + 4 * 300000) * x.up.length ≤ (4 + 4 * 300000) * 60 := Nat.mul_le_mul (Nat.le_refl _) (by omega)
  have b4 : (4 + 4 * 300000) * x.down.length ≤ (4 + 4 * 300000) * 60 := Nat.mul_le_mul (Nat.le_refl _) (by omega)
  omega
set_option maxRecDepth 20000 in
set_option maxHeartbeats 4000000 in
theorem indexCut_ret {size : Int} {ns mv : AVal} {xs ys : List Int} {at_ : Int} {f : Nat → Option AObj} (_ : I64 size) (hr : Row ⟨f, 2⟩ ns 1 (ints xs)) (hx : ∀ x ∈ xs, I64 x) (hx2 : xs.length ≤ 9223372036854775807) (_ : I64 at_)
    (hm : Row ⟨f, 2⟩ mv 1 (u8s ys)) (hy : ∀ y ∈ ys, 0 ≤ y ∧ y < 256) (hy2 : ys.length ≤ 9223372036854775807) :
    Ret A 9 [.int .i64 size, ns, .int .i64 at_, mv] ⟨f, 2⟩ (fun v _ => v = .bool true) := by
  refine Ret.of (fn := F9) rfl ?_
  have hml := hm.len1
  rw [u8s_length] at hml
  simp (disch := first | omega | (simp only [next_new, next_upd] <;> omega) | fail) only [vai, vaim, vaic, bots, Bool.not_true, Bool.not_false, decide_true, decide_false, wrap64, F9, Nat.reduceAdd, Nat.reduceMul, Nat.reduceLeDiff, Nat.reduceEqDiff, ↓reduceIte]
  refine known26x2_ret fun H1 k1 => ?_
  by_cases hc : (100 : Int) < ys.length
  · simp (disch := first | omega | (simp only [next_new, next_upd] <;> omega) | fail) only [vai, vaim, vaic, bots, Bool.not_true, Bool.not_false, decide_true, decide_false, wrap64, Bool.not_true, hml, hc, Nat.reduceAdd, Nat.reduceMul, Nat.reduceLeDiff, Nat.reduceEqDiff, ↓reduceIte]
  simp (disch := first | omega | (simp only [next_new, next_upd] <;> omega) | fail) only [vai, vaim, vaic, bots, Bool.not_true, Bool.not_false, decide_true, decide_false, wrap64, Bool.not_true, hml, hc, Nat.reduceAdd, Nat.reduceMul, Nat.reduceLeDiff, Nat.reduceEqDiff, ↓reduceIte]
  refine make_ret (hr.kept k1) hx hx2 fun ev H2 k2 g2 => ?_
  have hnet := mk_net size 0 xs
  have hsm := mk_small size
  have g2' : Grown H1.next H2 ev 4 (edgeCells (mkEs size 0 xs)) := g2
  rw [← mkN_eq]
  generalize mkEs size 0 xs = es at *
  generalize mkN size = N at *
  simp (disch := first | omega | (simp only [next_new, next_upd] <;> omega) | fail) only [vai, vaim, vaic, bots, Bool.not_true, Bool.not_false, decide_true, decide_false, wrap64, Nat.reduceAdd, Nat.reduceMul, Nat.reduceLeDiff, Nat.reduceEqDiff, ↓reduceIte]
  refine build_ret g2'.row hnet hsm fun ew rv av uv dv H4 k4 h4 => ?_
  have hal := idx_allowed hnet hsm
  obtain ⟨p1, p2, p3⟩ := allowed_enc hal
  have p4 := allowed_small hal
  have hn : (idxOf N es).n = N := rfl
  have hraw := raw_encode hal
  have hbytes := encode_bytes (idxOf N es)
  generalize hid : idxOf N es = x at *
  rw [← hn]
  simp (disch := first | omega | (simp only [next_new, next_upd] <;> omega) | fail) only [vai, vaim, vaic, bots, Bool.not_true, Bool.not_false, decide_true, decide_false, wrap64, Nat.reduceAdd, Nat.reduceMul, Nat.reduceLeDiff, Nat.reduceEqDiff, ↓reduceIte]
  refine encode_ret h4 p1 p2 (by omega) fun bv H5 k5 g5 => ?_
  have hm5 := (((hm.kept k1).kept k2).kept k4).kept k5
  have hlen : (u8s (encodeOf x)).length = (encodeOf x).length := u8s_length _
  have hll := g5.row.len1
  rw [hlen] at hll
  have hl28 : ¬ ((encodeOf x).length : Int) < 28 := by
    have h1 := encodeOf_len x
    have := hal.net.1
    have h2 := hal.rankLen
    have h3 := hal.upLen
    have h4 := hal.downLen
    have h5 := flat_ge (f := rowB) (n := 4) (l := x.up) (fun a => by rw [rowB_len]; omega)
    have h6 := flat_ge (f := rowB) (n := 4) (l := x.down) (fun a => by rw [rowB_len]; omega)
    omega
  simp (disch := first | omega | (simp only [next_new, next_upd] <;> omega) | fail) only [vai, vaim, vaic, bots, Bool.not_true, Bool.not_false, decide_true, decide_false, wrap64, hll, hl28, Nat.reduceAdd, Nat.reduceMul, Nat.reduceLeDiff, Nat.reduceEqDiff, ↓reduceIte]
  refine within_ret (n := (encodeOf x).length) rfl (by omega) (by omega) ?_
  have e1 := Int.emod_nonneg at_ (show ((encodeOf x).length : Int) ≠ 0 by omega)
  have e2 := Int.emod_lt_of_pos at_ (show 0 < ((encodeOf x).length : Int) by omega)
  obtain ⟨j, hj⟩ : ∃ j : Nat, at_ % ((encodeOf x).length : Int) = j := ⟨(at_ % ((encodeOf x).length : Int)).toNat, by omega⟩
  rw [hj] at e2 ⊢
  have hjl : j < (encodeOf x).length := by omega
  obtain ⟨v4, s1, s2, s3⟩ := g5.rowC.upto (n := (encodeOf x).length) (k := j) (kd := .i64) (by omega) (by rw [hlen]; omega) (by omega)
  rw [Nat.mul_one, u8s_take] at s2
  have hcut : rawOf ((encodeOf x).take j) = none := by
    cases h : rawOf ((encodeOf x).take j) with
    | none => rfl
    | some z =>
      have h2 := raw_more h (r := (encodeOf x).drop j) (by
        intro e
        have := congrArg List.length e
        rw [List.length_drop] at this
        simp at this; omega)
      rw [List.take_append_drop, hraw] at h2
      cases h2
  simp (disch := first | omega | (simp only [next_new, next_upd] <;> omega) | fail) only [vai, vaim, vaic, bots, Bool.not_true, Bool.not_false, decide_true, decide_false, wrap64, s1, Nat.reduceAdd, Nat.reduceMul, Nat.reduceLeDiff, Nat.reduceEqDiff, ↓reduceIte]
  refine decode_ret s2 (fun y hy => hbytes y (List.mem_of_mem_take hy)) (by rw [List.length_take]; omega) (fun hno H6 k6 => ?_) (fun x' hx' => by rw [hcut] at hx'; cases hx')
  have k56 := k6
  simp (disch := first | omega | (simp only [next_new, next_upd] <;> omega) | fail) only [vai, vaim, vaic, bots, Bool.not_true, Bool.not_false, decide_true, decide_false, wrap64, ne_eq, not_true_eq_false, Nat.reduceAdd, Nat.reduceMul, Nat.reduceLeDiff, Nat.reduceEqDiff, ↓reduceIte]
  have kP : Keep Nothing H6 ((((H6.new (.cells [.int .i64 0, .nilSlice, .nilSlice, .nilSlice, .nilSlice, .nilSlice] true)).upd H6.next (some (.cells [.int .i64 0, .nilSlice, .nilSlice, .nilSlice, .nilSlice, .nilSlice] true)))).new (.cells [] true)) := (((Keep.refl _ _).new _).upd (.inl (Nat.le_refl _)) _).new _
  have g6 := (g5.kept k6).kept kP
  have hm6 := (hm5.kept k6).kept kP
  refine copy_ret (n := (encodeOf x).length) (obj_new_eq (by simp only [next_new, next_upd])) (by simp only [next_new, next_upd]; omega) g6.row (by rw [hlen]; omega) (by omega) (by omega) (by omega) ?_
  intro c7 H7 k7 g7 s7
  have hm7 := hm6.kept k7
  have n7 := k7.next
  simp only [next_new, next_upd] at n7
  simp (disch := first | omega | (simp only [next_new, next_upd] <;> omega) | fail) only [vai, vaim, vaic, bots, Bool.not_true, Bool.not_false, decide_true, decide_false, wrap64, Nat.reduceAdd, Nat.reduceMul, Nat.reduceLeDiff, Nat.reduceEqDiff, ↓reduceIte]
  refine appRow_ret (n := (encodeOf x).length) (k := ys.length) g7 hm7 (by rw [u8s_length]; omega) (by omega) (by rw [hlen]; omega) (by omega) (by omega) ?_ (by omega) (Nat.le_refl _) (fun _ _ _ => rfl)
  intro c8 H8 n8 k8 g8 s8
  rw [← u8s_append] at g8
  have hbb : Bytes (encodeOf x ++ ys) := hbytes.app hy
  simp (disch := first | omega | (simp only [next_new, next_upd] <;> omega) | fail) only [vai, vaim, vaic, bots, Bool.not_true, Bool.not_false, decide_true, decide_false, wrap64, Nat.reduceAdd, Nat.reduceMul, Nat.reduceLeDiff, Nat.reduceEqDiff, ↓reduceIte]
  refine decode_ret g8.rowC hbb (by rw [List.length_append]; omega) (fun hno H9 k9 => ?_) (fun x' hx' hal' e2 r2 a2 u2 d2 H9 k9 h9 => ?_)
  · have h0 : ¬ ((ys.length : Int) = 0) := fun h0 => by
      have : ys = [] := List.eq_nil_of_length_eq_zero (by omega)
      subst this
      rw [List.append_nil] at hno
      exact hno x hraw hal
    simp (disch := first | omega | (simp only [next_new, next_upd] <;> omega) | fail) only [vai, vaim, vaic, bots, Bool.not_true, Bool.not_false, decide_true, decide_false, wrap64, hml, h0, Nat.reduceAdd, Nat.reduceMul, Nat.reduceLeDiff, Nat.reduceEqDiff, ↓reduceIte]
    rfl
  · have h0 : (ys.length : Int) = 0 := by
      by_cases h0 : ys = []
      · subst h0; rfl
      · rw [raw_more hraw h0] at hx'; cases hx'
    have c1 := h9.es.cells
    have c2 := h9.rank.cells
    have c3 := h9.arcs.cells
    have c4 := h9.up.cells
    have c5 := h9.down.cells
    simp (disch := first | omega | (simp only [next_new, next_upd] <;> omega) | fail) only [vai, vaim, vaic, bots, Bool.not_true, Bool.not_false, decide_true, decide_false, wrap64, hml, h0, Nat.reduceAdd, Nat.reduceMul, Nat.reduceLeDiff, Nat.reduceEqDiff, ↓reduceIte]
    rfl
end Go.Proofs.Ytknhlpmmalcchaa

/- Closed facts of the program: what its head says, read as a list of signs (the kernel is slow at a long text's own signs). -/
namespace Go.Proofs.Ytknhlpmmalcchaa
open Go Go.ChangeShapes Go.WideShapes Go.ChangeAt Go.RowKit
set_option maxRecDepth 100000
def headSigns : List Char := List.map Char.ofNat [104, 97, 114, 110, 101, 115, 115, 32, 55, 99, 56, 99, 100, 51, 98, 49, 52, 101, 49, 49, 99, 55, 53, 54, 51, 54, 100, 97, 101, 56, 55, 98, 55, 54, 100, 50, 48, 98, 53, 57, 56, 97, 56, 56, 56, 55, 99, 98, 51, 49, 48, 98, 100, 53, 97, 55, 54, 53, 102, 100, 48, 102, 49, 102, 50, 57, 53, 50, 52, 102, 57, 50, 32, 99, 117, 116, 32, 97, 116, 32, 109, 105, 108, 101, 115, 116, 111, 110, 101, 47, 109, 105, 108, 101, 115, 116, 111, 110, 101, 108, 97, 119, 49, 50, 46, 73, 110, 100, 101, 120, 66, 97, 99, 107, 32, 109, 105, 108, 101, 115, 116, 111, 110, 101, 47, 109, 105, 108, 101, 115, 116, 111, 110, 101, 108, 97, 119, 49, 50, 46, 73, 110, 100, 101, 120, 82, 101, 97, 100, 115, 32, 109, 105, 108, 101, 115, 116, 111, 110, 101, 47, 109, 105, 108, 101, 115, 116, 111, 110, 101, 108, 97, 119, 49, 50, 46, 73, 110, 100, 101, 120, 83, 112, 111, 105, 108, 116, 32, 109, 105, 108, 101, 115, 116, 111, 110, 101, 47, 109, 105, 108, 101, 115, 116, 111, 110, 101, 108, 97, 119, 49, 50, 46, 73, 110, 100, 101, 120, 79, 110, 108, 121, 32, 109, 105, 108, 101, 115, 116, 111, 110, 101, 47, 109, 105, 108, 101, 115, 116, 111, 110, 101, 108, 97, 119, 49, 50, 46, 73, 110, 100, 101, 120, 83, 105, 122, 101, 32, 109, 105, 108, 101, 115, 116, 111, 110, 101, 47, 109, 105, 108, 101, 115, 116, 111, 110, 101, 108, 97, 119, 49, 50, 46, 73, 110, 100, 101, 120, 65, 112, 97, 114, 116, 32, 109, 105, 108, 101, 115, 116, 111, 110, 101, 47, 109, 105, 108, 101, 115, 116, 111, 110, 101, 108, 97, 119, 49, 50, 46, 73, 110, 100, 101, 120, 67, 117, 116, 32, 109, 105, 108, 101, 115, 116, 111, 110, 101, 47, 109, 105, 108, 101, 115, 116, 111, 110, 101, 108, 97, 119, 49, 50, 46, 73, 110, 100, 101, 120, 67, 111, 117, 110, 116, 115, 32, 109, 105, 108, 101, 115, 116, 111, 110, 101, 47, 109, 105, 108, 101, 115, 116, 111, 110, 101, 108, 97, 119, 49, 50, 46, 73, 110, 100, 101, 120, 72, 101, 97, 100, 32, 109, 105, 108, 101, 115, 116, 111, 110, 101, 47, 109, 105, 108, 101, 115, 116, 111, 110, 101, 108, 97, 119, 49, 48, 46, 79, 114, 100, 101, 114, 65, 108, 108, 32, 109, 105, 108, 101, 115, 116, 111, 110, 101, 47, 109, 105, 108, 101, 115, 116, 111, 110, 101, 108, 97, 119, 49, 48, 46, 79, 114, 100, 101, 114, 69, 97, 99, 104, 32, 109, 105, 108, 101, 115, 116, 111, 110, 101, 47, 109, 105, 108, 101, 115, 116, 111, 110, 101, 108, 97, 119, 49, 48, 46, 79, 114, 100, 101, 114, 67, 111, 115, 116, 115, 32, 109, 105, 108, 101, 115, 116, 111, 110, 101, 47, 109, 105, 108, 101, 115, 116, 111, 110, 101, 108, 97, 119, 49, 48, 46, 79, 114, 100, 101, 114, 75, 110, 111, 119, 110, 32, 109, 105, 108, 101, 115, 116, 111, 110, 101, 47, 109, 105, 108, 101, 115, 116, 111, 110, 101, 108, 97, 119, 49, 48, 46, 79, 114, 100, 101, 114, 77, 111, 100, 101, 32, 109, 105, 108, 101, 115, 116, 111, 110, 101, 47, 109, 105, 108, 101, 115, 116, 111, 110, 101, 108, 97, 119, 49, 49, 46, 72, 105, 101, 114, 66, 117, 105, 108, 100, 115, 32, 109, 105, 108, 101, 115, 116, 111, 110, 101, 47, 109, 105, 108, 101, 115, 116, 111, 110, 101, 108, 97, 119, 49, 49, 46, 72, 105, 101, 114, 82, 97, 110, 107, 115, 32, 109, 105, 108, 101, 115, 116, 111, 110, 101, 47, 109, 105, 108, 101, 115, 116, 111, 110, 101, 108, 97, 119, 49, 49, 46, 72, 105, 101, 114, 75, 101, 101, 112, 115, 32, 109, 105, 108, 101, 115, 116, 111, 110, 101, 47, 109, 105, 108, 101, 115, 116, 111, 110, 101, 108, 97, 119, 49, 49, 46, 72, 105, 101, 114, 67, 111, 114, 101, 32, 109, 105, 108, 101, 115, 116, 111, 110, 101, 47, 109, 105, 108, 101, 115, 116, 111, 110, 101, 108, 97, 119, 49, 49, 46, 72, 105, 101, 114, 67, 111, 115, 116, 115, 32, 109, 105, 108, 101, 115, 116, 111, 110, 101, 47, 109, 105, 108, 101, 115, 116, 111, 110, 101, 108, 97, 119, 49, 49, 46, 72, 105, 101, 114, 65, 114, 99, 115, 32, 109, 105, 108, 101, 115, 116, 111, 110, 101, 47, 109, 105, 108, 101, 115, 116, 111, 110, 101, 108, 97, 119, 49, 49, 46, 72, 105, 101, 114, 83, 104, 111, 114, 116, 32, 109, 105, 108, 101, 115, 116, 111, 110, 101, 47, 109, 105, 108, 101, 115, 116, 111, 110, 101, 108, 97, 119, 49, 49, 46, 72, 105, 101, 114, 79, 119, 110, 32, 109, 105, 108, 101, 115, 116, 111, 110, 101, 47, 109, 105, 108, 101, 115, 116, 111, 110, 101, 108, 97, 119, 49, 49, 46, 72, 105, 101, 114, 76, 111, 110, 103]
theorem head_eq : Try.prog.initOrder = String.ofList headSigns := by kernel_rfl
theorem head_list : Try.prog.initOrder.toList = headSigns := by rw [head_eq, String.toList_ofList]
theorem head_words : ∃ rest, behindMainWord (wordsSigns headSigns) = "cut".toList :: rest := ⟨(behindMainWord (wordsSigns headSigns)).tail, by kernel_rfl⟩
theorem strip_cut (rest : List (List Char)) : stripLifts liftWords ("cut".toList :: rest) = ([], "cut".toList :: rest) := by kernel_rfl
theorem ne1 : ("cut".toList == "gc".toList) = false := by kernel_rfl
theorem ne2 : ("cut".toList == "spec".toList) = false := by kernel_rfl
theorem ne3 : ("cut".toList == "carried".toList) = false := by kernel_rfl
theorem words_of : ∃ rest, behindMainWord (wordsSigns Try.prog.initOrder.toList) = "cut".toList :: rest := by
  obtain ⟨rest, h⟩ := head_words
  exact ⟨rest, (congrArg (fun l => behindMainWord (wordsSigns l)) head_list).trans h⟩
theorem make_of (P : Program) (rest : List (List Char)) (h : behindMainWord (wordsSigns P.initOrder.toList) = "cut".toList :: rest) : P.make = some .cut := by
  unfold Program.make
  rw [h]
  simp only [ne1, ne2, beq_self_eq_true, Bool.false_or, Bool.true_or, Bool.or_self, Bool.false_eq_true, if_true, if_false]
theorem lifts_of (P : Program) (rest : List (List Char)) (h : behindMainWord (wordsSigns P.initOrder.toList) = "cut".toList :: rest) : P.liftsFinal = false := by
  unfold Program.liftsFinal Program.headLifts
  rw [h]
  have e : ((some "cut".toList : Option (List Char)) == some "carried".toList) = false := by kernel_rfl
  simp only [strip_cut, List.head?_cons, beq_self_eq_true, if_true, e, Bool.false_and, Bool.false_or]
  rfl
theorem enter_of (P : Program) (rest : List (List Char)) (h : behindMainWord (wordsSigns P.initOrder.toList) = "cut".toList :: rest) (h1 : P.laysLater = false) (h2 : P.bearsReflect = false) (h3 : P.doorFits [] = true) : P.mayEnter = true := by
  unfold Program.mayEnter
  rw [h]
  simp only [strip_cut, ne1, ne2, ne3, h1, h2, h3, List.head?_cons, beq_self_eq_true, Bool.false_or, Bool.or_false, Bool.false_and, Bool.true_and, Bool.and_true, Bool.not_false, Bool.or_true, List.contains_nil]
theorem fact_make : Try.prog.make = some .cut := by
  obtain ⟨rest, h⟩ := words_of
  exact make_of _ _ h
theorem fact_lifts : Try.prog.liftsFinal = false := by
  obtain ⟨rest, h⟩ := words_of
  exact lifts_of _ _ h
theorem fact_later : Try.prog.laysLater = false := by kernel_rfl
theorem fact_reflect : Try.prog.bearsReflect = false := by kernel_rfl
theorem fact_door : Try.prog.doorFits [] = true := by kernel_rfl
theorem fact_enter : Try.prog.mayEnter = true := by
  obtain ⟨rest, h⟩ := words_of
  exact enter_of _ _ h fact_later fact_reflect fact_door
theorem fact_laid : laidOutB Try.prog = true := by kernel_rfl
theorem fact_maps : mapsRowed Try.prog = true := by kernel_rfl
theorem fact_keys : Try.prog.plainKeys = false := by kernel_rfl
theorem fact_heard : Try.prog.stopsHeard = true := by kernel_rfl
theorem own : ownKnob Try.prog.godebug = none := by kernel_rfl
theorem follows : Try.prog.follows .mixedOrders = true := by kernel_rfl
end Go.Proofs.Ytknhlpmmalcchaa
