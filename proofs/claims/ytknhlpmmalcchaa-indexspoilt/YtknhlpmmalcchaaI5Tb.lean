/- Steps of the walk. -/
import Derived.Test.YtknhlpmmalcchaaI5Ta
import Derived.Test.YtknhlpmmalcchaaI5Vba
import Derived.Test.YtknhlpmmalcchaaI5Pa
set_option linter.all false
set_option linter.unusedVariables false
set_option linter.unusedSimpArgs false
namespace Go.Proofs.Ytknhlpmmalcchaa
open Go Go.VAI
set_option linter.unusedSimpArgs false

structure BLay (H : AHeap) (b0 b1 b2 b3 b4 u d N : Nat) (es : List Edge) (ev ew rv av : AVal) (cur : List Int) (gone : List Bool) (us ds : List AVal) : Prop where
  nbox : H.obj b0 = some (.cells [.int .i64 N, ev] true)
  var : H.obj b1 = some (.cells [.int .i64 0, .nilSlice, .nilSlice, .nilSlice, .nilSlice, .nilSlice] true)
  lay : Lay H b4 b2 b3 N ew rv av (.slice u 0 N (.exact N)) (.slice d 0 N (.exact N)) cur gone
  upO : H.obj u = some (.cells us true)
  downO : H.obj d = some (.cells ds true)
  usl : us.length = N
  dsl : ds.length = N
  ord : b0 < b1 ∧ b1 < b2 ∧ b2 < b3 ∧ b3 < b4 ∧ b4 < u ∧ u < d ∧ d < H.next
  ewid : ∀ j, sid ew = some j → b4 < j ∧ j < u
  edges : Row H ew 4 (edgeCells es)
theorem BLay.upd {H H' : AHeap} {b0 b1 b2 b3 b4 u d N : Nat} {es : List Edge} {ev ew rv av rv' av' : AVal} {cur cur' : List Int} {gone gone' : List Bool} {us ds us' ds' : List AVal} (h : BLay H b0 b1 b2 b3 b4 u d N es ev ew rv av cur gone us ds) (hn : H.next ≤ H'.next)
    (hk : ∀ j, j ≤ d → j ≠ b4 → j ≠ b2 → j ≠ b3 → j ≠ u → j ≠ d → H'.obj j = H.obj j) (hlay : Lay H' b4 b2 b3 N ew rv' av' (.slice u 0 N (.exact N)) (.slice d 0 N (.exact N)) cur' gone')
    (hu : H'.obj u = some (.cells us' true)) (hd : H'.obj d = some (.cells ds' true)) (hul : us'.length = N) (hdl : ds'.length = N) : BLay H' b0 b1 b2 b3 b4 u d N es ev ew rv' av' cur' gone' us' ds' := by
  obtain ⟨o1, o2, o3, o4, o5, o6, o7⟩ := h.ord
  refine ⟨by rw [hk b0 (by omega) (by omega) (by omega) (by omega) (by omega) (by omega)]; exact h.nbox, by rw [hk b1 (by omega) (by omega) (by omega) (by omega) (by omega) (by omega)]; exact h.var, hlay, hu, hd, hul, hdl, ⟨o1, o2, o3, o4, o5, o6, by omega⟩, h.ewid, ?_⟩
  have hk2 : Keep (fun j => j ≤ b4 ∨ u ≤ j) H H' := ⟨hn, fun j hj hm => hk j (by omega) (by omega) (by omega) (by omega) (by omega) (by omega)⟩
  exact h.edges.M hk2 (fun j hj => by have := h.ewid j hj; omega)
theorem Lay.M {H H' : AHeap} {M : Nat → Prop} {w c g N : Nat} {ev rv av uv dv : AVal} {cur : List Int} {gone : List Bool} (h : Lay H w c g N ev rv av uv dv cur gone) (hk : Keep M H H') (h1 : ¬ M w) (h2 : ¬ M c) (h3 : ¬ M g) : Lay H' w c g N ev rv av uv dv cur gone := by
  have := hk.next
  have := h.wlt
  have := h.clt
  have := h.glt
  exact ⟨by rw [hk.obj _ h.wlt h1]; exact h.obj, by rw [hk.obj _ h.clt h2]; exact h.curO, by rw [hk.obj _ h.glt h3]; exact h.goneO, by omega, by omega, by omega, h.curLen, h.goneLen⟩
theorem BLay.M {H H' : AHeap} {M : Nat → Prop} {b0 b1 b2 b3 b4 u d N : Nat} {es : List Edge} {ev ew rv av : AVal} {cur : List Int} {gone : List Bool} {us ds : List AVal} (h : BLay H b0 b1 b2 b3 b4 u d N es ev ew rv av cur gone us ds) (hk : Keep M H H') (hM : ∀ j, j ≤ d → ¬ M j) : BLay H' b0 b1 b2 b3 b4 u d N es ev ew rv av cur gone us ds := by
  obtain ⟨o1, o2, o3, o4, o5, o6, o7⟩ := h.ord
  exact h.upd hk.next (fun j hj _ _ _ _ _ => hk.obj j (by omega) (hM j hj)) (h.lay.M hk (hM _ (by omega)) (hM _ (by omega)) (hM _ (by omega))) (by rw [hk.obj _ (by omega) (hM _ (by omega))]; exact h.upO) (by rw [hk.obj _ (by omega) (hM _ (by omega))]; exact h.downO) h.usl h.dsl
theorem BLay.kept {H H' : AHeap} {b0 b1 b2 b3 b4 u d N : Nat} {es : List Edge} {ev ew rv av : AVal} {cur : List Int} {gone : List Bool} {us ds : List AVal} (h : BLay H b0 b1 b2 b3 b4 u d N es ev ew rv av cur gone us ds) (hk : Keep Nothing H H') : BLay H' b0 b1 b2 b3 b4 u d N es ev ew rv av cur gone us ds := by
  obtain ⟨o1, o2, o3, o4, o5, o6, o7⟩ := h.ord
  exact h.upd hk.next (fun j hj _ _ _ _ _ => hk.old (by omega)) (h.lay.kept hk) (by rw [hk.old (by omega)]; exact h.upO) (by rw [hk.old (by omega)]; exact h.downO) h.usl h.dsl
theorem orderOf_ok (N : Nat) (es : List Edge) (k : Nat) : OrderOk N (orderOf N es k) := by
  have mem : ∀ (d : Nat) x, x ∈ orderRow es d N → 0 ≤ x ∧ x < N ∧ degree es x = d := by
    intro d x hx
    simp only [orderRow, List.mem_map, List.mem_filter, List.mem_range, Bool.and_eq_true, decide_eq_true_eq] at hx
    obtain ⟨v, ⟨h1, _, h2⟩, rfl⟩ := hx
    exact ⟨by simp, by simpa using h1, by have h2' : (degree es (v : Int) : Int) = d := h2; show degree es (v : Int) = d; omega⟩
  refine ⟨fun x hx => ?_, ?_⟩
  · simp only [orderOf, List.mem_flatMap, List.mem_range] at hx
    obtain ⟨d, _, hx⟩ := hx
    exact ⟨(mem d x hx).1, (mem d x hx).2.1⟩
  · refine nodup_flat k (fun d _ => ?_) (fun d d' x _ _ h1 h2 => by rw [← (mem d x h1).2.2, (mem d' x h2).2.2])
    simp only [orderRow]
    refine List.Pairwise.map _ (fun a b (h : a ≠ b) => ?_) (List.Pairwise.filter _ (List.nodup_range))
    intro e
    exact h (by injection e)
def orderAll (N : Nat) (es : List Edge) : List Int := orderOf N es (2 * es.length + 1)
def idxOf (N : Nat) (es : List Edge) : Idx :=
  let h := hierOf N es (orderAll N es)
  ⟨N, es, h.rank, h.arcs, h.up, h.down⟩
structure IdxAt (H : AHeap) (ew rv av uv dv : AVal) (x : Idx) : Prop where
  es : Row H ew 4 (edgeCells x.es)
  rank : Row H rv 1 (ints x.rank)
  arcs : Row H av 7 (arcCells x.arcs)
  up : RowsOf H uv x.up
  down : RowsOf H dv x.down
theorem IdxAt.kept {H H' : AHeap} {ew rv av uv dv : AVal} {x : Idx} (h : IdxAt H ew rv av uv dv x) (hk : Keep Nothing H H') : IdxAt H' ew rv av uv dv x := ⟨h.es.kept hk, h.rank.kept hk, h.arcs.kept hk, h.up.kept hk, h.down.kept hk⟩
def From (lo : Nat) (H : AHeap) (v : AVal) (sz : Nat) (cs : List AVal) : Prop := Row H v sz cs ∧ ∀ j, sid v = some j → lo ≤ j
theorem From.M {lo : Nat} {M : Nat → Prop} {H H' : AHeap} {v : AVal} {sz : Nat} {cs : List AVal} (h : From lo H v sz cs) (hk : Keep M H H') (hM : ∀ j, M j → j < lo) : From lo H' v sz cs := ⟨h.1.M hk (fun j hj e => by have := h.2 j hj; have := hM j e; omega), h.2⟩
def FromRows (lo : Nat) (H : AHeap) (v : AVal) (ll : List (List Int)) : Prop := ∃ vs, From lo H v 1 vs ∧ vs.length = ll.length ∧ ∀ (i : Nat) r l, vs[i]? = some r → ll[i]? = some l → From lo H r 1 (ints l)
theorem FromRows.M {lo : Nat} {M : Nat → Prop} {H H' : AHeap} {v : AVal} {ll : List (List Int)} (h : FromRows lo H v ll) (hk : Keep M H H') (hM : ∀ j, M j → j < lo) : FromRows lo H' v ll := by
  obtain ⟨vs, h1, h2, h3⟩ := h
  exact ⟨vs, h1.M hk hM, h2, fun i r l e1 e2 => (h3 i r l e1 e2).M hk hM⟩
theorem FromRows.rows {lo : Nat} {H : AHeap} {v : AVal} {ll : List (List Int)} (h : FromRows lo H v ll) : RowsOf H v ll := by
  obtain ⟨vs, h1, h2, h3⟩ := h
  exact ⟨vs, h1.1, h2, fun i r l e1 e2 => (h3 i r l e1 e2).1⟩
structure IdxFrom (lo : Nat) (H : AHeap) (ew rv av uv dv : AVal) (x : Idx) : Prop where
  es : From lo H ew 4 (edgeCells x.es)
  rank : From lo H rv 1 (ints x.rank)
  arcs : From lo H av 7 (arcCells x.arcs)
  up : FromRows lo H uv x.up
  down : FromRows lo H dv x.down
theorem IdxFrom.M {lo : Nat} {M : Nat → Prop} {H H' : AHeap} {ew rv av uv dv : AVal} {x : Idx} (h : IdxFrom lo H ew rv av uv dv x) (hk : Keep M H H') (hM : ∀ j, M j → j < lo) : IdxFrom lo H' ew rv av uv dv x := ⟨h.es.M hk hM, h.rank.M hk hM, h.arcs.M hk hM, h.up.M hk hM, h.down.M hk hM⟩
theorem IdxFrom.kept {lo : Nat} {H H' : AHeap} {ew rv av uv dv : AVal} {x : Idx} (h : IdxFrom lo H ew rv av uv dv x) (hk : Keep Nothing H H') : IdxFrom lo H' ew rv av uv dv x := h.M hk (fun _ h => h.elim)
theorem IdxFrom.idx {lo : Nat} {H : AHeap} {ew rv av uv dv : AVal} {x : Idx} (h : IdxFrom lo H ew rv av uv dv x) : IdxAt H ew rv av uv dv x := ⟨h.es.1, h.rank.1, h.arcs.1, h.up.rows, h.down.rows⟩
def RowsAt (lo : Nat) (H : AHeap) (av : AVal) (us : List AVal) (ul : List (List Int)) : Prop := ∀ (v : Nat) r l, us[v]? = some r → ul[v]? = some l → Row H r 1 (ints l) ∧ ∀ j, sid r = some j → lo ≤ j ∧ sid av ≠ some j
theorem RowsAt.M {lo : Nat} {M : Nat → Prop} {H H' : AHeap} {av av' : AVal} {us : List AVal} {ul : List (List Int)} (h : RowsAt lo H av us ul) (hk : Keep M H H') (hM : ∀ j, M j → j < lo ∨ sid av = some j) (ha : sid av' = sid av ∨ ∃ y, sid av' = some y ∧ H.next ≤ y) : RowsAt lo H' av' us ul := by
  intro v r l h1 h2
  obtain ⟨h3, h4⟩ := h v r l h1 h2
  refine ⟨h3.M hk (fun j hj hm => ?_), fun j hj => ⟨(h4 j hj).1, fun e => ?_⟩⟩
  · rcases hM j hm with h | h
    · have := (h4 j hj).1; omega
    · exact (h4 j hj).2 h
  · rcases ha with ha | ⟨y, ha, hy⟩
    · rw [ha] at e; exact (h4 j hj).2 e
    · rw [ha] at e; injection e with e; subst e
      have := h3.sid_lt hj
      omega
theorem RowsAt.set {lo : Nat} {H : AHeap} {av r : AVal} {us : List AVal} {ul : List (List Int)} {l : List Int} {v : Nat} (h : RowsAt lo H av us ul) (hr : Row H r 1 (ints l)) (hs : ∀ j, sid r = some j → lo ≤ j ∧ sid av ≠ some j) (hlen : us.length = ul.length) : RowsAt lo H av (us.set v r) (ul.set v l) := by
  intro w q m h1 h2
  rw [List.getElem?_set] at h1 h2
  by_cases hvw : v = w
  · subst hvw
    rw [if_pos rfl] at h1 h2
    by_cases hl : v < us.length
    · rw [if_pos hl] at h1; rw [if_pos (by omega)] at h2
      injection h1 with h1; injection h2 with h2; subst h1; subst h2
      exact ⟨hr, hs⟩
    · rw [if_neg hl] at h1; cases h1
  · rw [if_neg hvw] at h1 h2
    exact h w q m h1 h2
theorem reps_nil (n : Nat) : reps [.nilSlice] n = List.replicate n .nilSlice := by
  induction n with
  | zero => rfl
  | succ n ih => simp [reps, ih, List.replicate_succ]
theorem reps_false (n : Nat) : reps [.bool false] n = bools (List.replicate n false) := by
  induction n with
  | zero => rfl
  | succ n ih => simp [reps, ih, bools, List.replicate_succ]
set_option maxRecDepth 20000 in
set_option maxHeartbeats 4000000 in
theorem buildFrom_ret {N : Nat} {ev : AVal} {es : List Edge} {H : AHeap} {Q : AVal → AHeap → Prop} (hr : Row H ev 4 (edgeCells es)) (hnet : NetOk N es) (hN21 : N ≤ 21)
    (hq : ∀ ew rv av uv dv H', Keep Nothing H H' → IdxFrom H.next H' ew rv av uv dv (idxOf N es) → Q (.agg [.int .i64 N, ew, rv, av, uv, dv]) H') : Ret A 27 [.agg [.int .i64 N, ev]] H Q := by
  obtain ⟨hN1, hN2, hn, hok⟩ := hnet
  refine Ret.of (fn := F27) rfl ?_
  have p1 : 0 ≤ (N : Int) * (N : Int) := Int.mul_nonneg (by omega) (by omega)
  have p2 : (N : Int) * (N : Int) ≤ 60 * 60 := Int.mul_le_mul (by omega) (by omega) (by omega) (by omega)
  have hc5 : (N : Int) * (N : Int) * 5 = ((N * N * 5 : Nat) : Int) := by simp
  have hcells := hr.cells
  have hb5 : ((N * N * 5 : Nat) : Int) * ((8 : Nat) : Int) ≤ 140737488355328 := by rw [← hc5]; omega
  have hb6 : ((N * N * 5 : Nat) : Int) ≤ 9223372036854775807 := by rw [← hc5]; omega
  have hg1 : (N : Int) * ((1 : Nat) : Int) ≤ 140737488355328 := by omega
  have hg2 : (N : Int) ≤ 9223372036854775807 := by omega
  have hg3 : (N : Int) * ((24 : Nat) : Int) ≤ 140737488355328 := by omega
  simp (disch := first | omega | (simp only [next_new, next_upd] <;> omega) | fail) only [vai, vaim, bots, Bool.not_true, Bool.not_false, decide_true, decide_false, wrap64, F27, hc5, amkSlice_int hb5 hb6, amkSlice_int hg1 hg2, hcells, Nat.reduceAdd, Nat.reduceMul, Nat.reduceLeDiff, Nat.reduceEqDiff, ↓reduceIte]
  refine copy_ret (n := es.length) (by simp (disch := first | omega | (simp only [next_new, next_upd] <;> omega) | fail) only [vaim]) (by simp only [next_new]; omega) (hr.kept ((((((Keep.refl _ _).new _).new _).new _).new _).new _ |>.new _)) (edgeCells_length es) (by omega) (by omega) (by omega) ?_
  intro ew H1 hk1 ho1 hs1
  have hn1 := hk1.next
  simp only [next_new] at hn1
  have kA : Keep Nothing H H1 := ((((((Keep.refl _ _).new _).new _).new _).new _).new _ |>.new _).trans hk1
  have q0 : H1.obj H.next = some (.cells [.int .i64 N, ev] true) := by rw [hk1.old (by simp only [next_new]; omega)]; simp (disch := first | omega | (simp only [next_new, next_upd] <;> omega) | fail) only [vaim]
  have q1 : H1.obj (H.next + 1) = some (.cells [.int .i64 0, .nilSlice, .nilSlice, .nilSlice, .nilSlice, .nilSlice] true) := by rw [hk1.old (by simp only [next_new]; omega)]; simp (disch := first | omega | (simp only [next_new, next_upd] <;> omega) | fail) only [vaim]
  have q2 : H1.obj (H.next + 1 + 1) = some (.cells (ints (List.replicate (N * N * 5) 0)) true) := by rw [hk1.old (by simp only [next_new]; omega)]; simp (disch := first | omega | (simp only [next_new, next_upd] <;> omega) | fail) only [vaim, reps_zero]
  have q3 : H1.obj (H.next + 1 + 1 + 1) = some (.cells (bools (List.replicate N false)) true) := by rw [hk1.old (by simp only [next_new]; omega)]; simp (disch := first | omega | (simp only [next_new, next_upd] <;> omega) | fail) only [vaim, reps_false]
  have q4 : H1.obj (H.next + 1 + 1 + 1 + 1) = some (.cells [.int .i64 0, .nilSlice, .nilSlice, .nilSlice, .nilSlice, .nilSlice, .slice (H.next + 1 + 1) 0 (N * N * 5) (.exact (N * N * 5)), .slice (H.next + 1 + 1 + 1) 0 N (.exact N)] true) := by rw [hk1.old (by simp only [next_new]; omega)]; simp (disch := first | omega | (simp only [next_new, next_upd] <;> omega) | fail) only [vaim]
  clear hk1
  have hce := ho1.cells
  have hew := ho1.row
  have hes : ∀ j, sid ew = some j → H.next + 1 + 1 + 1 + 1 + 1 ≤ j ∧ j < H1.next := fun j hj => ho1.sid_ge hj
  clear ho1 hs1
  generalize hb1 : H.next + 1 = b1 at *
  generalize hb2 : b1 + 1 = b2 at *
  generalize hb3 : b2 + 1 = b3 at *
  generalize hb4 : b3 + 1 = b4 at *
  simp (disch := first | omega | (simp only [next_new, next_upd] <;> omega) | fail) only [vai, vaim, bots, Bool.not_true, Bool.not_false, decide_true, decide_false, wrap64, q0, q1, q2, q3, q4, hce, amkSlice_int hg3 hg2, Nat.reduceAdd, Nat.reduceMul, Nat.reduceLeDiff, Nat.reduceEqDiff, ↓reduceIte]
  refine wpx_loop (fun m t H' => ∃ (i : Nat) (rv : AVal), m = N - i ∧ i ≤ N ∧ t = (bots 1 (.ptr H.next 0 :: .ptr b1 0 :: .ptr b4 0 :: .int .i64 i :: bots 162 ([])) : Tmps) ∧ Keep Nothing H H' ∧ H1.next + 2 ≤ H'.next ∧
    BLay H' H.next b1 b2 b3 b4 H1.next (H1.next + 1) N es ev ew rv .nilSlice (List.replicate (N * N * 5) 0) (List.replicate N false) (List.replicate N .nilSlice) (List.replicate N .nilSlice) ∧ Grown (H1.next + 2) H' rv 1 (ints (List.replicate i (-1)))) N ?_ ?_
  · have kB : Keep Nothing H1 ((H1.new (.cells (List.replicate N .nilSlice) true)).new (.cells (List.replicate N .nilSlice) true)) := ((Keep.refl _ _).new _).new _
    refine ⟨0, .nilSlice, rfl, by omega, rfl, ?_, ?_, ⟨?_, ?_, ⟨?_, ?_, ?_, ?_, ?_, ?_, by simp, by simp⟩, ?_, ?_, by simp, by simp, ?_, fun j hj => by have := hes j hj; omega, ?_⟩, .nil⟩
    · exact ((((kA.upd (.inl (by omega)) _).new _).new _).upd (.inl (by omega)) _).upd (.inl (by omega)) _
    · simp only [next_new, next_upd]; omega
    · simp (disch := first | omega | (simp only [next_new, next_upd] <;> omega) | fail) only [vaim, q0]
    · simp (disch := first | omega | (simp only [next_new, next_upd] <;> omega) | fail) only [vaim, q1]
    · simp (disch := first | omega | (simp only [next_new, next_upd] <;> omega) | fail) only [vaim]
    · simp (disch := first | omega | (simp only [next_new, next_upd] <;> omega) | fail) only [vaim, q2]
    · simp (disch := first | omega | (simp only [next_new, next_upd] <;> omega) | fail) only [vaim, q3]
    · simp only [next_new, next_upd]; omega
    · simp only [next_new, next_upd]; omega
    · simp only [next_new, next_upd]; omega
    · simp (disch := first | omega | (simp only [next_new, next_upd] <;> omega) | fail) only [vaim, reps_nil]
    · simp (disch := first | omega | (simp only [next_new, next_upd] <;> omega) | fail) only [vaim, reps_nil]
    · simp only [next_new, next_upd]; omega
    · exact hew.M (M := fun j => j = b4) (((((Keep.refl (fun j => j = b4) _).upd (.inr rfl) _).new _).new _).upd (.inr rfl) _ |>.upd (.inr rfl) _) (fun j hj => by have := hes j hj; omega)
  · clear q0 q1 q2 q3 q4
    rintro m t H2 ⟨i, rv, rfl, hi1, rfl, hk2, hn2, hB, hg⟩
    have ho := hB.lay.obj
    have hnb := hB.nbox
    have hrv : ∀ j, j < H1.next + 2 → sid rv ≠ some j := fun j hj e => by have := (hg.sid_ge e).1; omega
    by_cases hc1 : (i : Int) < N
    · simp (disch := first | omega | (simp only [next_new, next_upd] <;> omega) | fail) only [vai, vaim, bots, Bool.not_true, Bool.not_false, decide_true, decide_false, wrap64, List.replicate, hc1, decide_true, hnb, ho, Nat.reduceAdd, Nat.reduceMul, Nat.reduceLeDiff, Nat.reduceEqDiff, ↓reduceIte]
      refine app_ret (n := i) hg.own (by simp (disch := first | omega | (simp only [next_new, next_upd] <;> omega) | fail) only [vaim]; rfl) rfl (by omega) (by omega) (by simp [ints]) (by omega) (by omega) ?_
      intro v' H' h1 h2 h3 h4
      simp only [next_new] at h1 h2 h4
      have hold : ∀ j, j < H1.next + 2 → H'.obj j = H2.obj j := fun j hj => by rw [h2 j (by omega) (hrv j hj), obj_new_ne (by omega)]
      have ho' : H'.obj b4 = _ := (hold b4 (by omega)).trans ho
      simp (disch := first | omega | (simp only [next_new, next_upd] <;> omega) | fail) only [vai, vaim, bots, Bool.not_true, Bool.not_false, decide_true, decide_false, wrap64, ho', h3.cells, Nat.reduceAdd, Nat.reduceMul, Nat.reduceLeDiff, Nat.reduceEqDiff, ↓reduceIte]
      have kk : Keep Nothing H H' := ⟨by have := hk2.next; omega, fun j hj _ => by rw [hold j (by omega), hk2.old hj]⟩
      refine ⟨N - (i + 1), by omega, i + 1, v', rfl, by omega, rfl, kk.upd (.inl (by omega)) _, (by first | omega | (simp only [next_new, next_upd]; omega)), hB.upd (by first | omega | (simp only [next_new, next_upd]; omega)) (fun j h5 h6 _ _ _ _ => by rw [obj_upd_ne h6, hold j (by omega)]) ⟨obj_upd_eq rfl, ?_, ?_, ?_, ?_, ?_, by simp, by simp⟩ ?_ ?_ (by simp) (by simp), ?_⟩
      · rw [obj_upd_ne (by omega), hold _ (by omega)]; exact hB.lay.curO
      · rw [obj_upd_ne (by omega), hold _ (by omega)]; exact hB.lay.goneO
      · simp only [next_upd]; omega
      · simp only [next_upd]; omega
      · simp only [next_upd]; omega
      · rw [obj_upd_ne (by omega), hold _ (by omega)]; exact hB.upO
      · rw [obj_upd_ne (by omega), hold _ (by omega)]; exact hB.downO
      · refine Grown.upd ?_ (by omega) _
        rw [List.replicate_succ', ints_append]
        exact h3
    · simp (disch := first | omega | (simp only [next_new, next_upd] <;> omega) | fail) only [vai, vaim, bots, Bool.not_true, Bool.not_false, decide_true, decide_false, wrap64, List.replicate, hc1, decide_false, hnb, Nat.reduceAdd, Nat.reduceMul, Nat.reduceLeDiff, Nat.reduceEqDiff, ↓reduceIte]
      have hi : N = i := by omega
      subst hi
      have hedge : EdgesOk N es := fun e he => by
        obtain ⟨a1, a2, a3, a4⟩ := hok e he
        exact ⟨a1, a2, a3, a4.1⟩
      have hcost : ∀ e ∈ es, 0 ≤ e.cost ∧ e.cost ≤ 2147483647 := fun e he => (hok e he).2.2.2
      refine begin_ret (lo := H2.next) hB.lay (by omega) (by omega) (by omega) (by omega) (by omega) (by omega) (by omega) (Nat.le_refl _) hB.edges (fun j hj => by have := hB.ewid j hj; omega) (by omega) (fun e he => by
        obtain ⟨a1, a2, a3, a4⟩ := hok e he
        exact ⟨a1, a2, a3, a4.1, by omega⟩) ?_
      intro av H3 hk3 hL3 hg3
      have hn3 := hk3.next
      have kC : Keep Nothing H H3 := ⟨by have := hk2.next; omega, fun j hj _ => by rw [hk3.obj j (by omega) (by omega), hk2.old hj]⟩
      have hB3 := hB.upd (rv' := rv) (av' := av) hn3 (fun j _ h6 h7 _ _ _ => hk3.obj j (by omega) (by omega)) hL3 (by rw [hk3.obj _ (by omega) (by omega)]; exact hB.upO) (by rw [hk3.obj _ (by omega) (by omega)]; exact hB.downO) hB.usl hB.dsl
      have hg3r : Own (H1.next + 2) H3 rv 1 (ints (List.replicate N (-1))) := hg.own.keepM hk3 (fun j hj => by have := (hg.sid_ge hj).1; omega)
      have hrlt : ∀ j, sid rv = some j → j < H2.next := fun j hj => (hg.sid_ge hj).2
      clear hL3 hB hg hrv ho hnb hk3 hk2
      have hnb := hB3.nbox
      simp (disch := first | omega | (simp only [next_new, next_upd] <;> omega) | fail) only [vai, vaim, bots, Bool.not_true, Bool.not_false, decide_true, decide_false, wrap64, hnb, Nat.reduceAdd, Nat.reduceMul, Nat.reduceLeDiff, Nat.reduceEqDiff, ↓reduceIte]
      refine order_ret (hr.kept kC) (by omega) (by omega) (fun e he => by have := (hok e he).2.2.1; omega) ?_
      intro lv H4 hk4 hg4
      have hB4 := hB3.kept hk4
      have hg4r := hg3r.kept hk4
      have hg4a := hg3.keep hk4.next (fun j _ hj => hk4.old hj)
      have hn4 := hk4.next
      have kD := kC.trans hk4
      have hlv : ∀ j, sid lv = some j → H3.next ≤ j ∧ j < H4.next := fun j hj => hg4.sid_ge hj
      have hlvr := hg4.row
      have hav : ∀ j, sid av = some j → j < H3.next := fun j hj => (hg3.sid_ge hj).2
      clear hB3 hg3r hg3 hk4 kC hnb hg4
      have hlo := orderOf_ok N es (2 * es.length + 1)
      generalize hl : orderOf N es (2 * es.length + 1) = l at *
      have hlN := few_below N l hlo.nodup hlo.bd
      simp (disch := first | omega | (simp only [next_new, next_upd] <;> omega) | fail) only [vai, vaim, bots, Bool.not_true, Bool.not_false, decide_true, decide_false, wrap64, Nat.reduceAdd, Nat.reduceMul, Nat.reduceLeDiff, Nat.reduceEqDiff, ↓reduceIte]
      refine wpx_loop (fun m t H' => ∃ (k : Nat) (rv av : AVal) (us ds : List AVal), m = l.length - k ∧ k ≤ l.length ∧ t = (bots 1 (.ptr H.next 0 :: .ptr b1 0 :: .ptr b4 0 :: bots 1 (lv :: .int .i64 k :: bots 160 ([]))) : Tmps) ∧ Keep Nothing H H' ∧ H4.next ≤ H'.next ∧
        BLay H' H.next b1 b2 b3 b4 H1.next (H1.next + 1) N es ev ew rv av (goAll N (startOf N es) l k).cur (goAll N (startOf N es) l k).gone us ds ∧
        Own (H1.next + 2) H' rv 1 (ints (goAll N (startOf N es) l k).rank) ∧ (∀ j, sid rv = some j → j < H2.next) ∧ Grown H2.next H' av 7 (arcCells (goAll N (startOf N es) l k).arcs) ∧ Row H' lv 1 (ints l) ∧ (∀ j, sid lv = some j → sid av ≠ some j) ∧
        RowsAt H2.next H' av us (goAll N (startOf N es) l k).up ∧ RowsAt H2.next H' av ds (goAll N (startOf N es) l k).down) l.length ?_ ?_
      · refine ⟨0, rv, av, _, _, rfl, by omega, rfl, kD, Nat.le_refl _, hB4, hg4r, hrlt, hg4a, hlvr, fun j hj e => by have := hlv j hj; have := hav j e; omega, ?_, ?_⟩
        · intro v r m h1 h2
          simp only [goAll, startOf] at h2
          have e1 := List.eq_of_mem_replicate (List.mem_of_getElem? h1)
          have e2 := List.eq_of_mem_replicate (List.mem_of_getElem? h2)
          subst e1; subst e2
          exact ⟨.nil, fun j hj => by cases hj⟩
        · intro v r m h1 h2
          simp only [goAll, startOf] at h2
          have e1 := List.eq_of_mem_replicate (List.mem_of_getElem? h1)
          have e2 := List.eq_of_mem_replicate (List.mem_of_getElem? h2)
          subst e1; subst e2
          exact ⟨.nil, fun j hj => by cases hj⟩
      · clear hB4 hg4r hrlt hg4a hlvr hav kD
        rintro m t H5 ⟨k, rv, av, us, ds, rfl, hk1, rfl, kE, hn5, hB, hrk, hrlt, hga, hlr, hlne, hup, hdn⟩
        obtain ⟨ex, hgone⟩ := go_gone hedge hlo k hk1
        have hlen := hlr.len1
        rw [ints_length] at hlen
        by_cases hc2 : (k : Int) < l.length
        · have hkl : k < l.length := by omega
          have hv : l[k]? = some l[k] := by simp [hkl]
          have hgd : l.getD k 0 = l[k] := getD_of hv
          have hbd := hlo.bd _ (List.getElem_mem hkl)
          have hst : goAll N (startOf N es) l (k + 1) = goStep N (goAll N (startOf N es) l k) k (l.getD k 0).toNat := rfl
          rw [hgd] at hst
          have hnw := not_went hlo hv
          obtain ⟨id, off, a1, a2, a3⟩ := hlr.int_at (k := .i64) hv
          generalize l[k] = vi at *
          obtain ⟨v, rfl⟩ : ∃ v : Nat, vi = v := ⟨vi.toNat, by omega⟩
          rw [Int.toNat_natCast] at hst
          generalize goAll N (startOf N es) l k = s at *
          have ho := hB.lay.obj
          obtain ⟨ri, r1, r2, r3, r4, r5, r6⟩ := hrk.slot (j := v) (k := .i64) (by rw [ints_length, hgone.rankLen]; omega)
          have r7 := hrlt ri r1
          have hrl : (ints s.rank).length = N := by rw [ints_length, hgone.rankLen]
          have hle : v + 1 ≤ N := by omega
          have hset : splice (ints s.rank) v [.int .i64 (k : Int)] = ints (s.rank.set v k) := by
            rw [splice_one (by rw [hrl]; omega)]
            simp [ints, List.map_set]
          have hNN : N * N ≤ 441 := Nat.mul_le_mul hN21 hN21
          have hk25 : k * (25 * (N * N)) ≤ 21 * 11025 := Nat.mul_le_mul (by omega) (by omega)
          have hac := hgone.count
          have hcurb : ∀ x ∈ s.cur, 0 ≤ x ∧ x ≤ 1000000 := fun x hx => by
            have := hgone.good.bd x hx
            simp only at this
            omega
          have hvu : aindexAddrS 1 (.slice H1.next 0 N (.exact N)) (.int .i64 (v : Int)) = some (.ptr H1.next v) := by rw [aindexAddrS_slice ⟨by omega, by omega⟩]; simp
          have hvd : aindexAddrS 1 (.slice (H1.next + 1) 0 N (.exact N)) (.int .i64 (v : Int)) = some (.ptr (H1.next + 1) v) := by rw [aindexAddrS_slice ⟨by omega, by omega⟩]; simp
          simp (disch := first | omega | (simp only [next_new, next_upd] <;> omega) | fail) only [vai, vaim, bots, Bool.not_true, Bool.not_false, decide_true, decide_false, wrap64, List.replicate, hc2, decide_true, hlen, a1, a3, ho, r4, r5, hrl, hle, hset, Nat.reduceAdd, Nat.reduceMul, Nat.reduceLeDiff, Nat.reduceEqDiff, ↓reduceIte]
          have k6 : Keep (fun j => j = ri) H5 (H5.upd ri (some (.cells (ints (s.rank.set v k)) true))) := (Keep.refl (fun j => j = ri) _).upd (.inr rfl) _
          have hrk6 := r6 (H5.upd ri (some (.cells (ints (s.rank.set v k)) true))) _ (Nat.le_refl _) (obj_upd_eq rfl) (by rw [ints_length, List.length_set, hrl, hgone.rankLen])
          have hB6 := hB.M k6 (fun j hj e => by omega)
          have hg6 := hga.upd (id := ri) (by omega) (some (.cells (ints (s.rank.set v k)) true))
          have hl6 := hlr.M k6 (fun j hj e => by
            have := hlv j hj; omega)
          have hu6 := hup.M (av' := av) k6 (fun j e => by subst e; omega) (.inl rfl)
          have hd6 := hdn.M (av' := av) k6 (fun j e => by subst e; omega) (.inl rfl)
          have kF : Keep Nothing H (H5.upd ri (some (.cells (ints (s.rank.set v k)) true))) := kE.upd (.inl (by omega)) _
          have hn6 : H5.next = (H5.upd ri (some (.cells (ints (s.rank.set v k)) true))).next := rfl
          have hrk6' : ∀ j, sid rv = some j → j = ri := fun j e => by rw [r1] at e; injection e with e; exact e.symm
          clear hB hga hlr hup hdn kE k6 ho hrk r5 r6
          generalize H5.upd ri (some (.cells (ints (s.rank.set v k)) true)) = H6 at *
          refine wout_ret hB6.lay (by omega) (by omega) hcurb ?_
          intro ur H7 k7 g7
          have hB7 := hB6.kept k7
          have n7 := k7.next
          simp (disch := first | omega | (simp only [next_new, next_upd] <;> omega) | fail) only [vai, vaim, bots, Bool.not_true, Bool.not_false, decide_true, decide_false, wrap64, Nat.reduceAdd, Nat.reduceMul, Nat.reduceLeDiff, Nat.reduceEqDiff, ↓reduceIte]
          refine win_ret hB7.lay (by omega) (by omega) hcurb ?_
          intro dr H8 k8 g8
          have hB8 := hB7.kept k8
          have n8 := k8.next
          have k68 := k7.trans k8
          have gu8 := g7.row.kept k8
          have gd8 := g8.row
          have su : ∀ j, sid ur = some j → H6.next ≤ j ∧ j < H7.next := fun j hj => g7.sid_ge hj
          have sd : ∀ j, sid dr = some j → H7.next ≤ j ∧ j < H8.next := fun j hj => g8.sid_ge hj
          have hg8 := hg6.keep k68.next (fun j _ hj => k68.old hj)
          have hl8 := hl6.kept k68
          have hu8 := hu6.M (av' := av) k68 (fun j e => e.elim) (.inl rfl)
          have hd8 := hd6.M (av' := av) k68 (fun j e => e.elim) (.inl rfl)
          have hrk8 := hrk6.kept k68
          have kG := kF.trans k68
          have havlt : ∀ j, sid av = some j → j < H6.next := fun j hj => (hg6.sid_ge hj).2
          have cu := gu8.cells
          have cd := gd8.cells
          clear hB6 hB7 k7 k8 g7 g8 k68 hg6 hl6 hu6 hd6 kF hrk6
          have ho := hB8.lay.obj
          have uO := hB8.upO
          have dO := hB8.downO
          have usl := hB8.usl
          have dsl := hB8.dsl
          simp (disch := first | omega | (simp only [next_new, next_upd] <;> omega) | fail) only [vai, vaim, bots, Bool.not_true, Bool.not_false, decide_true, decide_false, wrap64, ho, uO, dO, usl, dsl, hvu, hvd, cu, cd, hle, splice_one, Nat.reduceAdd, Nat.reduceMul, Nat.reduceLeDiff, Nat.reduceEqDiff, ↓reduceIte]
          have k9 : Keep (fun j => j = H1.next ∨ j = H1.next + 1) H8 ((H8.upd H1.next (some (.cells (us.set v ur) true))).upd (H1.next + 1) (some (.cells (ds.set v dr) true))) := ((Keep.refl (fun j => j = H1.next ∨ j = H1.next + 1) _).upd (.inr (.inl rfl)) _).upd (.inr (.inr rfl)) _
          have hB9 := hB8.upd (us' := us.set v ur) (ds' := ds.set v dr) (rv' := rv) (av' := av) k9.next (fun j hj _ _ _ h5 h6 => k9.obj j (by omega) (by omega)) (hB8.lay.M k9 (by omega) (by omega) (by omega)) (by rw [obj_upd_ne (by omega), obj_upd_eq rfl]) (obj_upd_eq rfl) (by rw [List.length_set, usl]) (by rw [List.length_set, dsl])
          have hu9 := (hu8.M (av' := av) k9 (fun j e => by omega) (.inl rfl)).set (v := v) (gu8.M k9 (fun j hj e => by have := su j hj; omega)) (fun j hj => ⟨by have := su j hj; omega, fun e => by have := su j hj; have := havlt j e; omega⟩) (by rw [usl, hgone.upLen])
          have hd9 := (hd8.M (av' := av) k9 (fun j e => by omega) (.inl rfl)).set (v := v) (gd8.M k9 (fun j hj e => by have := sd j hj; omega)) (fun j hj => ⟨by have := sd j hj; omega, fun e => by have := sd j hj; have := havlt j e; omega⟩) (by rw [dsl, hgone.downLen])
          have gu9 := gu8.M k9 (fun j hj e => by have := su j hj; omega)
          have gd9 := gd8.M k9 (fun j hj e => by have := sd j hj; omega)
          have hg9 : Grown H2.next ((H8.upd H1.next (some (.cells (us.set v ur) true))).upd (H1.next + 1) (some (.cells (ds.set v dr) true))) av 7 (arcCells s.arcs) := (hg8.upd (by omega) _).upd (by omega) _
          have hl9 := hl8.M k9 (fun j hj e => by have := hlv j hj; omega)
          have hrk9 := hrk8.keepM k9 (fun j hj e => by have := hrk6' j hj; omega)
          have kI : Keep Nothing H ((H8.upd H1.next (some (.cells (us.set v ur) true))).upd (H1.next + 1) (some (.cells (ds.set v dr) true))) := (kG.upd (.inl (by omega)) _).upd (.inl (by omega)) _
          have n9 : H8.next = ((H8.upd H1.next (some (.cells (us.set v ur) true))).upd (H1.next + 1) (some (.cells (ds.set v dr) true))).next := rfl
          clear hB8 hu8 hd8 gu8 gd8 hg8 hl8 hrk8 kG k9 ho uO dO usl dsl
          generalize (H8.upd H1.next (some (.cells (us.set v ur) true))).upd (H1.next + 1) (some (.cells (ds.set v dr) true)) = H9 at *
          have hGm : ∀ (ps : List (Int × Int)), (∀ p ∈ ps, p.1 ∈ inOf N s.cur s.gone v N ∧ p.2 ∈ outOf N s.cur s.gone v N) → ∃ ex', Mid N es (Went l k) v (s.arcs, s.cur) ex ps (shorts N (s.arcs, s.cur) ps) ex' := fun ps hps =>
            goes_mid (fun e he => (hcost e he).1) hgone.good hgone.least hnw (by omega) hgone.gone ps hps
          have hup : goStep N s k v = ⟨(shorts N (s.arcs, s.cur) (pairs (inOf N s.cur s.gone v N) (outOf N s.cur s.gone v N))).1, (shorts N (s.arcs, s.cur) (pairs (inOf N s.cur s.gone v N) (outOf N s.cur s.gone v N))).2, s.gone.set v true, s.rank.set v k, s.up.set v (outOf N s.cur s.gone v N), s.down.set v (inOf N s.cur s.gone v N)⟩ := rfl
          have olen := outOf_length N s.cur s.gone v N
          have ilen := inOf_length N s.cur s.gone v N
          have hupA : ∀ p ∈ outOf N s.cur s.gone v N, 0 ≤ p ∧ ∃ a, s.arcs[p.toNat]? = some a := by
            intro p hp
            obtain ⟨u, m, q1, q2, q3, q4, rfl⟩ := mem_outOf.1 hp
            obtain ⟨a, q5, _⟩ := hgone.good.key v u m (by omega) q1 q2 q3
            exact ⟨by omega, a, by rw [show (cv N s.cur v u m - 1).toNat = (cv N s.cur v u m).toNat - 1 by omega]; exact q5⟩
          have hdownA : ∀ p ∈ inOf N s.cur s.gone v N, 0 ≤ p ∧ ∃ a, s.arcs[p.toNat]? = some a := by
            intro p hp
            obtain ⟨u, m, q1, q0, q2, q3, q4, rfl⟩ := mem_inOf.1 hp
            obtain ⟨a, q5, _⟩ := hgone.good.key u v m q1 (by omega) q2 q3
            exact ⟨by omega, a, by rw [show (cv N s.cur u v m - 1).toNat = (cv N s.cur u v m).toNat - 1 by omega]; exact q5⟩
          generalize outOf N s.cur s.gone v N = up at *
          generalize inOf N s.cur s.gone v N = down at *
          have hlenU := gu9.len1
          have hlenD := gd9.len1
          rw [ints_length] at hlenU hlenD
          refine wpx_loop (fun m t H' => ∃ (i : Nat) (av' : AVal), m = down.length - i ∧ i ≤ down.length ∧ t = (bots 1 (.ptr H.next 0 :: .ptr b1 0 :: .ptr b4 0 :: bots 1 (lv :: .int .i64 k :: .int .i64 v :: ur :: dr :: .int .i64 i :: bots 156 ([]))) : Tmps) ∧
            Keep (fun j => j = b4 ∨ j = b2 ∨ sid av = some j) H9 H' ∧ Lay H' b4 b2 b3 N ew rv av' (.slice H1.next 0 N (.exact N)) (.slice (H1.next + 1) 0 N (.exact N)) (shorts N (s.arcs, s.cur) (pairsAt down up i 0)).2 s.gone ∧
            Grown H2.next H' av' 7 (arcCells (shorts N (s.arcs, s.cur) (pairsAt down up i 0)).1) ∧ (sid av' = sid av ∨ ∃ y, sid av' = some y ∧ H9.next ≤ y)) down.length ?_ ?_
          · exact ⟨0, av, rfl, by omega, rfl, .refl _ _, by simpa [pairsAt, pairs, shorts] using hB9.lay, by simpa [pairsAt, pairs, shorts] using hg9, .inl rfl⟩
          · rintro m t H10 ⟨i, av1, rfl, hi1, rfl, k10, hL10, hg10, hs10⟩
            by_cases hc3 : (i : Int) < down.length
            · have hil : i < down.length := by omega
              simp (disch := first | omega | (simp only [next_new, next_upd] <;> omega) | fail) only [vai, vaim, bots, Bool.not_true, Bool.not_false, decide_true, decide_false, wrap64, List.replicate, hc3, decide_true, hlenD, Nat.reduceAdd, Nat.reduceMul, Nat.reduceLeDiff, Nat.reduceEqDiff, ↓reduceIte]
              refine wpx_loop (fun m t H' => ∃ (j : Nat) (av' : AVal), m = up.length - j ∧ j ≤ up.length ∧ t = (bots 1 (.ptr H.next 0 :: .ptr b1 0 :: .ptr b4 0 :: bots 1 (lv :: .int .i64 k :: .int .i64 v :: ur :: dr :: .int .i64 i :: .int .i64 j :: bots 155 ([]))) : Tmps) ∧
                Keep (fun j => j = b4 ∨ j = b2 ∨ sid av = some j) H9 H' ∧ Lay H' b4 b2 b3 N ew rv av' (.slice H1.next 0 N (.exact N)) (.slice (H1.next + 1) 0 N (.exact N)) (shorts N (s.arcs, s.cur) (pairsAt down up i j)).2 s.gone ∧
                Grown H2.next H' av' 7 (arcCells (shorts N (s.arcs, s.cur) (pairsAt down up i j)).1) ∧ (sid av' = sid av ∨ ∃ y, sid av' = some y ∧ H9.next ≤ y)) up.length ?_ ?_
              · exact ⟨0, av1, rfl, by omega, rfl, k10, hL10, hg10, hs10⟩
              · clear k10 hL10 hg10 hs10
                rintro m t H11 ⟨j, av1, rfl, hj1, rfl, k11, hL11, hg11, hs11⟩
                have n11 := k11.next
                by_cases hc4 : (j : Int) < up.length
                · have hjl : j < up.length := by omega
                  have hdi : down[i]? = some down[i] := by simp [hil]
                  have huj : up[j]? = some up[j] := by simp [hjl]
                  have hdd : down.getD i 0 = down[i] := getD_of hdi
                  have gd11 := gd9.M k11 (fun j hj e => by have := sd j hj; rcases e with e | e | e <;> first | omega | (have := havlt j e; omega))
                  have gu11 := gu9.M k11 (fun j hj e => by have := su j hj; rcases e with e | e | e <;> first | omega | (have := havlt j e; omega))
                  obtain ⟨i1, o1, c1, c2, c3⟩ := gd11.int_at (k := .i64) hdi
                  obtain ⟨i2, o2, e1, e2, e3⟩ := gu11.int_at (k := .i64) huj
                  have hone := pairsAt_one (down := down) (up := up) (i := i) hjl
                  have hmem : ∀ p ∈ pairsAt down up i j, p.1 ∈ down ∧ p.2 ∈ up := fun p hp => pairsAt_mem (.inl hil) hp
                  obtain ⟨ex1, hm1⟩ := hGm (pairsAt down up i j) hmem
                  have hcount := hm1.count
                  simp only at hcount
                  have hpl := pairsAt_length (down := down) (up := up) (i := i) (j := j)
                  have hmul : down.length * up.length ≤ 105 * 105 := Nat.mul_le_mul (by omega) (by omega)
                  obtain ⟨ex2, hm0⟩ := hGm [] (fun p hp => by simp at hp)
                  rw [hdd] at hone
                  have hxm : down[i] ∈ down := List.getElem_mem hil
                  have hym : up[j] ∈ up := List.getElem_mem hjl
                  generalize down[i] = di at *
                  generalize up[j] = uj at *
                  simp (disch := first | omega | (simp only [next_new, next_upd] <;> omega) | fail) only [vai, vaim, bots, Bool.not_true, Bool.not_false, decide_true, decide_false, wrap64, List.replicate, hc4, decide_true, hlenU, c1, c3, e1, e3, Nat.reduceAdd, Nat.reduceMul, Nat.reduceLeDiff, Nat.reduceEqDiff, ↓reduceIte]
                  obtain ⟨hd0, x, hx⟩ := hdownA di hxm
                  obtain ⟨hu0, y, hy⟩ := hupA uj hym
                  have hx1 := hm1.arcs _ _ hx
                  have hy1 := hm1.arcs _ _ hy
                  have hGb : ∀ g, (Went l k g ∨ g = (v : Int)) → 0 ≤ g ∧ g < N := fun g hg => by
                    rcases hg with hg | hg
                    · exact went_bd hlo hg
                    · omega
                  have fx := hm1.good.fits hcost hGb (by omega) hx1
                  have fy := hm1.good.fits hcost hGb (by omega) hy1
                  have hbd1 := hm1.good.bd
                  have hsS : shorts N (s.arcs, s.cur) (pairsAt down up i (j + 1)) = match shortOf N (shorts N (s.arcs, s.cur) (pairsAt down up i j)).2 (shorts N (s.arcs, s.cur) (pairsAt down up i j)).1 di.toNat uj.toNat x y with | none => shorts N (s.arcs, s.cur) (pairsAt down up i j) | some a => addArc N (shorts N (s.arcs, s.cur) (pairsAt down up i j)) a := by
                    rw [hone, shorts_one, shortStep_at hx1 hy1]
                    try rfl
                  clear hone hm0
                  generalize shorts N (s.arcs, s.cur) (pairsAt down up i j) = S at *
                  obtain ⟨nd, rfl⟩ : ∃ n : Nat, di = n := ⟨di.toNat, by omega⟩
                  obtain ⟨nu, rfl⟩ : ∃ n : Nat, uj = n := ⟨uj.toNat, by omega⟩
                  simp only [Int.toNat_natCast] at hsS hx1 hy1
                  refine short_ret (lo := H2.next) hL11 (by omega) (by omega) (by omega) (by omega) (by omega) (by omega) (by omega) hg11 (by omega) (by omega) hx1 hy1 fx fy hbd1 ?_ ?_
                  · intro hno H12 k12
                    rw [hno] at hsS
                    have k13 := k11.trans k12.any
                    simp (disch := first | omega | (simp only [next_new, next_upd] <;> omega) | fail) only [vai, vaim, bots, Bool.not_true, Bool.not_false, decide_true, decide_false, wrap64, Nat.reduceAdd, Nat.reduceMul, Nat.reduceLeDiff, Nat.reduceEqDiff, ↓reduceIte]
                    refine ⟨up.length - (j + 1), by omega, j + 1, av1, rfl, by omega, rfl, k13, ?_⟩
                    rw [hsS]
                    exact ⟨hL11.kept k12, hg11.keep k12.next (fun j _ hj => k12.old hj), hs11⟩
                  · intro a hso av2 H12 k12 hL12 hg12 hs12
                    rw [hso] at hsS
                    have k13 : Keep (fun j => j = b4 ∨ j = b2 ∨ sid av = some j) H9 H12 := k11.trans' k12 (fun j hj e => by
                      rcases e with e | e | e
                      · exact .inl e
                      · exact .inr (.inl e)
                      · rcases hs11 with h | ⟨q, h, hq⟩
                        · rw [h] at e; exact .inr (.inr e)
                        · rw [h] at e; injection e with e; omega)
                    simp (disch := first | omega | (simp only [next_new, next_upd] <;> omega) | fail) only [vai, vaim, bots, Bool.not_true, Bool.not_false, decide_true, decide_false, wrap64, Nat.reduceAdd, Nat.reduceMul, Nat.reduceLeDiff, Nat.reduceEqDiff, ↓reduceIte]
                    refine ⟨up.length - (j + 1), by omega, j + 1, av2, rfl, by omega, rfl, k13, ?_⟩
                    rw [hsS]
                    obtain ⟨q, h1, h2⟩ := hs12
                    exact ⟨hL12, hg12, .inr ⟨q, h1, by omega⟩⟩
                · simp (disch := first | omega | (simp only [next_new, next_upd] <;> omega) | fail) only [vai, vaim, bots, Bool.not_true, Bool.not_false, decide_true, decide_false, wrap64, List.replicate, hc4, decide_false, hlenU, Nat.reduceAdd, Nat.reduceMul, Nat.reduceLeDiff, Nat.reduceEqDiff, ↓reduceIte]
                  have hj : up.length = j := by omega
                  refine ⟨down.length - (i + 1), by omega, i + 1, av1, rfl, by omega, rfl, k11, ?_⟩
                  have hrow := pairsAt_row (up := up) hil
                  rw [hj] at hrow
                  rw [← hrow]
                  exact ⟨hL11, hg11, hs11⟩
            · simp (disch := first | omega | (simp only [next_new, next_upd] <;> omega) | fail) only [vai, vaim, bots, Bool.not_true, Bool.not_false, decide_true, decide_false, wrap64, List.replicate, hc3, decide_false, hlenD, Nat.reduceAdd, Nat.reduceMul, Nat.reduceLeDiff, Nat.reduceEqDiff, ↓reduceIte]
              have hi : i = down.length := by omega
              subst hi
              rw [pairsAt_all] at hL10 hg10
              have n10 := k10.next
              have havlo : ∀ j, sid av = some j → H2.next ≤ j := fun j hj => by
                have := (hg9.sid_ge hj).1
                exact this
              have hB10 := hB9.upd (rv' := rv) (av' := av1) n10 (fun j hj h5 h6 _ _ _ => k10.obj j (by omega) (fun e => by rcases e with e | e | e <;> first | omega | (have := havlo j e; omega))) hL10 (by rw [k10.obj _ (by omega) (fun e => by rcases e with e | e | e <;> first | omega | (have := havlo _ e; omega))]; exact hB9.upO) (by rw [k10.obj _ (by omega) (fun e => by rcases e with e | e | e <;> first | omega | (have := havlo _ e; omega))]; exact hB9.downO) hB9.usl hB9.dsl
              have hu10 := hu9.M (av' := av1) k10 (fun j e => by rcases e with e | e | e <;> first | omega | exact .inr e) hs10
              have hd10 := hd9.M (av' := av1) k10 (fun j e => by rcases e with e | e | e <;> first | omega | exact .inr e) hs10
              have hl10 := hl9.M k10 (fun j hj e => by have := hlv j hj; rcases e with e | e | e <;> first | omega | exact hlne j hj e)
              have hrk10 := hrk9.keepM k10 (fun j hj e => by have := hrk6' j hj; rcases e with e | e | e <;> first | omega | (have := havlo j e; omega))
              have kJ : Keep Nothing H H10 := kI.trans' k10 (fun j hj e => by rcases e with e | e | e <;> first | omega | (have := havlo j e; omega))
              have hlne10 : ∀ j, sid lv = some j → sid av1 ≠ some j := fun j hj e => by
                rcases hs10 with h | ⟨y, h, hy⟩
                · rw [h] at e; exact hlne j hj e
                · rw [h] at e; injection e with e
                  have := hlv j hj; omega
              have ho := hB10.lay.obj
              have gO := hB10.lay.goneO
              have gl : (bools s.gone).length = N := by simp [bools, hgone.goneLen]
              have hvg : aindexAddrS 1 (.slice b3 0 N (.exact N)) (.int .i64 (v : Int)) = some (.ptr b3 v) := by rw [aindexAddrS_slice ⟨by omega, by omega⟩]; simp
              have gset : splice (bools s.gone) v [.bool true] = bools (s.gone.set v true) := by
                rw [splice_one (by rw [gl]; omega)]
                simp [bools, List.map_set]
              simp (disch := first | omega | (simp only [next_new, next_upd] <;> omega) | fail) only [vai, vaim, bots, Bool.not_true, Bool.not_false, decide_true, decide_false, wrap64, ho, gO, gl, hvg, hle, gset, Nat.reduceAdd, Nat.reduceMul, Nat.reduceLeDiff, Nat.reduceEqDiff, ↓reduceIte]
              rw [hup] at hst
              have k11 : Keep (fun j => j = b3) H10 (H10.upd b3 (some (.cells (bools (s.gone.set v true)) true))) := (Keep.refl (fun j => j = b3) _).upd (.inr rfl) _
              refine ⟨l.length - (k + 1), by omega, k + 1, rv, av1, us.set v ur, ds.set v dr, rfl, by omega, rfl, kJ.upd (.inl (by omega)) _, (by first | omega | (simp only [next_new, next_upd]; omega)), ?_⟩
              rw [hst]
              simp only
              refine ⟨hB10.upd (Nat.le_refl _) (fun j hj _ _ h6 _ _ => obj_upd_ne h6) ⟨by rw [obj_upd_ne (by omega)]; exact hB10.lay.obj, by rw [obj_upd_ne (by omega)]; exact hB10.lay.curO, obj_upd_eq rfl, hB10.lay.wlt, hB10.lay.clt, hB10.lay.glt, hB10.lay.curLen, by rw [List.length_set]; exact hB10.lay.goneLen⟩ (by rw [obj_upd_ne (by omega)]; exact hB10.upO) (by rw [obj_upd_ne (by omega)]; exact hB10.downO) hB10.usl hB10.dsl,
                hrk10.keepM k11 (fun j hj e => by have := hrk6' j hj; omega), hrlt, hg10.upd (by omega) _, hl10.M k11 (fun j hj e => by have := hlv j hj; omega), hlne10, hu10.M k11 (fun j e => by omega) (.inl rfl), hd10.M k11 (fun j e => by omega) (.inl rfl)⟩
        · simp (disch := first | omega | (simp only [next_new, next_upd] <;> omega) | fail) only [vai, vaim, bots, Bool.not_true, Bool.not_false, decide_true, decide_false, wrap64, List.replicate, hc2, decide_false, hlen, Nat.reduceAdd, Nat.reduceMul, Nat.reduceLeDiff, Nat.reduceEqDiff, ↓reduceIte]
          have hk : k = l.length := by omega
          subst hk
          have hidx : idxOf N es = ⟨N, es, (goAll N (startOf N es) l l.length).rank, (goAll N (startOf N es) l l.length).arcs, stayAll N (goAll N (startOf N es) l l.length) (goAll N (startOf N es) l l.length).up N, (goAll N (startOf N es) l l.length).down⟩ := by
            simp only [idxOf, orderAll, hl, hierOf]
          generalize goAll N (startOf N es) l l.length = s at *
          refine wpx_loop (fun m t H' => ∃ (v : Nat) (us : List AVal), m = N - v ∧ v ≤ N ∧ t = (bots 1 (.ptr H.next 0 :: .ptr b1 0 :: .ptr b4 0 :: bots 8 (.int .i64 v :: bots 154 ([]))) : Tmps) ∧ Keep Nothing H H' ∧ H5.next ≤ H'.next ∧
            BLay H' H.next b1 b2 b3 b4 H1.next (H1.next + 1) N es ev ew rv av s.cur s.gone us ds ∧
            Own (H1.next + 2) H' rv 1 (ints s.rank) ∧ Grown H2.next H' av 7 (arcCells s.arcs) ∧
            RowsAt H2.next H' av us (stayAll N s s.up v) ∧ RowsAt H2.next H' av ds s.down) N ?_ ?_
          · exact ⟨0, us, rfl, by omega, rfl, kE, Nat.le_refl _, hB, hrk, hga, hup, hdn⟩
          · have hNN : N * N ≤ 441 := Nat.mul_le_mul hN21 hN21
            have hk25 : l.length * (25 * (N * N)) ≤ 21 * 11025 := Nat.mul_le_mul (by omega) (by omega)
            have hac := hgone.count
            have hcurb : ∀ x ∈ s.cur, 0 ≤ x ∧ x ≤ 1000000 := fun x hx => by
              have := hgone.good.bd x hx
              simp only at this
              omega
            clear hB hrk hga hup hdn hlr kE
            rintro m t H6 ⟨v, us, rfl, hv1, rfl, kF, hn6, hB, hrk, hga, hup, hdn⟩
            have hnb := hB.nbox
            have ho := hB.lay.obj
            have gO := hB.lay.goneO
            by_cases hc3 : (v : Int) < N
            · have hvN : v < N := by omega
              have hvg : aindexAddrS 1 (.slice b3 0 N (.exact N)) (.int .i64 (v : Int)) = some (.ptr b3 v) := by rw [aindexAddrS_slice ⟨by omega, by omega⟩]; simp
              have hvu : aindexAddrS 1 (.slice H1.next 0 N (.exact N)) (.int .i64 (v : Int)) = some (.ptr H1.next v) := by rw [aindexAddrS_slice ⟨by omega, by omega⟩]; simp
              have hgv : (bools s.gone)[v]? = some (.bool (s.gone.getD v false)) := by
                have : v < s.gone.length := by rw [hgone.goneLen]; exact hvN
                simp [bools, this]
              have hst : stayAll N s s.up (v + 1) = stayStep N s (stayAll N s s.up v) v := rfl
              unfold stayStep at hst
              cases hgd : s.gone.getD v false with
              | true =>
                rw [hgd] at hgv
                rw [if_pos hgd] at hst
                simp (disch := first | omega | (simp only [next_new, next_upd] <;> omega) | fail) only [vai, vaim, bots, Bool.not_true, Bool.not_false, decide_true, decide_false, wrap64, List.replicate, hc3, decide_true, hnb, ho, gO, hvg, hgv, Bool.not_true, Nat.reduceAdd, Nat.reduceMul, Nat.reduceLeDiff, Nat.reduceEqDiff, ↓reduceIte]
                exact ⟨N - (v + 1), by omega, v + 1, us, rfl, by omega, rfl, kF, by omega, hB, hrk, hga, by rw [hst]; exact hup, hdn⟩
              | false =>
                rw [hgd] at hgv
                rw [if_neg (by rw [hgd]; simp)] at hst
                simp (disch := first | omega | (simp only [next_new, next_upd] <;> omega) | fail) only [vai, vaim, bots, Bool.not_true, Bool.not_false, decide_true, decide_false, wrap64, List.replicate, hc3, decide_true, hnb, ho, gO, hvg, hgv, Bool.not_false, Nat.reduceAdd, Nat.reduceMul, Nat.reduceLeDiff, Nat.reduceEqDiff, ↓reduceIte]
                refine wout_ret hB.lay (by omega) (by omega) hcurb ?_
                intro ur H7 k7 g7
                have hB7 := hB.kept k7
                have n7 := k7.next
                have ho7 := hB7.lay.obj
                have uO := hB7.upO
                have usl := hB7.usl
                have cu := g7.cells
                have hle : v + 1 ≤ N := by omega
                simp (disch := first | omega | (simp only [next_new, next_upd] <;> omega) | fail) only [vai, vaim, bots, Bool.not_true, Bool.not_false, decide_true, decide_false, wrap64, ho7, uO, usl, hvu, cu, hle, splice_one, Nat.reduceAdd, Nat.reduceMul, Nat.reduceLeDiff, Nat.reduceEqDiff, ↓reduceIte]
                have k8 : Keep (fun j => j = H1.next) H7 (H7.upd H1.next (some (.cells (us.set v ur) true))) := (Keep.refl (fun j => j = H1.next) _).upd (.inr rfl) _
                have su : ∀ j, sid ur = some j → H6.next ≤ j ∧ j < H7.next := fun j hj => g7.sid_ge hj
                have havlt : ∀ j, sid av = some j → j < H6.next := fun j hj => (hga.sid_ge hj).2
                refine ⟨N - (v + 1), by omega, v + 1, us.set v ur, rfl, by omega, rfl, (kF.trans k7).upd (.inl (by omega)) _, (by first | omega | (simp only [next_new, next_upd]; omega)), ?_⟩
                rw [hst]
                exact ⟨hB7.upd (Nat.le_refl _) (fun j hj _ _ _ h6 _ => obj_upd_ne h6) (hB7.lay.M k8 (by omega) (by omega) (by omega)) (obj_upd_eq rfl) (by rw [obj_upd_ne (by omega)]; exact hB7.downO) (by rw [List.length_set, usl]) hB7.dsl,
                  (hrk.kept k7).keepM k8 (fun j hj e => by have := (hrk.sid_ge hj).1; omega), (hga.keep k7.next (fun j _ hj => k7.old hj)).upd (by omega) _,
                  (((hup.M (av' := av) k7 (fun j e => e.elim) (.inl rfl)).M (av' := av) k8 (fun j e => by omega) (.inl rfl)).set (g7.row.M k8 (fun j hj e => by have := su j hj; omega)) (fun j hj => ⟨by have := su j hj; omega, fun e => by have := su j hj; have := havlt j e; omega⟩) (by rw [usl, stayAll_length, hgone.upLen])),
                  ((hdn.M (av' := av) k7 (fun j e => e.elim) (.inl rfl)).M (av' := av) k8 (fun j e => by omega) (.inl rfl))⟩
            · have hv : N = v := by omega
              subst hv
              have hvar := hB.var
              have c1 := hB.edges.cells
              have c2 := hrk.cells
              have c3 := hga.cells
              simp (disch := first | omega | (simp only [next_new, next_upd] <;> omega) | fail) only [vai, vaim, bots, Bool.not_true, Bool.not_false, decide_true, decide_false, wrap64, List.replicate, hc3, decide_false, hnb, ho, hvar, Nat.reduceAdd, Nat.reduceMul, Nat.reduceLeDiff, Nat.reduceEqDiff, ↓reduceIte]
              have k8 : Keep (fun j => j = b1) H6 (H6.upd b1 (some (.cells [.int .i64 N, ew, rv, av, .slice H1.next 0 N (.exact N), .slice (H1.next + 1) 0 N (.exact N)] true))) := (Keep.refl (fun j => j = b1) _).upd (.inr rfl) _
              refine hq _ _ _ _ _ _ (kF.upd (.inl (by omega)) _) ?_
              rw [hidx]
              have hwl := hB.lay.wlt
              obtain ⟨o1, o2, o3, o4, o5, o6, o7⟩ := hB.ord
              have rows : ∀ (w : Nat) (vs : List AVal) (ul : List (List Int)), w < H6.next → w ≠ b1 → w < H2.next → H6.obj w = some (.cells vs true) → vs.length = N → ul.length = N → RowsAt H2.next H6 av vs ul → H.next ≤ w → FromRows H.next (H6.upd b1 (some (.cells [.int .i64 N, ew, rv, av, .slice H1.next 0 N (.exact N), .slice (H1.next + 1) 0 N (.exact N)] true))) (.slice w 0 N (.exact N)) ul := by
                intro w vs ul h1 h2 h3 h4 h5 h6 h7 h8
                refine ⟨vs, ⟨.mk (c := vs) h1 (by rw [cells?_of, obj_upd_ne h2, h4]; rfl) (by omega) (by simp [← h5]), fun j hj => by injection hj with hj; omega⟩, by omega, fun i r l e1 e2 => ?_⟩
                obtain ⟨g1, g2⟩ := h7 i r l e1 e2
                exact ⟨g1.M k8 (fun j hj e => by have := (g2 j hj).1; omega), fun j hj => by have := (g2 j hj).1; omega⟩
              exact ⟨⟨hB.edges.M k8 (fun j hj e => by have := hB.ewid j hj; omega), fun j hj => by have := hB.ewid j hj; omega⟩, ⟨hrk.row.M k8 (fun j hj e => by have := (hrk.sid_ge hj).1; omega), fun j hj => by have := (hrk.sid_ge hj).1; omega⟩, ⟨hga.row.M k8 (fun j hj e => by have := (hga.sid_ge hj).1; omega), fun j hj => by have := (hga.sid_ge hj).1; omega⟩,
                rows _ _ _ (by omega) (by omega) (by omega) hB.upO hB.usl (by rw [stayAll_length, hgone.upLen]) hup (by omega), rows _ _ _ (by omega) (by omega) (by omega) hB.downO hB.dsl hgone.downLen hdn (by omega)⟩
theorem build_ret {N : Nat} {ev : AVal} {es : List Edge} {H : AHeap} {Q : AVal → AHeap → Prop} (hr : Row H ev 4 (edgeCells es)) (hnet : NetOk N es) (hN21 : N ≤ 21)
    (hq : ∀ ew rv av uv dv H', Keep Nothing H H' → IdxAt H' ew rv av uv dv (idxOf N es) → Q (.agg [.int .i64 N, ew, rv, av, uv, dv]) H') : Ret A 27 [.agg [.int .i64 N, ev]] H Q :=
  buildFrom_ret hr hnet hN21 fun ew rv av uv dv H' k h => hq ew rv av uv dv H' k h.idx
end Go.Proofs.Ytknhlpmmalcchaa

namespace Go.Proofs.Ytknhlpmmalcchaa
open Go Go.VAI
set_option linter.unusedSimpArgs false

def fourOf (n : Int) : List Int := [IntKind.u8.wrap (shrI .i64 n 24), IntKind.u8.wrap (shrI .i64 n 16), IntKind.u8.wrap (shrI .i64 n 8), IntKind.u8.wrap n]
def foursOf (xs : List Int) : List Int := xs.flatMap fourOf
theorem foursOf_length (xs : List Int) : (foursOf xs).length = 4 * xs.length := by
  induction xs with
  | nil => rfl
  | cons x xs ih => simp only [foursOf, List.flatMap_cons, List.length_append] at ih ⊢; rw [ih]; simp [fourOf]; omega
theorem foursOf_succ {xs : List Int} {i : Nat} {x : Int} (h : xs[i]? = some x) : foursOf (xs.take (i + 1)) = foursOf (xs.take i) ++ fourOf x := by
  obtain ⟨h1, rfl⟩ := List.getElem?_eq_some_iff.1 h
  rw [List.take_succ_eq_append_getElem h1, foursOf, List.flatMap_append]
  simp [foursOf]

theorem four_ret {w lo : Nat} {bv sl : AVal} {bs xs : List Int} {H : AHeap} {Q : AVal → AHeap → Prop} (hw : H.obj w = some (.cells [bv] true)) (hwn : w < H.next) (hne : sid bv ≠ some w) (hlo2 : lo ≤ H.next) (hb : Own lo H bv 1 (u8s bs)) (hr : Row H sl 1 (ints xs)) (hsl : ∀ j, sid sl = some j → j ≠ w ∧ sid bv ≠ some j)
    (hlen : bs.length + 4 * xs.length ≤ 70368744177664)
    (hq : ∀ bv' H', Keep (fun j => j = w ∨ sid bv = some j) H H' → H'.obj w = some (.cells [bv'] true) → Own lo H' bv' 1 (u8s (bs ++ foursOf xs)) → (sid bv' = sid bv ∨ ∃ y, sid bv' = some y ∧ H.next ≤ y) → Q (.tuple []) H') : Ret A 60 [.ptr w 0, sl] H Q := by
  refine Ret.of (fn := F60) rfl ?_
  have hl := hr.len1
  rw [ints_length] at hl
  simp (disch := first | omega | (simp only [nx] <;> omega) | fail) only [vaw, F60, hl, Nat.reduceAdd, Nat.reduceMul, Nat.reduceLeDiff, Nat.reduceEqDiff, ↓reduceIte]
  refine wpx_loop (fun m t H' => ∃ (i : Nat) (bv' : AVal), m = xs.length - i ∧ i ≤ xs.length ∧ t = (.ptr w 0 :: bots 5 (sl :: .int .i64 xs.length :: .int .i64 i :: bots 24 ([])) : Tmps) ∧ Keep (fun j => j = w ∨ sid bv = some j) H H' ∧ H'.obj w = some (.cells [bv'] true) ∧
    Own lo H' bv' 1 (u8s (bs ++ foursOf (xs.take i))) ∧ (sid bv' = sid bv ∨ ∃ y, sid bv' = some y ∧ H.next ≤ y)) xs.length ?_ ?_
  · exact ⟨0, bv, rfl, by omega, rfl, .refl _ _, hw, by simpa [foursOf] using hb, .inl rfl⟩
  · rintro m t H1 ⟨i, b1, rfl, hi, rfl, hk, hw1, hb1, hs1⟩
    have hn := hk.next
    by_cases hc : (i : Int) < xs.length
    · have hil : i < xs.length := by omega
      have hx : xs[i]? = some xs[i] := by simp [hil]
      have hr1 := hr.M hk (fun j hj e => by have := hsl j hj; rcases e with e | e; exact this.1 e; exact this.2 e)
      obtain ⟨i1, o1, c1, c2, c3⟩ := hr1.int_at (k := .i64) hx
      have hf := foursOf_succ hx
      generalize xs[i] = x at *
      have hfl := foursOf_length (xs.take i)
      rw [List.length_take] at hfl
      simp (disch := first | omega | (simp only [nx] <;> omega) | fail) only [vaw, List.replicate, hc, decide_true, c1, c3, hw1, Nat.reduceAdd, Nat.reduceMul, Nat.reduceLeDiff, Nat.reduceEqDiff, ↓reduceIte]
      refine app_ret (n := (bs ++ foursOf (xs.take i)).length) hb1 (by simp (disch := first | omega | (simp only [nx] <;> omega) | fail) only [vaim]; rfl) (k := 4) rfl (by omega) (by omega) (by rw [u8s_length]; omega) (by rw [List.length_append]; omega) (by omega) ?_
      intro b2 H2 n2 k2 g2 s2
      simp only [next_new] at n2 k2 s2
      have hwb : sid b1 ≠ some w := fun e => by
        rcases hs1 with h | ⟨y, h, hy⟩
        · rw [h] at e; exact hne e
        · rw [h] at e; injection e with e; omega
      have o2 : H2.obj w = some (.cells [b1] true) := by rw [k2 w (by omega) hwb, obj_new_ne (by omega)]; exact hw1
      have cc := g2.cells
      simp (disch := first | omega | (simp only [nx] <;> omega) | fail) only [vaw, o2, cc, Nat.reduceAdd, Nat.reduceMul, Nat.reduceLeDiff, Nat.reduceEqDiff, ↓reduceIte]
      have k3 : Keep (fun j => j = w ∨ sid bv = some j) H (H2.upd w (some (.cells [b2] true))) := by
        refine ⟨(by first | omega | (simp only [next_new, next_upd]; omega)), fun j hj hm => ?_⟩
        rw [obj_upd_ne (fun e => hm (.inl e)), k2 j (by omega) ?_, obj_new_ne (by omega), hk.obj j hj hm]
        intro e
        rcases hs1 with h | ⟨y, h, hy⟩
        · rw [h] at e; exact hm (.inr e)
        · rw [h] at e; injection e with e; omega
      refine ⟨xs.length - (i + 1), by omega, i + 1, b2, rfl, by omega, rfl, k3, rfl, ?_, .inr ?_⟩
      · rw [hf, ← List.append_assoc, u8s_append]
        exact g2.own.upd (fun j hj => by
          obtain ⟨y, h, hy⟩ := s2
          rw [h] at hj; injection hj with hj; omega) _
      · obtain ⟨y, h, hy⟩ := s2
        exact ⟨y, h, by omega⟩
    · simp (disch := first | omega | (simp only [nx] <;> omega) | fail) only [vaw, List.replicate, hc, decide_false, Nat.reduceAdd, Nat.reduceMul, Nat.reduceLeDiff, Nat.reduceEqDiff, ↓reduceIte]
      have hi : i = xs.length := by omega
      rw [hi, List.take_length] at hb1
      exact hq b1 H1 hk hw1 hb1 hs1
theorem eight_ret {w lo : Nat} {bv : AVal} {bs : List Int} {x : Int} {H : AHeap} {Q : AVal → AHeap → Prop} (hw : H.obj w = some (.cells [bv] true)) (hwn : w < H.next) (hne : sid bv ≠ some w) (hlo2 : lo ≤ H.next) (hb : Own lo H bv 1 (u8s bs))
    (hlen : bs.length + 8 ≤ 70368744177664)
    (hq : ∀ bv' H', Keep (fun j => j = w ∨ sid bv = some j) H H' → H'.obj w = some (.cells [bv'] true) → Own lo H' bv' 1 (u8s (bs ++ foursOf [shrI .i64 x 32, x])) → (sid bv' = sid bv ∨ ∃ y, sid bv' = some y ∧ H.next ≤ y) → Q (.tuple []) H') : Ret A 61 [.ptr w 0, .int .i64 x] H Q := by
  refine Ret.of (fn := F61) rfl ?_
  simp (disch := first | omega | (simp only [nx] <;> omega) | fail) only [vaw, F61, Nat.reduceAdd, Nat.reduceMul, Nat.reduceLeDiff, Nat.reduceEqDiff, ↓reduceIte]
  have kk : Keep (fun j => j = w ∨ sid bv = some j) H (H.new (.cells [.int .i64 (shrI .i64 x 32), .int .i64 x] true)) := (Keep.refl _ _).new _
  refine four_ret (bv := bv) (bs := bs) (xs := [shrI .i64 x 32, x]) (lo := lo) (by rw [obj_new_ne (by omega)]; exact hw) (by first | omega | (simp only [next_new, next_upd]; omega)) hne (by first | omega | (simp only [next_new, next_upd]; omega)) (hb.new _) ?_ ?_ (by simp; omega) ?_
  · exact .mk (c := ints [shrI .i64 x 32, x]) (by first | omega | (simp only [next_new, next_upd]; omega)) (by rw [cells?_of, obj_new_eq rfl]; rfl) (by simp [ints]) (by simp [ints])
  · intro j hj
    injection hj with hj
    subst hj
    exact ⟨by omega, fun e => by have := (hb.sid_ge e).2; omega⟩
  · intro b2 H2 k2 o2 g2 s2
    simp (disch := first | omega | (simp only [nx] <;> omega) | fail) only [vaw, Nat.reduceAdd, Nat.reduceMul, Nat.reduceLeDiff, Nat.reduceEqDiff, ↓reduceIte]
    refine hq b2 H2 (kk.trans k2) o2 g2 ?_
    rcases s2 with s2 | ⟨y, s2, hy⟩
    · exact .inl s2
    · exact .inr ⟨y, s2, by simp only [next_new] at hy; omega⟩
theorem cloneB_ret {v : AVal} {bs : List Int} {H : AHeap} {Q : AVal → AHeap → Prop} (hr : Row H v 1 (u8s bs)) (hlen : bs.length ≤ 70368744177664)
    (hq : ∀ v' H', Keep Nothing H H' → Own H.next H' v' 1 (u8s bs) → Q v' H') : Ret A 62 [v] H Q := by
  refine Ret.of (fn := F62) rfl ?_
  rcases hr.nilTest with ⟨rfl, h1, _⟩ | h1
  · simp (disch := first | omega | (simp only [nx] <;> omega) | fail) only [vaw, F62, Nat.reduceAdd, Nat.reduceMul, Nat.reduceLeDiff, Nat.reduceEqDiff, ↓reduceIte]
    refine hq _ _ (.refl _ _) ?_
    rw [h1]; exact .nil
  · simp (disch := first | omega | (simp only [nx] <;> omega) | fail) only [vaw, F62, h1, Nat.reduceAdd, Nat.reduceMul, Nat.reduceLeDiff, Nat.reduceEqDiff, ↓reduceIte]
    refine copy_ret (n := bs.length) (by simp (disch := first | omega | (simp only [nx] <;> omega) | fail) only [vaim]) (by first | omega | (simp only [next_new, next_upd]; omega)) (hr.kept ((Keep.refl _ _).new _)) (by rw [u8s_length]; omega) (by omega) (by omega) (by omega) ?_
    intro v' H' k' g' s'
    simp (disch := first | omega | (simp only [nx] <;> omega) | fail) only [vaw, g'.notBot, Nat.reduceAdd, Nat.reduceMul, Nat.reduceLeDiff, Nat.reduceEqDiff, ↓reduceIte]
    exact hq _ _ (((Keep.refl _ _).new _).trans k') g'
end Go.Proofs.Ytknhlpmmalcchaa

namespace Go.Proofs.Ytknhlpmmalcchaa
open Go Go.VAI
set_option linter.unusedSimpArgs false

def edgeB (e : Edge) : List Int := foursOf [e.src, e.dst, e.mode, e.cost]
def rankB (r : Int) : List Int := foursOf [r + 1]
def arcB (a : Arc) : List Int := foursOf [a.src, a.dst, a.mode] ++ foursOf [shrI .i64 a.cost 32, a.cost] ++ foursOf [a.edge + 1, a.a, a.b]
def rowB (l : List Int) : List Int := foursOf [(l.length : Int)] ++ foursOf l
def encodeOf (x : Idx) : List Int :=
  [77, 73, 88, 49] ++ foursOf [x.n, (x.es.length : Int)] ++ x.es.flatMap edgeB ++ x.rank.flatMap rankB ++ foursOf [(x.arcs.length : Int)] ++ x.arcs.flatMap arcB ++ x.up.flatMap rowB ++ x.down.flatMap rowB
theorem flat_succ {α : Type} {f : α → List Int} {l : List α} {i : Nat} {a : α} (h : l[i]? = some a) : (l.take (i + 1)).flatMap f = (l.take i).flatMap f ++ f a := by
  obtain ⟨h1, rfl⟩ := List.getElem?_eq_some_iff.1 h
  rw [List.take_succ_eq_append_getElem h1, List.flatMap_append]
  simp
theorem flat_le {α : Type} {f : α → List Int} {l : List α} {i : Nat} : ((l.take i).flatMap f).length ≤ (l.flatMap f).length := by
  have h : (l.take i ++ l.drop i).flatMap f = l.flatMap f := by rw [List.take_append_drop]
  rw [← h, List.flatMap_append, List.length_append]; omega

theorem flat_len {α : Type} {f : α → List Int} {n : Nat} {l : List α} (h : ∀ a, (f a).length = n) : (l.flatMap f).length = n * l.length := by
  induction l with
  | nil => simp
  | cons a l ih => rw [List.flatMap_cons, List.length_append, ih, h, List.length_cons, Nat.mul_succ]; omega
theorem flat_ge {α : Type} {f : α → List Int} {n : Nat} {l : List α} (h : ∀ a, n ≤ (f a).length) : n * l.length ≤ (l.flatMap f).length := by
  induction l with
  | nil => simp
  | cons a l ih => rw [List.flatMap_cons, List.length_append, List.length_cons, Nat.mul_succ]; have := h a; omega
theorem edgeB_len (e : Edge) : (edgeB e).length = 16 := by simp [edgeB, foursOf_length]
theorem rankB_len (e : Int) : (rankB e).length = 4 := by simp [rankB, foursOf_length]
theorem arcB_len (e : Arc) : (arcB e).length = 32 := by simp [arcB, foursOf_length]
theorem rowB_len (l : List Int) : (rowB l).length = 4 + 4 * l.length := by simp [rowB, foursOf_length]
structure EncAt (H0 H : AHeap) (x : List AVal) (bv : AVal) (bs : List Int) : Prop where
  keep : Keep Nothing H0 H
  lt : H0.next + 3 ≤ H.next
  box : H.obj H0.next = some (.cells x true)
  w : H.obj (H0.next + 1 + 1) = some (.cells [bv] true)
  own : Own (H0.next + 1) H bv 1 (u8s bs)
  ne : sid bv ≠ some (H0.next + 1 + 1)
theorem EncAt.kept {H0 H H' : AHeap} {x : List AVal} {bv : AVal} {bs : List Int} (h : EncAt H0 H x bv bs) (hk : Keep Nothing H H') : EncAt H0 H' x bv bs := by
  have := h.lt
  exact ⟨h.keep.trans hk, by have := hk.next; omega, by rw [hk.old (by omega)]; exact h.box, by rw [hk.old (by omega)]; exact h.w, h.own.kept hk, h.ne⟩
theorem encRow_ret {H0 H : AHeap} {x : List AVal} {bv sl : AVal} {bs xs : List Int} {Q : AVal → AHeap → Prop} (h : EncAt H0 H x bv bs) (hr : Row H sl 1 (ints xs)) (hsl : ∀ j, sid sl = some j → j ≠ H0.next + 1 + 1 ∧ sid bv ≠ some j)
    (hlen : bs.length + 4 * xs.length ≤ 70368744177664) (hq : ∀ bv' H', EncAt H0 H' x bv' (bs ++ foursOf xs) → Keep (fun j => j = H0.next + 1 + 1 ∨ sid bv = some j) H H' → Q (.tuple []) H') : Ret A 60 [.ptr (H0.next + 1 + 1) 0, sl] H Q := by
  have hlt := h.lt
  refine four_ret h.w (by omega) h.ne (by omega) h.own hr hsl hlen ?_
  intro b2 H2 k2 o2 g2 s2
  refine hq b2 H2 ⟨h.keep.trans' k2 ?_, by have := k2.next; omega, ?_, o2, g2, ?_⟩ k2
  · intro i hi hm
    rcases hm with e | e
    · omega
    · have := (h.own.sid_ge e).1; omega
  · rw [k2.obj _ (by omega) (fun hm => by
      rcases hm with e | e
      · omega
      · have := (h.own.sid_ge e).1; omega)]
    exact h.box
  · intro e
    rcases s2 with s2 | ⟨y, s2, hy⟩
    · rw [s2] at e; exact h.ne e
    · rw [s2] at e; injection e with e; omega
theorem encNew_ret {H0 H1 H : AHeap} {x : List AVal} {bv : AVal} {bs xs : List Int} {y k : Nat} {cap : ACap} {Q : AVal → AHeap → Prop} (h : EncAt H0 H1 x bv bs) (hk : Keep Nothing H1 H) (hy : H.obj y = some (.cells (ints xs) true)) (hyn : H1.next ≤ y ∧ y < H.next) (hkk : xs.length = k)
    (hlen : bs.length + 4 * xs.length ≤ 70368744177664) (hq : ∀ bv' H', EncAt H0 H' x bv' (bs ++ foursOf xs) → Keep (fun j => j = H0.next + 1 + 1 ∨ sid bv = some j) H H' → Q (.tuple []) H') : Ret A 60 [.ptr (H0.next + 1 + 1) 0, .slice y 0 k cap] H Q := by
  have hlt := h.lt
  subst hkk
  refine encRow_ret (h.kept hk) (.mk (c := ints xs) hyn.2 (by rw [cells?_of, hy]; rfl) (by rw [ints_length]; omega) (by simp [← ints_length xs])) ?_ hlen hq
  intro j hj
  injection hj with hj
  subst hj
  exact ⟨by omega, fun e => by have := (h.own.sid_ge e).2; omega⟩

theorem encEight_ret {H0 H : AHeap} {x : List AVal} {bv : AVal} {bs : List Int} {v : Int} {Q : AVal → AHeap → Prop} (h : EncAt H0 H x bv bs)
    (hlen : bs.length + 8 ≤ 70368744177664) (hq : ∀ bv' H', EncAt H0 H' x bv' (bs ++ foursOf [shrI .i64 v 32, v]) → Keep (fun j => j = H0.next + 1 + 1 ∨ sid bv = some j) H H' → Q (.tuple []) H') : Ret A 61 [.ptr (H0.next + 1 + 1) 0, .int .i64 v] H Q := by
  have hlt := h.lt
  refine eight_ret h.w (by omega) h.ne (by omega) h.own hlen ?_
  intro b2 H2 k2 o2 g2 s2
  refine hq b2 H2 ⟨h.keep.trans' k2 ?_, by have := k2.next; omega, ?_, o2, g2, ?_⟩ k2
  · intro i hi hm
    rcases hm with e | e
    · omega
    · have := (h.own.sid_ge e).1; omega
  · rw [k2.obj _ (by omega) (fun hm => by
      rcases hm with e | e
      · omega
      · have := (h.own.sid_ge e).1; omega)]
    exact h.box
  · intro e
    rcases s2 with s2 | ⟨y, s2, hy⟩
    · rw [s2] at e; exact h.ne e
    · rw [s2] at e; injection e with e; omega
def sides (u d : List Int) : Nat → List Int
  | 0 => []
  | 1 => u
  | _ => u ++ d
set_option maxRecDepth 20000 in
set_option maxHeartbeats 4000000 in
theorem encode_ret {ew rv av uv dv : AVal} {x : Idx} {H : AHeap} {Q : AVal → AHeap → Prop} (hx : IdxAt H ew rv av uv dv x) (hrank : ∀ r ∈ x.rank, -1 ≤ r ∧ r ≤ 1000000000) (hedge : ∀ a ∈ x.arcs, -1 ≤ a.edge ∧ a.edge ≤ 1000000000) (hlen : (encodeOf x).length ≤ 70368744177664)
    (hq : ∀ v' H', Keep Nothing H H' → Own H.next H' v' 1 (u8s (encodeOf x)) → Q v' H') : Ret A 29 [.agg [.int .i64 x.n, ew, rv, av, uv, dv]] H Q := by
  refine Ret.of (fn := F29) rfl ?_
  have hle := hx.es.len (by omega) (edgeCells_length x.es)
  have hL : (encodeOf x).length = 4 + 8 + (x.es.flatMap edgeB).length + (x.rank.flatMap rankB).length + 4 + (x.arcs.flatMap arcB).length + (x.up.flatMap rowB).length + (x.down.flatMap rowB).length := by
    simp only [encodeOf, List.length_append, foursOf_length, List.length_cons, List.length_nil]
  have hf1 : (x.es.flatMap edgeB).length = 16 * x.es.length := flat_len edgeB_len
  have hf2 : (x.rank.flatMap rankB).length = 4 * x.rank.length := flat_len rankB_len
  have hf3 : (x.arcs.flatMap arcB).length = 32 * x.arcs.length := flat_len arcB_len
  have hf4 : 4 * x.up.length ≤ (x.up.flatMap rowB).length := flat_ge (fun l => by rw [rowB_len]; omega)
  have hf5 : 4 * x.down.length ≤ (x.down.flatMap rowB).length := flat_ge (fun l => by rw [rowB_len]; omega)
  simp (disch := first | omega | (simp only [nx] <;> omega) | fail) only [vaw, F29, hle, Nat.reduceAdd, Nat.reduceMul, Nat.reduceLeDiff, Nat.reduceEqDiff, ↓reduceIte]
  have e0 : EncAt H (((H.new (.cells [.int .i64 x.n, ew, rv, av, uv, dv] true)).new (.cells [.int .u8 77, .int .u8 73, .int .u8 88, .int .u8 49] true)).new (.cells [.slice (H.next + 1) 0 4 (.exact 4)] true)) [.int .i64 x.n, ew, rv, av, uv, dv] (.slice (H.next + 1) 0 4 (.exact 4)) [77, 73, 88, 49] := by
    refine ⟨((Keep.refl _ _).new _).new _ |>.new _, (by first | omega | (simp only [next_new, next_upd]; omega)), by simp (disch := first | omega | (simp only [nx] <;> omega) | fail) only [vaim], by simp (disch := first | omega | (simp only [nx] <;> omega) | fail) only [vaim], .full (by omega) (by first | omega | (simp only [next_new, next_upd]; omega)) (by simp (disch := first | omega | (simp only [nx] <;> omega) | fail) only [vaim]; rfl) rfl, by simp [sid]⟩
  refine encNew_ret (xs := [x.n, (x.es.length : Int)]) e0 ((Keep.refl _ _).new _) (by simp (disch := first | omega | (simp only [nx] <;> omega) | fail) only [vaim]; rfl) (by simp only [next_new]; omega) rfl (by simp) ?_
  clear e0
  intro b1 H1 e1 _
  have hx1 := hx.kept e1.keep
  have hcell := e1.box
  simp (disch := first | omega | (simp only [nx] <;> omega) | fail) only [vaw, hcell, hx1.es.len (by omega) (edgeCells_length x.es), Nat.reduceAdd, Nat.reduceMul, Nat.reduceLeDiff, Nat.reduceEqDiff, ↓reduceIte]
  refine wpx_loop (fun m t H' => ∃ (i : Nat) (bv : AVal), m = x.es.length - i ∧ i ≤ x.es.length ∧ t = (bots 1 (.ptr H.next 0 :: bots 1 (.ptr (H.next + 1 + 1) 0 :: .func (.func 60) [.ptr (H.next + 1 + 1) 0] [] :: bots 28 (ew :: .int .i64 x.es.length :: .int .i64 i :: bots 94 ([])))) : Tmps) ∧
    EncAt H H' [.int .i64 x.n, ew, rv, av, uv, dv] bv ([77, 73, 88, 49] ++ foursOf [x.n, (x.es.length : Int)] ++ (x.es.take i).flatMap edgeB)) x.es.length ?_ ?_
  · exact ⟨0, b1, rfl, by omega, rfl, by simpa using e1⟩
  · clear e1 hx1 hcell
    rintro m t H2 ⟨i, b2, rfl, hi, rfl, e2⟩
    have hx2 := hx.kept e2.keep
    have hfl := flat_le (f := edgeB) (l := x.es) (i := i)
    by_cases hc : (i : Int) < x.es.length
    · have hil : i < x.es.length := by omega
      have he : x.es[i]? = some x.es[i] := by simp [hil]
      obtain ⟨id, off, c1, c2, c3, c4, c5, c6, c7⟩ := edge_at hx2.es he
      have hf := flat_succ (f := edgeB) he
      have hfl := flat_le (f := edgeB) (l := x.es) (i := i + 1)
      generalize x.es[i] = e at *
      simp only [Edge.cells] at c7
      simp (disch := first | omega | (simp only [nx] <;> omega) | fail) only [vaw, hc, decide_true, c1, c7, Nat.reduceAdd, Nat.reduceMul, Nat.reduceLeDiff, Nat.reduceEqDiff, ↓reduceIte]
      refine encNew_ret (xs := [e.src, e.dst, e.mode, e.cost]) e2 ((((Keep.refl _ _).new _).upd (.inl (Nat.le_refl _)) _).new _) (by simp (disch := first | omega | (simp only [nx] <;> omega) | fail) only [vaim]; rfl) (by simp only [next_new, next_upd]; omega) rfl (by rw [hf] at hfl; simp only [edgeB, List.length_append, foursOf_length, List.length_cons, List.length_nil] at hfl ⊢; omega) ?_
      intro b3 H3 e3 _
      simp (disch := first | omega | (simp only [nx] <;> omega) | fail) only [vaw, Nat.reduceAdd, Nat.reduceMul, Nat.reduceLeDiff, Nat.reduceEqDiff, ↓reduceIte]
      refine ⟨x.es.length - (i + 1), by omega, i + 1, b3, rfl, by omega, rfl, ?_⟩
      rw [hf, ← List.append_assoc]
      exact e3
    · have hi : i = x.es.length := by omega
      rw [hi, List.take_length] at e2
      clear hi
      have hcell := e2.box
      have hlr := hx2.rank.len1
      rw [ints_length] at hlr
      simp (disch := first | omega | (simp only [nx] <;> omega) | fail) only [vaw, hc, decide_false, hcell, hlr, Nat.reduceAdd, Nat.reduceMul, Nat.reduceLeDiff, Nat.reduceEqDiff, ↓reduceIte]
      generalize hE2 : [77, 73, 88, 49] ++ foursOf [x.n, (x.es.length : Int)] ++ x.es.flatMap edgeB = E2 at *
      have hE2l : E2.length = 12 + (x.es.flatMap edgeB).length := by rw [← hE2]; simp [foursOf_length]; omega
      refine wpx_loop (fun m t H' => ∃ (i : Nat) (bv : AVal), m = x.rank.length - i ∧ i ≤ x.rank.length ∧ t = (bots 1 (.ptr H.next 0 :: bots 1 (.ptr (H.next + 1 + 1) 0 :: .func (.func 60) [.ptr (H.next + 1 + 1) 0] [] :: bots 47 (rv :: .int .i64 x.rank.length :: .int .i64 i :: bots 75 ([])))) : Tmps) ∧
        EncAt H H' [.int .i64 x.n, ew, rv, av, uv, dv] bv (E2 ++ (x.rank.take i).flatMap rankB)) x.rank.length ?_ ?_
      · exact ⟨0, b2, rfl, by omega, rfl, by simpa using e2⟩
      · clear e2 hx2 hcell hc hlr
        rintro m t H2 ⟨i, b2, rfl, hi, rfl, e2⟩
        have hx2 := hx.kept e2.keep
        have hfl := flat_le (f := rankB) (l := x.rank) (i := i)
        by_cases hc : (i : Int) < x.rank.length
        · have hil : i < x.rank.length := by omega
          have he : x.rank[i]? = some x.rank[i] := by simp [hil]
          have hb := hrank _ (List.getElem_mem hil)
          obtain ⟨id, off, c1, c2, c3⟩ := hx2.rank.int_at (k := .i64) he
          have hf := flat_succ (f := rankB) he
          have hfl := flat_le (f := rankB) (l := x.rank) (i := i + 1)
          generalize x.rank[i] = r at *
          simp (disch := first | omega | (simp only [nx] <;> omega) | fail) only [vaw, hc, decide_true, c1, c3, Nat.reduceAdd, Nat.reduceMul, Nat.reduceLeDiff, Nat.reduceEqDiff, ↓reduceIte]
          refine encNew_ret (xs := [r + 1]) e2 ((Keep.refl _ _).new _) (by simp (disch := first | omega | (simp only [nx] <;> omega) | fail) only [vaim]; rfl) (by simp only [next_new, next_upd]; omega) rfl (by rw [hf] at hfl; simp only [rankB, List.length_append, foursOf_length, List.length_cons, List.length_nil] at hfl ⊢; omega) ?_
          intro b3 H3 e3 _
          simp (disch := first | omega | (simp only [nx] <;> omega) | fail) only [vaw, Nat.reduceAdd, Nat.reduceMul, Nat.reduceLeDiff, Nat.reduceEqDiff, ↓reduceIte]
          refine ⟨x.rank.length - (i + 1), by omega, i + 1, b3, rfl, by omega, rfl, ?_⟩
          rw [hf, ← List.append_assoc]
          exact e3
        · have hi : i = x.rank.length := by omega
          rw [hi, List.take_length] at e2
          clear hi
          have hcell := e2.box
          have hlr := hx2.arcs.len (by omega) (arcCells_length x.arcs)
          simp (disch := first | omega | (simp only [nx] <;> omega) | fail) only [vaw, hc, decide_false, hcell, hlr, Nat.reduceAdd, Nat.reduceMul, Nat.reduceLeDiff, Nat.reduceEqDiff, ↓reduceIte]
          generalize hE3 : E2 ++ x.rank.flatMap rankB = E3 at *
          have hE3l : E3.length = E2.length + (x.rank.flatMap rankB).length := by rw [← hE3]; simp
          refine encNew_ret (xs := [(x.arcs.length : Int)]) e2 ((Keep.refl _ _).new _) (by simp (disch := first | omega | (simp only [nx] <;> omega) | fail) only [vaim]; rfl) (by simp only [next_new, next_upd]; omega) rfl (by simp; omega) ?_
          clear e2 hx2 hcell hc
          intro b2 H2 e2 _
          have hcell := e2.box
          simp (disch := first | omega | (simp only [nx] <;> omega) | fail) only [vaw, hcell, hlr, Nat.reduceAdd, Nat.reduceMul, Nat.reduceLeDiff, Nat.reduceEqDiff, ↓reduceIte]
          generalize hE4 : E3 ++ foursOf [(x.arcs.length : Int)] = E4 at *
          have hE4l : E4.length = E3.length + 4 := by rw [← hE4]; simp [foursOf_length]
          refine wpx_loop (fun m t H' => ∃ (i : Nat) (bv : AVal), m = x.arcs.length - i ∧ i ≤ x.arcs.length ∧ t = (bots 1 (.ptr H.next 0 :: bots 1 (.ptr (H.next + 1 + 1) 0 :: .func (.func 60) [.ptr (H.next + 1 + 1) 0] [] :: bots 66 (av :: .int .i64 x.arcs.length :: .int .i64 i :: bots 56 ([])))) : Tmps) ∧
            EncAt H H' [.int .i64 x.n, ew, rv, av, uv, dv] bv (E4 ++ (x.arcs.take i).flatMap arcB)) x.arcs.length ?_ ?_
          · exact ⟨0, b2, rfl, by omega, rfl, by simpa using e2⟩
          · clear e2 hcell hlr
            rintro m t H2 ⟨i, b2, rfl, hi, rfl, e2⟩
            have hx2 := hx.kept e2.keep
            have hfl := flat_le (f := arcB) (l := x.arcs) (i := i)
            by_cases hc : (i : Int) < x.arcs.length
            · have hil : i < x.arcs.length := by omega
              have he : x.arcs[i]? = some x.arcs[i] := by simp [hil]
              have hb := hedge _ (List.getElem_mem hil)
              obtain ⟨id, off, c1, c2, c3, c4⟩ := arc_at hx2.arcs he
              have hf := flat_succ (f := arcB) he
              have hfl := flat_le (f := arcB) (l := x.arcs) (i := i + 1)
              generalize x.arcs[i] = a at *
              simp only [Arc.cells] at c4
              rw [hf] at hfl
              simp only [arcB, List.length_append, foursOf_length, List.length_cons, List.length_nil] at hfl
              simp (disch := first | omega | (simp only [nx] <;> omega) | fail) only [vaw, hc, decide_true, c1, c4, Nat.reduceAdd, Nat.reduceMul, Nat.reduceLeDiff, Nat.reduceEqDiff, ↓reduceIte]
              have kk : Keep Nothing H2 (((H2.new (.cells [.int .i64 0, .int .i64 0, .int .i64 0, .int .i64 0, .int .i64 0, .int .i64 0, .int .i64 0] true)).upd H2.next (some (.cells [.int .i64 a.src, .int .i64 a.dst, .int .i64 a.mode, .int .i64 a.cost, .int .i64 a.edge, .int .i64 a.a, .int .i64 a.b] true))).new (.cells [.int .i64 a.src, .int .i64 a.dst, .int .i64 a.mode] true)) := (((Keep.refl _ _).new _).upd (.inl (Nat.le_refl _)) _).new _
              have bl : ∀ j, sid b2 = some j → j < H2.next := fun j hj => (e2.own.sid_ge hj).2
              have elt := e2.lt
              refine encNew_ret (xs := [a.src, a.dst, a.mode]) e2 kk (by simp (disch := first | omega | (simp only [nx] <;> omega) | fail) only [vaim]; rfl) (by simp only [next_new, next_upd]; omega) rfl (by simp only [List.length_append, List.length_cons, List.length_nil]; omega) ?_
              intro b3 H3 e3 k3
              have n3 := k3.next
              simp only [next_new, next_upd] at n3
              have q3 : H3.obj H2.next = some (.cells [.int .i64 a.src, .int .i64 a.dst, .int .i64 a.mode, .int .i64 a.cost, .int .i64 a.edge, .int .i64 a.a, .int .i64 a.b] true) := by
                rw [k3.obj _ (by simp only [next_new, next_upd]; omega) (fun e => by rcases e with e | e; omega; have := bl _ e; omega)]
                simp (disch := first | omega | (simp only [nx] <;> omega) | fail) only [vaim]
              simp (disch := first | omega | (simp only [nx] <;> omega) | fail) only [vaw, q3, Nat.reduceAdd, Nat.reduceMul, Nat.reduceLeDiff, Nat.reduceEqDiff, ↓reduceIte]
              have bl3 : ∀ j, sid b3 = some j → j ≠ H2.next := fun j hj e => by
                subst e
                have ho := e3.own.obj hj
                rw [q3] at ho; injection ho with ho; injection ho with ho
                exact u8s_ne ho.symm
              refine encEight_ret e3 (by simp only [List.length_append, foursOf_length, List.length_cons, List.length_nil]; omega) ?_
              intro b4 H4 e4 k4
              have n4 := k4.next
              have q4 : H4.obj H2.next = some (.cells [.int .i64 a.src, .int .i64 a.dst, .int .i64 a.mode, .int .i64 a.cost, .int .i64 a.edge, .int .i64 a.a, .int .i64 a.b] true) := by
                rw [k4.obj _ (by omega) (fun e => by rcases e with e | e; omega; exact bl3 _ e rfl)]
                exact q3
              simp (disch := first | omega | (simp only [nx] <;> omega) | fail) only [vaw, q4, Nat.reduceAdd, Nat.reduceMul, Nat.reduceLeDiff, Nat.reduceEqDiff, ↓reduceIte]
              refine encNew_ret (xs := [a.edge + 1, a.a, a.b]) e4 ((Keep.refl _ _).new _) (by simp (disch := first | omega | (simp only [nx] <;> omega) | fail) only [vaim]; rfl) (by simp only [next_new, next_upd]; omega) rfl (by simp only [List.length_append, foursOf_length, List.length_cons, List.length_nil]; omega) ?_
              intro b5 H5 e5 _
              simp (disch := first | omega | (simp only [nx] <;> omega) | fail) only [vaw, Nat.reduceAdd, Nat.reduceMul, Nat.reduceLeDiff, Nat.reduceEqDiff, ↓reduceIte]
              refine ⟨x.arcs.length - (i + 1), by omega, i + 1, b5, rfl, by omega, rfl, ?_⟩
              rw [hf]
              simpa [arcB, List.append_assoc] using e5
            · have hi : i = x.arcs.length := by omega
              rw [hi, List.take_length] at e2
              clear hi
              have hcell := e2.box
              have hx2u := hx2.up.cells
              have hx2d := hx2.down.cells
              simp (disch := first | omega | (simp only [nx] <;> omega) | fail) only [vaw, hc, decide_false, hcell, hx2u, hx2d, Nat.reduceAdd, Nat.reduceMul, Nat.reduceLeDiff, Nat.reduceEqDiff, ↓reduceIte]
              generalize hE5 : E4 ++ x.arcs.flatMap arcB = E5 at *
              have hE5l : E5.length = E4.length + (x.arcs.flatMap arcB).length := by rw [← hE5]; simp
              have hfin : E5 ++ sides (x.up.flatMap rowB) (x.down.flatMap rowB) 2 = encodeOf x := by
                rw [← hE5, ← hE4, ← hE3, ← hE2]
                simp [sides, encodeOf, List.append_assoc]
              refine wpx_loop (fun m t H' => ∃ (i : Nat) (bv : AVal), m = 2 - i ∧ i ≤ 2 ∧ t = (bots 3 (.ptr (H.next + 1 + 1) 0 :: .func (.func 60) [.ptr (H.next + 1 + 1) 0] [] :: bots 100 (.agg [uv, dv] :: .int .i64 i :: bots 23 ([]))) : Tmps) ∧
                EncAt H H' [.int .i64 x.n, ew, rv, av, uv, dv] bv (E5 ++ sides (x.up.flatMap rowB) (x.down.flatMap rowB) i)) 2 ?_ ?_
              · exact ⟨0, b2, rfl, by omega, rfl, by simpa [sides] using e2⟩
              · clear e2 hx2 hcell hc hx2u hx2d
                rintro m t H2 ⟨i, b2, rfl, hi, rfl, e2⟩
                by_cases hc : (i : Int) < 2
                · obtain ⟨sv, sl, s1, s2, s3, s4, s5⟩ : ∃ sv sl, aindexA 2 1 false (.agg [uv, dv]) (.int .i64 (i : Int)) = some sv ∧ RowsOf H sv sl ∧ sides (x.up.flatMap rowB) (x.down.flatMap rowB) (i + 1) = sides (x.up.flatMap rowB) (x.down.flatMap rowB) i ++ sl.flatMap rowB ∧
                      E5.length + (sides (x.up.flatMap rowB) (x.down.flatMap rowB) i).length + (sl.flatMap rowB).length ≤ 70368744177664 ∧ 4 * sl.length ≤ (sl.flatMap rowB).length := by
                    by_cases h0 : i = 0
                    · subst h0
                      exact ⟨uv, x.up, rfl, hx.up, by simp [sides], by show E5.length + 0 + _ ≤ _; omega, hf4⟩
                    · have h1 : i = 1 := by omega
                      subst h1
                      exact ⟨dv, x.down, rfl, hx.down, by simp [sides], by show E5.length + (x.up.flatMap rowB).length + _ ≤ _; omega, hf5⟩
                  have hlen2 := s2.len
                  simp (disch := first | omega | (simp only [nx] <;> omega) | fail) only [vaw, hc, decide_true, s1, hlen2, Nat.reduceAdd, Nat.reduceMul, Nat.reduceLeDiff, Nat.reduceEqDiff, ↓reduceIte]
                  generalize sides (x.up.flatMap rowB) (x.down.flatMap rowB) i = S at *
                  refine wpx_loop (fun m t H' => ∃ (j : Nat) (bv : AVal), m = sl.length - j ∧ j ≤ sl.length ∧ t = (bots 3 (.ptr (H.next + 1 + 1) 0 :: .func (.func 60) [.ptr (H.next + 1 + 1) 0] [] :: bots 100 (.agg [uv, dv] :: .int .i64 i :: bots 2 (sv :: .int .i64 sl.length :: .int .i64 j :: bots 18 ([])))) : Tmps) ∧
                    EncAt H H' [.int .i64 x.n, ew, rv, av, uv, dv] bv (E5 ++ S ++ (sl.take j).flatMap rowB)) sl.length ?_ ?_
                  · exact ⟨0, b2, rfl, by omega, rfl, by simpa using e2⟩
                  · clear e2
                    rintro m t H3 ⟨j, b3, rfl, hj, rfl, e3⟩
                    by_cases hc2 : (j : Int) < sl.length
                    · have hjl : j < sl.length := by omega
                      have he : sl[j]? = some sl[j] := by simp [hjl]
                      have hs3 := s2.kept e3.keep
                      obtain ⟨id, off, r, c1, c2, c3, c4⟩ := s2.at (k := .i64) he
                      have c3' : (bnd (cellsOf (H3.obj id)) fun c => c[off]?) = some r := by rw [e3.keep.old c2]; exact c3
                      have hf := flat_succ (f := rowB) he
                      have hfl := flat_le (f := rowB) (l := sl) (i := j + 1)
                      generalize sl[j] = rl at *
                      rw [hf] at hfl
                      simp only [rowB, List.length_append, foursOf_length, List.length_cons, List.length_nil] at hfl
                      have hrl := (c4.kept e3.keep).len1
                      rw [ints_length] at hrl
                      simp (disch := first | omega | (simp only [nx] <;> omega) | fail) only [vaw, hc2, decide_true, c1, c3', hrl, Nat.reduceAdd, Nat.reduceMul, Nat.reduceLeDiff, Nat.reduceEqDiff, ↓reduceIte]
                      refine encNew_ret (xs := [(rl.length : Int)]) e3 ((Keep.refl _ _).new _) (by simp (disch := first | omega | (simp only [nx] <;> omega) | fail) only [vaim]; rfl) (by simp only [next_new, next_upd]; omega) rfl (by simp only [List.length_append, List.length_cons, List.length_nil]; omega) ?_
                      intro b4 H4 e4 _
                      simp (disch := first | omega | (simp only [nx] <;> omega) | fail) only [vaw, Nat.reduceAdd, Nat.reduceMul, Nat.reduceLeDiff, Nat.reduceEqDiff, ↓reduceIte]
                      refine encRow_ret e4 (c4.kept e4.keep) (fun j hj => ⟨by have := c4.sid_lt hj; omega, fun e => by have := c4.sid_lt hj; have := (e4.own.sid_ge e).1; omega⟩) (by simp only [List.length_append, foursOf_length, List.length_cons, List.length_nil]; omega) ?_
                      intro b5 H5 e5 _
                      simp (disch := first | omega | (simp only [nx] <;> omega) | fail) only [vaw, Nat.reduceAdd, Nat.reduceMul, Nat.reduceLeDiff, Nat.reduceEqDiff, ↓reduceIte]
                      refine ⟨sl.length - (j + 1), by omega, j + 1, b5, rfl, by omega, rfl, ?_⟩
                      rw [hf]
                      simpa [rowB, List.append_assoc] using e5
                    · have hj : j = sl.length := by omega
                      rw [hj, List.take_length] at e3
                      simp (disch := first | omega | (simp only [nx] <;> omega) | fail) only [vaw, hc2, decide_false, Nat.reduceAdd, Nat.reduceMul, Nat.reduceLeDiff, Nat.reduceEqDiff, ↓reduceIte]
                      refine ⟨2 - (i + 1), by omega, i + 1, b3, rfl, by omega, rfl, ?_⟩
                      rw [s3, ← List.append_assoc]
                      exact e3
                · have hi : i = 2 := by omega
                  subst hi
                  rw [hfin] at e2
                  have hw := e2.w
                  have hb := e2.own.row
                  simp (disch := first | omega | (simp only [nx] <;> omega) | fail) only [vaw, hc, decide_false, hw, Nat.reduceAdd, Nat.reduceMul, Nat.reduceLeDiff, Nat.reduceEqDiff, ↓reduceIte]
                  refine cloneB_ret hb hlen ?_
                  intro v' H3 k3 g3
                  simp (disch := first | omega | (simp only [nx] <;> omega) | fail) only [vaw, g3.notBot, Nat.reduceAdd, Nat.reduceMul, Nat.reduceLeDiff, Nat.reduceEqDiff, ↓reduceIte]
                  exact hq v' H3 (e2.keep.trans k3) (g3.lower e2.keep.next)
end Go.Proofs.Ytknhlpmmalcchaa

namespace Go.Proofs.Ytknhlpmmalcchaa
open Go Go.VAI
set_option linter.unusedSimpArgs false

def mkN (size : Int) : Nat := (1 + size % 12).toNat
def mkEs (size modes : Int) (xs : List Int) : List Edge := (xs.take 40).map (mkEdge (1 + size % 12) modes)
theorem mkN_eq (size : Int) : ((mkN size : Nat) : Int) = 1 + size % 12 := by unfold mkN; omega
theorem mk_net (size modes : Int) (xs : List Int) : NetOk (mkN size : Nat) (mkEs size modes xs) := by
  rw [mkN_eq]
  have h1 : 0 ≤ size % 12 := by omega
  have h2 : size % 12 < 12 := by omega
  refine ⟨by omega, by omega, by simp [mkEs]; omega, fun e he => ?_⟩
  simp only [mkEs, List.mem_map] at he
  obtain ⟨k, _, rfl⟩ := he
  have a1 := Int.emod_nonneg k (show 1 + size % 12 ≠ 0 by omega)
  have a2 := Int.emod_lt_of_pos k (show 0 < 1 + size % 12 by omega)
  have b1 := Int.emod_nonneg (k.tdiv 13) (show 1 + size % 12 ≠ 0 by omega)
  have b2 := Int.emod_lt_of_pos (k.tdiv 13) (show 0 < 1 + size % 12 by omega)
  refine ⟨⟨a1, a2⟩, ⟨b1, b2⟩, ?_, ?_⟩
  · simp only [mkEdge]
    generalize k % (1 + size % 12) + k.tdiv 13 % (1 + size % 12) = p
    generalize k.tdiv 170 % 5 * (k % (1 + size % 12)) = q
    split
    · omega
    · split <;> omega
  · simp only [mkEdge]
    split <;> omega
theorem mk_small (size : Int) : mkN size ≤ 21 := by unfold mkN; omega
theorem idx_allowed {N : Nat} {es : List Edge} (h : NetOk N es) (hN : N ≤ 21) : Allowed (idxOf N es) := by
  obtain ⟨cur, ex, hb⟩ := built (l := orderAll N es) (fun e he => by
    obtain ⟨a1, a2, a3, a4⟩ := h.2.2.2 e he
    exact ⟨a1, a2, a3, a4.1⟩) (orderOf_ok N es _)
  exact built_allowed h (orderOf_ok N es _) hN hb
theorem flat_bound {ll : List (List Int)} {n : Nat} (h : ∀ l ∈ ll, l.length ≤ n) : (ll.flatMap rowB).length ≤ (4 + 4 * n) * ll.length := by
  induction ll with
  | nil => simp
  | cons l ll ih =>
    have h1 := ih (fun m hm => h m (List.mem_cons_of_mem _ hm))
    have h2 := h l List.mem_cons_self
    rw [List.flatMap_cons, List.length_append, rowB_len, List.length_cons, Nat.mul_succ]
    omega
theorem encodeOf_len (x : Idx) : (encodeOf x).length = 4 + 8 + 16 * x.es.length + 4 * x.rank.length + 4 + 32 * x.arcs.length + (x.up.flatMap rowB).length + (x.down.flatMap rowB).length := by
  simp only [encodeOf, List.length_append, foursOf_length, List.length_cons, List.length_nil]
  rw [flat_len edgeB_len, flat_len rankB_len, flat_len arcB_len]
theorem allowed_enc {x : Idx} (h : Allowed x) : (∀ r ∈ x.rank, -1 ≤ r ∧ r ≤ 1000000000) ∧ (∀ a ∈ x.arcs, -1 ≤ a.edge ∧ a.edge ≤ 1000000000) ∧ (encodeOf x).length ≤ 1000000000 := by
  obtain ⟨n1, n2, n3, n4⟩ := h.net
  have hrl := h.rankLen
  have hul := h.upLen
  have hdl := h.downLen
  have hac := h.count
  refine ⟨fun r hr => ?_, fun a ha => ?_, ?_⟩
  · obtain ⟨k, k1, k2⟩ := h.ranks.run
    have hkn : k ≤ x.rank.length := by
      have : ∀ n : Nat, n ≤ k → ∃ l : List Int, l.Nodup ∧ l.length = n ∧ ∀ y ∈ l, y ∈ x.rank ∧ 0 ≤ y ∧ y < n := by
        intro n
        induction n with
        | zero => intro _; exact ⟨[], by simp, rfl, fun y hy => by simp at hy⟩
        | succ n ih =>
          intro hn
          obtain ⟨l, l1, l2, l3⟩ := ih (by omega)
          refine ⟨(n : Int) :: l, List.nodup_cons.2 ⟨fun hm => by have := (l3 _ hm).2.2; omega, l1⟩, by simp [l2], fun y hy => ?_⟩
          rcases List.mem_cons.1 hy with rfl | hy
          · exact ⟨k2 n (by omega), by omega, by omega⟩
          · have := l3 y hy
            exact ⟨this.1, by omega, by omega⟩
      obtain ⟨l, l1, l2, l3⟩ := this k (Nat.le_refl _)
      rw [← l2]
      exact l1.length_le_of_subset (fun y hy => (l3 y hy).1)
    rcases k1 r hr with h | h <;> omega
  · obtain ⟨i, hi, e⟩ := List.getElem_of_mem ha
    have := h.arcs i a (by rw [List.getElem?_eq_getElem hi, e])
    rcases this.2 with h | h
    · have := (List.getElem?_eq_some_iff.1 h.2.2.2).1
      have := h.1
      omega
    · have := h.1
      omega
  · have hu : ∀ l ∈ x.up, l.length ≤ 300000 := fun l hl => by
      obtain ⟨v, hv, e⟩ := List.getElem_of_mem hl
      obtain ⟨h1, h2⟩ := h.up v l (by rw [List.getElem?_eq_getElem hv, e])
      have := few_below x.arcs.length l h1 (fun y hy => by
        obtain ⟨h3, a, h4, _⟩ := h2 y hy
        have := (List.getElem?_eq_some_iff.1 h4).1
        omega)
      omega
    have hd : ∀ l ∈ x.down, l.length ≤ 300000 := fun l hl => by
      obtain ⟨v, hv, e⟩ := List.getElem_of_mem hl
      obtain ⟨h1, h2⟩ := h.down v l (by rw [List.getElem?_eq_getElem hv, e])
      have := few_below x.arcs.length l h1 (fun y hy => by
        obtain ⟨h3, a, h4, _⟩ := h2 y hy
        have := (List.getElem?_eq_some_iff.1 h4).1
        omega)
      omega
    have b1 := flat_bound hu
    have b2 := flat_bound hd
    rw [encodeOf_len]
    have b3 : (4 + 4 * 300000) * x.up.length ≤ (4 + 4 * 300000) * 60 := Nat.mul_le_mul (Nat.le_refl _) (by omega)
    have b4 : (4 + 4 * 300000) * x.down.length ≤ (4 + 4 * 300000) * 60 := Nat.mul_le_mul (Nat.le_refl _) (by omega)
    omega
end Go.Proofs.Ytknhlpmmalcchaa

namespace Go.Proofs.Ytknhlpmmalcchaa
open Go Go.VAI
set_option linter.unusedSimpArgs false

structure RS where
  left : List Int
  bad : Bool
  deriving DecidableEq, Inhabited
def rFour (s : RS) : Int × RS :=
  match s.left with
  | a :: b :: c :: d :: l => (numOf a b c d, ⟨l, s.bad⟩)
  | _ => (0, ⟨s.left, true⟩)
def Bytes (l : List Int) : Prop := ∀ b ∈ l, 0 ≤ b ∧ b < 256
def RdAt (H : AHeap) (w : Nat) (src : Option Nat) (s : RS) : Prop := ∃ lv, H.obj w = some (.cells [lv, .bool s.bad] true) ∧ RowC H lv 1 (u8s s.left) ∧ sid lv = src ∧ w < H.next ∧ src ≠ some w ∧ Bytes s.left ∧ s.left.length ≤ 4611686018427387904
theorem RdAt.M {M : Nat → Prop} {H H' : AHeap} {w : Nat} {src : Option Nat} {s : RS} (h : RdAt H w src s) (hk : Keep M H H') (hw : ¬ M w) (hs : ∀ j, src = some j → ¬ M j) : RdAt H' w src s := by
  obtain ⟨lv, h1, h2, h3, h4, h5, h6, h7⟩ := h
  exact ⟨lv, by rw [hk.obj w h4 hw]; exact h1, h2.M hk (fun j hj => hs j (by rw [← h3]; exact hj)), h3, by have := hk.next; omega, h5, h6, h7⟩
theorem RdAt.kept {H H' : AHeap} {w : Nat} {src : Option Nat} {s : RS} (h : RdAt H w src s) (hk : Keep Nothing H H') : RdAt H' w src s := h.M hk (fun h => h) (fun _ _ h => h)
theorem sid_at {sz : Nat} {v : AVal} {k : IntKind} {j : Int} {id off : Nat} (h : aindexAddrS sz v (.int k j) = some (.ptr id off)) : sid v = some id := by
  cases v <;> simp only [aindexAddrS] at h <;> try (cases h; done)
  split at h
  · injection h with h; injection h with h; rw [h]; rfl
  · cases h
theorem u8_at {H : AHeap} {v : AVal} {l : List Int} (h : Row H v 1 (u8s l)) {j : Nat} {x : Int} (hx : l[j]? = some x) {k : IntKind} : ∃ id off, aindexAddrS 1 v (.int k (j : Int)) = some (.ptr id off) ∧ id < H.next ∧ (bnd (cellsOf (H.obj id)) fun c => c[off]?) = some (.int .u8 x) ∧ sid v = some id := by
  obtain ⟨id, off, h1, h2, h3⟩ := h.at1 (j := (j : Int)) (x := .int .u8 x) (k := k) (by omega) (by rw [Int.toNat_natCast]; simp [u8s, hx])
  exact ⟨id, off, h1, h2, h3, sid_at h1⟩
theorem rfour_ret {w : Nat} {src : Option Nat} {s : RS} {H : AHeap} {Q : AVal → AHeap → Prop} (h : RdAt H w src s) (hq : ∀ H', Keep (fun j => j = w) H H' → RdAt H' w src (rFour s).2 → H'.next = H.next → Q (.int .i64 (rFour s).1) H') : Ret A 64 [.ptr w 0] H Q := by
  refine Ret.of (fn := F64) rfl ?_
  obtain ⟨left, bad⟩ := s
  obtain ⟨lv, h1, h2, h3, h4, h5, h6, h7⟩ := h
  simp only at h1 h2 h6 h7
  have hl := h2.1.len1
  rw [u8s_length] at hl
  obtain ⟨m, hm⟩ : ∃ m, left.length = m := ⟨_, rfl⟩
  rw [hm] at hl
  have short : left.length < 4 → (rFour ⟨left, bad⟩) = (0, ⟨left, true⟩) := by
    intro hs
    unfold rFour
    match left with
    | [] => rfl
    | [_] => rfl
    | [_, _] => rfl
    | [_, _, _] => rfl
    | _ :: _ :: _ :: _ :: _ => simp at hs; omega
  by_cases hs : (m : Int) < 4
  · have hs' := short (by omega)
    rw [hs'] at hq
    simp (disch := first | omega | (simp only [nx] <;> omega) | fail) only [vaw, F64, h1, hl, hs, decide_true, Nat.reduceAdd, Nat.reduceMul, Nat.reduceLeDiff, Nat.reduceEqDiff, ↓reduceIte]
    have kk : Keep (fun j => j = w) H (H.upd w (some (.cells [lv, .bool true] true))) := (Keep.refl (fun j => j = w) _).upd (.inr rfl) _
    exact hq _ kk ⟨lv, obj_upd_eq rfl, h2.M kk (fun j hj e => by subst e; rw [h3] at hj; exact h5 hj), h3, h4, h5, h6, h7⟩ rfl
  · obtain ⟨a, b, c, d, l, rfl⟩ : ∃ a b c d l, left = a :: b :: c :: d :: l := by
      match left with
      | [] => simp at hm; omega
      | [_] => simp at hm; omega
      | [_, _] => simp at hm; omega
      | [_, _, _] => simp at hm; omega
      | a :: b :: c :: d :: l => exact ⟨a, b, c, d, l, rfl⟩
    obtain ⟨v1, e1, e2, e3⟩ := h2.upto (n := l.length + 4) (k := 4) (kd := .i64) (by omega) (by simp [u8s]) (by omega)
    obtain ⟨v2, e4, e5, e6⟩ := h2.from (n := l.length + 4) (k := 4) (kd := .i64) (by omega) (by simp [u8s]) (by omega)
    have e1' : aslice 1 lv none (some (.int .i64 4)) none = some v1 := e1
    have e4' : aslice 1 lv (some (.int .i64 4)) none none = some v2 := e4
    have e2' : Row H v1 1 (u8s [a, b, c, d]) := e2.1
    obtain ⟨i0, o0, a0, b0, c0, s0⟩ := u8_at (k := .i64) e2' (j := 0) rfl
    obtain ⟨i1, o1, a1, b1, c1, s1⟩ := u8_at (k := .i64) e2' (j := 1) rfl
    obtain ⟨i2, o2, a2, b2, c2, s2⟩ := u8_at (k := .i64) e2' (j := 2) rfl
    obtain ⟨i3, o3, a3, b3, c3, s3⟩ := u8_at (k := .i64) e2' (j := 3) rfl
    rw [e3, h3] at s0 s1 s2 s3
    have n0 : i0 ≠ w := fun e => by subst e; exact h5 s0
    have n1 : i1 ≠ w := fun e => by subst e; exact h5 s1
    have n2 : i2 ≠ w := fun e => by subst e; exact h5 s2
    have n3 : i3 ≠ w := fun e => by subst e; exact h5 s3
    have a0' : aindexAddrS 1 v1 (.int .i64 0) = some (.ptr i0 o0) := a0
    have a1' : aindexAddrS 1 v1 (.int .i64 1) = some (.ptr i1 o1) := a1
    have a2' : aindexAddrS 1 v1 (.int .i64 2) = some (.ptr i2 o2) := a2
    have a3' : aindexAddrS 1 v1 (.int .i64 3) = some (.ptr i3 o3) := a3
    have d0 := h6 a (by simp)
    have d1 := h6 b (by simp)
    have d2 := h6 c (by simp)
    have d3 := h6 d (by simp)
    have cc := e5.1.cells
    simp (disch := first | omega | (simp only [nx] <;> omega) | fail) only [vaw, F64, h1, hl, hs, decide_false, e1', e4', a0', a1', a2', a3', c0, c1, c2, c3, n0, n1, n2, n3, cc, Nat.reduceAdd, Nat.reduceMul, Nat.reduceLeDiff, Nat.reduceEqDiff, ↓reduceIte]
    have kk : Keep (fun j => j = w) H (H.upd w (some (.cells [v2, .bool bad] true))) := (Keep.refl (fun j => j = w) _).upd (.inr rfl) _
    refine hq _ kk ⟨v2, obj_upd_eq rfl, e5.M kk (fun j hj e => by subst e; rw [e6, h3] at hj; exact h5 hj), by rw [e6, h3], h4, h5, fun x hx => h6 x (by simp only [rFour] at hx; simp [hx]), by simp at h7; simp only [rFour]; omega⟩ rfl
end Go.Proofs.Ytknhlpmmalcchaa

namespace Go.Proofs.Ytknhlpmmalcchaa
open Go Go.VAI
set_option linter.unusedSimpArgs false

theorem rFour_bd {s : RS} (h : Bytes s.left) : 0 ≤ (rFour s).1 ∧ (rFour s).1 < 4294967296 := by
  obtain ⟨left, bad⟩ := s
  match left, h with
  | [], _ => simp [rFour]
  | [_], _ => simp [rFour]
  | [_, _], _ => simp [rFour]
  | [_, _, _], _ => simp [rFour]
  | a :: b :: c :: d :: l, h =>
    have d0 := h a (by simp)
    have d1 := h b (by simp)
    have d2 := h c (by simp)
    have d3 := h d (by simp)
    simp only [rFour]
    rw [numOf_eq d0 d1 d2 d3]
    omega
theorem RdAt.bytes {H : AHeap} {w : Nat} {src : Option Nat} {s : RS} (h : RdAt H w src s) : Bytes s.left := by
  obtain ⟨lv, h1, h2, h3, h4, h5, h6, h7⟩ := h
  exact h6
theorem RdAt.lt {H : AHeap} {w : Nat} {src : Option Nat} {s : RS} (h : RdAt H w src s) : w < H.next := by
  obtain ⟨lv, h1, h2, h3, h4, h5, h6, h7⟩ := h
  exact h4
def rCount (size : Nat) (s : RS) : Int × RS :=
  let r := rFour s
  if ((r.2.left.length / size : Nat) : Int) < r.1 then (0, ⟨r.2.left, true⟩) else r
theorem rCount_bd {size : Nat} {s : RS} (h : Bytes s.left) : 0 ≤ (rCount size s).1 ∧ (rCount size s).1 < 4294967296 := by
  unfold rCount
  simp only
  split
  · omega
  · exact rFour_bd h
theorem rcount_ret {w size : Nat} {src : Option Nat} {s : RS} {H : AHeap} {Q : AVal → AHeap → Prop} (h : RdAt H w src s) (hs : 0 < size ∧ size < 1000) (hq : ∀ H', Keep (fun j => j = w) H H' → RdAt H' w src (rCount size s).2 → H'.next = H.next → Q (.int .i64 (rCount size s).1) H') : Ret A 65 [.ptr w 0, .int .i64 size] H Q := by
  refine Ret.of (fn := F65) rfl ?_
  simp (disch := first | omega | (simp only [nx] <;> omega) | fail) only [vaw, F65, Nat.reduceAdd, Nat.reduceMul, Nat.reduceLeDiff, Nat.reduceEqDiff, ↓reduceIte]
  refine rfour_ret h fun H1 k1 h1 n1 => ?_
  have hbd := rFour_bd h.bytes
  unfold rCount at hq
  generalize rFour s = r at *
  obtain ⟨n, left, bad⟩ := r
  simp only at hq hbd h1 ⊢
  obtain ⟨lv, g1, g2, g3, g4, g5, g6, g7⟩ := h1
  simp only at g1 g2 g6 g7
  have hl := g2.1.len1
  rw [u8s_length] at hl
  have hz : (size : Int) ≠ 0 := by omega
  have hquo : ((left.length : Int)).tdiv (size : Int) = ((left.length / size : Nat) : Int) := by
    rw [Int.ofNat_tdiv]
  have hdl : left.length / size ≤ left.length := Nat.div_le_self _ _
  generalize left.length / size = dq at *
  by_cases hc : ((dq : Nat) : Int) < n
  · rw [if_pos hc] at hq
    simp (disch := first | omega | (simp only [nx] <;> omega) | fail) only [vaw, g1, hl, abin_quo, hquo, hc, decide_true, Nat.reduceAdd, Nat.reduceMul, Nat.reduceLeDiff, Nat.reduceEqDiff, ↓reduceIte]
    have kk : Keep (fun j => j = w) H1 (H1.upd w (some (.cells [lv, .bool true] true))) := (Keep.refl (fun j => j = w) _).upd (.inr rfl) _
    exact hq _ (k1.trans kk) ⟨lv, obj_upd_eq rfl, g2.M kk (fun j hj e => by subst e; rw [g3] at hj; exact g5 hj), g3, g4, g5, g6, g7⟩ n1
  · rw [if_neg hc] at hq
    simp (disch := first | omega | (simp only [nx] <;> omega) | fail) only [vaw, g1, hl, abin_quo, hquo, hc, decide_false, Nat.reduceAdd, Nat.reduceMul, Nat.reduceLeDiff, Nat.reduceEqDiff, ↓reduceIte]
    exact hq _ k1 ⟨lv, g1, g2, g3, g4, g5, g6, g7⟩ n1
def rEdge (s : RS) : Edge × RS :=
  let a := rFour s
  let b := rFour a.2
  let c := rFour b.2
  let d := rFour c.2
  (⟨a.1, b.1, c.1, d.1⟩, d.2)
theorem RdAt.src_lt {H : AHeap} {w : Nat} {src : Option Nat} {s : RS} (h : RdAt H w src s) {j : Nat} (hj : src = some j) : j < H.next := by
  obtain ⟨lv, h1, h2, h3, h4, h5, h6, h7⟩ := h
  exact h2.1.sid_lt (by rw [h3]; exact hj)
structure RW (H0 H : AHeap) (w : Nat) (src : Option Nat) (s : RS) (p q : Nat) (cs zs : List AVal) : Prop where
  keep : Keep (fun j => j = w) H0 H
  rd : RdAt H w src s
  o1 : H.obj p = some (.cells cs true)
  o2 : H.obj q = some (.cells zs true)
  lp : H0.next ≤ p ∧ p < H.next
  lq : H0.next ≤ q ∧ q < H.next
  ne : p ≠ q
  lw : w < H0.next
  ls : ∀ j, src = some j → j < H0.next
theorem RW.four {H0 H : AHeap} {w p q : Nat} {src : Option Nat} {s : RS} {cs zs : List AVal} {Q : AVal → AHeap → Prop} (h : RW H0 H w src s p q cs zs) (hq : ∀ H', RW H0 H' w src (rFour s).2 p q cs zs → Q (.int .i64 (rFour s).1) H') : Ret A 64 [.ptr w 0] H Q := by
  have l1 := h.lp
  have l2 := h.lq
  have l3 := h.lw
  refine rfour_ret h.rd fun H' k r n => hq H' ⟨h.keep.trans k, r, ?_, ?_, by omega, by omega, h.ne, h.lw, h.ls⟩
  · rw [k.obj p (by omega) (by omega)]; exact h.o1
  · rw [k.obj q (by omega) (by omega)]; exact h.o2
theorem RW.set {H0 H : AHeap} {w p q : Nat} {src : Option Nat} {s : RS} {cs zs : List AVal} (h : RW H0 H w src s p q cs zs) (cs' : List AVal) : RW H0 (H.upd p (some (.cells cs' true))) w src s p q cs' zs := by
  have l1 := h.lp
  have l2 := h.lq
  have l3 := h.lw
  have kk : Keep (fun j => j = p) H (H.upd p (some (.cells cs' true))) := (Keep.refl (fun j => j = p) _).upd (.inr rfl) _
  refine ⟨h.keep.upd (.inl l1.1) _, h.rd.M kk (by omega) (fun j hj => by have := h.ls j hj; omega), obj_upd_eq rfl, ?_, l1, l2, h.ne, h.lw, h.ls⟩
  rw [obj_upd_ne (fun e => h.ne e.symm)]; exact h.o2
theorem redge_ret {w : Nat} {src : Option Nat} {s : RS} {H : AHeap} {Q : AVal → AHeap → Prop} (h : RdAt H w src s) (hq : ∀ H', Keep (fun j => j = w) H H' → RdAt H' w src (rEdge s).2 → Q (.agg (rEdge s).1.cells) H') : Ret A 66 [.ptr w 0] H Q := by
  refine Ret.of (fn := F66) rfl ?_
  have hw := h.lt
  simp (disch := first | omega | (simp only [nx] <;> omega) | fail) only [vaw, F66, Nat.reduceAdd, Nat.reduceMul, Nat.reduceLeDiff, Nat.reduceEqDiff, ↓reduceIte]
  have k0 : Keep Nothing H (H.new (.cells [.int .i64 0, .int .i64 0, .int .i64 0, .int .i64 0] true)) := (Keep.refl _ _).new _
  refine rfour_ret (h.kept k0) fun H1 k1 h1 n1 => ?_
  have o1 : H1.obj H.next = some (.cells [.int .i64 0, .int .i64 0, .int .i64 0, .int .i64 0] true) := by rw [k1.obj _ (by first | omega | (simp only [next_new, next_upd]; omega)) (by omega)]; simp (disch := first | omega | (simp only [nx] <;> omega) | fail) only [vaim]
  simp only [next_new] at n1
  simp (disch := first | omega | (simp only [nx] <;> omega) | fail) only [vaw, Nat.reduceAdd, Nat.reduceMul, Nat.reduceLeDiff, Nat.reduceEqDiff, ↓reduceIte]
  have k2 : Keep Nothing H1 ((H1.new (.cells [.int .i64 0, .int .i64 0, .int .i64 0, .int .i64 0] true)).upd H1.next (some (.cells [.int .i64 (rFour s).1, .int .i64 0, .int .i64 0, .int .i64 0] true))) := ((Keep.refl _ _).new _).upd (.inl (Nat.le_refl _)) _
  have r : RW H ((H1.new (.cells [.int .i64 0, .int .i64 0, .int .i64 0, .int .i64 0] true)).upd H1.next (some (.cells [.int .i64 (rFour s).1, .int .i64 0, .int .i64 0, .int .i64 0] true))) w src (rFour s).2 H1.next H.next [.int .i64 (rFour s).1, .int .i64 0, .int .i64 0, .int .i64 0] [.int .i64 0, .int .i64 0, .int .i64 0, .int .i64 0] :=
    ⟨(k0.any.trans k1).trans k2.any, h1.kept k2, obj_upd_eq rfl, (k2.old (i := H.next) (by omega)).trans o1, by simp only [next_new, next_upd]; omega, by simp only [next_new, next_upd]; omega, by omega, hw, fun j hj => h.src_lt hj⟩
  generalize (H1.new (.cells [.int .i64 0, .int .i64 0, .int .i64 0, .int .i64 0] true)).upd H1.next (some (.cells [.int .i64 (rFour s).1, .int .i64 0, .int .i64 0, .int .i64 0] true)) = H2 at *
  generalize H1.next = p at *
  unfold rEdge at hq
  simp only at hq
  generalize rFour s = ra at *
  refine r.four fun H3 r3 => ?_
  have q3 := r3.o1
  simp (disch := first | omega | (simp only [nx] <;> omega) | fail) only [vaw, q3, Nat.reduceAdd, Nat.reduceMul, Nat.reduceLeDiff, Nat.reduceEqDiff, ↓reduceIte]
  have r := r3.set [.int .i64 ra.1, .int .i64 (rFour ra.2).1, .int .i64 0, .int .i64 0]
  generalize H3.upd p (some (.cells [.int .i64 ra.1, .int .i64 (rFour ra.2).1, .int .i64 0, .int .i64 0] true)) = H4 at *
  generalize rFour ra.2 = rb at *
  refine r.four fun H3 r3 => ?_
  have q3 := r3.o1
  simp (disch := first | omega | (simp only [nx] <;> omega) | fail) only [vaw, q3, Nat.reduceAdd, Nat.reduceMul, Nat.reduceLeDiff, Nat.reduceEqDiff, ↓reduceIte]
  have r := r3.set [.int .i64 ra.1, .int .i64 rb.1, .int .i64 (rFour rb.2).1, .int .i64 0]
  generalize H3.upd p (some (.cells [.int .i64 ra.1, .int .i64 rb.1, .int .i64 (rFour rb.2).1, .int .i64 0] true)) = H4 at *
  generalize rFour rb.2 = rc at *
  refine r.four fun H3 r3 => ?_
  have q3 := r3.o1
  have q4 := r3.o2
  have lq := r3.lq
  have lw := r3.lw
  have ne := r3.ne
  simp (disch := first | omega | (simp only [nx] <;> omega) | fail) only [vaw, q3, q4, Nat.reduceAdd, Nat.reduceMul, Nat.reduceLeDiff, Nat.reduceEqDiff, ↓reduceIte]
  have r := r3.set [.int .i64 ra.1, .int .i64 rb.1, .int .i64 rc.1, .int .i64 (rFour rc.2).1]
  generalize H3.upd p (some (.cells [.int .i64 ra.1, .int .i64 rb.1, .int .i64 rc.1, .int .i64 (rFour rc.2).1] true)) = H4 at *
  have kk : Keep (fun j => j = H.next) H4 (H4.upd H.next (some (.cells [.int .i64 ra.1, .int .i64 rb.1, .int .i64 rc.1, .int .i64 (rFour rc.2).1] true))) := (Keep.refl (fun j => j = H.next) _).upd (.inr rfl) _
  exact hq _ (r.keep.upd (.inl (Nat.le_refl _)) _) (r.rd.M kk (by omega) (fun j hj => by have := r.ls j hj; omega))
end Go.Proofs.Ytknhlpmmalcchaa
