/- Steps of the walk. -/
import Derived.Test.YtknhlpmmalcchaaI15Fa
import Derived.Test.YtknhlpmmalcchaaI15Vba
import Derived.Test.YtknhlpmmalcchaaI15Pa
import Derived.KernelRfl
set_option linter.all false
set_option linter.unusedVariables false
set_option linter.unusedSimpArgs false
namespace Go.Proofs.Ytknhlpmmalcchaa
open Go Go.VAI
theorem tmod_neg {x n : Int} (hn : 0 < n) (h : x.tmod n < 0) : x.tmod n + n = x % n := by
  have h1 := Int.tmod_eq_emod (a := x) (b := n)
  have h2 := Int.emod_nonneg x (show n ≠ 0 by omega)
  have h3 := Int.emod_lt_of_pos x hn
  by_cases hc : 0 ≤ x ∨ n ∣ x
  · rw [if_pos hc] at h1; omega
  · rw [if_neg hc] at h1; omega
theorem tmod_pos {x n : Int} (hn : 0 < n) (h : ¬ x.tmod n < 0) : x.tmod n = x % n := by
  have h1 := Int.tmod_eq_emod (a := x) (b := n)
  have h2 := Int.emod_nonneg x (show n ≠ 0 by omega)
  have h3 := Int.emod_lt_of_pos x hn
  by_cases hc : 0 ≤ x ∨ n ∣ x
  · rw [if_pos hc] at h1; omega
  · rw [if_neg hc] at h1; omega
theorem within_ret {f : Nat} (hf : A f = some F33) {x n : Int} (hn : 0 < n) (h3 : n < 9223372036854775808) {H : AHeap} {Q : AVal → AHeap → Prop} (hq : Q (.int .i64 (x % n)) H) : Ret A f [.int .i64 x, .int .i64 n] H Q := by
  refine Ret.of (fn := F33) hf ?_
  have hn0 : n ≠ 0 := by omega
  have h2 := Int.emod_nonneg x hn0
  have h4 := Int.emod_lt_of_pos x hn
  simp (disch := omega) only [vai, F33]
  refine condK_split (fun hc => ?_) (fun hc => ?_)
  · have e := tmod_neg hn hc
    simp (disch := omega) only [vai, e, wrap64]
    exact hq
  · have e := tmod_pos hn hc
    simp (disch := omega) only [vai, e]
    exact hq
end Go.Proofs.Ytknhlpmmalcchaa

namespace Go.Proofs.Ytknhlpmmalcchaa
open Go Go.VAI
set_option linter.unusedSimpArgs false

def Edge.cells (e : Edge) : List AVal := [.int .i64 e.src, .int .i64 e.dst, .int .i64 e.mode, .int .i64 e.cost]
def edgeCells (l : List Edge) : List AVal := l.flatMap Edge.cells
def I64 (x : Int) : Prop := -9223372036854775808 ≤ x ∧ x < 9223372036854775808
theorem edgeCells_length (l : List Edge) : (edgeCells l).length = l.length * 4 := by
  induction l with
  | nil => rfl
  | cons e l ih => simp only [edgeCells, List.flatMap_cons, List.length_append] at ih ⊢; rw [ih]; simp [Edge.cells]; omega

end Go.Proofs.Ytknhlpmmalcchaa

namespace Go.Proofs.Ytknhlpmmalcchaa
open Go Go.VAI
set_option linter.unusedSimpArgs false

theorem edge_drop : ∀ (es : List Edge) (i : Nat) (e : Edge), es[i]? = some e → ((edgeCells es).drop (i * 4)).take 4 = e.cells
  | [], i, e, h => by simp at h
  | a :: es, 0, e, h => by
    simp at h; subst h
    simp [edgeCells, Edge.cells]
  | a :: es, i + 1, e, h => by
    have := edge_drop es i e (by simpa using h)
    rw [← this]
    have h4 : (i + 1) * 4 = i * 4 + 4 := by omega
    rw [h4]
    simp [edgeCells, Edge.cells]
theorem edge_at {H : AHeap} {v : AVal} {es : List Edge} (h : Row H v 4 (edgeCells es)) {i : Nat} {e : Edge} (he : es[i]? = some e) : ∃ id off, aindexAddrS 4 v (.int .i64 (i : Int)) = some (.ptr id off) ∧ id < H.next ∧
    (bnd (cellsOf (H.obj id)) fun c => c[off]?) = some (.int .i64 e.src) ∧ (bnd (cellsOf (H.obj id)) fun c => c[off + 1]?) = some (.int .i64 e.dst) ∧ (bnd (cellsOf (H.obj id)) fun c => c[off + 2]?) = some (.int .i64 e.mode) ∧ (bnd (cellsOf (H.obj id)) fun c => c[off + 3]?) = some (.int .i64 e.cost) ∧
    (bnd (cellsOf (H.obj id)) fun c => if off + 4 ≤ c.length then some (AVal.agg ((c.drop off).take 4)) else none) = some (AVal.agg e.cells) := by
  have hi := (List.getElem?_eq_some_iff.1 he).1
  obtain ⟨id, off, c, h1, h2, h3, h4, h5⟩ := h.at (j := i) (k := .i64) (by omega) (by omega) (by rw [edgeCells_length, Int.toNat_natCast]; omega)
  rw [Int.toNat_natCast, edge_drop es i e he] at h5
  rw [cells?_of] at h3
  refine ⟨id, off, h1, h2, ?_⟩
  simp only [h3, bnd, if_pos h4, h5, true_and, and_true]
  exact ⟨cell_at (f := 0) h5 rfl, cell_at (f := 1) h5 rfl, cell_at (f := 2) h5 rfl, cell_at (f := 3) h5 rfl⟩

def picks (p : Edge → Bool) (es : List Edge) (n : Nat) : List Int := ((List.range n).filter fun i => (es[i]?).any p).map Int.ofNat
theorem picks_succ {p : Edge → Bool} {es : List Edge} {n : Nat} {e : Edge} (he : es[n]? = some e) : picks p es (n + 1) = picks p es n ++ if p e then [(n : Int)] else [] := by
  simp only [picks, List.range_succ, List.filter_append, List.map_append, List.filter_cons, List.filter_nil, he, Option.any_some]
  split <;> rfl
theorem picks_length {p : Edge → Bool} {es : List Edge} {n : Nat} : (picks p es n).length ≤ n := by
  simp only [picks, List.length_map]
  exact Nat.le_trans (List.length_filter_le _ _) (by simp)

def modesOf (v : Int) (es : List Edge) : Int := es.foldl (fun s e => if e.src = v ∨ e.dst = v then orI .i64 s (shlI .i64 1 e.mode) else s) 0
end Go.Proofs.Ytknhlpmmalcchaa

namespace Go.Proofs.Ytknhlpmmalcchaa
open Go Go.VAI
set_option linter.unusedSimpArgs false

def modesIn (s : Int) : Nat → Int
  | 0 => 0
  | n + 1 => modesIn s n + andI .i64 (shrI .i64 s n) 1
def linkAt (es : List Edge) (v : Int) : Bool := decide (2 ≤ modesIn (modesOf v es) 5)
def linksOf (N : Nat) (es : List Edge) : List Bool := (List.range N).map fun (v : Nat) => linkAt es (v : Int)
def bools (l : List Bool) : List AVal := l.map AVal.bool
end Go.Proofs.Ytknhlpmmalcchaa

namespace Go.Proofs.Ytknhlpmmalcchaa
open Go Go.VAI
set_option linter.unusedSimpArgs false

def degree (es : List Edge) (v : Int) : Nat := (picks (fun e => decide (e.src = v)) es es.length).length + (picks (fun e => decide (e.dst = v)) es es.length).length
def orderRow (es : List Edge) (d : Int) (n : Nat) : List Int := ((List.range n).filter fun (v : Nat) => !linkAt es v && decide ((degree es v : Int) = d)).map Int.ofNat
def orderOf (N : Nat) (es : List Edge) (k : Nat) : List Int := (List.range k).flatMap fun (d : Nat) => orderRow es d N
theorem linksOf_at {N : Nat} {es : List Edge} {v : Nat} (h : v < N) : (bools (linksOf N es))[v]? = some (.bool (linkAt es v)) := by
  simp [bools, linksOf, h]

end Go.Proofs.Ytknhlpmmalcchaa

namespace Go.Proofs.Ytknhlpmmalcchaa
open Go Go.VAI
set_option linter.unusedSimpArgs false

def Arc.cells (e : Arc) : List AVal := [.int .i64 e.src, .int .i64 e.dst, .int .i64 e.mode, .int .i64 e.cost, .int .i64 e.edge, .int .i64 e.a, .int .i64 e.b]
def arcCells (l : List Arc) : List AVal := l.flatMap Arc.cells

structure Lay (H : AHeap) (w c g : Nat) (N : Nat) (ev rv av uv dv : AVal) (cur : List Int) (gone : List Bool) : Prop where
  obj : H.obj w = some (.cells [.int .i64 N, ev, rv, av, uv, dv, .slice c 0 (N * N * 5) (.exact (N * N * 5)), .slice g 0 N (.exact N)] true)
  curO : H.obj c = some (.cells (ints cur) true)
  goneO : H.obj g = some (.cells (bools gone) true)
  wlt : w < H.next
  clt : c < H.next
  glt : g < H.next
  curLen : cur.length = N * N * 5
  goneLen : gone.length = N
theorem Lay.kept {H H' : AHeap} {w c g N : Nat} {ev rv av uv dv : AVal} {cur : List Int} {gone : List Bool} (h : Lay H w c g N ev rv av uv dv cur gone) (hk : Keep Nothing H H') : Lay H' w c g N ev rv av uv dv cur gone := by
  have := hk.next
  have := h.wlt
  have := h.clt
  have := h.glt
  exact ⟨by rw [hk.obj _ h.wlt (fun h => h)]; exact h.obj, by rw [hk.obj _ h.clt (fun h => h)]; exact h.curO, by rw [hk.obj _ h.glt (fun h => h)]; exact h.goneO, by omega, by omega, by omega, h.curLen, h.goneLen⟩
end Go.Proofs.Ytknhlpmmalcchaa

namespace Go.Proofs.Ytknhlpmmalcchaa
open Go Go.VAI
set_option linter.unusedSimpArgs false

end Go.Proofs.Ytknhlpmmalcchaa

namespace Go.Proofs.Ytknhlpmmalcchaa
open Go Go.VAI
set_option linter.unusedSimpArgs false

end Go.Proofs.Ytknhlpmmalcchaa

namespace Go.Proofs.Ytknhlpmmalcchaa
open Go Go.VAI
set_option linter.unusedSimpArgs false

theorem amkSlice_int {zs : List AVal} {b : Nat} {n : Nat} (h : (n : Int) * b ≤ 140737488355328) (h2 : (n : Int) ≤ 9223372036854775807) : amkSlice zs b (.int .i64 (n : Int)) (.int .i64 (n : Int)) = some (.cells (reps zs n) true, fun y => .slice y 0 n (.exact n)) := by
  simp only [amkSlice, Int.toNat_natCast]
  rw [if_pos ⟨by omega, by omega, h, h2⟩]
theorem _root_.Go.VAI.Row.keepM {H H' : AHeap} {M : Nat → Prop} {v : AVal} {sz : Nat} {cs : List AVal} (h : Row H v sz cs) (hk : Keep M H H') (hM : ∀ j, sid v = some j → ¬ M j) : Row H' v sz cs := by
  cases h with
  | nil => exact .nil
  | mk hid hc hl hcs => exact .mk (Nat.lt_of_lt_of_le hid hk.next) (by rw [cells?_of] at hc ⊢; rw [hk.obj _ hid (hM _ rfl)]; exact hc) hl hcs
end Go.Proofs.Ytknhlpmmalcchaa

namespace Go.Proofs.Ytknhlpmmalcchaa
open Go Go.VAI
set_option linter.unusedSimpArgs false

structure BLay (H : AHeap) (b0 b1 b2 b3 b4 u d N : Nat) (es : List Edge) (ev ew rv av : AVal) (cur : List Int) (gone : List Bool) (us ds : List AVal) : Prop where
  nbox : H.obj b0 = some (.cells [.int .i64 N, ev] true)
  var : H.obj b1 = some (.cells [.int .i64 0, .nilSlice, .nilSlice, .nilSlice, .nilSlice, .nilSlice] true)
  lay : Lay H b4 b2 b3 N ew rv av (.slice u 0 N (.exact N)) (.slice d 0 N (.exact N)) cur gone
  upO : H.obj u = some (.cells us true)
  downO : H.obj d = some (.cells ds true)
  usl : us.length = N
  dsl : ds.length = N
  ord : b0 < b1 ∧ b1 < b2 ∧ b2 < b3 ∧ b3 < b4 ∧ b4 < u ∧ u < d ∧ d < H.next
  ewid : ∀ j, sid ew = some j → b4 < j ∧ j < u
  edges : Row H ew 4 (edgeCells es)
theorem BLay.upd {H H' : AHeap} {b0 b1 b2 b3 b4 u d N : Nat} {es : List Edge} {ev ew rv av rv' av' : AVal} {cur cur' : List Int} {gone gone' : List Bool} {us ds us' ds' : List AVal} (h : BLay H b0 b1 b2 b3 b4 u d N es ev ew rv av cur gone us ds) (hn : H.next ≤ H'.next)
    (hk : ∀ j, j ≤ d → j ≠ b4 → j ≠ b2 → j ≠ b3 → j ≠ u → j ≠ d → H'.obj j = H.obj j) (hlay : Lay H' b4 b2 b3 N ew rv' av' (.slice u 0 N (.exact N)) (.slice d 0 N (.exact N)) cur' gone')
    (hu : H'.obj u = some (.cells us' true)) (hd : H'.obj d = some (.cells ds' true)) (hul : us'.length = N) (hdl : ds'.length = N) : BLay H' b0 b1 b2 b3 b4 u d N es ev ew rv' av' cur' gone' us' ds' := by
  obtain ⟨o1, o2, o3, o4, o5, o6, o7⟩ := h.ord
  refine ⟨by rw [hk b0 (by omega) (by omega) (by omega) (by omega) (by omega) (by omega)]; exact h.nbox, by rw [hk b1 (by omega) (by omega) (by omega) (by omega) (by omega) (by omega)]; exact h.var, hlay, hu, hd, hul, hdl, ⟨o1, o2, o3, o4, o5, o6, by omega⟩, h.ewid, ?_⟩
  have hk2 : Keep (fun j => j ≤ b4 ∨ u ≤ j) H H' := ⟨hn, fun j hj hm => hk j (by omega) (by omega) (by omega) (by omega) (by omega) (by omega)⟩
  exact h.edges.M hk2 (fun j hj => by have := h.ewid j hj; omega)
theorem Lay.M {H H' : AHeap} {M : Nat → Prop} {w c g N : Nat} {ev rv av uv dv : AVal} {cur : List Int} {gone : List Bool} (h : Lay H w c g N ev rv av uv dv cur gone) (hk : Keep M H H') (h1 : ¬ M w) (h2 : ¬ M c) (h3 : ¬ M g) : Lay H' w c g N ev rv av uv dv cur gone := by
  have := hk.next
  have := h.wlt
  have := h.clt
  have := h.glt
  exact ⟨by rw [hk.obj _ h.wlt h1]; exact h.obj, by rw [hk.obj _ h.clt h2]; exact h.curO, by rw [hk.obj _ h.glt h3]; exact h.goneO, by omega, by omega, by omega, h.curLen, h.goneLen⟩
theorem BLay.M {H H' : AHeap} {M : Nat → Prop} {b0 b1 b2 b3 b4 u d N : Nat} {es : List Edge} {ev ew rv av : AVal} {cur : List Int} {gone : List Bool} {us ds : List AVal} (h : BLay H b0 b1 b2 b3 b4 u d N es ev ew rv av cur gone us ds) (hk : Keep M H H') (hM : ∀ j, j ≤ d → ¬ M j) : BLay H' b0 b1 b2 b3 b4 u d N es ev ew rv av cur gone us ds := by
  obtain ⟨o1, o2, o3, o4, o5, o6, o7⟩ := h.ord
  exact h.upd hk.next (fun j hj _ _ _ _ _ => hk.obj j (by omega) (hM j hj)) (h.lay.M hk (hM _ (by omega)) (hM _ (by omega)) (hM _ (by omega))) (by rw [hk.obj _ (by omega) (hM _ (by omega))]; exact h.upO) (by rw [hk.obj _ (by omega) (hM _ (by omega))]; exact h.downO) h.usl h.dsl
theorem BLay.kept {H H' : AHeap} {b0 b1 b2 b3 b4 u d N : Nat} {es : List Edge} {ev ew rv av : AVal} {cur : List Int} {gone : List Bool} {us ds : List AVal} (h : BLay H b0 b1 b2 b3 b4 u d N es ev ew rv av cur gone us ds) (hk : Keep Nothing H H') : BLay H' b0 b1 b2 b3 b4 u d N es ev ew rv av cur gone us ds := by
  obtain ⟨o1, o2, o3, o4, o5, o6, o7⟩ := h.ord
  exact h.upd hk.next (fun j hj _ _ _ _ _ => hk.old (by omega)) (h.lay.kept hk) (by rw [hk.old (by omega)]; exact h.upO) (by rw [hk.old (by omega)]; exact h.downO) h.usl h.dsl
structure IdxAt (H : AHeap) (ew rv av uv dv : AVal) (x : Idx) : Prop where
  es : Row H ew 4 (edgeCells x.es)
  rank : Row H rv 1 (ints x.rank)
  arcs : Row H av 7 (arcCells x.arcs)
  up : RowsOf H uv x.up
  down : RowsOf H dv x.down
theorem IdxAt.kept {H H' : AHeap} {ew rv av uv dv : AVal} {x : Idx} (h : IdxAt H ew rv av uv dv x) (hk : Keep Nothing H H') : IdxAt H' ew rv av uv dv x := ⟨h.es.kept hk, h.rank.kept hk, h.arcs.kept hk, h.up.kept hk, h.down.kept hk⟩
def From (lo : Nat) (H : AHeap) (v : AVal) (sz : Nat) (cs : List AVal) : Prop := Row H v sz cs ∧ ∀ j, sid v = some j → lo ≤ j
theorem From.M {lo : Nat} {M : Nat → Prop} {H H' : AHeap} {v : AVal} {sz : Nat} {cs : List AVal} (h : From lo H v sz cs) (hk : Keep M H H') (hM : ∀ j, M j → j < lo) : From lo H' v sz cs := ⟨h.1.M hk (fun j hj e => by have := h.2 j hj; have := hM j e; omega), h.2⟩
def FromRows (lo : Nat) (H : AHeap) (v : AVal) (ll : List (List Int)) : Prop := ∃ vs, From lo H v 1 vs ∧ vs.length = ll.length ∧ ∀ (i : Nat) r l, vs[i]? = some r → ll[i]? = some l → From lo H r 1 (ints l)
theorem FromRows.M {lo : Nat} {M : Nat → Prop} {H H' : AHeap} {v : AVal} {ll : List (List Int)} (h : FromRows lo H v ll) (hk : Keep M H H') (hM : ∀ j, M j → j < lo) : FromRows lo H' v ll := by
  obtain ⟨vs, h1, h2, h3⟩ := h
  exact ⟨vs, h1.M hk hM, h2, fun i r l e1 e2 => (h3 i r l e1 e2).M hk hM⟩
theorem FromRows.rows {lo : Nat} {H : AHeap} {v : AVal} {ll : List (List Int)} (h : FromRows lo H v ll) : RowsOf H v ll := by
  obtain ⟨vs, h1, h2, h3⟩ := h
  exact ⟨vs, h1.1, h2, fun i r l e1 e2 => (h3 i r l e1 e2).1⟩
structure IdxFrom (lo : Nat) (H : AHeap) (ew rv av uv dv : AVal) (x : Idx) : Prop where
  es : From lo H ew 4 (edgeCells x.es)
  rank : From lo H rv 1 (ints x.rank)
  arcs : From lo H av 7 (arcCells x.arcs)
  up : FromRows lo H uv x.up
  down : FromRows lo H dv x.down
theorem IdxFrom.M {lo : Nat} {M : Nat → Prop} {H H' : AHeap} {ew rv av uv dv : AVal} {x : Idx} (h : IdxFrom lo H ew rv av uv dv x) (hk : Keep M H H') (hM : ∀ j, M j → j < lo) : IdxFrom lo H' ew rv av uv dv x := ⟨h.es.M hk hM, h.rank.M hk hM, h.arcs.M hk hM, h.up.M hk hM, h.down.M hk hM⟩
theorem IdxFrom.kept {lo : Nat} {H H' : AHeap} {ew rv av uv dv : AVal} {x : Idx} (h : IdxFrom lo H ew rv av uv dv x) (hk : Keep Nothing H H') : IdxFrom lo H' ew rv av uv dv x := h.M hk (fun _ h => h.elim)
def RowsAt (lo : Nat) (H : AHeap) (av : AVal) (us : List AVal) (ul : List (List Int)) : Prop := ∀ (v : Nat) r l, us[v]? = some r → ul[v]? = some l → Row H r 1 (ints l) ∧ ∀ j, sid r = some j → lo ≤ j ∧ sid av ≠ some j
theorem RowsAt.M {lo : Nat} {M : Nat → Prop} {H H' : AHeap} {av av' : AVal} {us : List AVal} {ul : List (List Int)} (h : RowsAt lo H av us ul) (hk : Keep M H H') (hM : ∀ j, M j → j < lo ∨ sid av = some j) (ha : sid av' = sid av ∨ ∃ y, sid av' = some y ∧ H.next ≤ y) : RowsAt lo H' av' us ul := by
  intro v r l h1 h2
  obtain ⟨h3, h4⟩ := h v r l h1 h2
  refine ⟨h3.M hk (fun j hj hm => ?_), fun j hj => ⟨(h4 j hj).1, fun e => ?_⟩⟩
  · rcases hM j hm with h | h
    · have := (h4 j hj).1; omega
    · exact (h4 j hj).2 h
  · rcases ha with ha | ⟨y, ha, hy⟩
    · rw [ha] at e; exact (h4 j hj).2 e
    · rw [ha] at e; injection e with e; subst e
      have := h3.sid_lt hj
      omega
theorem RowsAt.set {lo : Nat} {H : AHeap} {av r : AVal} {us : List AVal} {ul : List (List Int)} {l : List Int} {v : Nat} (h : RowsAt lo H av us ul) (hr : Row H r 1 (ints l)) (hs : ∀ j, sid r = some j → lo ≤ j ∧ sid av ≠ some j) (hlen : us.length = ul.length) : RowsAt lo H av (us.set v r) (ul.set v l) := by
  intro w q m h1 h2
  rw [List.getElem?_set] at h1 h2
  by_cases hvw : v = w
  · subst hvw
    rw [if_pos rfl] at h1 h2
    by_cases hl : v < us.length
    · rw [if_pos hl] at h1; rw [if_pos (by omega)] at h2
      injection h1 with h1; injection h2 with h2; subst h1; subst h2
      exact ⟨hr, hs⟩
    · rw [if_neg hl] at h1; cases h1
  · rw [if_neg hvw] at h1 h2
    exact h w q m h1 h2
end Go.Proofs.Ytknhlpmmalcchaa

namespace Go.Proofs.Ytknhlpmmalcchaa
open Go Go.VAI
set_option linter.unusedSimpArgs false

end Go.Proofs.Ytknhlpmmalcchaa

namespace Go.Proofs.Ytknhlpmmalcchaa
open Go Go.VAI
set_option linter.unusedSimpArgs false

structure EncAt (H0 H : AHeap) (x : List AVal) (bv : AVal) (bs : List Int) : Prop where
  keep : Keep Nothing H0 H
  lt : H0.next + 3 ≤ H.next
  box : H.obj H0.next = some (.cells x true)
  w : H.obj (H0.next + 1 + 1) = some (.cells [bv] true)
  own : Own (H0.next + 1) H bv 1 (u8s bs)
  ne : sid bv ≠ some (H0.next + 1 + 1)
theorem EncAt.kept {H0 H H' : AHeap} {x : List AVal} {bv : AVal} {bs : List Int} (h : EncAt H0 H x bv bs) (hk : Keep Nothing H H') : EncAt H0 H' x bv bs := by
  have := h.lt
  exact ⟨h.keep.trans hk, by have := hk.next; omega, by rw [hk.old (by omega)]; exact h.box, by rw [hk.old (by omega)]; exact h.w, h.own.kept hk, h.ne⟩
end Go.Proofs.Ytknhlpmmalcchaa

namespace Go.Proofs.Ytknhlpmmalcchaa
open Go Go.VAI
set_option linter.unusedSimpArgs false

end Go.Proofs.Ytknhlpmmalcchaa

namespace Go.Proofs.Ytknhlpmmalcchaa
open Go Go.VAI
set_option linter.unusedSimpArgs false

structure RS where
  left : List Int
  bad : Bool
  deriving DecidableEq, Inhabited
def Bytes (l : List Int) : Prop := ∀ b ∈ l, 0 ≤ b ∧ b < 256
def RdAt (H : AHeap) (w : Nat) (src : Option Nat) (s : RS) : Prop := ∃ lv, H.obj w = some (.cells [lv, .bool s.bad] true) ∧ RowC H lv 1 (u8s s.left) ∧ sid lv = src ∧ w < H.next ∧ src ≠ some w ∧ Bytes s.left ∧ s.left.length ≤ 4611686018427387904
theorem RdAt.M {M : Nat → Prop} {H H' : AHeap} {w : Nat} {src : Option Nat} {s : RS} (h : RdAt H w src s) (hk : Keep M H H') (hw : ¬ M w) (hs : ∀ j, src = some j → ¬ M j) : RdAt H' w src s := by
  obtain ⟨lv, h1, h2, h3, h4, h5, h6, h7⟩ := h
  exact ⟨lv, by rw [hk.obj w h4 hw]; exact h1, h2.M hk (fun j hj => hs j (by rw [← h3]; exact hj)), h3, by have := hk.next; omega, h5, h6, h7⟩
theorem RdAt.kept {H H' : AHeap} {w : Nat} {src : Option Nat} {s : RS} (h : RdAt H w src s) (hk : Keep Nothing H H') : RdAt H' w src s := h.M hk (fun h => h) (fun _ _ h => h)
end Go.Proofs.Ytknhlpmmalcchaa

namespace Go.Proofs.Ytknhlpmmalcchaa
open Go Go.VAI
set_option linter.unusedSimpArgs false

theorem RdAt.bytes {H : AHeap} {w : Nat} {src : Option Nat} {s : RS} (h : RdAt H w src s) : Bytes s.left := by
  obtain ⟨lv, h1, h2, h3, h4, h5, h6, h7⟩ := h
  exact h6
theorem RdAt.lt {H : AHeap} {w : Nat} {src : Option Nat} {s : RS} (h : RdAt H w src s) : w < H.next := by
  obtain ⟨lv, h1, h2, h3, h4, h5, h6, h7⟩ := h
  exact h4
structure RW (H0 H : AHeap) (w : Nat) (src : Option Nat) (s : RS) (p q : Nat) (cs zs : List AVal) : Prop where
  keep : Keep (fun j => j = w) H0 H
  rd : RdAt H w src s
  o1 : H.obj p = some (.cells cs true)
  o2 : H.obj q = some (.cells zs true)
  lp : H0.next ≤ p ∧ p < H.next
  lq : H0.next ≤ q ∧ q < H.next
  ne : p ≠ q
  lw : w < H0.next
  ls : ∀ j, src = some j → j < H0.next
theorem RW.set {H0 H : AHeap} {w p q : Nat} {src : Option Nat} {s : RS} {cs zs : List AVal} (h : RW H0 H w src s p q cs zs) (cs' : List AVal) : RW H0 (H.upd p (some (.cells cs' true))) w src s p q cs' zs := by
  have l1 := h.lp
  have l2 := h.lq
  have l3 := h.lw
  have kk : Keep (fun j => j = p) H (H.upd p (some (.cells cs' true))) := (Keep.refl (fun j => j = p) _).upd (.inr rfl) _
  refine ⟨h.keep.upd (.inl l1.1) _, h.rd.M kk (by omega) (fun j hj => by have := h.ls j hj; omega), obj_upd_eq rfl, ?_, l1, l2, h.ne, h.lw, h.ls⟩
  rw [obj_upd_ne (fun e => h.ne e.symm)]; exact h.o2
end Go.Proofs.Ytknhlpmmalcchaa

namespace Go.Proofs.Ytknhlpmmalcchaa
open Go Go.VAI
set_option linter.unusedSimpArgs false

theorem cloneE_ret {v : AVal} {es : List Edge} {H : AHeap} {Q : AVal → AHeap → Prop} (hr : Row H v 4 (edgeCells es)) (hlen : es.length ≤ 1000000000)
    (hq : ∀ v' H', Keep Nothing H H' → Own H.next H' v' 4 (edgeCells es) → Q v' H') : Ret A 69 [v] H Q := by
  refine Ret.of (fn := F69) rfl ?_
  rcases hr.nilTest with ⟨rfl, h1, _⟩ | h1
  · simp (disch := first | omega | (simp only [nx] <;> omega) | fail) only [vaw, F69, Nat.reduceAdd, Nat.reduceMul, Nat.reduceLeDiff, Nat.reduceEqDiff, ↓reduceIte]
    refine hq _ _ (.refl _ _) ?_
    rw [h1]; exact .nil
  · simp (disch := first | omega | (simp only [nx] <;> omega) | fail) only [vaw, F69, h1, Nat.reduceAdd, Nat.reduceMul, Nat.reduceLeDiff, Nat.reduceEqDiff, ↓reduceIte]
    refine copy_ret (n := es.length) (by simp (disch := first | omega | (simp only [nx] <;> omega) | fail) only [vaim]) (by first | omega | (simp only [next_new, next_upd]; omega)) (hr.kept ((Keep.refl _ _).new _)) (edgeCells_length es) (by omega) (by omega) (by omega) ?_
    intro v' H' k' g' s'
    simp (disch := first | omega | (simp only [nx] <;> omega) | fail) only [vaw, g'.notBot, Nat.reduceAdd, Nat.reduceMul, Nat.reduceLeDiff, Nat.reduceEqDiff, ↓reduceIte]
    exact hq _ _ (((Keep.refl _ _).new _).trans k') g'
theorem cloneI_ret {v : AVal} {es : List Int} {H : AHeap} {Q : AVal → AHeap → Prop} (hr : Row H v 1 (ints es)) (hlen : es.length ≤ 1000000000)
    (hq : ∀ v' H', Keep Nothing H H' → Own H.next H' v' 1 (ints es) → Q v' H') : Ret A 70 [v] H Q := by
  refine Ret.of (fn := F70) rfl ?_
  rcases hr.nilTest with ⟨rfl, h1, _⟩ | h1
  · simp (disch := first | omega | (simp only [nx] <;> omega) | fail) only [vaw, F70, Nat.reduceAdd, Nat.reduceMul, Nat.reduceLeDiff, Nat.reduceEqDiff, ↓reduceIte]
    refine hq _ _ (.refl _ _) ?_
    rw [h1]; exact .nil
  · simp (disch := first | omega | (simp only [nx] <;> omega) | fail) only [vaw, F70, h1, Nat.reduceAdd, Nat.reduceMul, Nat.reduceLeDiff, Nat.reduceEqDiff, ↓reduceIte]
    refine copy_ret (n := es.length) (by simp (disch := first | omega | (simp only [nx] <;> omega) | fail) only [vaim]) (by first | omega | (simp only [next_new, next_upd]; omega)) (hr.kept ((Keep.refl _ _).new _)) (by rw [ints_length]; omega) (by omega) (by omega) (by omega) ?_
    intro v' H' k' g' s'
    simp (disch := first | omega | (simp only [nx] <;> omega) | fail) only [vaw, g'.notBot, Nat.reduceAdd, Nat.reduceMul, Nat.reduceLeDiff, Nat.reduceEqDiff, ↓reduceIte]
    exact hq _ _ (((Keep.refl _ _).new _).trans k') g'
end Go.Proofs.Ytknhlpmmalcchaa

namespace Go.Proofs.Ytknhlpmmalcchaa
open Go Go.VAI
set_option linter.unusedSimpArgs false

def Says (b : Bool) (p : Prop) : Prop := b = true ↔ p
theorem says_no {p : Prop} (h : ¬ p) : Says false p := ⟨fun e => (by cases e), fun e => absurd e h⟩
theorem says_yes {p : Prop} (h : p) : Says true p := ⟨fun _ => h, fun _ => rfl⟩
end Go.Proofs.Ytknhlpmmalcchaa

namespace Go.Proofs.Ytknhlpmmalcchaa
open Go Go.VAI
set_option linter.unusedSimpArgs false

theorem run_le {rank : List Int} {k : Nat} (h : ∀ j : Nat, j < k → (j : Int) ∈ rank) : k ≤ rank.length := by
  have : ∀ n : Nat, n ≤ k → ∃ l : List Int, l.Nodup ∧ l.length = n ∧ ∀ y ∈ l, y ∈ rank ∧ 0 ≤ y ∧ y < n := by
    intro n
    induction n with
    | zero => intro _; exact ⟨[], by simp, rfl, fun y hy => by simp at hy⟩
    | succ n ih =>
      intro hn
      obtain ⟨l, l1, l2, l3⟩ := ih (by omega)
      refine ⟨(n : Int) :: l, List.nodup_cons.2 ⟨fun hm => by have := (l3 _ hm).2.2; omega, l1⟩, by simp [l2], fun y hy => ?_⟩
      rcases List.mem_cons.1 hy with rfl | hy
      · exact ⟨h n (by omega), by omega, by omega⟩
      · have := l3 y hy
        exact ⟨this.1, by omega, by omega⟩
  obtain ⟨l, l1, l2, l3⟩ := this k (Nat.le_refl _)
  rw [← l2]
  exact l1.length_le_of_subset (fun y hy => (l3 y hy).1)
theorem max_two {k : IntKind} {x y : Int} : afolds amax2 [.int k x, .int k y] = some (.int k (if x < y then y else x)) := rfl
structure SeenAt (l : List Int) (i : Nat) (S : List Bool) (most : Int) : Prop where
  len : S.length = l.length
  seen : ∀ j : Nat, j < l.length → (S[j]? = some true ↔ (j : Int) ∈ l.take i)
  mem : most = -1 ∨ (0 ≤ most ∧ most ∈ l.take i)
  top : ∀ r ∈ l.take i, r ≤ most
  bd : ∀ r ∈ l.take i, r = -1 ∨ (0 ≤ r ∧ r < l.length)
  own : ∀ (a b : Nat) r, a < i → b < i → 0 ≤ r → l[a]? = some r → l[b]? = some r → a = b
theorem SeenAt.most_lt {l : List Int} {i : Nat} {S : List Bool} {most : Int} (h : SeenAt l i S most) : -1 ≤ most ∧ most < l.length ∨ most = -1 := by
  rcases h.mem with h1 | ⟨h1, h2⟩
  · exact .inr h1
  · rcases h.bd _ h2 with h3 | h3 <;> omega
theorem SeenAt.more {l : List Int} {i : Nat} {S : List Bool} {most : Int} (h : SeenAt l i S most) {r : Nat} (hr : l[i]? = some (r : Int)) (hrl : r < l.length) (hs : S[r]? ≠ some true) : SeenAt l (i + 1) (S.set r true) (if most < r then r else most) := by
  have hil := (List.getElem?_eq_some_iff.1 hr).1
  have htk : l.take (i + 1) = l.take i ++ [(r : Int)] := by
    rw [List.take_succ_eq_append_getElem hil]
    rw [(List.getElem?_eq_some_iff.1 hr).2]
  have hnot : (r : Int) ∉ l.take i := fun hm => hs ((h.seen r hrl).2 hm)
  refine ⟨by simp [h.len], fun j hj => ?_, ?_, fun x hx => ?_, fun x hx => ?_, fun a b x ha hb h0 h1 h2 => ?_⟩
  · rw [htk, List.getElem?_set]
    by_cases hjr : r = j
    · subst hjr
      rw [if_pos rfl, if_pos (by rw [h.len]; exact hj)]
      simp
    · rw [if_neg hjr, h.seen j hj]; simp; omega
  · right
    split
    · exact ⟨by omega, by rw [htk]; simp⟩
    · rcases h.mem with h1 | ⟨h1, h2⟩
      · omega
      · exact ⟨h1, by rw [htk]; simp [h2]⟩
  · rw [htk] at hx
    rcases List.mem_append.1 hx with hx | hx
    · have := h.top x hx; split <;> omega
    · simp at hx; subst hx; split <;> omega
  · rw [htk] at hx
    rcases List.mem_append.1 hx with hx | hx
    · exact h.bd x hx
    · simp at hx; subst hx; right; omega
  · have hmem : ∀ c, c < i → l[c]? = some (r : Int) → False := fun c hc h => hnot (List.mem_of_getElem? (by rw [List.getElem?_take, if_pos hc]; exact h))
    by_cases ea : a = i
    · by_cases eb : b = i
      · omega
      · subst ea; rw [hr] at h1; injection h1 with h1; subst h1; exact (hmem b (by omega) h2).elim
    · by_cases eb : b = i
      · subst eb; rw [hr] at h2; injection h2 with h2; subst h2; exact (hmem a (by omega) h1).elim
      · exact h.own a b x (by omega) (by omega) h0 h1 h2
theorem SeenAt.yes {l : List Int} {S : List Bool} {most : Int} (h : SeenAt l l.length S most) (ha : ∀ j : Nat, (j : Int) < most + 1 → S[j]? = some true) : RanksOk l := by
  have hm := h.most_lt
  have e := h.seen
  have h5 := h.bd
  have h6 := h.top
  rw [List.take_length] at h5 h6
  refine ⟨⟨(most + 1).toNat, fun r hr => ?_, fun j hj => ?_⟩, fun i j r h0 h1 h2 => h.own i j r (List.getElem?_eq_some_iff.1 h1).1 (List.getElem?_eq_some_iff.1 h2).1 h0 h1 h2⟩
  · rcases h5 r hr with h | h
    · exact .inl h
    · have := h6 r hr
      exact .inr (by omega)
  · have := (e j (by omega)).1 (ha j (by omega))
    rwa [List.take_length] at this
theorem SeenAt.no {l : List Int} {S : List Bool} {most : Int} (h : SeenAt l l.length S most) {j : Nat} (hj : (j : Int) < most + 1) (hs : S[j]? ≠ some true) : ¬ RanksOk l := by
  intro hr
  obtain ⟨k, k1, k2⟩ := hr.run
  rcases h.mem with h1 | ⟨h1, h2⟩
  · omega
  · rw [List.take_length] at h2
    rcases k1 most h2 with h3 | h3
    · omega
    · have hm := h.most_lt
      have hk := run_le k2
      refine hs ((h.seen j (by omega)).2 ?_)
      rw [List.take_length]
      exact k2 j (by omega)
end Go.Proofs.Ytknhlpmmalcchaa

namespace Go.Proofs.Ytknhlpmmalcchaa
open Go Go.VAI
set_option linter.unusedSimpArgs false

end Go.Proofs.Ytknhlpmmalcchaa

namespace Go.Proofs.Ytknhlpmmalcchaa
open Go Go.VAI
set_option linter.unusedSimpArgs false

end Go.Proofs.Ytknhlpmmalcchaa

namespace Go.Proofs.Ytknhlpmmalcchaa
open Go Go.VAI
set_option linter.unusedSimpArgs false

end Go.Proofs.Ytknhlpmmalcchaa

namespace Go.Proofs.Ytknhlpmmalcchaa
open Go Go.VAI
set_option linter.unusedSimpArgs false

end Go.Proofs.Ytknhlpmmalcchaa

namespace Go.Proofs.Ytknhlpmmalcchaa
open Go Go.VAI
set_option linter.unusedSimpArgs false

end Go.Proofs.Ytknhlpmmalcchaa

namespace Go.Proofs.Ytknhlpmmalcchaa
open Go Go.VAI
set_option linter.unusedSimpArgs false

end Go.Proofs.Ytknhlpmmalcchaa

namespace Go.Proofs.Ytknhlpmmalcchaa
open Go Go.VAI
set_option linter.unusedSimpArgs false

def Fin' (w : Nat) (H : AHeap) (v : AVal) (sz : Nat) (cs : List AVal) : Prop := Row H v sz cs ∧ ∀ j, sid v = some j → w < j
theorem Fin'.M {w : Nat} {M : Nat → Prop} {H H' : AHeap} {v : AVal} {sz : Nat} {cs : List AVal} (h : Fin' w H v sz cs) (hk : Keep M H H') (hM : ∀ j, M j → j ≤ w) : Fin' w H' v sz cs := ⟨h.1.M hk (fun j hj e => by have := h.2 j hj; have := hM j e; omega), h.2⟩
theorem own_fin {w lo : Nat} {H : AHeap} {v : AVal} {sz : Nat} {cs : List AVal} (h : Own lo H v sz cs) (hw : w < lo) : Fin' w H v sz cs := ⟨h.row, fun j hj => by have := (h.sid_ge hj).1; omega⟩
def FinRows (w : Nat) (H : AHeap) (v : AVal) (ll : List (List Int)) : Prop := ∃ vs, Fin' w H v 1 vs ∧ vs.length = ll.length ∧ ∀ (i : Nat) r l, vs[i]? = some r → ll[i]? = some l → Fin' w H r 1 (ints l)
theorem FinRows.M {w : Nat} {M : Nat → Prop} {H H' : AHeap} {v : AVal} {ll : List (List Int)} (h : FinRows w H v ll) (hk : Keep M H H') (hM : ∀ j, M j → j ≤ w) : FinRows w H' v ll := by
  obtain ⟨vs, h1, h2, h3⟩ := h
  exact ⟨vs, h1.M hk hM, h2, fun i r l e1 e2 => (h3 i r l e1 e2).M hk hM⟩
theorem FinRows.rows {w : Nat} {H : AHeap} {v : AVal} {ll : List (List Int)} (h : FinRows w H v ll) : RowsOf H v ll := by
  obtain ⟨vs, h1, h2, h3⟩ := h
  exact ⟨vs, h1.1, h2, fun i r l e1 e2 => (h3 i r l e1 e2).1⟩
theorem RowsAt.fin {lo w : Nat} {H : AHeap} {av : AVal} {us : List AVal} {ul : List (List Int)} (h : RowsAt lo H av us ul) (ha : Own lo H av 1 us) (hlen : us.length = ul.length) (hw : w < lo) : FinRows w H av ul :=
  ⟨us, own_fin ha hw, hlen, fun i r l e1 e2 => ⟨(h i r l e1 e2).1, fun j hj => by have := ((h i r l e1 e2).2 j hj).1; omega⟩⟩
structure DecAt (H0 : AHeap) (q w : Nat) (src : Option Nat) (H : AHeap) (cs : List AVal) (s : RS) : Prop where
  keep : Keep Nothing H0 H
  op : H.obj H0.next = some (.cells [.int .i64 0, .nilSlice, .nilSlice, .nilSlice, .nilSlice, .nilSlice] true)
  ob : H.obj q = some (.cells cs true)
  rd : RdAt H w src s
  len : s.left.length ≤ 1000000000
  lq : H0.next < q
  lw : q < w
  ls : ∀ j, src = some j → j < H0.next
theorem DecAt.lt {H0 : AHeap} {q w : Nat} {src : Option Nat} {H : AHeap} {cs : List AVal} {s : RS} (h : DecAt H0 q w src H cs s) : w < H.next := h.rd.lt
theorem DecAt.read {H0 : AHeap} {q w : Nat} {src : Option Nat} {H H' : AHeap} {cs : List AVal} {s s' : RS} (h : DecAt H0 q w src H cs s) (hk : Keep (fun j => j = w) H H') (hr : RdAt H' w src s') (hl : s'.left.length ≤ s.left.length) : DecAt H0 q w src H' cs s' := by
  have h1 := h.lt
  have h2 := h.lq
  have h3 := h.lw
  have h4 := h.len
  have h5 := h.keep.next
  exact ⟨⟨by have := hk.next; omega, fun j hj _ => by rw [hk.obj j (by omega) (by omega), h.keep.old hj]⟩, by rw [hk.obj _ (by omega) (by omega)]; exact h.op, by rw [hk.obj _ (by omega) (by omega)]; exact h.ob, hr, by omega, h2, h3, h.ls⟩
theorem DecAt.put {H0 : AHeap} {q w : Nat} {src : Option Nat} {H : AHeap} {cs : List AVal} {s : RS} (h : DecAt H0 q w src H cs s) (cs' : List AVal) : DecAt H0 q w src (H.upd q (some (.cells cs' true))) cs' s := by
  have h1 := h.lt
  have h2 := h.lq
  have h3 := h.lw
  have h5 := h.keep.next
  have kk : Keep (fun j => j = q) H (H.upd q (some (.cells cs' true))) := (Keep.refl (fun j => j = q) _).upd (.inr rfl) _
  exact ⟨h.keep.upd (.inl (by omega)) _, by rw [obj_upd_ne (by omega)]; exact h.op, obj_upd_eq rfl, h.rd.M kk (by omega) (fun j hj => by have := h.ls j hj; omega), h.len, h2, h3, h.ls⟩
theorem DecAt.grow {H0 : AHeap} {q w lo : Nat} {src : Option Nat} {H H' : AHeap} {cs : List AVal} {s : RS} {M : Nat → Prop} (h : DecAt H0 q w src H cs s) (hk : Keep M H H') (hM : ∀ j, M j → lo ≤ j) (hlo : w < lo) : DecAt H0 q w src H' cs s := by
  have h1 := h.lt
  have h2 := h.lq
  have h3 := h.lw
  have h5 := h.keep.next
  have hm : ∀ j, j ≤ w → ¬ M j := fun j hj hm => by have := hM j hm; omega
  exact ⟨⟨by have := hk.next; omega, fun j hj _ => by rw [hk.obj j (by omega) (hm j (by omega)), h.keep.old hj]⟩, by rw [hk.obj _ (by omega) (hm _ (by omega))]; exact h.op, by rw [hk.obj _ (by omega) (hm _ (by omega))]; exact h.ob, h.rd.M hk (hm w (by omega)) (fun j hj => hm j (by have := h.ls j hj; omega)), h.len, h2, h3, h.ls⟩
theorem DecAt.kept {H0 : AHeap} {q w : Nat} {src : Option Nat} {H H' : AHeap} {cs : List AVal} {s : RS} (h : DecAt H0 q w src H cs s) (hk : Keep Nothing H H') : DecAt H0 q w src H' cs s := h.grow (lo := w + 1) hk (fun _ h => h.elim) (by omega)
theorem IdxAt.fin {w : Nat} {Hs H : AHeap} {ew rv av uv dv : AVal} {x : Idx} (hk : Keep (fun j => j ≤ w) Hs H) (he : Fin' w Hs ew 4 (edgeCells x.es)) (hr : Fin' w Hs rv 1 (ints x.rank)) (ha : Fin' w Hs av 7 (arcCells x.arcs)) (hu : FinRows w Hs uv x.up) (hd : FinRows w Hs dv x.down) : IdxAt H ew rv av uv dv x :=
  ⟨(he.M hk (fun _ h => h)).1, (hr.M hk (fun _ h => h)).1, (ha.M hk (fun _ h => h)).1, (hu.M hk (fun _ h => h)).rows, (hd.M hk (fun _ h => h)).rows⟩
section
variable {K : CallW} {t : Tmps} {H : AHeap} {Q : PostT}
end
end Go.Proofs.Ytknhlpmmalcchaa

namespace Go.Proofs.Ytknhlpmmalcchaa
open Go Go.VAI
set_option linter.unusedSimpArgs false

end Go.Proofs.Ytknhlpmmalcchaa

namespace Go.Proofs.Ytknhlpmmalcchaa
open Go Go.VAI
set_option linter.unusedSimpArgs false

end Go.Proofs.Ytknhlpmmalcchaa

namespace Go.Proofs.Ytknhlpmmalcchaa
open Go Go.VAI
set_option linter.unusedSimpArgs false

structure MarkAt (n : Nat) (l : List Int) (i : Nat) (S : List Bool) : Prop where
  len : S.length = n
  seen : ∀ j : Nat, j < n → (S[j]? = some true ↔ (j : Int) ∈ l.take i)
  nd : (l.take i).Nodup
theorem MarkAt.more {n : Nat} {l : List Int} {i : Nat} {S : List Bool} (h : MarkAt n l i S) {r : Nat} (hr : l[i]? = some (r : Int)) (hrl : r < n) (hs : S[r]? ≠ some true) : MarkAt n l (i + 1) (S.set r true) := by
  have hil := (List.getElem?_eq_some_iff.1 hr).1
  have htk : l.take (i + 1) = l.take i ++ [(r : Int)] := by
    rw [List.take_succ_eq_append_getElem hil]
    rw [(List.getElem?_eq_some_iff.1 hr).2]
  have hnot : (r : Int) ∉ l.take i := fun hm => hs ((h.seen r hrl).2 hm)
  refine ⟨by simp [h.len], fun j hj => ?_, ?_⟩
  · rw [htk, List.getElem?_set]
    by_cases hjr : r = j
    · subst hjr
      rw [if_pos rfl, if_pos (by rw [h.len]; exact hj)]
      simp
    · rw [if_neg hjr, h.seen j hj]; simp; omega
  · rw [htk]
    exact List.nodup_append.2 ⟨h.nd, by simp, fun a ha b hb => by simp at hb; subst hb; intro e; subst e; exact hnot ha⟩
end Go.Proofs.Ytknhlpmmalcchaa

namespace Go.Proofs.Ytknhlpmmalcchaa
open Go Go.VAI
set_option linter.unusedSimpArgs false

structure Reads {α : Type} (f : RS → α × RS) : Prop where
  bad : ∀ s, s.bad = true → (f s).2.bad = true
  ext : ∀ s, (f s).2.bad = false → ∀ r, f ⟨s.left ++ r, s.bad⟩ = ((f s).1, ⟨(f s).2.left ++ r, (f s).2.bad⟩)
def andThen {α β : Type} (f : RS → α × RS) (g : α → RS → β × RS) (s : RS) : β × RS := g (f s).1 (f s).2
theorem Reads.bind {α β : Type} {f : RS → α × RS} {g : α → RS → β × RS} (hf : Reads f) (hg : ∀ a, Reads (g a)) : Reads (andThen f g) := by
  refine ⟨fun s h => (hg _).bad _ (hf.bad s h), fun s h r => ?_⟩
  have hb : (f s).2.bad = false := by
    cases hx : (f s).2.bad with
    | false => rfl
    | true =>
      have := (hg (f s).1).bad _ hx
      unfold andThen at h
      rw [h] at this; cases this
  unfold andThen at h ⊢
  rw [hf.ext s hb r]
  exact (hg _).ext _ h r
theorem Reads.done {α : Type} (a : α) : Reads (fun s : RS => (a, s)) := ⟨fun s h => h, fun s h r => rfl⟩
end Go.Proofs.Ytknhlpmmalcchaa

namespace Go.Proofs.Ytknhlpmmalcchaa
open Go Go.VAI
set_option linter.unusedSimpArgs false

end Go.Proofs.Ytknhlpmmalcchaa

namespace Go.Proofs.Ytknhlpmmalcchaa
open Go Go.VAI
set_option linter.unusedSimpArgs false

structure LongAt (H0 H : AHeap) (n : Int) (ew rv av uv dv ov : AVal) (es : List Edge) (arcs : List Arc) (i : Nat) : Prop where
  keep : Keep Nothing H0 H
  lt : H0.next < H.next
  box : H.obj H0.next = some (.cells [.int .i64 n, ew, rv, av, uv, dv] true)
  own : Own (H0.next + 1) H ov 1 (ints ((sizesOf arcs).take i))
theorem LongAt.kept {H0 H H' : AHeap} {n : Int} {ew rv av uv dv ov : AVal} {es : List Edge} {arcs : List Arc} {i : Nat} (h : LongAt H0 H n ew rv av uv dv ov es arcs i) (hk : Keep Nothing H H') : LongAt H0 H' n ew rv av uv dv ov es arcs i :=
  ⟨h.keep.trans hk, by have := h.lt; have := hk.next; omega, by rw [hk.old h.lt]; exact h.box, h.own.kept hk⟩
end Go.Proofs.Ytknhlpmmalcchaa

namespace Go.Proofs.Ytknhlpmmalcchaa
open Go Go.VAI
set_option linter.unusedSimpArgs false

theorem Bytes.drop' {a b : List Int} (h : Bytes (a ++ b)) : Bytes b := fun x hx => h x (by simp [hx])
theorem nbad {α : Type} {f : RS → α × RS} (hf : Reads f) {s : RS} (h : (f s).2.bad = false) : s.bad = false := by
  cases hx : s.bad with
  | false => rfl
  | true => have := hf.bad s hx; rw [h] at this; cases this
def Writes {α : Type} (f : RS → α × RS) (B : α → List Int) : Prop := ∀ s, Bytes s.left → (f s).2.bad = false → s.left = B (f s).1 ++ (f s).2.left
theorem Writes.bytes {α : Type} {f : RS → α × RS} {B : α → List Int} (h : Writes f B) {s : RS} (hb : Bytes s.left) (hn : (f s).2.bad = false) : Bytes (f s).2.left := by
  have := h s hb hn
  rw [this] at hb
  exact hb.drop'
theorem Writes.bind {α β : Type} {f : RS → α × RS} {g : α → RS → β × RS} {B : α → List Int} {C : α → β → List Int} (hf : Writes f B) (hg : ∀ a, Writes (g a) (C a)) (hr : ∀ a, Reads (g a)) : ∀ s, Bytes s.left → (andThen f g s).2.bad = false → s.left = B (f s).1 ++ (C (f s).1 (andThen f g s).1 ++ (andThen f g s).2.left) := by
  intro s hb hn
  have h1 : (f s).2.bad = false := nbad (hr _) hn
  have h2 := hf s hb h1
  have h3 := hg (f s).1 (f s).2 (hf.bytes hb h1) hn
  conv => lhs; rw [h2]
  congr 1
def Takes {β : Type} (h : RS → β × RS) (R : β → List Int → Prop) : Prop := ∀ s, Bytes s.left → (h s).2.bad = false → ∃ l, R (h s).1 l ∧ s.left = l ++ (h s).2.left
theorem Takes.done {β : Type} (x : β) : Takes (fun s : RS => (x, s)) (fun r l => r = x ∧ l = []) := fun s _ _ => ⟨[], ⟨rfl, rfl⟩, rfl⟩
theorem Takes.bind {α β : Type} {f : RS → α × RS} {g : α → RS → β × RS} {R1 : α → List Int → Prop} {R2 : α → β → List Int → Prop} (hf : Takes f R1) (hg : ∀ a, Takes (g a) (R2 a)) (hr : ∀ a, Reads (g a)) : Takes (andThen f g) (fun r l => ∃ a l1 l2, R1 a l1 ∧ R2 a r l2 ∧ l = l1 ++ l2) := by
  intro s hb hn
  have h1 : (f s).2.bad = false := nbad (hr _) hn
  obtain ⟨l1, q1, e1⟩ := hf s hb h1
  have hb2 : Bytes (f s).2.left := by
    rw [e1] at hb
    exact hb.drop'
  obtain ⟨l2, q2, e2⟩ := hg (f s).1 (f s).2 hb2 hn
  refine ⟨l1 ++ l2, ⟨(f s).1, l1, l2, q1, q2, rfl⟩, ?_⟩
  rw [e1, e2, List.append_assoc]
  rfl
end Go.Proofs.Ytknhlpmmalcchaa

namespace Go.Proofs.Ytknhlpmmalcchaa
open Go Go.VAI
set_option linter.unusedSimpArgs false

end Go.Proofs.Ytknhlpmmalcchaa

namespace Go.Proofs.Ytknhlpmmalcchaa
open Go Go.VAI
set_option linter.unusedSimpArgs false

end Go.Proofs.Ytknhlpmmalcchaa

namespace Go.Proofs.Ytknhlpmmalcchaa
open Go Go.VAI
set_option linter.unusedSimpArgs false

theorem Bytes.flat {α : Type} {f : α → List Int} {l : List α} (h : ∀ a, Bytes (f a)) : Bytes (l.flatMap f) := fun x hx => by
  obtain ⟨a, _, ha⟩ := List.mem_flatMap.1 hx
  exact h a x ha
end Go.Proofs.Ytknhlpmmalcchaa

namespace Go.Proofs.Ytknhlpmmalcchaa
open Go Go.VAI
set_option linter.unusedSimpArgs false

end Go.Proofs.Ytknhlpmmalcchaa

namespace Go.Proofs.Ytknhlpmmalcchaa
open Go Go.VAI
set_option linter.unusedSimpArgs false

end Go.Proofs.Ytknhlpmmalcchaa

namespace Go.Proofs.Ytknhlpmmalcchaa
open Go Go.VAI
set_option linter.unusedSimpArgs false

theorem take_eq_succ {α : Type} {l m : List α} {i : Nat} {x : α} (h : l.take i = m.take i) (hl : l[i]? = some x) (hm : m[i]? = some x) : l.take (i + 1) = m.take (i + 1) := by
  obtain ⟨a, b⟩ := List.getElem?_eq_some_iff.1 hl
  obtain ⟨c, d⟩ := List.getElem?_eq_some_iff.1 hm
  rw [List.take_succ_eq_append_getElem a, List.take_succ_eq_append_getElem c, h, b, d]
theorem take_all_eq {α : Type} {l m : List α} (hn : l.length = m.length) (h : l.take l.length = m.take l.length) : l = m := by
  rw [List.take_length, hn, List.take_length] at h
  exact h
set_option maxRecDepth 20000 in
theorem ints_ret {lv mv : AVal} {l m : List Int} {H : AHeap} {Q : AVal → AHeap → Prop} (hl : Row H lv 1 (ints l)) (hm : Row H mv 1 (ints m)) (hlen : l.length ≤ 4611686018427387904) (hq : ∀ b, Says b (l = m) → Q (.bool b) H) : Ret A 40 [lv, mv] H Q := by
  refine Ret.of (fn := F40) rfl ?_
  have h1 := hl.len1
  have h2 := hm.len1
  rw [ints_length] at h1 h2
  by_cases hn : (l.length : Int) = m.length
  · simp (disch := first | omega | (simp only [nx] <;> omega) | fail) only [vaw, F40, h1, h2, hn, ne_eq, not_true_eq_false, Nat.reduceAdd, Nat.reduceMul, Nat.reduceLeDiff, Nat.reduceEqDiff, ↓reduceIte]
    refine wpx_loop (fun k t H' => ∃ (i : Nat), k = l.length - i ∧ i ≤ l.length ∧ t = (lv :: mv :: bots 3 (.int .i64 i :: bots 20 ([])) : Tmps) ∧ H' = H ∧ l.take i = m.take i) l.length ?_ ?_
    · exact ⟨0, rfl, by omega, rfl, rfl, by simp⟩
    · rintro k t H1 ⟨i, rfl, hi, rfl, rfl, hin⟩
      by_cases hc : (i : Int) < m.length
      · have hil : i < l.length := by omega
        have him : i < m.length := by omega
        have ex : l[i]? = some l[i] := by simp [hil]
        have ey : m[i]? = some m[i] := by simp [him]
        obtain ⟨ix, ox, x1, x2, x3⟩ := hl.int_at (k := .i64) ex
        obtain ⟨iy, oy, y1, y2, y3⟩ := hm.int_at (k := .i64) ey
        have hne : l[i] ≠ m[i] → l ≠ m := fun h e => h (by subst e; rfl)
        generalize l[i] = x at *
        generalize m[i] = y at *
        by_cases hxy : x = y
        · subst hxy
          simp (disch := first | omega | (simp only [nx] <;> omega) | fail) only [vaw, h1, hn, hc, x1, x3, y1, y3, ne_eq, not_true_eq_false, Nat.reduceAdd, Nat.reduceMul, Nat.reduceLeDiff, Nat.reduceEqDiff, ↓reduceIte]
          exact ⟨l.length - (i + 1), by omega, i + 1, rfl, by omega, rfl, take_eq_succ hin ex ey⟩
        · simp (disch := first | omega | (simp only [nx] <;> omega) | fail) only [vaw, h1, hn, hc, x1, x3, y1, y3, hxy, ne_eq, not_true_eq_false, not_false_eq_true, Nat.reduceAdd, Nat.reduceMul, Nat.reduceLeDiff, Nat.reduceEqDiff, ↓reduceIte]
          exact hq _ (says_no (hne hxy))
      · have : i = l.length := by omega
        subst this
        simp (disch := first | omega | (simp only [nx] <;> omega) | fail) only [vaw, h1, hn, hc, Int.lt_irrefl, Nat.reduceAdd, Nat.reduceMul, Nat.reduceLeDiff, Nat.reduceEqDiff, ↓reduceIte]
        exact hq _ (says_yes (take_all_eq (by omega) hin))
  · simp (disch := first | omega | (simp only [nx] <;> omega) | fail) only [vaw, F40, h1, h2, hn, ne_eq, not_false_eq_true, Nat.reduceAdd, Nat.reduceMul, Nat.reduceLeDiff, Nat.reduceEqDiff, ↓reduceIte]
    exact hq _ (says_no fun e => hn (by rw [e]))
end Go.Proofs.Ytknhlpmmalcchaa

namespace Go.Proofs.Ytknhlpmmalcchaa
open Go Go.VAI
set_option linter.unusedSimpArgs false

end Go.Proofs.Ytknhlpmmalcchaa

namespace Go.Proofs.Ytknhlpmmalcchaa
open Go Go.VAI
set_option linter.unusedSimpArgs false

structure EncR (H0 H : AHeap) (x : List AVal) (bv : AVal) (bs : List Int) : Prop where
  keep : Keep Nothing H0 H
  lt : H0.next < H.next
  box : H.obj H0.next = some (.cells x true)
  own : Own (H0.next + 1) H bv 1 (u8s bs)
theorem EncR.kept {H0 H H' : AHeap} {x : List AVal} {bv : AVal} {bs : List Int} (h : EncR H0 H x bv bs) (hk : Keep Nothing H H') : EncR H0 H' x bv bs := by
  have := h.lt
  exact ⟨h.keep.trans hk, by have := hk.next; omega, by rw [hk.old (by omega)]; exact h.box, h.own.kept hk⟩
theorem EncR.step {H0 H H' : AHeap} {x : List AVal} {bv bv' : AVal} {bs bs' : List Int} (h : EncR H0 H x bv bs) (hk : Keep (fun j => sid bv = some j) H H') (g : Own (H0.next + 1) H' bv' 1 (u8s bs')) : EncR H0 H' x bv' bs' := by
  have hlt := h.lt
  have hs : ∀ j, sid bv = some j → H0.next + 1 ≤ j := fun j hj => (h.own.sid_ge hj).1
  exact ⟨h.keep.trans' hk (fun j hj e => by have := hs j e; omega), by have := hk.next; omega, by rw [hk.obj _ (by omega) (fun e => by have := hs _ e; omega)]; exact h.box, g⟩
end Go.Proofs.Ytknhlpmmalcchaa

namespace Go.Proofs.Ytknhlpmmalcchaa
open Go Go.VAI
set_option linter.unusedSimpArgs false

end Go.Proofs.Ytknhlpmmalcchaa

namespace Go.Proofs.Ytknhlpmmalcchaa
open Go Go.VAI
set_option linter.unusedSimpArgs false

end Go.Proofs.Ytknhlpmmalcchaa

namespace Go.Proofs.Ytknhlpmmalcchaa
open Go Go.VAI
set_option linter.unusedSimpArgs false

structure RdgAt (H0 : AHeap) (q w : Nat) (src : Option Nat) (H : AHeap) (cs : List AVal) (s : RS) : Prop where
  keep : Keep (fun j => j = w) H0 H
  op : H.obj H0.next = some (.cells [.int .i64 0, .nilSlice, .nilSlice, .nilSlice, .nilSlice, .nilSlice] true)
  ob : H.obj q = some (.cells cs true)
  rd : RdAt H w src s
  len : s.left.length ≤ 1000000000
  lq : H0.next < q
  lh : q < H.next
  lw : w < H0.next
  ls : ∀ j, src = some j → j < H0.next
theorem RdgAt.grow {H0 : AHeap} {q w : Nat} {src : Option Nat} {H H' : AHeap} {cs : List AVal} {s : RS} {M : Nat → Prop} (h : RdgAt H0 q w src H cs s) (hk : Keep M H H') (hM : ∀ j, M j → q < j) : RdgAt H0 q w src H' cs s := by
  have h2 := h.lq
  have h3 := h.lw
  have h4 := h.lh
  have h5 := h.keep.next
  have hm : ∀ j, j ≤ q → ¬ M j := fun j hj hm => by have := hM j hm; omega
  exact ⟨⟨by have := hk.next; omega, fun j hj hw => by rw [hk.obj j (by omega) (hm j (by omega)), h.keep.obj j hj hw]⟩, by rw [hk.obj _ (by omega) (hm _ (by omega))]; exact h.op, by rw [hk.obj _ (by omega) (hm _ (by omega))]; exact h.ob, h.rd.M hk (hm w (by omega)) (fun j hj => hm j (by have := h.ls j hj; omega)), h.len, h2, by have := hk.next; omega, h3, h.ls⟩
theorem RdgAt.kept {H0 : AHeap} {q w : Nat} {src : Option Nat} {H H' : AHeap} {cs : List AVal} {s : RS} (h : RdgAt H0 q w src H cs s) (hk : Keep Nothing H H') : RdgAt H0 q w src H' cs s := h.grow hk (fun _ h => h.elim)
theorem RdgAt.upd {H0 : AHeap} {q w y : Nat} {src : Option Nat} {H : AHeap} {cs : List AVal} {s : RS} (h : RdgAt H0 q w src H cs s) (hy : q < y) (o : Option AObj) : RdgAt H0 q w src (H.upd y o) cs s :=
  h.grow (M := fun j => j = y) ((Keep.refl (fun j => j = y) _).upd (.inr rfl) _) (fun j e => by omega)
theorem RdgAt.read {H0 : AHeap} {q w : Nat} {src : Option Nat} {H H' : AHeap} {cs : List AVal} {s s' : RS} (h : RdgAt H0 q w src H cs s) (hk : Keep (fun j => j = w) H H') (hr : RdAt H' w src s') (hl : s'.left.length ≤ s.left.length) : RdgAt H0 q w src H' cs s' := by
  have h2 := h.lq
  have h3 := h.lw
  have h4 := h.lh
  have h5 := h.keep.next
  have h6 := h.len
  exact ⟨⟨by have := hk.next; omega, fun j hj hw => by rw [hk.obj j (by omega) hw, h.keep.obj j hj hw]⟩, by rw [hk.obj _ (by omega) (by omega)]; exact h.op, by rw [hk.obj _ (by omega) (by omega)]; exact h.ob, hr, by omega, h2, by have := hk.next; omega, h3, h.ls⟩
theorem RdgAt.put {H0 : AHeap} {q w : Nat} {src : Option Nat} {H : AHeap} {cs : List AVal} {s : RS} (h : RdgAt H0 q w src H cs s) (cs' : List AVal) : RdgAt H0 q w src (H.upd q (some (.cells cs' true))) cs' s := by
  have h2 := h.lq
  have h3 := h.lw
  have h4 := h.lh
  have h5 := h.keep.next
  have kk : Keep (fun j => j = q) H (H.upd q (some (.cells cs' true))) := (Keep.refl (fun j => j = q) _).upd (.inr rfl) _
  exact ⟨h.keep.upd (.inl (by omega)) _, by rw [obj_upd_ne (by omega)]; exact h.op, obj_upd_eq rfl, h.rd.M kk (by omega) (fun j hj => by have := h.ls j hj; omega), h.len, h2, h4, h3, h.ls⟩
theorem RdgAt.set {H0 : AHeap} {q w y : Nat} {src : Option Nat} {Ha H : AHeap} {cs zs : List AVal} {s : RS} (h : RdgAt H0 q w src H cs s) (hk : Keep (fun j => j = w) Ha H) (hy : Ha.next ≤ y ∧ y < H.next) (hqa : q < Ha.next) :
    RdgAt H0 q w src (H.upd y (some (.cells zs true))) cs s ∧ Keep (fun j => j = w) Ha (H.upd y (some (.cells zs true))) ∧ (H.upd y (some (.cells zs true))).obj y = some (.cells zs true) ∧ (H.upd y (some (.cells zs true))).next = H.next :=
  ⟨h.upd (by omega) _, hk.upd (.inl (by omega)) _, obj_upd_eq rfl, by simp only [next_upd]⟩
end Go.Proofs.Ytknhlpmmalcchaa

namespace Go.Proofs.Ytknhlpmmalcchaa
open Go Go.VAI
set_option linter.unusedSimpArgs false

end Go.Proofs.Ytknhlpmmalcchaa

namespace Go.Proofs.Ytknhlpmmalcchaa
open Go Go.VAI
set_option linter.unusedSimpArgs false

end Go.Proofs.Ytknhlpmmalcchaa

namespace Go.Proofs.Ytknhlpmmalcchaa
open Go Go.VAI
set_option linter.unusedSimpArgs false

end Go.Proofs.Ytknhlpmmalcchaa

namespace Go.Proofs.Ytknhlpmmalcchaa
open Go Go.VAI
set_option linter.unusedSimpArgs false

theorem IdxAt.beq {H : AHeap} {ew rv av uv dv : AVal} {x : Idx} (h : IdxAt H ew rv av uv dv x) {n : Int} : AVal.beq (.agg [.int .i64 n, ew, rv, av, uv, dv]) (.agg [.int .i64 n, ew, rv, av, uv, dv]) = true := by
  simp [AVal.beq, AVal.beqs, h.es.beq, h.rank.beq, h.arcs.beq, h.up.beq, h.down.beq]
end Go.Proofs.Ytknhlpmmalcchaa

namespace Go.Proofs.Ytknhlpmmalcchaa
open Go Go.VAI
set_option linter.unusedSimpArgs false

end Go.Proofs.Ytknhlpmmalcchaa

namespace Go.Proofs.Ytknhlpmmalcchaa
open Go Go.VAI
set_option linter.unusedSimpArgs false

end Go.Proofs.Ytknhlpmmalcchaa

namespace Go.Proofs.Ytknhlpmmalcchaa
open Go Go.VAI
set_option linter.unusedSimpArgs false

end Go.Proofs.Ytknhlpmmalcchaa

namespace Go.Proofs.Ytknhlpmmalcchaa
open Go Go.VAI
set_option linter.unusedSimpArgs false

structure BRow (H : AHeap) (v : AVal) (b : List Int) : Prop where
  row : RowC H v 1 (u8s b)
  bytes : Bytes b
  len : b.length ≤ 1000000000
theorem BRow.kept {H H' : AHeap} {v : AVal} {b : List Int} (h : BRow H v b) (hk : Keep Nothing H H') : BRow H' v b := ⟨h.row.kept hk, h.bytes, h.len⟩
end Go.Proofs.Ytknhlpmmalcchaa

namespace Go.Proofs.Ytknhlpmmalcchaa
open Go Go.VAI
set_option linter.unusedSimpArgs false

def In (a b : Nat) (v : AVal) : Prop := ∀ j, sid v = some j → a ≤ j ∧ j < b
structure OwnRows (a b : Nat) (H : AHeap) (av : AVal) (us : List AVal) (ul : List (List Int)) : Prop where
  own : Own a H av 1 us
  len : us.length = ul.length
  rows : ∀ (i : Nat) r l, us[i]? = some r → ul[i]? = some l → Own a H r 1 (ints l)
  apart : ∀ (i : Nat) r j, us[i]? = some r → sid r = some j → sid av ≠ some j
  two : ∀ (i i' : Nat) r r' j, us[i]? = some r → us[i']? = some r' → sid r = some j → sid r' = some j → i = i'
  inA : In a b av
  inR : ∀ (i : Nat) r, us[i]? = some r → In a b r
theorem OwnRows.M {a b : Nat} {M : Nat → Prop} {H H' : AHeap} {av : AVal} {us : List AVal} {ul : List (List Int)} (h : OwnRows a b H av us ul) (hk : Keep M H H') (hM : ∀ j, a ≤ j → j < b → ¬ M j) : OwnRows a b H' av us ul :=
  ⟨h.own.keepM hk (fun j hj => hM j (h.inA j hj).1 (h.inA j hj).2), h.len, fun i r l e1 e2 => (h.rows i r l e1 e2).keepM hk (fun j hj => hM j (h.inR i r e1 j hj).1 (h.inR i r e1 j hj).2), h.apart, h.two, h.inA, h.inR⟩
theorem OwnRows.from {a b lo : Nat} {H : AHeap} {av : AVal} {us : List AVal} {ul : List (List Int)} (h : OwnRows a b H av us ul) (hlo : lo ≤ a) : FromRows lo H av ul :=
  ⟨us, ⟨h.own.row, fun j hj => by have := (h.inA j hj).1; omega⟩, h.len, fun i r l e1 e2 => ⟨(h.rows i r l e1 e2).row, fun j hj => by have := (h.inR i r e1 j hj).1; omega⟩⟩
end Go.Proofs.Ytknhlpmmalcchaa

namespace Go.Proofs.Ytknhlpmmalcchaa
open Go Go.VAI
set_option linter.unusedSimpArgs false

def cmpI (x y : Int) : Int := if x < y then -1 else if y < x then 1 else 0
def orOf : List Int → Int
  | [] => 0
  | x :: l => if x ≠ 0 then x else orOf l
theorem isNaN_ret {x : Int} {H : AHeap} {Q : AVal → AHeap → Prop} (hq : Q (.bool false) H) : Ret A 141 [.int .i64 x] H Q := by
  refine Ret.of (fn := F141) rfl ?_
  simp (disch := first | omega | (simp only [nx] <;> omega) | fail) only [vaw, F141, ne_eq, not_true_eq_false, Nat.reduceAdd, Nat.reduceMul, Nat.reduceLeDiff, Nat.reduceEqDiff, ↓reduceIte]
  exact hq
theorem compare_ret {x y : Int} {H : AHeap} {Q : AVal → AHeap → Prop} (hq : Q (.int .i64 (cmpI x y)) H) : Ret A 118 [.int .i64 x, .int .i64 y] H Q := by
  refine Ret.of (fn := F118) rfl ?_
  simp (disch := first | omega | (simp only [nx] <;> omega) | fail) only [vaw, F118, Nat.reduceAdd, Nat.reduceMul, Nat.reduceLeDiff, Nat.reduceEqDiff, ↓reduceIte]
  refine isNaN_ret ?_
  simp (disch := first | omega | (simp only [nx] <;> omega) | fail) only [vaw, Nat.reduceAdd, Nat.reduceMul, Nat.reduceLeDiff, Nat.reduceEqDiff, ↓reduceIte]
  refine isNaN_ret ?_
  unfold cmpI at hq
  by_cases h1 : x < y
  · rw [if_pos h1] at hq
    simp (disch := first | omega | (simp only [nx] <;> omega) | fail) only [vaw, h1, Nat.reduceAdd, Nat.reduceMul, Nat.reduceLeDiff, Nat.reduceEqDiff, ↓reduceIte]
    exact hq
  by_cases h2 : y < x
  · rw [if_neg h1, if_pos h2] at hq
    simp (disch := first | omega | (simp only [nx] <;> omega) | fail) only [vaw, h1, h2, Nat.reduceAdd, Nat.reduceMul, Nat.reduceLeDiff, Nat.reduceEqDiff, ↓reduceIte]
    exact hq
  · rw [if_neg h1, if_neg h2] at hq
    simp (disch := first | omega | (simp only [nx] <;> omega) | fail) only [vaw, h1, h2, Nat.reduceAdd, Nat.reduceMul, Nat.reduceLeDiff, Nat.reduceEqDiff, ↓reduceIte]
    exact hq
theorem orOf_drop {xs : List Int} {i : Nat} {x : Int} (h : xs[i]? = some x) : orOf (xs.drop i) = if x ≠ 0 then x else orOf (xs.drop (i + 1)) := by
  obtain ⟨h1, h2⟩ := List.getElem?_eq_some_iff.1 h
  rw [List.drop_eq_getElem_cons h1, h2, orOf]
theorem or_ret {v : AVal} {xs : List Int} {H : AHeap} {Q : AVal → AHeap → Prop} (hr : Row H v 1 (ints xs)) (hlen : xs.length ≤ 1000000) (hq : Q (.int .i64 (orOf xs)) H) : Ret A 117 [v] H Q := by
  refine Ret.of (fn := F117) rfl ?_
  have hl := hr.len1
  rw [ints_length] at hl
  simp (disch := first | omega | (simp only [nx] <;> omega) | fail) only [vaw, F117, hl, Nat.reduceAdd, Nat.reduceMul, Nat.reduceLeDiff, Nat.reduceEqDiff, ↓reduceIte]
  refine wpx_loop (fun m t H' => ∃ (i : Nat), m = xs.length - i ∧ i ≤ xs.length ∧ t = (bots 3 (.int .i64 0 :: bots 2 (v :: .int .i64 xs.length :: .int .i64 i :: bots 9 ([]))) : Tmps) ∧ H' = H ∧ orOf xs = orOf (xs.drop i)) xs.length ?_ ?_
  · exact ⟨0, rfl, by omega, rfl, rfl, rfl⟩
  · rintro m t H1 ⟨i, rfl, hi, rfl, rfl, ho⟩
    by_cases hc : (i : Int) < xs.length
    · have hil : i < xs.length := by omega
      have hx : xs[i]? = some xs[i] := by simp [hil]
      obtain ⟨id, off, e1, e2, e3⟩ := hr.int_at (k := .i64) hx
      have hd := orOf_drop hx
      generalize xs[i] = x at *
      by_cases h0 : x = 0
      · simp (disch := first | omega | (simp only [nx] <;> omega) | fail) only [vaw, hc, e1, e3, h0, ne_eq, not_true_eq_false, Nat.reduceAdd, Nat.reduceMul, Nat.reduceLeDiff, Nat.reduceEqDiff, ↓reduceIte]
        rw [if_neg (fun h => h h0)] at hd
        exact ⟨xs.length - (i + 1), by omega, i + 1, rfl, by omega, rfl, by rw [ho, hd]⟩
      · simp (disch := first | omega | (simp only [nx] <;> omega) | fail) only [vaw, hc, e1, e3, h0, ne_eq, not_false_eq_true, Nat.reduceAdd, Nat.reduceMul, Nat.reduceLeDiff, Nat.reduceEqDiff, ↓reduceIte]
        rw [if_pos h0] at hd
        rw [← hd, ← ho]
        exact hq
    · have : i = xs.length := by omega
      subst this
      rw [List.drop_length] at ho
      simp (disch := first | omega | (simp only [nx] <;> omega) | fail) only [vaw, hc, Nat.reduceAdd, Nat.reduceMul, Nat.reduceLeDiff, Nat.reduceEqDiff, ↓reduceIte]
      have : orOf xs = 0 := ho
      rw [this] at hq
      exact hq
def rankedCmp (a b : Int × Int) : Int := orOf [cmpI a.2 b.2, cmpI a.1 b.1]
def rcells (a : Int × Int) : List AVal := [.int .i64 a.1, .int .i64 a.2]
theorem before_ret {a b : Int × Int} {H : AHeap} {Q : AVal → AHeap → Prop} (hq : ∀ H', Keep Nothing H H' → Q (.int .i64 (rankedCmp a b)) H') : Ret A 89 [.agg (rcells a), .agg (rcells b)] H Q := by
  refine Ret.of (fn := F89) rfl ?_
  unfold rcells
  simp (disch := first | omega | (simp only [nx] <;> omega) | fail) only [vaw, F89, Nat.reduceAdd, Nat.reduceMul, Nat.reduceLeDiff, Nat.reduceEqDiff, ↓reduceIte]
  refine compare_ret ?_
  simp (disch := first | omega | (simp only [nx] <;> omega) | fail) only [vaw, Nat.reduceAdd, Nat.reduceMul, Nat.reduceLeDiff, Nat.reduceEqDiff, ↓reduceIte]
  refine compare_ret ?_
  simp (disch := first | omega | (simp only [nx] <;> omega) | fail) only [vaw, Nat.reduceAdd, Nat.reduceMul, Nat.reduceLeDiff, Nat.reduceEqDiff, ↓reduceIte]
  refine or_ret (xs := [cmpI a.2 b.2, cmpI a.1 b.1]) (.mk (c := ints [cmpI a.2 b.2, cmpI a.1 b.1]) (by simp only [next_new]; omega) (by simp (disch := first | omega | (simp only [nx] <;> omega) | fail) only [vaim]; rfl) (by simp [ints_length]) rfl) (by simp) ?_
  simp (disch := first | omega | (simp only [nx] <;> omega) | fail) only [vaw, Nat.reduceAdd, Nat.reduceMul, Nat.reduceLeDiff, Nat.reduceEqDiff, ↓reduceIte]
  exact hq _ (((Keep.refl _ _).new _).new _ |>.new _)
theorem rcmp_ret {a b : Int × Int} {H : AHeap} {Q : AVal → AHeap → Prop} (hq : ∀ H', Keep Nothing H H' → Q (.int .i64 (rankedCmp a b)) H') : Ret A 88 [.agg (rcells a), .agg (rcells b)] H Q := by
  refine Ret.of (fn := F88) rfl ?_
  have e1 : (rcells a).length = 2 := rfl
  have e2 : (rcells b).length = 2 := rfl
  have f1 : ((rcells a).drop 0).take 2 = rcells a := rfl
  have f2 : ((rcells b).drop 0).take 2 = rcells b := rfl
  simp (disch := first | omega | (simp only [nx] <;> omega) | fail) only [vaw, F88, e1, e2, f1, f2, Nat.reduceAdd, Nat.reduceMul, Nat.reduceLeDiff, Nat.reduceEqDiff, ↓reduceIte]
  refine before_ret fun H1 k1 => ?_
  simp (disch := first | omega | (simp only [nx] <;> omega) | fail) only [vaw, Nat.reduceAdd, Nat.reduceMul, Nat.reduceLeDiff, Nat.reduceEqDiff, ↓reduceIte]
  exact hq _ ((((Keep.refl _ _).new _).new _).trans k1)
end Go.Proofs.Ytknhlpmmalcchaa

namespace Go.Proofs.Ytknhlpmmalcchaa
open Go Go.VAI
set_option linter.unusedSimpArgs false

set_option maxRecDepth 20000 in
set_option maxHeartbeats 4000000 in
theorem ends_add_ret {lo o p : Nat} {x y : Int} {cs : List AVal} {r1 r2 : AVal} {l1 l2 : List Int} {H : AHeap} {Q : AVal → AHeap → Prop} (ho : H.obj o = some (.cells cs true)) (hp1 : cs[p]? = some r1) (hp2 : cs[p + 1]? = some r2)
    (g1 : Own lo H r1 1 (ints l1)) (g2 : Own lo H r2 1 (ints l2)) (hol : o < lo) (hlo : lo ≤ H.next) (hne : ∀ j, sid r1 = some j → sid r2 ≠ some j) (h1 : l1.length ≤ 1000000) (h2 : l2.length ≤ 1000000)
    (hq : ∀ r1' r2' H', Keep (fun j => j = o ∨ sid r1 = some j ∨ sid r2 = some j) H H' → H'.obj o = some (.cells ((cs.set p r1').set (p + 1) r2') true) → Own lo H' r1' 1 (ints (l1 ++ [x])) → Own lo H' r2' 1 (ints (l2 ++ [y])) →
      (∃ y1 y2, sid r1' = some y1 ∧ sid r2' = some y2 ∧ H.next ≤ y1 ∧ H.next ≤ y2 ∧ y1 ≠ y2) → Q (.tuple []) H') : Ret A 110 [.ptr o p, .int .i64 x, .int .i64 y] H Q := by
  refine Ret.of (fn := F110) rfl ?_
  have b2 := g2.beq
  simp (disch := first | omega | (simp only [nx] <;> omega) | fail) only [vaw, F110, ho, hp1, hp2, Nat.reduceAdd, Nat.reduceMul, Nat.reduceLeDiff, Nat.reduceEqDiff, ↓reduceIte]
  have kN : Keep Nothing H ((H.new (.cells [.int .i64 x] true)).new (.cells [.int .i64 y] true)) := ((Keep.refl _ _).new _).new _
  have oN : ((H.new (.cells [.int .i64 x] true)).new (.cells [.int .i64 y] true)).obj o = some (.cells cs true) := by rw [kN.old (by omega)]; exact ho
  have o1 : ((H.new (.cells [.int .i64 x] true)).new (.cells [.int .i64 y] true)).obj H.next = some (.cells [.int .i64 x] true) := by simp (disch := first | omega | (simp only [nx] <;> omega) | fail) only [vaim]
  have o2 : ((H.new (.cells [.int .i64 x] true)).new (.cells [.int .i64 y] true)).obj (H.next + 1) = some (.cells [.int .i64 y] true) := by simp (disch := first | omega | (simp only [nx] <;> omega) | fail) only [vaim]
  have nN : ((H.new (.cells [.int .i64 x] true)).new (.cells [.int .i64 y] true)).next = H.next + 2 := rfl
  generalize (H.new (.cells [.int .i64 x] true)).new (.cells [.int .i64 y] true) = HN at *
  have s1 : ∀ j, sid r1 = some j → lo ≤ j ∧ j < H.next := fun j hj => g1.sid_ge hj
  have s2 : ∀ j, sid r2 = some j → lo ≤ j ∧ j < H.next := fun j hj => g2.sid_ge hj
  refine app_ret (n := l1.length) (k := 1) (g1.kept kN) (y := H.next) (by rw [o1]; rfl) rfl (by omega) (by omega) (by rw [ints_length]; omega) (by omega) (by omega) ?_ (by omega) (Nat.le_refl _) (fun _ _ _ => rfl)
  intro r1' H2 n2 k2 e2 t2
  obtain ⟨y1, t2, hy1⟩ := t2
  have oA : H2.obj o = some (.cells cs true) := by rw [k2 _ (by omega) (fun e => by have := s1 _ e; omega)]; exact oN
  have o2A : H2.obj (H.next + 1) = some (.cells [.int .i64 y] true) := by rw [k2 _ (by omega) (fun e => by have := s1 _ e; omega)]; exact o2
  have g2A : Own lo H2 r2 1 (ints l2) := (g2.kept kN).keepM (M := fun j => sid r1 = some j) ⟨n2, k2⟩ (fun j hj e => hne j e hj)
  simp (disch := first | omega | (simp only [nx] <;> omega) | fail) only [vaw, oA, hp2, reK_same b2, Nat.reduceAdd, Nat.reduceMul, Nat.reduceLeDiff, Nat.reduceEqDiff, ↓reduceIte]
  refine app_ret (n := l2.length) (k := 1) g2A (y := H.next + 1) (by rw [o2A]; rfl) rfl (by omega) (by omega) (by rw [ints_length]; omega) (by omega) (by omega) ?_ (by omega) (Nat.le_refl _) (fun _ _ _ => rfl)
  intro r2' H3 n3 k3 e3 t3
  obtain ⟨y2, t3, hy2⟩ := t3
  have oB : H3.obj o = some (.cells cs true) := by rw [k3 _ (by omega) (fun e => by have := s2 _ e; omega)]; exact oA
  have hpl : p + 1 < cs.length := (List.getElem?_eq_some_iff.1 hp2).1
  have c1 := e2.cells
  have c2 := e3.cells
  have f1 := splice_one (l := cs) (p := p) (x := r1') (by omega)
  have f2 := splice_one (l := cs.set p r1') (p := p + 1) (x := r2') (by simp; omega)
  have hle1 : p + 1 ≤ cs.length := by omega
  have hle2 : p + 1 + 1 ≤ (cs.set p r1').length := by simp; omega
  simp (disch := first | omega | (simp only [nx] <;> omega) | fail) only [vaw, oB, c1, c2, f1, f2, hle1, hle2, Nat.reduceAdd, Nat.reduceMul, Nat.reduceLeDiff, Nat.reduceEqDiff, ↓reduceIte]
  have y1lt : y1 < H2.next := by
    have := (e2.sid_ge t2).2; omega
  have e2' : Own lo H3 r1' 1 (ints (l1 ++ [x])) := by
    rw [ints_append]
    exact e2.own.keepM (M := fun j => sid r2 = some j) ⟨n3, k3⟩ (fun j hj e => by rw [t2] at hj; injection hj with hj; have := s2 _ e; omega)
  have e3' : Own lo H3 r2' 1 (ints (l2 ++ [y])) := by rw [ints_append]; exact e3.own
  have kU : Keep (fun j => j = o) H3 ((H3.upd o (some (.cells (cs.set p r1') true))).upd o (some (.cells ((cs.set p r1').set (p + 1) r2') true))) := ((Keep.refl (fun j => j = o) _).upd (.inr rfl) _).upd (.inr rfl) _
  refine hq r1' r2' _ ⟨by simp only [next_upd]; omega, fun j hj hm => ?_⟩ (obj_upd_eq rfl) (e2'.keepM kU (fun j hj e => by rw [t2] at hj; injection hj with hj; omega)) (e3'.keepM kU (fun j hj e => by rw [t3] at hj; injection hj with hj; omega)) ⟨y1, y2, t2, t3, by omega, by omega, by omega⟩
  rw [obj_upd_ne (fun e => hm (.inl e)), obj_upd_ne (fun e => hm (.inl e)), k3 j (by omega) (fun e => hm (.inr (.inr e))), k2 j (by omega) (fun e => hm (.inr (.inl e))), kN.old hj]
theorem adj_is_ret {a o : Nat} {v : Int} {N : Nat} {h0 h1 h3 : AVal} {rw' : Bool} {H : AHeap} {Q : AVal → AHeap → Prop} (ho : H.obj a = some (.cells [h0, h1, .slice o 0 N (.exact N), h3] rw')) (hq : ∀ b, Says b (0 ≤ v ∧ v < N) → Q (.bool b) H) : Ret A 109 [.ptr a 0, .int .i64 v] H Q := by
  refine Ret.of (fn := F109) rfl ?_
  by_cases c1 : 0 ≤ v
  · by_cases c2 : v < N
    · simp (disch := first | omega | (simp only [nx] <;> omega) | fail) only [vaw, F109, ho, c1, c2, Nat.reduceAdd, Nat.reduceMul, Nat.reduceLeDiff, Nat.reduceEqDiff, ↓reduceIte]
      exact hq _ (says_yes ⟨c1, c2⟩)
    · simp (disch := first | omega | (simp only [nx] <;> omega) | fail) only [vaw, F109, ho, c1, c2, Nat.reduceAdd, Nat.reduceMul, Nat.reduceLeDiff, Nat.reduceEqDiff, ↓reduceIte]
      exact hq _ (says_no fun h => c2 h.2)
  · simp (disch := first | omega | (simp only [nx] <;> omega) | fail) only [vaw, F109, ho, c1, Nat.reduceAdd, Nat.reduceMul, Nat.reduceLeDiff, Nat.reduceEqDiff, ↓reduceIte]
    exact hq _ (says_no fun h => c1 h.1)
end Go.Proofs.Ytknhlpmmalcchaa

namespace Go.Proofs.Ytknhlpmmalcchaa
open Go Go.VAI
set_option linter.unusedSimpArgs false

structure Bag (lo : Nat) (H : AHeap) (rs : List AVal) (ls : List (List Int)) : Prop where
  len : rs.length = ls.length
  rows : ∀ (i : Nat) r l, rs[i]? = some r → ls[i]? = some l → Own lo H r 1 (ints l)
  two : ∀ (i i' : Nat) r r' j, rs[i]? = some r → rs[i']? = some r' → sid r = some j → sid r' = some j → i = i'
theorem Bag.keepM {lo : Nat} {M : Nat → Prop} {H H' : AHeap} {rs : List AVal} {ls : List (List Int)} (h : Bag lo H rs ls) (hk : Keep M H H') (hM : ∀ j, M j → j < lo) : Bag lo H' rs ls :=
  ⟨h.len, fun i r l e1 e2 => (h.rows i r l e1 e2).keepM hk (fun j hj hm => by have := ((h.rows i r l e1 e2).sid_ge hj).1; have := hM j hm; omega), h.two⟩
theorem Bag.kept {lo : Nat} {H H' : AHeap} {rs : List AVal} {ls : List (List Int)} (h : Bag lo H rs ls) (hk : Keep Nothing H H') : Bag lo H' rs ls := h.keepM hk (fun _ h => h.elim)
theorem set2_at {α : Type} {l : List α} {p i : Nat} {a b x : α} (hp : p + 1 < l.length) (h : ((l.set p a).set (p + 1) b)[i]? = some x) : (i = p ∧ x = a) ∨ (i = p + 1 ∧ x = b) ∨ (i ≠ p ∧ i ≠ p + 1 ∧ l[i]? = some x) := by
  rw [List.getElem?_set] at h
  split at h
  · rename_i e
    subst e
    rw [List.length_set, if_pos hp] at h
    injection h with h
    exact .inr (.inl ⟨rfl, h.symm⟩)
  · rename_i e
    rw [List.getElem?_set] at h
    split at h
    · rename_i e2
      subst e2
      rw [if_pos (by omega)] at h
      injection h with h
      exact .inl ⟨rfl, h.symm⟩
    · rename_i e2
      exact .inr (.inr ⟨fun h => e2 h.symm, fun h => e h.symm, h⟩)
theorem Bag.put {lo o p : Nat} {H H' : AHeap} {rs : List AVal} {ls : List (List Int)} {r1 r2 r1' r2' : AVal} {l1 l2 : List Int} (h : Bag lo H rs ls) (hp1 : rs[p]? = some r1) (hp2 : rs[p + 1]? = some r2) (hol : o < lo)
    (hk : Keep (fun j => j = o ∨ sid r1 = some j ∨ sid r2 = some j) H H') (g1 : Own lo H' r1' 1 (ints l1)) (g2 : Own lo H' r2' 1 (ints l2)) (hs : ∃ y1 y2, sid r1' = some y1 ∧ sid r2' = some y2 ∧ H.next ≤ y1 ∧ H.next ≤ y2 ∧ y1 ≠ y2) :
    Bag lo H' ((rs.set p r1').set (p + 1) r2') ((ls.set p l1).set (p + 1) l2) := by
  obtain ⟨y1, y2, t1, t2, q1, q2, q3⟩ := hs
  have hpl : p + 1 < rs.length := (List.getElem?_eq_some_iff.1 hp2).1
  have hl := h.len
  have old : ∀ (i : Nat) r j, rs[i]? = some r → sid r = some j → j < H.next := fun i r j e1 e2 => by
    have := (List.getElem?_eq_some_iff.1 e1).1
    exact ((h.rows i r (ls[i]'(by omega)) e1 (by simp)).sid_ge e2).2
  refine ⟨by simp [hl], fun i r l e1 e2 => ?_, fun i i' r r' j e1 e2 e3 e4 => ?_⟩
  · rcases set2_at hpl e1 with ⟨hi, rfl⟩ | ⟨hi, rfl⟩ | ⟨n1, n2, e1⟩
    · rcases set2_at (by omega) e2 with ⟨_, rfl⟩ | ⟨hi2, _⟩ | ⟨n1, _, _⟩
      · exact g1
      · omega
      · exact absurd hi n1
    · rcases set2_at (by omega) e2 with ⟨hi2, _⟩ | ⟨_, rfl⟩ | ⟨_, n2, _⟩
      · omega
      · exact g2
      · exact absurd hi n2
    · rcases set2_at (by omega) e2 with ⟨hi2, _⟩ | ⟨hi2, _⟩ | ⟨_, _, e2⟩
      · exact absurd hi2 n1
      · exact absurd hi2 n2
      · refine (h.rows i r l e1 e2).keepM hk (fun j hj hm => ?_)
        rcases hm with hm | hm | hm
        · have := ((h.rows i r l e1 e2).sid_ge hj).1; omega
        · exact n1 (h.two i p r r1 j e1 hp1 hj hm)
        · exact n2 (h.two i (p + 1) r r2 j e1 hp2 hj hm)
  · rcases set2_at hpl e1 with ⟨hi, rfl⟩ | ⟨hi, rfl⟩ | ⟨n1, n2, f1⟩ <;> rcases set2_at hpl e2 with ⟨hi', hr'⟩ | ⟨hi', hr'⟩ | ⟨m1, m2, f2⟩
    · omega
    · subst hr'; rw [t1] at e3; rw [t2] at e4; injection e3 with e3; injection e4 with e4; omega
    · rw [t1] at e3; injection e3 with e3; have := old i' r' j f2 e4; omega
    · subst hr'; rw [t2] at e3; rw [t1] at e4; injection e3 with e3; injection e4 with e4; omega
    · omega
    · rw [t2] at e3; injection e3 with e3; have := old i' r' j f2 e4; omega
    · subst hr'; rw [t1] at e4; injection e4 with e4; have := old i r j f1 e3; omega
    · subst hr'; rw [t2] at e4; injection e4 with e4; have := old i r j f1 e3; omega
    · exact h.two i i' r r' j f1 f2 e3 e4
theorem reps_two (n : Nat) : reps [.nilSlice, .nilSlice] n = List.replicate (2 * n) .nilSlice := by
  induction n with
  | zero => rfl
  | succ n ih => rw [reps, ih, show 2 * (n + 1) = 2 * n + 1 + 1 by omega, List.replicate_succ, List.replicate_succ]; rfl
abbrev isSrc (v : Int) : Edge → Bool := fun e => decide (e.src = v)
abbrev isDst (v : Int) : Edge → Bool := fun e => decide (e.dst = v)
structure AdjAt (H : AHeap) (a o i N : Nat) (es : List Edge) (ew : AVal) (uo ui : List AVal) : Prop where
  box : H.obj a = some (.cells [.int .i64 N, ew, .slice o 0 N (.exact N), .slice i 0 N (.exact N)] true)
  ed : Row H ew 4 (edgeCells es)
  oo : H.obj o = some (.cells uo true)
  oi : H.obj i = some (.cells ui true)
  lt : a < H.next ∧ o < H.next ∧ i < H.next
  lo : uo.length = 2 * N
  li : ui.length = 2 * N
  ro : ∀ v : Nat, v < N → ∃ r r', uo[2 * v]? = some r ∧ uo[2 * v + 1]? = some r' ∧ RowC H r 1 (ints (picks (isSrc v) es es.length)) ∧ r'.isCell = true
  ri : ∀ v : Nat, v < N → ∃ r r', ui[2 * v]? = some r ∧ ui[2 * v + 1]? = some r' ∧ RowC H r 1 (ints (picks (isDst v) es es.length)) ∧ r'.isCell = true
theorem AdjAt.kept {H H' : AHeap} {a o i N : Nat} {es : List Edge} {ew : AVal} {uo ui : List AVal} (h : AdjAt H a o i N es ew uo ui) (hk : Keep Nothing H H') : AdjAt H' a o i N es ew uo ui :=
  ⟨by rw [hk.old h.lt.1]; exact h.box, h.ed.kept hk, by rw [hk.old h.lt.2.1]; exact h.oo, by rw [hk.old h.lt.2.2]; exact h.oi, by have := h.lt; have := hk.next; omega, h.lo, h.li,
    fun v hv => by obtain ⟨r, r', h1, h2, h3, h4⟩ := h.ro v hv; exact ⟨r, r', h1, h2, h3.kept hk, h4⟩, fun v hv => by obtain ⟨r, r', h1, h2, h3, h4⟩ := h.ri v hv; exact ⟨r, r', h1, h2, h3.kept hk, h4⟩⟩
end Go.Proofs.Ytknhlpmmalcchaa

namespace Go.Proofs.Ytknhlpmmalcchaa
open Go Go.VAI
set_option linter.unusedSimpArgs false

structure AdjRows (N i : Nat) (es : List Edge) (ls : List (List Int)) : Prop where
  len : ls.length = 4 * N
  bd : ∀ l ∈ ls, l.length ≤ i
  src : ∀ v : Nat, v < N → ls[2 * v]? = some (picks (isSrc v) es i)
  dst : ∀ v : Nat, v < N → ls[2 * N + 2 * v]? = some (picks (isDst v) es i)
theorem set2_ne {α : Type} {l : List α} {p q i : Nat} {a b : α} (h1 : i ≠ p) (h2 : i ≠ q) : ((l.set p a).set q b)[i]? = l[i]? := by
  rw [List.getElem?_set, if_neg (fun h => h2 h.symm), List.getElem?_set, if_neg (fun h => h1 h.symm)]
theorem AdjRows.step {N i s d : Nat} {es : List Edge} {ls : List (List Int)} {e : Edge} (h : AdjRows N i es ls) (he : es[i]? = some e) (hs : e.src = s) (hd : e.dst = d) (hsN : s < N) (hdN : d < N) {lo li : List Int} (h1 : ls[2 * s + 1]? = some lo) (h2 : ls[2 * N + 2 * d + 1]? = some li) :
    AdjRows N (i + 1) es ((((ls.set (2 * s) (picks (isSrc s) es i ++ [(i : Int)])).set (2 * s + 1) (lo ++ [e.dst])).set (2 * N + 2 * d) (picks (isDst d) es i ++ [(i : Int)])).set (2 * N + 2 * d + 1) (li ++ [e.src])) := by
  have hl := h.len
  have b1 := h.bd lo (List.mem_of_getElem? h1)
  have b2 := h.bd li (List.mem_of_getElem? h2)
  refine ⟨by simp [hl], fun l hm => ?_, fun v hv => ?_, fun v hv => ?_⟩
  · rcases List.mem_or_eq_of_mem_set hm with hm | hm
    · rcases List.mem_or_eq_of_mem_set hm with hm | hm
      · rcases List.mem_or_eq_of_mem_set hm with hm | hm
        · rcases List.mem_or_eq_of_mem_set hm with hm | hm
          · have := h.bd l hm; omega
          · subst hm
            have := @picks_length (isSrc s) es i
            simp; omega
        · subst hm; simp; omega
      · subst hm
        have := @picks_length (isDst d) es i
        simp; omega
    · subst hm; simp; omega
  · rw [set2_ne (by omega) (by omega), picks_succ he]
    by_cases hvs : v = s
    · subst hvs
      rw [List.getElem?_set, if_neg (by omega), List.getElem?_set, if_pos rfl, if_pos (by omega), if_pos (by simp [hs])]
    · rw [set2_ne (by omega) (by omega), h.src v hv, if_neg (by simp [hs]; omega), List.append_nil]
  · rw [picks_succ he]
    by_cases hvd : v = d
    · subst hvd
      rw [List.getElem?_set, if_neg (by omega), List.getElem?_set, if_pos rfl, if_pos (by simp; omega), if_pos (by simp [hd])]
    · rw [set2_ne (by omega) (by omega), set2_ne (by omega) (by omega), h.dst v hv, if_neg (by simp [hd]; omega), List.append_nil]
theorem apart_put {H : AHeap} {rs : List AVal} {w r1' r2' : AVal} {p : Nat} (ha : ∀ (k : Nat) r j, rs[k]? = some r → sid r = some j → sid w ≠ some j) (hlo : 0 ≤ p) (hw : ∀ j, sid w = some j → j < H.next) (hs : ∃ y1 y2, sid r1' = some y1 ∧ sid r2' = some y2 ∧ H.next ≤ y1 ∧ H.next ≤ y2 ∧ y1 ≠ y2) (hp : p + 1 < rs.length) :
    ∀ (k : Nat) r j, ((rs.set p r1').set (p + 1) r2')[k]? = some r → sid r = some j → sid w ≠ some j := by
  obtain ⟨y1, y2, t1, t2, q1, q2, -⟩ := hs
  intro k r j e1 e2 e3
  have := hw j e3
  rcases set2_at hp e1 with ⟨-, rfl⟩ | ⟨-, rfl⟩ | ⟨-, -, e⟩
  · rw [t1] at e2; injection e2 with e2; omega
  · rw [t2] at e2; injection e2 with e2; omega
  · exact ha k r j e e2 e3
structure NewAt (H0 H : AHeap) (a o q N i : Nat) (es : List Edge) (ew : AVal) (uo ui : List AVal) (ls : List (List Int)) : Prop where
  keep : Keep Nothing H0 H
  box : H.obj a = some (.cells [.int .i64 N, ew, .slice o 0 N (.exact N), .slice q 0 N (.exact N)] true)
  ed : Own (a + 1) H ew 4 (edgeCells es)
  oo : H.obj o = some (.cells uo true)
  oi : H.obj q = some (.cells ui true)
  lo : uo.length = 2 * N
  li : ui.length = 2 * N
  bag : Bag (a + 1) H (uo ++ ui) ls
  rows : AdjRows N i es ls
  ord : H0.next ≤ o ∧ o < q ∧ q < a ∧ a < H.next
  apart : ∀ (k : Nat) r j, (uo ++ ui)[k]? = some r → sid r = some j → sid ew ≠ some j
theorem NewAt.kept {H0 H H' : AHeap} {a o q N i : Nat} {es : List Edge} {ew : AVal} {uo ui : List AVal} {ls : List (List Int)} (h : NewAt H0 H a o q N i es ew uo ui ls) (hk : Keep Nothing H H') : NewAt H0 H' a o q N i es ew uo ui ls := by
  have hb := h.ord
  have hn := hk.next
  exact ⟨h.keep.trans hk, by rw [hk.old (by omega)]; exact h.box, h.ed.kept hk, by rw [hk.old (by omega)]; exact h.oo, by rw [hk.old (by omega)]; exact h.oi, h.lo, h.li, h.bag.kept hk, h.rows, ⟨hb.1, hb.2.1, hb.2.2.1, by omega⟩, h.apart⟩
theorem NewAt.adj {H0 H : AHeap} {a o q N : Nat} {es : List Edge} {ew : AVal} {uo ui : List AVal} {ls : List (List Int)} (h : NewAt H0 H a o q N es.length es ew uo ui ls) : AdjAt H a o q N es ew uo ui := by
  have hb := h.ord
  have l1 := h.lo
  have l2 := h.li
  have hln := h.rows.len
  refine ⟨h.box, h.ed.row, h.oo, h.oi, ⟨by omega, by omega, by omega⟩, l1, l2, fun v hv => ?_, fun v hv => ?_⟩
  · have e1 : uo[2 * v]? = some (uo[2 * v]'(by omega)) := by simp
    have e2 : uo[2 * v + 1]? = some (uo[2 * v + 1]'(by omega)) := by simp
    refine ⟨_, _, e1, e2, (h.bag.rows (2 * v) _ _ (by rw [List.getElem?_append_left (by omega)]; exact e1) (h.rows.src v hv)).rowC, ?_⟩
    exact (h.bag.rows (2 * v + 1) _ (ls[2 * v + 1]'(by omega)) (by rw [List.getElem?_append_left (by omega)]; exact e2) (by simp)).isCell
  · have e1 : ui[2 * v]? = some (ui[2 * v]'(by omega)) := by simp
    have e2 : ui[2 * v + 1]? = some (ui[2 * v + 1]'(by omega)) := by simp
    refine ⟨_, _, e1, e2, (h.bag.rows (2 * N + 2 * v) _ _ (by rw [List.getElem?_append_right (by omega), l1, Nat.add_sub_cancel_left]; exact e1) (h.rows.dst v hv)).rowC, ?_⟩
    exact (h.bag.rows (2 * N + 2 * v + 1) _ (ls[2 * N + 2 * v + 1]'(by omega)) (by rw [List.getElem?_append_right (by omega), l1, show 2 * N + 2 * v + 1 - 2 * N = 2 * v + 1 by omega]; exact e2) (by simp)).isCell
set_option maxRecDepth 20000 in
set_option maxHeartbeats 8000000 in
theorem adjNew_ret {N : Nat} {ev : AVal} {es : List Edge} {H : AHeap} {Q : AVal → AHeap → Prop} (hr : Row H ev 4 (edgeCells es)) (hnet : ∀ e ∈ es, EdgeOk N e) (hN : N ≤ 1000) (hn : es.length ≤ 1000)
    (hq : ∀ a o i ew uo ui H', Keep Nothing H H' → AdjAt H' a o i N es ew uo ui → Q (.ptr a 0) H') : Ret A 81 [.agg [.int .i64 N, ev]] H Q := by
  refine Ret.of (fn := F81) rfl ?_
  have hl := hr.len (by omega) (edgeCells_length es)
  have be := hr.beq
  have hN0 : ¬ (N : Int) < 0 := by omega
  have hm1 : ((N : Nat) : Int) * ((48 : Nat) : Int) ≤ 140737488355328 := by omega
  simp (disch := first | omega | (simp only [nx] <;> omega) | fail) only [vaw, F81, max_two, hN0, amkSlice_int hm1 (by omega), reK_same be, Nat.reduceAdd, Nat.reduceMul, Nat.reduceLeDiff, Nat.reduceEqDiff, ↓reduceIte]
  rw [reps_two]
  have kN : Keep Nothing H ((((H.new (.cells [.int .i64 N, ev] true)).new (.cells (List.replicate (2 * N) .nilSlice) true)).new (.cells (List.replicate (2 * N) .nilSlice) true)).new (.cells [.int .i64 0, .nilSlice, .slice (H.next + 1) 0 N (.exact N), .slice (H.next + 2) 0 N (.exact N)] true)) := ((((Keep.refl _ _).new _).new _).new _).new _
  have oN : ((((H.new (.cells [.int .i64 N, ev] true)).new (.cells (List.replicate (2 * N) .nilSlice) true)).new (.cells (List.replicate (2 * N) .nilSlice) true)).new (.cells [.int .i64 0, .nilSlice, .slice (H.next + 1) 0 N (.exact N), .slice (H.next + 2) 0 N (.exact N)] true)).obj (H.next + 3) = some (.cells [.int .i64 0, .nilSlice, .slice (H.next + 1) 0 N (.exact N), .slice (H.next + 2) 0 N (.exact N)] true) := by simp (disch := first | omega | (simp only [nx] <;> omega) | fail) only [vaim]
  have o0 : ((((H.new (.cells [.int .i64 N, ev] true)).new (.cells (List.replicate (2 * N) .nilSlice) true)).new (.cells (List.replicate (2 * N) .nilSlice) true)).new (.cells [.int .i64 0, .nilSlice, .slice (H.next + 1) 0 N (.exact N), .slice (H.next + 2) 0 N (.exact N)] true)).obj H.next = some (.cells [.int .i64 N, ev] true) := by simp (disch := first | omega | (simp only [nx] <;> omega) | fail) only [vaim]
  have o1 : ((((H.new (.cells [.int .i64 N, ev] true)).new (.cells (List.replicate (2 * N) .nilSlice) true)).new (.cells (List.replicate (2 * N) .nilSlice) true)).new (.cells [.int .i64 0, .nilSlice, .slice (H.next + 1) 0 N (.exact N), .slice (H.next + 2) 0 N (.exact N)] true)).obj (H.next + 1) = some (.cells (List.replicate (2 * N) .nilSlice) true) := by simp (disch := first | omega | (simp only [nx] <;> omega) | fail) only [vaim]
  have o2 : ((((H.new (.cells [.int .i64 N, ev] true)).new (.cells (List.replicate (2 * N) .nilSlice) true)).new (.cells (List.replicate (2 * N) .nilSlice) true)).new (.cells [.int .i64 0, .nilSlice, .slice (H.next + 1) 0 N (.exact N), .slice (H.next + 2) 0 N (.exact N)] true)).obj (H.next + 2) = some (.cells (List.replicate (2 * N) .nilSlice) true) := by simp (disch := first | omega | (simp only [nx] <;> omega) | fail) only [vaim]
  have nN : ((((H.new (.cells [.int .i64 N, ev] true)).new (.cells (List.replicate (2 * N) .nilSlice) true)).new (.cells (List.replicate (2 * N) .nilSlice) true)).new (.cells [.int .i64 0, .nilSlice, .slice (H.next + 1) 0 N (.exact N), .slice (H.next + 2) 0 N (.exact N)] true)).next = H.next + 4 := rfl
  generalize (((H.new (.cells [.int .i64 N, ev] true)).new (.cells (List.replicate (2 * N) .nilSlice) true)).new (.cells (List.replicate (2 * N) .nilSlice) true)).new (.cells [.int .i64 0, .nilSlice, .slice (H.next + 1) 0 N (.exact N), .slice (H.next + 2) 0 N (.exact N)] true) = HN at *
  refine cloneE_ret (hr.kept kN) (by omega) fun ew H1 k1 g1 => ?_
  rw [nN] at g1
  have p3 := (k1.old (i := H.next + 3) (by omega)).trans oN
  have p0 := (k1.old (i := H.next) (by omega)).trans o0
  have p1 := (k1.old (i := H.next + 1) (by omega)).trans o1
  have p2 := (k1.old (i := H.next + 2) (by omega)).trans o2
  have c1 := g1.cells
  have n1 := k1.next
  simp (disch := first | omega | (simp only [nx] <;> omega) | fail) only [vaw, p3, p0, c1, hl, Nat.reduceAdd, Nat.reduceMul, Nat.reduceLeDiff, Nat.reduceEqDiff, ↓reduceIte]
  have kU : Keep (fun j => j = H.next + 3) H1 (H1.upd (H.next + 3) (some (.cells [.int .i64 N, ew, .slice (H.next + 1) 0 N (.exact N), .slice (H.next + 2) 0 N (.exact N)] true))) := (Keep.refl (fun j => j = H.next + 3) _).upd (.inr rfl) _
  have start : NewAt H (H1.upd (H.next + 3) (some (.cells [.int .i64 N, ew, .slice (H.next + 1) 0 N (.exact N), .slice (H.next + 2) 0 N (.exact N)] true))) (H.next + 3) (H.next + 1) (H.next + 2) N 0 es ew (List.replicate (2 * N) .nilSlice) (List.replicate (2 * N) .nilSlice) (List.replicate (4 * N) []) := by
    refine ⟨(kN.trans k1).upd (.inl (by omega)) _, obj_upd_eq rfl, g1.keepM kU (fun j hj e => by have := (g1.sid_ge hj).1; omega), ?_, ?_, by simp, by simp, ⟨by simp; omega, fun i r l e1 e2 => ?_, fun i i' r r' j e1 _ e3 _ => ?_⟩, ⟨by simp, fun l hm => ?_, fun v hv => ?_, fun v hv => ?_⟩, ⟨by omega, by omega, by omega, by simp only [next_upd]; omega⟩, fun k r j e1 e2 => ?_⟩
    · rw [obj_upd_ne (by omega)]; exact p1
    · rw [obj_upd_ne (by omega)]; exact p2
    · have := List.mem_of_getElem? e1
      have h2 := List.mem_of_getElem? e2
      simp at this h2
      obtain ⟨-, rfl⟩ := h2
      have : r = .nilSlice := this.2
      subst this
      exact .nil
    · have := List.mem_of_getElem? e1
      simp at this
      have : r = .nilSlice := this.2
      subst this
      cases e3
    · simp at hm; simp [hm.2]
    · rw [List.getElem?_replicate, if_pos (by omega)]; rfl
    · rw [List.getElem?_replicate, if_pos (by omega)]; rfl
    · have := List.mem_of_getElem? e1
      simp at this
      have : r = .nilSlice := this.2
      subst this
      cases e2
  refine wpx_loop (fun m t H' => ∃ (i : Nat) (uo ui : List AVal) (ls : List (List Int)), m = es.length - i ∧ i ≤ es.length ∧ t = (bots 3 (.ptr (H.next + 3) 0 :: bots 22 (ev :: .int .i64 es.length :: .int .i64 i :: bots 38 ([]))) : Tmps) ∧ NewAt H H' (H.next + 3) (H.next + 1) (H.next + 2) N i es ew uo ui ls) es.length ?_ ?_
  · exact ⟨0, _, _, _, rfl, by omega, rfl, start⟩
  · clear start kU
    rintro m t H2 ⟨i, uo, ui, ls, rfl, hi, rfl, g⟩
    by_cases hc : (i : Int) < es.length
    · have hil : i < es.length := by omega
      have he : es[i]? = some es[i] := by simp [hil]
      obtain ⟨id, off, e1, hid2, e2, e3, e4, e5, e6⟩ := edge_at (hr.kept g.keep) he
      have hmem := List.getElem_mem hil
      have hok := hnet _ hmem
      generalize es[i] = e at *
      obtain ⟨⟨s0, s1⟩, ⟨d0, d1⟩, -, -⟩ := hok
      simp only [Edge.cells] at e6
      simp (disch := first | omega | (simp only [nx] <;> omega) | fail) only [vaw, hc, e1, e6, Nat.reduceAdd, Nat.reduceMul, Nat.reduceLeDiff, Nat.reduceEqDiff, ↓reduceIte]
      have k3 : Keep Nothing H2 ((H2.new (.cells [.int .i64 0, .int .i64 0, .int .i64 0, .int .i64 0] true)).upd H2.next (some (.cells [.int .i64 e.src, .int .i64 e.dst, .int .i64 e.mode, .int .i64 e.cost] true))) := ((Keep.refl _ _).new _).upd (.inl (Nat.le_refl _)) _
      have o3 : ((H2.new (.cells [.int .i64 0, .int .i64 0, .int .i64 0, .int .i64 0] true)).upd H2.next (some (.cells [.int .i64 e.src, .int .i64 e.dst, .int .i64 e.mode, .int .i64 e.cost] true))).obj H2.next = some (.cells [.int .i64 e.src, .int .i64 e.dst, .int .i64 e.mode, .int .i64 e.cost] true) := obj_upd_eq rfl
      have n3 : ((H2.new (.cells [.int .i64 0, .int .i64 0, .int .i64 0, .int .i64 0] true)).upd H2.next (some (.cells [.int .i64 e.src, .int .i64 e.dst, .int .i64 e.mode, .int .i64 e.cost] true))).next = H2.next + 1 := rfl
      generalize (H2.new (.cells [.int .i64 0, .int .i64 0, .int .i64 0, .int .i64 0] true)).upd H2.next (some (.cells [.int .i64 e.src, .int .i64 e.dst, .int .i64 e.mode, .int .i64 e.cost] true)) = H3 at *
      have g3 : NewAt H H3 (H.next + 3) (H.next + 1) (H.next + 2) N i es ew uo ui ls := g.kept k3
      obtain ⟨s, hs⟩ := Int.eq_ofNat_of_zero_le s0
      obtain ⟨d, hd⟩ := Int.eq_ofNat_of_zero_le d0
      have sN : s < N := by omega
      have dN : d < N := by omega
      rw [hs, hd] at o3
      have bx := g3.box
      refine adj_is_ret bx fun b sb => ?_
      have hb : b = true := sb.2 ⟨s0, s1⟩
      subst hb
      simp (disch := first | omega | (simp only [nx] <;> omega) | fail) only [vaw, o3, Nat.reduceAdd, Nat.reduceMul, Nat.reduceLeDiff, Nat.reduceEqDiff, ↓reduceIte]
      refine adj_is_ret bx fun b sb => ?_
      have hb : b = true := sb.2 ⟨by omega, by omega⟩
      subst hb
      have ms : s * 2 = 2 * s := Nat.mul_comm _ _
      have md : d * 2 = 2 * d := Nat.mul_comm _ _
      simp (disch := first | omega | (simp only [nx] <;> omega) | fail) only [vaw, o3, bx, ms, Int.toNat_natCast, Nat.reduceAdd, Nat.reduceMul, Nat.reduceLeDiff, Nat.reduceEqDiff, ↓reduceIte]
      have ob := g3.ord
      have l1 := g3.lo
      have l2 := g3.li
      have hln := g3.rows.len
      obtain ⟨r1, u1⟩ : ∃ r, uo[2 * s]? = some r := ⟨_, List.getElem?_eq_getElem (by omega)⟩
      obtain ⟨r2, u2⟩ : ∃ r, uo[2 * s + 1]? = some r := ⟨_, List.getElem?_eq_getElem (by omega)⟩
      obtain ⟨m2, w2⟩ : ∃ r, ls[2 * s + 1]? = some r := ⟨_, List.getElem?_eq_getElem (by omega)⟩
      obtain ⟨m4, w4⟩ : ∃ r, ls[2 * N + 2 * d + 1]? = some r := ⟨_, List.getElem?_eq_getElem (by omega)⟩
      have w1 := g3.rows.src s sN
      have w3 := g3.rows.dst d dN
      have v1 : (uo ++ ui)[2 * s]? = some r1 := by rw [List.getElem?_append_left (by omega)]; exact u1
      have v2 : (uo ++ ui)[2 * s + 1]? = some r2 := by rw [List.getElem?_append_left (by omega)]; exact u2
      have b1 := g3.rows.bd _ (List.mem_of_getElem? w1)
      have b2 := g3.rows.bd _ (List.mem_of_getElem? w2)
      have b3 := g3.rows.bd _ (List.mem_of_getElem? w3)
      have b4 := g3.rows.bd _ (List.mem_of_getElem? w4)
      have n2 : H.next + 3 < H2.next := g.ord.2.2.2
      have x1 := fun j hj => (g.bag.rows _ _ _ v1 w1).sid_ge (j := j) hj
      have x2 := fun j hj => (g.bag.rows _ _ _ v2 w2).sid_ge (j := j) hj
      refine ends_add_ret g3.oo u1 u2 (g3.bag.rows _ _ _ v1 w1) (g3.bag.rows _ _ _ v2 w2) (by omega) (by omega) (fun j h h' => by have := g3.bag.two _ _ _ _ j v1 v2 h h'; omega) (by omega) (by omega) fun r1' r2' H4 k4 o4 q1 q2 t => ?_
      have bag4 := g3.bag.put v1 v2 (by omega) k4 q1 q2 t
      have ed4 : Own (H.next + 3 + 1) H4 ew 4 (edgeCells es) := g3.ed.keepM k4 (fun j hj hm => by
        rcases hm with hm | hm | hm
        · have := (g3.ed.sid_ge hj).1; omega
        · exact g3.apart _ _ _ v1 hm hj
        · exact g3.apart _ _ _ v2 hm hj)
      have ap4 := apart_put (w := ew) g3.apart (by omega) (fun j hj => (g3.ed.sid_ge hj).2) t (p := 2 * s) (by rw [List.length_append]; omega)
      have k4' : Keep Nothing H H4 := g3.keep.trans' k4 (fun j hj hm => by
        rcases hm with hm | hm | hm
        · omega
        · have := (x1 j hm).1; omega
        · have := (x2 j hm).1; omega)
      have bx4 := (k4.obj (H.next + 3) (by omega) (fun hm => by
        rcases hm with hm | hm | hm
        · omega
        · have := (x1 _ hm).1; omega
        · have := (x2 _ hm).1; omega)).trans bx
      have oi4 := (k4.obj (H.next + 2) (by omega) (fun hm => by
        rcases hm with hm | hm | hm
        · omega
        · have := (x1 _ hm).1; omega
        · have := (x2 _ hm).1; omega)).trans g3.oi
      have o34 := (k4.obj H2.next (by omega) (fun hm => by
        rcases hm with hm | hm | hm
        · omega
        · have := (x1 _ hm).2; omega
        · have := (x2 _ hm).2; omega)).trans o3
      have n4 := k4.next
      rw [List.set_append_left _ _ (by omega), List.set_append_left _ _ (by rw [List.length_set]; omega)] at bag4 ap4
      simp (disch := first | omega | (simp only [nx] <;> omega) | fail) only [vaw, o34, bx4, md, Int.toNat_natCast, Nat.reduceAdd, Nat.reduceMul, Nat.reduceLeDiff, Nat.reduceEqDiff, ↓reduceIte]
      obtain ⟨r3, u3⟩ : ∃ r, ui[2 * d]? = some r := ⟨_, List.getElem?_eq_getElem (by omega)⟩
      obtain ⟨r4, u4⟩ : ∃ r, ui[2 * d + 1]? = some r := ⟨_, List.getElem?_eq_getElem (by omega)⟩
      have l1' : ((uo.set (2 * s) r1').set (2 * s + 1) r2').length = 2 * N := by simp [l1]
      have L : (((uo.set (2 * s) r1').set (2 * s + 1) r2') ++ ui).length = 4 * N := by rw [List.length_append, l1']; omega
      have v3 : (((uo.set (2 * s) r1').set (2 * s + 1) r2') ++ ui)[2 * N + 2 * d]? = some r3 := by rw [List.getElem?_append_right (by omega), l1', Nat.add_sub_cancel_left]; exact u3
      have v4 : (((uo.set (2 * s) r1').set (2 * s + 1) r2') ++ ui)[2 * N + 2 * d + 1]? = some r4 := by rw [List.getElem?_append_right (by omega), l1', show 2 * N + 2 * d + 1 - 2 * N = 2 * d + 1 by omega]; exact u4
      have w3' : ((ls.set (2 * s) (picks (isSrc s) es i ++ [(i : Int)])).set (2 * s + 1) (m2 ++ [(d : Int)]))[2 * N + 2 * d]? = some (picks (isDst d) es i) := by rw [set2_ne (by omega) (by omega)]; exact w3
      have w4' : ((ls.set (2 * s) (picks (isSrc s) es i ++ [(i : Int)])).set (2 * s + 1) (m2 ++ [(d : Int)]))[2 * N + 2 * d + 1]? = some m4 := by rw [set2_ne (by omega) (by omega)]; exact w4
      have x3 := fun j hj => (bag4.rows _ _ _ v3 w3').sid_ge (j := j) hj
      have x4 := fun j hj => (bag4.rows _ _ _ v4 w4').sid_ge (j := j) hj
      refine ends_add_ret oi4 u3 u4 (bag4.rows _ _ _ v3 w3') (bag4.rows _ _ _ v4 w4') (by omega) (by omega) (fun j h h' => by have := bag4.two _ _ _ _ j v3 v4 h h'; omega) (by omega) (by omega) fun r3' r4' H5 k5 o5 q3 q4 t5 => ?_
      have bag5 := bag4.put v3 v4 (by omega) k5 q3 q4 t5
      have ap5 := apart_put (w := ew) ap4 (by omega) (fun j hj => (ed4.sid_ge hj).2) t5 (p := 2 * N + 2 * d) (by omega)
      rw [List.set_append_right _ _ (by omega), l1', Nat.add_sub_cancel_left, List.set_append_right _ _ (by omega), l1', show 2 * N + 2 * d + 1 - 2 * N = 2 * d + 1 by omega] at bag5 ap5
      have ed5 : Own (H.next + 3 + 1) H5 ew 4 (edgeCells es) := ed4.keepM k5 (fun j hj hm => by
        rcases hm with hm | hm | hm
        · have := (ed4.sid_ge hj).1; omega
        · exact ap4 _ _ _ v3 hm hj
        · exact ap4 _ _ _ v4 hm hj)
      have k5' : Keep Nothing H H5 := k4'.trans' k5 (fun j hj hm => by
        rcases hm with hm | hm | hm
        · omega
        · have := (x3 j hm).1; omega
        · have := (x4 j hm).1; omega)
      have bx5 := (k5.obj (H.next + 3) (by omega) (fun hm => by
        rcases hm with hm | hm | hm
        · omega
        · have := (x3 _ hm).1; omega
        · have := (x4 _ hm).1; omega)).trans bx4
      have oo5 := (k5.obj (H.next + 1) (by omega) (fun hm => by
        rcases hm with hm | hm | hm
        · omega
        · have := (x3 _ hm).1; omega
        · have := (x4 _ hm).1; omega)).trans o4
      have n5 := k5.next
      have rows5 := g3.rows.step he hs hd sN dN w2 w4
      rw [hs, hd] at rows5
      simp (disch := first | omega | (simp only [nx] <;> omega) | fail) only [vaw, Nat.reduceAdd, Nat.reduceMul, Nat.reduceLeDiff, Nat.reduceEqDiff, ↓reduceIte]
      exact ⟨es.length - (i + 1), by omega, i + 1, _, _, _, rfl, by omega, rfl, k5', bx5, ed5, oo5, o5, l1', by simp [l2], bag5, rows5, ⟨by omega, by omega, by omega, by omega⟩, ap5⟩
    · have : i = es.length := by omega
      subst this
      simp (disch := first | omega | (simp only [nx] <;> omega) | fail) only [vaw, hc, Nat.reduceAdd, Nat.reduceMul, Nat.reduceLeDiff, Nat.reduceEqDiff, ↓reduceIte]
      exact hq _ _ _ _ _ _ _ g.keep g.adj
end Go.Proofs.Ytknhlpmmalcchaa

namespace Go.Proofs.Ytknhlpmmalcchaa
open Go Go.VAI
set_option linter.unusedSimpArgs false

theorem RowC.whole {H : AHeap} {v : AVal} {sz n : Nat} {cs : List AVal} (h : RowC H v sz cs) (hsz : 0 < sz) (hn : cs.length = n * sz) {kd : IntKind} : ∃ v', aslice sz v none (some (.int kd (n : Int))) (some (.int kd (n : Int))) = some v' ∧ Row H v' sz cs := by
  obtain ⟨hr, ho⟩ := h
  cases hr with
  | nil =>
    have : n = 0 := by
      rcases Nat.eq_zero_or_pos n with h | h
      · exact h
      · have := Nat.mul_pos h hsz; simp at hn; omega
    subst this
    exact ⟨.nilSlice, by simp [aslice, obound, bound, bnd], .nil⟩
  | @mk id off len _ cap c _ hid hc hl hcs =>
    subst hcs
    simp only [List.length_take, List.length_drop] at hn
    have : len * sz = n * sz := by omega
    have hln := Nat.eq_of_mul_eq_mul_right hsz this
    subst hln
    have e : aslice sz (.slice id off len cap) none (some (.int kd (len : Int))) (some (.int kd (len : Int))) = some (.slice id off len (.exact len)) := by
      have hl2 : len ≤ cap.top len := by
        cases cap with
        | exact m => exact ho
        | room s => exact Nat.le_refl _
      have : (len : Int) ≤ (cap.top len : Int) := by omega
      simp [aslice, obound, bound, bnd, this]
    exact ⟨_, e, .mk (c := c) hid hc (by omega) rfl⟩
theorem side_ret {a o N : Nat} {v : Nat} {h0 h1 h3 : AVal} {r r' : AVal} {rw' : Bool} {so : Nat} {us : List AVal} {H : AHeap} {Q : AVal → AHeap → Prop} (ho : H.obj a = some (.cells [h0, h1, .slice o 0 N (.exact N), h3] rw')) (hal : a < H.next) (hso : so < H.next) (hv : v < N) (hu : H.obj so = some (.cells us true)) (hul : us.length = 2 * N) (hr : us[2 * v]? = some r) (hr' : us[2 * v + 1]? = some r')
    (hq : ∀ H', Keep Nothing H H' → Q (.agg [r, r']) H') : Ret A 111 [.ptr a 0, .slice so 0 N (.exact N), .int .i64 v] H Q := by
  refine Ret.of (fn := F111) rfl ?_
  simp (disch := first | omega | (simp only [nx] <;> omega) | fail) only [vaw, F111, Nat.reduceAdd, Nat.reduceMul, Nat.reduceLeDiff, Nat.reduceEqDiff, ↓reduceIte]
  have k1 : Keep Nothing H (H.new (.cells [.nilSlice, .nilSlice] true)) := (Keep.refl _ _).new _
  have b1 := (k1.old hal).trans ho
  have u1 := (k1.old hso).trans hu
  have f1 : (H.new (.cells [.nilSlice, .nilSlice] true)).obj H.next = some (.cells [.nilSlice, .nilSlice] true) := obj_new_eq rfl
  have n1 : (H.new (.cells [.nilSlice, .nilSlice] true)).next = H.next + 1 := rfl
  generalize H.new (.cells [.nilSlice, .nilSlice] true) = H1 at *
  refine adj_is_ret b1 fun b sb => ?_
  have hb : b = true := sb.2 ⟨by omega, by omega⟩
  subst hb
  have mv : v * 2 = 2 * v := Nat.mul_comm _ _
  have hle : 2 * v + 2 ≤ us.length := by omega
  have d1 : (us.drop (2 * v)).take 2 = [r, r'] := by
    obtain ⟨l1, e1⟩ := List.getElem?_eq_some_iff.1 hr
    obtain ⟨l2, e2⟩ := List.getElem?_eq_some_iff.1 hr'
    rw [List.drop_eq_getElem_cons l1, List.drop_eq_getElem_cons l2, e1, e2]; rfl
  simp (disch := first | omega | (simp only [nx] <;> omega) | fail) only [vaw, u1, mv, Int.toNat_natCast, hle, d1, f1, Nat.reduceAdd, Nat.reduceMul, Nat.reduceLeDiff, Nat.reduceEqDiff, ↓reduceIte]
  exact hq _ (k1.upd (.inl (Nat.le_refl _)) _)
theorem list_ret {r r' : AVal} {xs : List Int} {H : AHeap} {Q : AVal → AHeap → Prop} (hr : RowC H r 1 (ints xs)) (hn : xs.length ≤ 1000000) (hq : ∀ v' H', Keep Nothing H H' → Own H.next H' v' 1 (ints xs) → Q v' H') : Ret A 114 [.agg [r, r']] H Q := by
  refine Ret.of (fn := F114) rfl ?_
  have hl := hr.1.len1
  rw [ints_length] at hl
  obtain ⟨v', e1, r1⟩ := RowC.whole hr (n := xs.length) (kd := .i64) (by omega) (by rw [ints_length, Nat.mul_one])
  simp (disch := first | omega | (simp only [nx] <;> omega) | fail) only [vaw, F114, hl, e1, Nat.reduceAdd, Nat.reduceMul, Nat.reduceLeDiff, Nat.reduceEqDiff, ↓reduceIte]
  have k1 : Keep Nothing H (H.new (.cells [r, r'] true)) := (Keep.refl _ _).new _
  refine cloneI_ret (r1.kept k1) (by omega) fun v2 H2 k2 g2 => ?_
  simp (disch := first | omega | (simp only [nx] <;> omega) | fail) only [vaw, g2.notBot, Nat.reduceAdd, Nat.reduceMul, Nat.reduceLeDiff, Nat.reduceEqDiff, ↓reduceIte]
  exact hq _ _ (k1.trans k2) (g2.lower (by have := k1.next; omega))
theorem adjOut_ret {a o i N : Nat} {v : Nat} {es : List Edge} {ew : AVal} {uo ui : List AVal} {H : AHeap} {Q : AVal → AHeap → Prop} (h : AdjAt H a o i N es ew uo ui) (hv : v < N) (hn : es.length ≤ 1000)
    (hq : ∀ v' H', Keep Nothing H H' → Own H.next H' v' 1 (ints (picks (isSrc v) es es.length)) → Q v' H') : Ret A 85 [.ptr a 0, .int .i64 v] H Q := by
  refine Ret.of (fn := F85) rfl ?_
  have bx := h.box
  obtain ⟨r, r', u1, u2, rc, -⟩ := h.ro v hv
  have hl := @picks_length (isSrc v) es es.length
  simp (disch := first | omega | (simp only [nx] <;> omega) | fail) only [vaw, F85, bx, Nat.reduceAdd, Nat.reduceMul, Nat.reduceLeDiff, Nat.reduceEqDiff, ↓reduceIte]
  refine side_ret bx h.lt.1 h.lt.2.1 hv h.oo h.lo u1 u2 fun H1 k1 => ?_
  simp (disch := first | omega | (simp only [nx] <;> omega) | fail) only [vaw, Nat.reduceAdd, Nat.reduceMul, Nat.reduceLeDiff, Nat.reduceEqDiff, ↓reduceIte]
  refine list_ret (RowC.kept rc k1) (by omega) fun v2 H2 k2 g2 => ?_
  simp (disch := first | omega | (simp only [nx] <;> omega) | fail) only [vaw, g2.notBot, Nat.reduceAdd, Nat.reduceMul, Nat.reduceLeDiff, Nat.reduceEqDiff, ↓reduceIte]
  exact hq _ _ (k1.trans k2) (g2.lower k1.next)
theorem adjIn_ret {a o i N : Nat} {v : Nat} {es : List Edge} {ew : AVal} {uo ui : List AVal} {H : AHeap} {Q : AVal → AHeap → Prop} (h : AdjAt H a o i N es ew uo ui) (hv : v < N) (hn : es.length ≤ 1000)
    (hq : ∀ v' H', Keep Nothing H H' → Own H.next H' v' 1 (ints (picks (isDst v) es es.length)) → Q v' H') : Ret A 86 [.ptr a 0, .int .i64 v] H Q := by
  refine Ret.of (fn := F86) rfl ?_
  have bx := h.box
  obtain ⟨r, r', u1, u2, rc, -⟩ := h.ri v hv
  have hl := @picks_length (isDst v) es es.length
  simp (disch := first | omega | (simp only [nx] <;> omega) | fail) only [vaw, F86, bx, Nat.reduceAdd, Nat.reduceMul, Nat.reduceLeDiff, Nat.reduceEqDiff, ↓reduceIte]
  refine side_ret bx h.lt.1 h.lt.2.2 hv h.oi h.li u1 u2 fun H1 k1 => ?_
  simp (disch := first | omega | (simp only [nx] <;> omega) | fail) only [vaw, Nat.reduceAdd, Nat.reduceMul, Nat.reduceLeDiff, Nat.reduceEqDiff, ↓reduceIte]
  refine list_ret (RowC.kept rc k1) (by omega) fun v2 H2 k2 g2 => ?_
  simp (disch := first | omega | (simp only [nx] <;> omega) | fail) only [vaw, g2.notBot, Nat.reduceAdd, Nat.reduceMul, Nat.reduceLeDiff, Nat.reduceEqDiff, ↓reduceIte]
  exact hq _ _ (k1.trans k2) (g2.lower k1.next)
end Go.Proofs.Ytknhlpmmalcchaa

namespace Go.Proofs.Ytknhlpmmalcchaa
open Go Go.VAI
set_option linter.unusedSimpArgs false

structure Sp (a0 a1 a2 a3 a4 a5 : Nat) (H : AHeap) (ew rv av uv dv : AVal) (LE R LA : List Int) (us ds : List AVal) (up down : List (List Int)) : Prop where
  er : Own a4 H ew 4 (ints LE)
  ei : In a4 a5 ew
  rr : Own a0 H rv 1 (ints R)
  ri : In a0 a1 rv
  ar : Own a1 H av 7 (ints LA)
  ai : In a1 a2 av
  ur : OwnRows a2 a3 H uv us up
  dr : OwnRows a3 a4 H dv ds down
  o : a0 ≤ a1 ∧ a1 ≤ a2 ∧ a2 ≤ a3 ∧ a3 ≤ a4 ∧ a4 ≤ a5 ∧ a5 ≤ H.next
theorem arc_of : ∀ (n : Nat) (L : List Int), L.length = 7 * n → ∃ arcs : List Arc, arcCells arcs = ints L ∧ arcs.length = n
  | 0, L, h => by
    have := List.eq_nil_of_length_eq_zero (by omega : L.length = 0)
    subst this
    exact ⟨[], rfl, rfl⟩
  | n + 1, L, h => by
    match L, h with
    | a :: b :: c :: d :: e :: f :: g :: L', h =>
      obtain ⟨arcs, h1, h2⟩ := arc_of n L' (by simp at h; omega)
      refine ⟨⟨a, b, c, d, e, f, g⟩ :: arcs, ?_, by simp [h2]⟩
      have e1 : arcCells (⟨a, b, c, d, e, f, g⟩ :: arcs) = (⟨a, b, c, d, e, f, g⟩ : Arc).cells ++ arcCells arcs := by simp [arcCells]
      rw [e1, h1]
      simp [Arc.cells, ints]
theorem edge_of : ∀ (n : Nat) (L : List Int), L.length = 4 * n → ∃ es : List Edge, edgeCells es = ints L ∧ es.length = n
  | 0, L, h => by
    have := List.eq_nil_of_length_eq_zero (by omega : L.length = 0)
    subst this
    exact ⟨[], rfl, rfl⟩
  | n + 1, L, h => by
    match L, h with
    | a :: b :: c :: d :: L', h =>
      obtain ⟨es, h1, h2⟩ := edge_of n L' (by simp at h; omega)
      refine ⟨⟨a, b, c, d⟩ :: es, ?_, by simp [h2]⟩
      have e1 : edgeCells (⟨a, b, c, d⟩ :: es) = (⟨a, b, c, d⟩ : Edge).cells ++ edgeCells es := by simp [edgeCells]
      rw [e1, h1]
      simp [Edge.cells, ints]
theorem idx_of {lo ne na : Nat} {n : Int} {H : AHeap} {ew rv av uv dv : AVal} {LE R LA : List Int} {up down : List (List Int)} (he : From lo H ew 4 (ints LE)) (hle : LE.length = 4 * ne) (hr : From lo H rv 1 (ints R)) (ha : From lo H av 7 (ints LA)) (hla : LA.length = 7 * na) (hu : FromRows lo H uv up) (hd : FromRows lo H dv down) :
    ∃ y : Idx, y.n = n ∧ y.rank = R ∧ y.up = up ∧ y.down = down ∧ IdxFrom lo H ew rv av uv dv y := by
  obtain ⟨es, e1, _⟩ := edge_of ne LE hle
  obtain ⟨arcs, e2, _⟩ := arc_of na LA hla
  exact ⟨⟨n, es, R, arcs, up, down⟩, rfl, rfl, rfl, rfl, ⟨by rw [e1]; exact he, hr, by rw [e2]; exact ha, hu, hd⟩⟩
theorem Own.slotN {lo sz n : Nat} {H : AHeap} {v : AVal} {cs : List AVal} (h : Own lo H v sz cs) (hsz : 0 < sz) (hn : cs.length = n * sz) {j : Nat} (hj : j < n) {k : IntKind} : ∃ id, sid v = some id ∧ lo ≤ id ∧ id < H.next ∧ aindexAddrS sz v (.int k (j : Int)) = some (.ptr id (j * sz)) ∧ H.obj id = some (.cells cs true) ∧
    ∀ (H' : AHeap) c', H.next ≤ H'.next → H'.obj id = some (.cells c' true) → c'.length = cs.length → Own lo H' v sz c' := by
  cases h with
  | nil =>
    have := Nat.mul_pos (show 0 < n by omega) hsz
    simp at hn; omega
  | @room id len _ _ hlo hhi ho hlen =>
    have : len = n := Nat.eq_of_mul_eq_mul_right hsz (by omega)
    subst this
    exact ⟨id, rfl, hlo, hhi, by rw [aindexAddrS_slice ⟨by omega, by omega⟩]; simp, ho, fun H' c' h1 h2 h3 => .room hlo (by omega) h2 (by omega)⟩
  | @full id len _ _ hlo hhi ho hlen =>
    have : len = n := Nat.eq_of_mul_eq_mul_right hsz (by omega)
    subst this
    exact ⟨id, rfl, hlo, hhi, by rw [aindexAddrS_slice ⟨by omega, by omega⟩]; simp, ho, fun H' c' h1 h2 h3 => .full hlo (by omega) h2 (by omega)⟩
section
variable {a0 a1 a2 a3 a4 a5 ne na : Nat} {H : AHeap} {ew rv av uv dv : AVal} {LE R LA : List Int} {us ds : List AVal} {up down : List (List Int)} {n : Int}
theorem Sp.M (h : Sp a0 a1 a2 a3 a4 a5 H ew rv av uv dv LE R LA us ds up down) {M : Nat → Prop} {H' : AHeap} (hk : Keep M H H') (hM : ∀ j, M j → j < a0 ∨ a5 ≤ j) : Sp a0 a1 a2 a3 a4 a5 H' ew rv av uv dv LE R LA us ds up down := by
  have o := h.o
  have nm : ∀ j, a0 ≤ j → j < a5 → ¬ M j := fun j h1 h2 hm => by have := hM j hm; omega
  exact ⟨h.er.keepM hk (fun j hj => nm j (by have := h.ei j hj; omega) (by have := h.ei j hj; omega)), h.ei, h.rr.keepM hk (fun j hj => nm j (by have := h.ri j hj; omega) (by have := h.ri j hj; omega)), h.ri, h.ar.keepM hk (fun j hj => nm j (by have := h.ai j hj; omega) (by have := h.ai j hj; omega)), h.ai,
    h.ur.M hk (fun j h1 h2 => nm j (by omega) (by omega)), h.dr.M hk (fun j h1 h2 => nm j (by omega) (by omega)), by have := hk.next; omega⟩
theorem Sp.kept (h : Sp a0 a1 a2 a3 a4 a5 H ew rv av uv dv LE R LA us ds up down) {H' : AHeap} (hk : Keep Nothing H H') : Sp a0 a1 a2 a3 a4 a5 H' ew rv av uv dv LE R LA us ds up down := h.M hk (fun _ h => h.elim)
theorem Sp.end (h : Sp a0 a1 a2 a3 a4 a5 H ew rv av uv dv LE R LA us ds up down) (hle : LE.length = 4 * ne) (hla : LA.length = 7 * na) : ∃ y : Idx, y.n = n ∧ y.rank = R ∧ y.up = up ∧ y.down = down ∧ IdxFrom a0 H ew rv av uv dv y := by
  have o := h.o
  exact idx_of ⟨h.er.row, fun j hj => by have := h.ei j hj; omega⟩ hle ⟨h.rr.row, fun j hj => by have := h.ri j hj; omega⟩ ⟨h.ar.row, fun j hj => by have := h.ai j hj; omega⟩ hla (h.ur.from (by omega)) (h.dr.from (by omega))
end
theorem OwnRows.put {a b lo : Nat} {H H' : AHeap} {M : Nat → Prop} {av r' : AVal} {us : List AVal} {ul : List (List Int)} (h : OwnRows a b H av us ul) (hlo : lo ≤ a) {k : Nat} {l' : List Int} {r : AVal} (hr : us[k]? = some r)
    (hk : Keep M H H') (hM : ∀ j, M j → sid r = some j ∨ sid av = some j) (ho : Own a H' av 1 (us.set k r')) (hn : Row H' r' 1 (ints l')) (hs : ∀ j, sid r' = some j → lo ≤ j) : FromRows lo H' av (ul.set k l') := by
  refine ⟨us.set k r', ⟨ho.row, fun j hj => by have := (h.inA j hj).1; omega⟩, by simp [h.len], fun i r1 l1 e1 e2 => ?_⟩
  by_cases hik : k = i
  · subst hik
    have h1 : k < us.length := (List.getElem?_eq_some_iff.1 hr).1
    rw [List.getElem?_set, if_pos rfl, if_pos h1] at e1
    rw [List.getElem?_set, if_pos rfl, if_pos (by rw [← h.len]; exact h1)] at e2
    injection e1 with e1; injection e2 with e2
    subst e1; subst e2
    exact ⟨hn, hs⟩
  · rw [List.getElem?_set, if_neg hik] at e1 e2
    refine ⟨((h.rows i r1 l1 e1 e2).keepM hk (fun j hj hm => ?_)).row, fun j hj => by have := (h.inR i r1 e1 j hj).1; omega⟩
    rcases hM j hm with h1 | h1
    · exact hik (h.two k i r r1 j hr e1 h1 hj)
    · exact h.apart i r1 j e1 hj h1
end Go.Proofs.Ytknhlpmmalcchaa
