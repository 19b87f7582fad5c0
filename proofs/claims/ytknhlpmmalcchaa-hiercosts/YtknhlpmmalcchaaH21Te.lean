/- Steps of the walk. -/
import Derived.Test.YtknhlpmmalcchaaH21Td
import Derived.Test.YtknhlpmmalcchaaH21Ta
import Derived.Sort.AssemblyPlain
import Derived.Sort.LotA
import Derived.Test.YtknhlpmmalcchaaH21Tc
import Derived.Test.YtknhlpmmalcchaaH21Pa
set_option linter.all false
set_option linter.unusedVariables false
set_option linter.unusedSimpArgs false
namespace Go.Proofs.Ytknhlpmmalcchaa
open Go Go.VAI
set_option linter.unusedSimpArgs false

def wayOf (es : List Edge) (x : Int) : Nat := (es[x.toNat]?).elim 0 fun e => e.mode.toNat
theorem bit_one (m i : Nat) : (1 <<< m).testBit i = decide (m = i) := by
 rw [Nat.one_shiftLeft, Nat.testBit_two_pow]
theorem orModes_bit (es : List Edge) (i : Nat) : ∀ (xs : List Int) (a : Nat), (orModes es xs a).testBit i = true ↔ a.testBit i = true ∨ ∃ x ∈ xs, wayOf es x = i
 | [], a => by simp [orModes]
 | x :: l, a => by
  rw [orModes, orModes_bit es i l, Nat.testBit_or, bit_one, Bool.or_eq_true, decide_eq_true_iff]
  simp only [List.mem_cons, wayOf]
  constructor
  ·rintro ((h | h) | ⟨y, h1, h2⟩)
   ·exact .inl h
   ·exact .inr ⟨x, .inl rfl, h⟩
   ·exact .inr ⟨y, .inr h1, h2⟩
  ·rintro (h | ⟨y, rfl | h1, h2⟩)
   ·exact .inl (.inl h)
   ·exact .inl (.inr h2)
   ·exact .inr ⟨y, h1, h2⟩
def ways (v : Int) (es : List Edge) (a : Nat) : Nat := es.foldl (fun s e => if e.src = v ∨ e.dst = v then s ||| 1 <<< e.mode.toNat else s) a
theorem ways_bit (v : Int) (i : Nat) : ∀ (es : List Edge) (a : Nat), (ways v es a).testBit i = true ↔ a.testBit i = true ∨ ∃ e ∈ es, (e.src = v ∨ e.dst = v) ∧ e.mode.toNat = i
 | [], a => by simp [ways]
 | e :: l, a => by
  have ih := ways_bit v i l
  unfold ways at ih ⊢
  rw [List.foldl_cons, ih]
  by_cases h : e.src = v ∨ e.dst = v
  ·rw [if_pos h, Nat.testBit_or, bit_one, Bool.or_eq_true, decide_eq_true_iff]
   constructor
   ·rintro ((h1 | h1) | ⟨y, h1, h2⟩)
    ·exact .inl h1
    ·exact .inr ⟨e, List.mem_cons_self, h, h1⟩
    ·exact .inr ⟨y, List.mem_cons_of_mem _ h1, h2⟩
   ·rintro (h1 | ⟨y, hy, h1, h2⟩)
    ·exact .inl (.inl h1)
    ·rcases List.mem_cons.1 hy with rfl | hy
     ·exact .inl (.inr h2)
     ·exact .inr ⟨y, hy, h1, h2⟩
  ·rw [if_neg h]
   constructor
   ·rintro (h1 | ⟨y, h1, h2⟩)
    ·exact .inl h1
    ·exact .inr ⟨y, List.mem_cons_of_mem _ h1, h2⟩
   ·rintro (h1 | ⟨y, hy, h1, h2⟩)
    ·exact .inl h1
    ·rcases List.mem_cons.1 hy with rfl | hy
     ·exact absurd h1 h
     ·exact .inr ⟨y, hy, h1, h2⟩
theorem ways_eq (v : Int) : ∀ (es : List Edge) (a : Nat), (∀ e ∈ es, 0 ≤ e.mode ∧ e.mode < 5) → a < 32 →
  es.foldl (fun s e => if e.src = v ∨ e.dst = v then orI .i64 s (shlI .i64 1 e.mode) else s) (a : Int) = ((ways v es a : Nat) : Int) ∧ ways v es a < 32
 | [], a, _, h => ⟨rfl, h⟩
 | e :: l, a, hm, h => by
  have ih := ways_eq v l
  unfold ways at ih ⊢
  rw [List.foldl_cons, List.foldl_cons]
  have hme := hm e List.mem_cons_self
  obtain ⟨m, hm2⟩ := Int.eq_ofNat_of_zero_le hme.1
  have o := or32 a h m (by omega)
  rw [hm2, Int.toNat_natCast]
  by_cases hs : e.src = v ∨ e.dst = v
  ·rw [if_pos hs, if_pos hs, o.1]
   exact ih _ (fun e he => hm e (List.mem_cons_of_mem _ he)) o.2
  ·rw [if_neg hs, if_neg hs]
   exact ih _ (fun e he => hm e (List.mem_cons_of_mem _ he)) h
theorem count32 : ∀ z : Nat, z < 32 → (2 ≤ ((List.range 5).filter fun i => z.testBit i).length ↔ 2 ≤ modesIn (z : Int) 5) := by decide
theorem picks_mem {p : Edge → Bool} {es : List Edge} {x : Int} : x ∈ picks p es es.length ↔ ∃ (j : Nat) (e : Edge), x = j ∧ es[j]? = some e ∧ p e = true := by
 simp only [picks, List.mem_map, List.mem_filter, List.mem_range]
 constructor
 ·rintro ⟨j, ⟨h1, h2⟩, rfl⟩
  rw [List.getElem?_eq_getElem h1] at h2
  exact ⟨j, es[j], rfl, List.getElem?_eq_getElem h1, h2⟩
 ·rintro ⟨j, e, rfl, h1, h2⟩
  refine ⟨j, ⟨(List.getElem?_eq_some_iff.1 h1).1, ?_⟩, rfl⟩
  rw [h1]; exact h2
theorem linkB_eq {es : List Edge} (hm : ∀ e ∈ es, 0 ≤ e.mode ∧ e.mode < 5) (v : Nat) : linkB es v = linkAt es (v : Int) := by
 obtain ⟨h1, h2⟩ := ways_eq (v : Int) es 0 hm (by decide)
 have hz : orModes es (picks (isDst v) es es.length) (orModes es (picks (isSrc v) es es.length) 0) = ways v es 0 := by
  refine Nat.eq_of_testBit_eq fun i => ?_
  rw [Bool.eq_iff_iff, orModes_bit, orModes_bit, ways_bit]
  simp only [Nat.zero_testBit, Bool.false_eq_true, false_or, picks_mem]
  constructor
  ·rintro (⟨x, ⟨j, e, rfl, h3, h4⟩, h5⟩ | ⟨x, ⟨j, e, rfl, h3, h4⟩, h5⟩)
   ·refine ⟨e, List.mem_of_getElem? h3, .inl (by simpa using h4), ?_⟩
    simpa [wayOf, h3] using h5
   ·refine ⟨e, List.mem_of_getElem? h3, .inr (by simpa using h4), ?_⟩
    simpa [wayOf, h3] using h5
  ·rintro ⟨e, he, h3, h4⟩
   obtain ⟨j, hj⟩ := List.mem_iff_getElem?.1 he
   rcases h3 with h3 | h3
   ·exact .inl ⟨j, ⟨j, e, rfl, hj, by simpa using h3⟩, by simpa [wayOf, hj] using h4⟩
   ·exact .inr ⟨j, ⟨j, e, rfl, hj, by simpa using h3⟩, by simpa [wayOf, hj] using h4⟩
 have e1 : linkB es v = decide (2 ≤ ((List.range 5).filter fun i => (ways v es 0).testBit i).length) := by unfold linkB; rw [hz]
 have e2 : linkAt es (v : Int) = decide (2 ≤ modesIn ((ways v es 0 : Nat) : Int) 5) := by
  unfold linkAt modesOf
  have h1' : es.foldl (fun s e => if e.src = (v : Int) ∨ e.dst = (v : Int) then orI .i64 s (shlI .i64 1 e.mode) else s) 0 = ((ways v es 0 : Nat) : Int) := h1
  rw [h1']
 rw [e1, e2]
 exact decide_eq_decide.2 (count32 _ h2)
theorem dgB_eq (es : List Edge) (v : Nat) : dgB es v = (degree es (v : Int) : Nat) := by
 exact (Int.natCast_add _ _).symm
end Go.Proofs.Ytknhlpmmalcchaa

namespace Go.Proofs.Ytknhlpmmalcchaa
open Go Go.VAI Go.Sort
set_option linter.unusedSimpArgs false

theorem cmpI_zero {x y : Int} : cmpI x y = 0 ↔ x = y := by unfold cmpI; split <;> (try split) <;> omega
theorem cmpI_neg {x y : Int} : cmpI x y < 0 ↔ x < y := by unfold cmpI; split <;> (try split) <;> omega
theorem ranked_lt {a b : Int × Int} : ltOf rankedCmp a b = true ↔ a.2 < b.2 ∨ (a.2 = b.2 ∧ a.1 < b.1) := by
 have z := @cmpI_zero a.2 b.2
 have n := @cmpI_neg a.2 b.2
 have z1 := @cmpI_zero a.1 b.1
 have n1 := @cmpI_neg a.1 b.1
 unfold ltOf rankedCmp
 rw [decide_eq_true_iff]
 simp only [orOf]
 by_cases h : cmpI a.2 b.2 = 0
 ·rw [if_neg (fun q => q h)]
  have he := z.1 h
  by_cases h1 : cmpI a.1 b.1 = 0
  ·rw [if_neg (fun q => q h1)]
   have := z1.1 h1
   omega
  ·rw [if_pos h1, n1]
   omega
 ·rw [if_pos h, n]
  have := fun q => h (z.2 q)
  omega
theorem ranked_nlt {a b : Int × Int} : ltOf rankedCmp a b = false ↔ b.2 < a.2 ∨ (a.2 = b.2 ∧ b.1 ≤ a.1) := by
 rw [← Bool.not_eq_true, ranked_lt]; omega
theorem ranked_swo : SWO (ltOf rankedCmp) where
 irrefl x := by rw [ranked_nlt]; omega
 trans x y z h1 h2 := by rw [ranked_lt] at *; omega
 ntrans x y z h1 h2 := by rw [ranked_nlt] at *; omega
theorem ranked_two (x y : Int × Int) (h1 : ltOf rankedCmp x y = false) (h2 : ltOf rankedCmp y x = false) : x = y := by
 rw [ranked_nlt] at h1 h2
 refine Prod.ext ?_ ?_ <;> omega
def pairRow (es : List Edge) (d : Int) (n : Nat) : List (Int × Int) := ((List.range n).filter fun (v : Nat) => !linkAt es v && decide ((degree es v : Int) = d)).map fun (v : Nat) => ((v : Int), d)
def pairsOf (N : Nat) (es : List Edge) (k : Nat) : List (Int × Int) := (List.range k).flatMap fun (d : Nat) => pairRow es d N
theorem pairs_fst (N : Nat) (es : List Edge) (k : Nat) : (pairsOf N es k).map Prod.fst = orderOf N es k := by
 unfold pairsOf orderOf
 rw [List.map_flatMap]
 congr 1
 funext d
 simp [pairRow, orderRow, List.map_map, Function.comp_def]
theorem pairs_sorted (N : Nat) (es : List Edge) (k : Nat) : (pairsOf N es k).Pairwise fun a b => a.2 < b.2 ∨ (a.2 = b.2 ∧ a.1 < b.1) := by
 unfold pairsOf
 rw [List.pairwise_flatMap]
 refine ⟨fun d _ => ?_, ?_⟩
 ·unfold pairRow
  rw [List.pairwise_map]
  refine (List.pairwise_lt_range.filter _).imp fun h => .inr ⟨rfl, by simpa using h⟩
 ·refine List.pairwise_lt_range.imp fun {d d'} h => ?_
  intro x hx y hy
  simp only [pairRow, List.mem_map] at hx hy
  obtain ⟨v, _, rfl⟩ := hx
  obtain ⟨v', _, rfl⟩ := hy
  exact .inl (by simpa using h)
theorem pairs_perm (N : Nat) (es : List Edge) (hm : ∀ e ∈ es, 0 ≤ e.mode ∧ e.mode < 5) : (pairsOf N es (2 * es.length + 1)).Perm (rkB es N) := by
 have nd1 : (pairsOf N es (2 * es.length + 1)).Nodup := (pairs_sorted N es _).imp fun {a b} h e => by subst e; omega
 have nd2 : (rkB es N).Nodup := by
  unfold rkB
  rw [List.nodup_iff_pairwise_ne, List.pairwise_map]
  refine (List.pairwise_lt_range.filter _).imp fun {a b} h e => ?_
  have := congrArg Prod.fst e
  simp at this
  omega
 refine (List.perm_ext_iff_of_nodup nd1 nd2).2 fun x => ?_
 simp only [pairsOf, pairRow, rkB, List.mem_flatMap, List.mem_map, List.mem_filter, List.mem_range, Bool.and_eq_true, decide_eq_true_iff]
 constructor
 ·rintro ⟨d, hd, v, ⟨hv, hl, hdg⟩, rfl⟩
  refine ⟨v, ⟨hv, by rw [linkB_eq hm]; exact hl⟩, ?_⟩
  rw [dgB_eq, hdg]
 ·rintro ⟨v, ⟨hv, hl⟩, rfl⟩
  refine ⟨degree es v, ?_, v, ⟨hv, by rw [← linkB_eq hm]; exact hl, rfl⟩, ?_⟩
  ·have h1 := @picks_length (fun e => decide (e.src = (v : Int))) es es.length
   have h2 := @picks_length (fun e => decide (e.dst = (v : Int))) es es.length
   unfold degree
   omega
  ·rw [dgB_eq]
theorem odB_eq {N : Nat} {es : List Edge} (hm : ∀ e ∈ es, 0 ≤ e.mode ∧ e.mode < 5) : odB es N = orderOf N es (2 * es.length + 1) := by
 have hs := insertionSort_holds (lt := ltOf rankedCmp) ranked_swo (rkB es N).toArray 0 (rkB es N).toArray.size (by omega) (Nat.le_refl _)
 have hu := sorted_unique_holds (lt := ltOf rankedCmp) ranked_swo ranked_two
 have a1 := hu _ _ hs.1 hs.2
 have hp := pairs_perm N es hm
 have hl := hp.length_eq
 have a2 := hu (rkB es N).toArray (pairsOf N es (2 * es.length + 1)).toArray ⟨by simp [hl], fun i h => by
   have hi : (rkB es N).length ≤ i := by simp at h; omega
   rw [getElem!_neg _ _ (by simp; omega), getElem!_neg _ _ (by simp; omega)], by
    have ht : (pairsOf N es (2 * es.length + 1)).take (rkB es N).length = pairsOf N es (2 * es.length + 1) := List.take_of_length_le (by omega)
    simpa [ht] using hp⟩ (fun i j _ hij hj => by
   have hj' : j < (pairsOf N es (2 * es.length + 1)).length := by simp at hj; omega
   have := List.pairwise_iff_getElem.1 (pairs_sorted N es (2 * es.length + 1)) i j (by omega) hj' hij
   rw [ranked_nlt, getElem!_pos _ _ (by simp; omega), getElem!_pos _ _ (by simp; omega)]
   simp only [List.getElem_toArray]
   omega)
 have e : (insertionSort (ltOf rankedCmp) (rkB es N).toArray 0 (rkB es N).toArray.size).toList = pairsOf N es (2 * es.length + 1) := by rw [a1, ← a2]
 have e0 : odB es N = (insertionSort (ltOf rankedCmp) (rkB es N).toArray 0 (rkB es N).toArray.size).toList.map Prod.fst := by simp [odB]
 rw [e0, e, pairs_fst]
end Go.Proofs.Ytknhlpmmalcchaa

namespace Go.Proofs.Ytknhlpmmalcchaa
open Go Go.VAI
set_option linter.unusedSimpArgs false

theorem HLay.ranks {H : AHeap} {b mid rid uid did gid N : Nat} {es : List Edge} {ew av : AVal} {ms : List (Key × Int)} {arcs : List Arc} {gone : List Bool} {rank : List Int} {us ds : List AVal} (h : HLay H b mid rid uid did gid N es ew av ms arcs gone rank us ds) {rank' : List Int} (hg : rank'.length = N) :
  HLay (H.upd rid (some (.cells (ints rank') true))) b mid rid uid did gid N es ew av ms arcs gone rank' us ds := by
 obtain ⟨o1, o2, o3, o4, o5, o6⟩ := h.ord
 have kM : Keep (fun j => j = rid) H (H.upd rid (some (.cells (ints rank') true))) := (Keep.refl (fun j => j = rid) _).upd (.inr rfl) _
 exact ⟨(kM.obj _ (by omega) (by omega)).trans h.bo, (kM.obj _ (by omega) (by omega)).trans h.mo, obj_upd_eq rfl, (kM.obj _ (by omega) (by omega)).trans h.uo, (kM.obj _ (by omega) (by omega)).trans h.dO, (kM.obj _ (by omega) (by omega)).trans h.go, ⟨o1, o2, o3, o4, o5, o6⟩, h.ewid, h.edges.M kM (fun j hj e => by have := h.ewid j hj; omega), h.arcsO.keepM kM (fun j hj e => by have := (h.arcsO.sid_ge hj).1; omega), hg, h.ul, h.dl, h.gl⟩
theorem HLay.ups {H : AHeap} {b mid rid uid did gid N : Nat} {es : List Edge} {ew av : AVal} {ms : List (Key × Int)} {arcs : List Arc} {gone : List Bool} {rank : List Int} {us ds : List AVal} (h : HLay H b mid rid uid did gid N es ew av ms arcs gone rank us ds) {us' : List AVal} (hg : us'.length = N) :
  HLay (H.upd uid (some (.cells us' true))) b mid rid uid did gid N es ew av ms arcs gone rank us' ds := by
 obtain ⟨o1, o2, o3, o4, o5, o6⟩ := h.ord
 have kM : Keep (fun j => j = uid) H (H.upd uid (some (.cells us' true))) := (Keep.refl (fun j => j = uid) _).upd (.inr rfl) _
 exact ⟨(kM.obj _ (by omega) (by omega)).trans h.bo, (kM.obj _ (by omega) (by omega)).trans h.mo, (kM.obj _ (by omega) (by omega)).trans h.ro, obj_upd_eq rfl, (kM.obj _ (by omega) (by omega)).trans h.dO, (kM.obj _ (by omega) (by omega)).trans h.go, ⟨o1, o2, o3, o4, o5, o6⟩, h.ewid, h.edges.M kM (fun j hj e => by have := h.ewid j hj; omega), h.arcsO.keepM kM (fun j hj e => by have := (h.arcsO.sid_ge hj).1; omega), h.rl, hg, h.dl, h.gl⟩
theorem RowsAt.M' {lo : Nat} {M : Nat → Prop} {H H' : AHeap} {av av' : AVal} {us : List AVal} {ul : List (List Int)} (h : RowsAt lo H av us ul) (hk : Keep M H H') (hM : ∀ j, M j → j < lo ∨ sid av = some j) (ha : ∀ j, sid av' = some j → sid av = some j ∨ H.next ≤ j) : RowsAt lo H' av' us ul := by
 intro v r l h1 h2
 obtain ⟨h3, h4⟩ := h v r l h1 h2
 refine ⟨h3.M hk (fun j hj hm => ?_), fun j hj => ⟨(h4 j hj).1, fun e => ?_⟩⟩
 ·rcases hM j hm with h | h
  ·have := (h4 j hj).1; omega
  ·exact (h4 j hj).2 h
 ·rcases ha j e with ha | ha
  ·exact (h4 j hj).2 ha
  ·have := h3.sid_lt hj
   omega
theorem order_few {N : Nat} {l : List Int} (h : OrderOk N l) : l.length ≤ N := by
 have := few_below N l h.nodup h.bd
 exact this
theorem rowsAt_nil {lo : Nat} {H : AHeap} {av : AVal} (N : Nat) : RowsAt lo H av (List.replicate N .nilSlice) (List.replicate N []) := by
 intro v r l h1 h2
 have e1 := List.eq_of_mem_replicate (List.mem_of_getElem? h1)
 have e2 := List.eq_of_mem_replicate (List.mem_of_getElem? h2)
 subst e1; subst e2
 exact ⟨.nil, fun j hj => by cases hj⟩
theorem ints_set (l : List Int) (i : Nat) (x : Int) : (ints l).set i (.int .i64 x) = ints (l.set i x) := by simp [ints, List.map_set]
set_option maxRecDepth 20000 in
set_option maxHeartbeats 8000000 in
theorem hbuild_ret {N : Nat} {ev : AVal} {es : List Edge} {H : AHeap} {Q : AVal → AHeap → Prop} (hr : Row H ev 4 (edgeCells es)) (hnet : NetOk N es) (hN : N ≤ 12)
  (hq : ∀ ew rv av uv dv H', Keep Nothing H H' → IdxFrom H.next H' ew rv av uv dv (idxOf N es) → Q (.agg [.int .i64 N, ew, rv, av, uv, dv]) H') : Ret A 48 [.agg [.int .i64 N, ev]] H Q := by
 obtain ⟨hN1, hN2, hn, hok⟩ := hnet
 refine Ret.of (fn := F48) rfl ?_
 have hcells := hr.cells
 have hg1 : (N : Int) * ((1 : Nat) : Int) ≤ 140737488355328 := by omega
 have hg8 : (N : Int) * ((8 : Nat) : Int) ≤ 140737488355328 := by omega
 have hg2 : (N : Int) ≤ 9223372036854775807 := by omega
 have hg3 : (N : Int) * ((24 : Nat) : Int) ≤ 140737488355328 := by omega
 simp (disch := first | omega | (simp only [nx] <;> omega) | fail) only [vaw, F48, Nat.reduceAdd, Nat.reduceMul, Nat.reduceLeDiff, Nat.reduceEqDiff, ↓reduceIte]
 have k0 : Keep Nothing H ((H.new (.cells [.int .i64 N, ev] true)).new (.cells [.int .i64 0, .nilSlice, .nilSlice, .nilSlice, .nilSlice, .nilSlice] true)) := ((Keep.refl _ _).new _).new _
 have z1 : ((H.new (.cells [.int .i64 N, ev] true)).new (.cells [.int .i64 0, .nilSlice, .nilSlice, .nilSlice, .nilSlice, .nilSlice] true)).obj H.next = some (.cells [.int .i64 N, ev] true) := by simp (disch := first | omega | (simp only [nx] <;> omega) | fail) only [vaim]
 have z2 : ((H.new (.cells [.int .i64 N, ev] true)).new (.cells [.int .i64 0, .nilSlice, .nilSlice, .nilSlice, .nilSlice, .nilSlice] true)).obj (H.next + 1) = some (.cells [.int .i64 0, .nilSlice, .nilSlice, .nilSlice, .nilSlice, .nilSlice] true) := obj_new_eq rfl
 have nz : ((H.new (.cells [.int .i64 N, ev] true)).new (.cells [.int .i64 0, .nilSlice, .nilSlice, .nilSlice, .nilSlice, .nilSlice] true)).next = H.next + 2 := rfl
 generalize (H.new (.cells [.int .i64 N, ev] true)).new (.cells [.int .i64 0, .nilSlice, .nilSlice, .nilSlice, .nilSlice, .nilSlice] true) = HZ at *
 refine cloneE_ret (hr.kept k0) (by omega) fun ew H1 k1 g1 => ?_
 have n1 := k1.next
 have y1 := (k1.old (by omega)).trans z1
 have y2 := (k1.old (by omega)).trans z2
 have cw := g1.cells
 have hew : ∀ j, sid ew = some j → H.next + 2 ≤ j ∧ j < H1.next := fun j hj => by have := g1.sid_ge hj; omega
 have hcm : ∀ i, (AVal.map i).cells = some [AVal.map i] := fun _ => rfl
 simp (disch := first | omega | (simp only [nx] <;> omega) | fail) only [vaw, y1, y2, cw, amkSlice_int hg1 hg2, amkSlice_int hg8 hg2, amkSlice_int hg3 hg2, hcm, reps_oneB, Nat.reduceAdd, Nat.reduceMul, Nat.reduceLeDiff, Nat.reduceEqDiff, ↓reduceIte]
 have hXK : Keep (fun j => j = H.next) H1 (((((((((H1.upd H.next (some (.cells [.int .i64 N, ew] true))).new (.cells (List.replicate N (.int .i64 0)) true)).new (.cells (List.replicate N .nilSlice) true)).new (.cells (List.replicate N .nilSlice) true)).new (.amap [])).new (.cells (List.replicate N (.bool false)) true)).new (.cells [.int .i64 N, ew, .slice H1.next 0 N (.exact N), .nilSlice, .slice (H1.next + 1) 0 N (.exact N), .slice (H1.next + 1 + 1) 0 N (.exact N), .map (H1.next + 1 + 1 + 1), .slice (H1.next + 1 + 1 + 1 + 1) 0 N (.exact N)] true)).new (.cells [.nilPtr] true)).upd (H1.next + 1 + 1 + 1 + 1 + 1 + 1) (some (.cells [.ptr (H1.next + 1 + 1 + 1 + 1 + 1) 0] true))) := ((((((((Keep.refl (fun j => j = H.next) H1).upd (.inr rfl) _).new _).new _).new _).new _).new _).new _).new _ |>.upd (.inl (by first | omega | (simp only [next_new, next_upd]; omega))) _
 have hXH : HLay (((((((((H1.upd H.next (some (.cells [.int .i64 N, ew] true))).new (.cells (List.replicate N (.int .i64 0)) true)).new (.cells (List.replicate N .nilSlice) true)).new (.cells (List.replicate N .nilSlice) true)).new (.amap [])).new (.cells (List.replicate N (.bool false)) true)).new (.cells [.int .i64 N, ew, .slice H1.next 0 N (.exact N), .nilSlice, .slice (H1.next + 1) 0 N (.exact N), .slice (H1.next + 1 + 1) 0 N (.exact N), .map (H1.next + 1 + 1 + 1), .slice (H1.next + 1 + 1 + 1 + 1) 0 N (.exact N)] true)).new (.cells [.nilPtr] true)).upd (H1.next + 1 + 1 + 1 + 1 + 1 + 1) (some (.cells [.ptr (H1.next + 1 + 1 + 1 + 1 + 1) 0] true))) (H1.next + 1 + 1 + 1 + 1 + 1) (H1.next + 1 + 1 + 1) H1.next (H1.next + 1) (H1.next + 1 + 1) (H1.next + 1 + 1 + 1 + 1) N es ew .nilSlice [] [] (List.replicate N false) (List.replicate N 0) (List.replicate N .nilSlice) (List.replicate N .nilSlice) := by
  have e1 : bools (List.replicate N false) = List.replicate N (.bool false) := by simp [bools]
  have e2 : ints (List.replicate N 0) = List.replicate N (.int .i64 0) := by simp [ints]
  refine ⟨by simp (disch := first | omega | (simp only [nx] <;> omega) | fail) only [vaim], by simp (disch := first | omega | (simp only [nx] <;> omega) | fail) only [vaim]; rfl, by simp (disch := first | omega | (simp only [nx] <;> omega) | fail) only [vaim]; rw [e2], by simp (disch := first | omega | (simp only [nx] <;> omega) | fail) only [vaim], by simp (disch := first | omega | (simp only [nx] <;> omega) | fail) only [vaim], by simp (disch := first | omega | (simp only [nx] <;> omega) | fail) only [vaim]; rw [e1], ⟨by omega, by omega, by omega, by omega, by omega, (by first | omega | (simp only [next_new, next_upd]; omega))⟩, fun j hj => (hew j hj).2, g1.row.M hXK (fun j hj e => by have := hew j hj; omega), .nil, by simp, by simp, by simp, by simp⟩
 have hXc : (((((((((H1.upd H.next (some (.cells [.int .i64 N, ew] true))).new (.cells (List.replicate N (.int .i64 0)) true)).new (.cells (List.replicate N .nilSlice) true)).new (.cells (List.replicate N .nilSlice) true)).new (.amap [])).new (.cells (List.replicate N (.bool false)) true)).new (.cells [.int .i64 N, ew, .slice H1.next 0 N (.exact N), .nilSlice, .slice (H1.next + 1) 0 N (.exact N), .slice (H1.next + 1 + 1) 0 N (.exact N), .map (H1.next + 1 + 1 + 1), .slice (H1.next + 1 + 1 + 1 + 1) 0 N (.exact N)] true)).new (.cells [.nilPtr] true)).upd (H1.next + 1 + 1 + 1 + 1 + 1 + 1) (some (.cells [.ptr (H1.next + 1 + 1 + 1 + 1 + 1) 0] true))).obj (H1.next + 1 + 1 + 1 + 1 + 1 + 1) = some (.cells [.ptr (H1.next + 1 + 1 + 1 + 1 + 1) 0] true) := obj_upd_eq rfl
 have hXn : (((((((((H1.upd H.next (some (.cells [.int .i64 N, ew] true))).new (.cells (List.replicate N (.int .i64 0)) true)).new (.cells (List.replicate N .nilSlice) true)).new (.cells (List.replicate N .nilSlice) true)).new (.amap [])).new (.cells (List.replicate N (.bool false)) true)).new (.cells [.int .i64 N, ew, .slice H1.next 0 N (.exact N), .nilSlice, .slice (H1.next + 1) 0 N (.exact N), .slice (H1.next + 1 + 1) 0 N (.exact N), .map (H1.next + 1 + 1 + 1), .slice (H1.next + 1 + 1 + 1 + 1) 0 N (.exact N)] true)).new (.cells [.nilPtr] true)).upd (H1.next + 1 + 1 + 1 + 1 + 1 + 1) (some (.cells [.ptr (H1.next + 1 + 1 + 1 + 1 + 1) 0] true))).obj H.next = some (.cells [.int .i64 N, ew] true) := by simp (disch := first | omega | (simp only [nx] <;> omega) | fail) only [vaim]
 have hX2 := (hXK.obj (H.next + 1) (by omega) (by omega)).trans y2
 have hXN : (((((((((H1.upd H.next (some (.cells [.int .i64 N, ew] true))).new (.cells (List.replicate N (.int .i64 0)) true)).new (.cells (List.replicate N .nilSlice) true)).new (.cells (List.replicate N .nilSlice) true)).new (.amap [])).new (.cells (List.replicate N (.bool false)) true)).new (.cells [.int .i64 N, ew, .slice H1.next 0 N (.exact N), .nilSlice, .slice (H1.next + 1) 0 N (.exact N), .slice (H1.next + 1 + 1) 0 N (.exact N), .map (H1.next + 1 + 1 + 1), .slice (H1.next + 1 + 1 + 1 + 1) 0 N (.exact N)] true)).new (.cells [.nilPtr] true)).upd (H1.next + 1 + 1 + 1 + 1 + 1 + 1) (some (.cells [.ptr (H1.next + 1 + 1 + 1 + 1 + 1) 0] true))).next = H1.next + 7 := rfl
 generalize ((((((((H1.upd H.next (some (.cells [.int .i64 N, ew] true))).new (.cells (List.replicate N (.int .i64 0)) true)).new (.cells (List.replicate N .nilSlice) true)).new (.cells (List.replicate N .nilSlice) true)).new (.amap [])).new (.cells (List.replicate N (.bool false)) true)).new (.cells [.int .i64 N, ew, .slice H1.next 0 N (.exact N), .nilSlice, .slice (H1.next + 1) 0 N (.exact N), .slice (H1.next + 1 + 1) 0 N (.exact N), .map (H1.next + 1 + 1 + 1), .slice (H1.next + 1 + 1 + 1 + 1) 0 N (.exact N)] true)).new (.cells [.nilPtr] true)).upd (H1.next + 1 + 1 + 1 + 1 + 1 + 1) (some (.cells [.ptr (H1.next + 1 + 1 + 1 + 1 + 1) 0] true)) = HX at *
 generalize hec : H1.next + 1 + 1 + 1 + 1 + 1 + 1 = c at *
 generalize heb : H1.next + 1 + 1 + 1 + 1 + 1 = b at *
 generalize heg : H1.next + 1 + 1 + 1 + 1 = gid at *
 generalize hem : H1.next + 1 + 1 + 1 = mid at *
 generalize hed : H1.next + 1 + 1 = did at *
 generalize heu : H1.next + 1 = uid at *
 generalize her : H1.next = rid at *
 refine wpx_loop (fun m t H' => ∃ (i : Nat), m = N - i ∧ i ≤ N ∧ t = (bots 1 (.ptr H.next 0 :: .ptr (H.next + 1) 0 :: .ptr c 0 :: bots 33 (.int .i64 N :: .int .i64 i :: bots 70 ([]))) : Tmps) ∧ Keep (fun j => j = rid) HX H' ∧ HLay H' b mid rid uid did gid N es ew .nilSlice [] [] (List.replicate N false) (List.replicate i (-1) ++ List.replicate (N - i) 0) (List.replicate N .nilSlice) (List.replicate N .nilSlice)) N ?_ ?_
 ·exact ⟨0, rfl, by omega, rfl, .refl _ _, hXH⟩
 ·rintro m t H2 ⟨i, rfl, hi, rfl, k2, h2⟩
  have c2 := (k2.obj c (by omega) (by omega)).trans hXc
  by_cases hc : (i : Int) < N
  ·have hiN : i < N := by omega
   have hix : aindexAddrS 1 (.slice rid 0 N (.exact N)) (.int .i64 (i : Int)) = some (.ptr rid i) := by rw [aindexAddrS_slice ⟨by omega, by omega⟩]; simp
   have hrl : (ints (List.replicate i (-1) ++ List.replicate (N - i) 0)).length = N := by rw [ints_length]; exact h2.rl
   have hle : i + 1 ≤ N := hiN
   have hsp : splice (ints (List.replicate i (-1) ++ List.replicate (N - i) 0)) i [.int .i64 (-1)] = ints (List.replicate (i + 1) (-1) ++ List.replicate (N - (i + 1)) 0) := by
    rw [splice_one (by rw [hrl]; exact hiN), ints_set]
    congr 1
    rw [List.set_append_right _ _ (by simp), show N - i = (N - (i + 1)) + 1 by omega, List.replicate_succ]
    simp [List.replicate_succ']
   simp (disch := first | omega | (simp only [nx] <;> omega) | fail) only [vaw, hc, c2, h2.bo, h2.ro, hix, hrl, hle, hsp, Nat.reduceAdd, Nat.reduceMul, Nat.reduceLeDiff, Nat.reduceEqDiff, ↓reduceIte]
   exact ⟨N - (i + 1), by omega, i + 1, rfl, by omega, rfl, k2.upd (.inr rfl) _, h2.ranks (by simp; omega)⟩
  ·have : i = N := by omega
   subst this
   rw [Nat.sub_self, List.replicate_zero, List.append_nil] at h2
   simp (disch := first | omega | (simp only [nx] <;> omega) | fail) only [vaw, hc, c2, Nat.reduceAdd, Nat.reduceMul, Nat.reduceLeDiff, Nat.reduceEqDiff, ↓reduceIte]
   refine first_ret h2 hok hn (by omega) fun H3 av3 ms3 k3 h3 c3 s3 => ?_
   have nb3 : H3.obj H.next = some (.cells [.int .i64 i, ew] true) := (k3.obj _ (by have := k2.next; omega) (fun e => by rcases e with e | e | e <;> first | omega | cases e)).trans ((k2.obj _ (by omega) (by omega)).trans hXn)
   have cc3 := (k3.obj c (by have := k2.next; omega) (fun e => by rcases e with e | e | e <;> first | omega | cases e)).trans c2
   have rs3 := (k3.obj (H.next + 1) (by have := k2.next; omega) (fun e => by rcases e with e | e | e <;> first | omega | cases e)).trans ((k2.obj _ (by omega) (by omega)).trans hX2)
   simp (disch := first | omega | (simp only [nx] <;> omega) | fail) only [vaw, nb3, Nat.reduceAdd, Nat.reduceMul, Nat.reduceLeDiff, Nat.reduceEqDiff, ↓reduceIte]
   refine odBF_ret (N := i) h3.edges hok hN (by omega) fun lv H4 k4 r4 lo4 => ?_
   have hmo : ∀ e ∈ es, 0 ≤ e.mode ∧ e.mode < 5 := fun e he => ⟨(hok e he).2.2.1.1, (hok e he).2.2.1.2⟩
   rw [odB_eq hmo] at r4
   have hlo : OrderOk i (orderOf i es (2 * es.length + 1)) := orderOf_ok i es _
   have hoa : orderAll i es = orderOf i es (2 * es.length + 1) := rfl
   have hidx : idxOf i es = ⟨i, es, (hierOf i es (orderAll i es)).rank, (hierOf i es (orderAll i es)).arcs, (hierOf i es (orderAll i es)).up, (hierOf i es (orderAll i es)).down⟩ := rfl
   have hlN := order_few hlo
   rw [← hoa] at r4 hlo hlN
   generalize orderAll i es = l at *
   have hedg : EdgesOk i es := fun e he => ⟨(hok e he).1, (hok e he).2.1, (hok e he).2.2.1, (hok e he).2.2.2.1⟩
   have hcost : ∀ e ∈ es, 0 ≤ e.cost ∧ e.cost ≤ 2147483647 := fun e he => (hok e he).2.2.2
   have n2 := k2.next
   have n3 := k3.next
   have n4 := k4.next
   have h4 := h3.kept k4
   have cc4 := (k4.old (by omega)).trans cc3
   have rs4 := (k4.old (by omega)).trans rs3
   have ll := r4.len1
   rw [ints_length] at ll
   have sa3 : ∀ j, sid av3 = some j → c < j ∧ j < H3.next := fun j hj => by
    have h1 := h3.arcsO.sid_ge hj
    rcases s3 j hj with e | e
    ·cases e
    ·omega
   simp (disch := first | omega | (simp only [nx] <;> omega) | fail) only [vaw, ll, Nat.reduceAdd, Nat.reduceMul, Nat.reduceLeDiff, Nat.reduceEqDiff, ↓reduceIte]
   refine wpx_loop (fun m t H' => ∃ (k : Nat) (av' : AVal) (ms' : List (Key × Int)) (us ds : List AVal), m = l.length - k ∧ k ≤ l.length ∧ t = (bots 2 (.ptr (H.next + 1) 0 :: .ptr c 0 :: bots 48 (lv :: .int .i64 l.length :: .int .i64 k :: bots 54 ([]))) : Tmps) ∧ Keep (fun j => j = b ∨ j = mid ∨ j = uid ∨ j = did ∨ j = gid ∨ j = rid ∨ sid av3 = some j) H4 H' ∧
    HLay H' b mid rid uid did gid i es ew av' ms' (goAll i (startOf i es) l k).arcs (goAll i (startOf i es) l k).gone (goAll i (startOf i es) l k).rank us ds ∧ MapCur i ms' (goAll i (startOf i es) l k).cur ∧ RowsAt (c + 1) H' av' us (goAll i (startOf i es) l k).up ∧ RowsAt (c + 1) H' av' ds (goAll i (startOf i es) l k).down ∧ (∀ j, sid av' = some j → sid av3 = some j ∨ H4.next ≤ j)) l.length ?_ ?_
   ·exact ⟨0, av3, ms3, _, _, rfl, by omega, rfl, .refl _ _, h4, c3, rowsAt_nil i, rowsAt_nil i, fun j hj => .inl hj⟩
   ·rintro m t H5 ⟨k, av5, ms5, us, ds, rfl, hk, rfl, k5, h5, c5, ru5, rd5, s5⟩
    have cc5 := (k5.obj c (by omega) (fun e => by rcases e with e | e | e | e | e | e | e <;> first | omega | (have := sa3 _ e; omega))).trans cc4
    have rs5 := (k5.obj (H.next + 1) (by omega) (fun e => by rcases e with e | e | e | e | e | e | e <;> first | omega | (have := sa3 _ e; omega))).trans rs4
    have n5 := k5.next
    by_cases hc2 : (k : Int) < l.length
    ·have hkl : k < l.length := by omega
     have hv : l[k]? = some l[k] := by simp [hkl]
     have hbd := hlo.bd _ (List.getElem_mem hkl)
     have hgd : l.getD k 0 = l[k] := getD_of hv
     have hgs : goAll i (startOf i es) l (k + 1) = goStep i (goAll i (startOf i es) l k) k (l.getD k 0).toNat := rfl
     rw [hgd] at hgs
     have r5 := (r4.M k5 (fun j hj e => by
      have := r4.sid_lt hj
      have := lo4 j hj
      rcases e with e | e | e | e | e | e | e <;> first | omega | (have := sa3 _ e; omega)))
     obtain ⟨i1, f1, d1, d2, d3⟩ := r5.int_at (k := .i64) hv
     obtain ⟨ex, hgo⟩ := go_gone hedg hlo k hk
     generalize l[k] = vi at *
     obtain ⟨v, rfl⟩ := Int.eq_ofNat_of_zero_le hbd.1
     rw [Int.toNat_natCast] at hgs
     have hvN : v < i := by omega
     generalize goAll i (startOf i es) l k = s at *
     have hix : aindexAddrS 1 (.slice rid 0 i (.exact i)) (.int .i64 (v : Int)) = some (.ptr rid v) := by rw [aindexAddrS_slice ⟨by omega, by omega⟩]; simp
     have hrl : (ints s.rank).length = i := by rw [ints_length]; exact h5.rl
     have hle : v + 1 ≤ i := hvN
     have hsp : splice (ints s.rank) v [.int .i64 (k : Int)] = ints (s.rank.set v (k : Int)) := by
      rw [splice_one (by rw [hrl]; exact hvN), ints_set]
     have h6 := h5.ranks (rank' := s.rank.set v (k : Int)) (by rw [List.length_set]; exact h5.rl)
     have k6 : Keep (fun j => j = rid) H5 (H5.upd rid (some (.cells (ints (s.rank.set v (k : Int))) true))) := (Keep.refl (fun j => j = rid) _).upd (.inr rfl) _
     have cc6 := (k6.obj c (by omega) (by omega)).trans cc5
     simp (disch := first | omega | (simp only [nx] <;> omega) | fail) only [vaw, hc2, d1, d3, cc5, h5.bo, h5.ro, hix, hrl, hle, hsp, Nat.reduceAdd, Nat.reduceMul, Nat.reduceLeDiff, Nat.reduceEqDiff, ↓reduceIte]
     have ru6 := ru5.M' k6 (fun j hj => .inl (by omega)) (fun j hj => .inl hj)
     have rd6 := rd5.M' k6 (fun j hj => .inl (by omega)) (fun j hj => .inl hj)
     have n6 : (H5.upd rid (some (.cells (ints (s.rank.set v (k : Int))) true))).next = H5.next := rfl
     generalize H5.upd rid (some (.cells (ints (s.rank.set v (k : Int))) true)) = H6 at *
     refine goes_ret h6 c5 hcost hlo hgo (by omega) hv hvN (by omega) fun H7 av7 ms7 ur dr k7 h7 c7 g7 q7 s7 w7 x7 => ?_
     simp (disch := first | omega | (simp only [nx] <;> omega) | fail) only [vaw, Nat.reduceAdd, Nat.reduceMul, Nat.reduceLeDiff, Nat.reduceEqDiff, ↓reduceIte]
     have sa5 : ∀ j, sid av5 = some j → c < j := fun j hj => by
      rcases s5 j hj with e | e
      ·exact (sa3 j e).1
      ·omega
     have ru7 := (ru6.M' k7 (fun j hj => by rcases hj with e | e | e | e | e | e <;> first | exact .inl (by omega) | exact .inr e) (fun j hj => s7 j hj)).set (v := v) (l := outOf i s.cur s.gone v i) g7.row (fun j hj => ⟨by have := (g7.sid_ge hj).1; omega, w7 j hj⟩) (by rw [h5.ul, hgo.upLen])
     have rd7 := (rd6.M' k7 (fun j hj => by rcases hj with e | e | e | e | e | e <;> first | exact .inl (by omega) | exact .inr e) (fun j hj => s7 j hj)).set (v := v) (l := inOf i s.cur s.gone v i) q7.row (fun j hj => ⟨by have := (q7.sid_ge hj).1; omega, x7 j hj⟩) (by rw [h5.dl, hgo.downLen])
     have kF : Keep (fun j => j = b ∨ j = mid ∨ j = uid ∨ j = did ∨ j = gid ∨ j = rid ∨ sid av3 = some j) H4 H7 := (k5.trans' k6 (fun j hj e => by simp [e])).trans' k7 (fun j hj e => by
      rcases e with e | e | e | e | e | e
      ·simp [e]
      ·simp [e]
      ·simp [e]
      ·simp [e]
      ·simp [e]
      ·rcases s5 j e with e2 | e2
       ·simp [e2]
       ·omega)
     refine ⟨l.length - (k + 1), by omega, k + 1, av7, ms7, us.set v ur, ds.set v dr, rfl, by omega, rfl, kF, by rw [hgs]; exact h7, by rw [hgs]; exact c7, by rw [hgs]; exact ru7, by rw [hgs]; exact rd7, fun j hj => ?_⟩
     rcases s7 j hj with e | e
     ·exact s5 j e
     ·exact .inr (by omega)
    ·have : k = l.length := by omega
     subst this
     obtain ⟨ex, hgo⟩ := go_gone hedg hlo l.length (Nat.le_refl _)
     simp only [hierOf] at hidx
     simp (disch := first | omega | (simp only [nx] <;> omega) | fail) only [vaw, hc2, cc5, h5.bo, Nat.reduceAdd, Nat.reduceMul, Nat.reduceLeDiff, Nat.reduceEqDiff, ↓reduceIte]
     generalize goAll i (startOf i es) l l.length = s at *
     obtain ⟨o1, o2, o3, o4, o5, o6⟩ := h5.ord
     have sa5 : ∀ j, sid av5 = some j → c < j := fun j hj => by
      rcases s5 j hj with e | e
      ·exact (sa3 j e).1
      ·omega
     refine wpx_loop (fun m t H' => ∃ (v : Nat) (us : List AVal), m = i - v ∧ v ≤ i ∧ t = (bots 2 (.ptr (H.next + 1) 0 :: .ptr c 0 :: bots 71 (.slice rid 0 i (.exact i) :: .int .i64 i :: .int .i64 v :: bots 31 ([]))) : Tmps) ∧ Keep (fun j => j = uid) H5 H' ∧
      HLay H' b mid rid uid did gid i es ew av5 ms5 s.arcs s.gone s.rank us ds ∧ RowsAt (c + 1) H' av5 us (stayAll i s s.up v) ∧ RowsAt (c + 1) H' av5 ds s.down) i ?_ ?_
     ·exact ⟨0, us, rfl, by omega, rfl, .refl _ _, h5, ru5, rd5⟩
     ·rintro m t H6 ⟨v, us6, rfl, hv1, rfl, k6, h6, ru6, rd6⟩
      have n6 := k6.next
      have cc6 := (k6.obj c (by omega) (by omega)).trans cc5
      have rs6 := (k6.obj (H.next + 1) (by omega) (by omega)).trans rs5
      by_cases hc3 : (v : Int) < i
      ·have hvN : v < i := by omega
       have hix : aindexAddrS 1 (.slice rid 0 i (.exact i)) (.int .i64 (v : Int)) = some (.ptr rid v) := by rw [aindexAddrS_slice ⟨by omega, by omega⟩]; simp
       have hst : stayAll i s s.up (v + 1) = stayStep i s (stayAll i s s.up v) v := rfl
       unfold stayStep at hst
       have kB : Keep Nothing H6 ((H6.new (.cells [.int .i64 0] true)).upd H6.next (some (.cells [.int .i64 v] true))) := ((Keep.refl _ _).new _).upd (.inl (Nat.le_refl _)) _
       have qv : ((H6.new (.cells [.int .i64 0] true)).upd H6.next (some (.cells [.int .i64 v] true))).obj H6.next = some (.cells [.int .i64 v] true) := obj_upd_eq rfl
       have nB : ((H6.new (.cells [.int .i64 0] true)).upd H6.next (some (.cells [.int .i64 v] true))).next = H6.next + 1 := rfl
       have hneg : (-1 : Int) < 0 := by decide
       cases hgd : s.gone.getD v false with
       | true =>
        obtain ⟨j, hj, hlj⟩ := (hgo.gone v hvN).1 hgd
        have hrj := hgo.ranked j _ hj hlj
        rw [Int.toNat_natCast] at hrj
        have hrj2 : (ints s.rank)[v]? = some (.int .i64 (j : Int)) := by simp [ints, hrj]
        have hjn : ¬ ((j : Int) < 0) := by omega
        rw [if_pos hgd] at hst
        simp (disch := first | omega | (simp only [nx] <;> omega) | fail) only [vaw, hc3, hix, h6.ro, hrj2, hjn, Nat.reduceAdd, Nat.reduceMul, Nat.reduceLeDiff, Nat.reduceEqDiff, ↓reduceIte]
        exact ⟨i - (v + 1), by omega, v + 1, us6, rfl, by omega, rfl, k6.trans' kB (fun j hj e => e.elim), h6.kept kB, by rw [hst]; exact ru6.M' kB (fun j hj => hj.elim) (fun j hj => .inl hj), rd6.M' kB (fun j hj => hj.elim) (fun j hj => .inl hj)⟩
       | false =>
        have hrj := hgo.unranked v hvN (fun h => by have := (hgo.gone v hvN).2 h; rw [hgd] at this; cases this)
        have hrj2 : (ints s.rank)[v]? = some (.int .i64 (-1)) := by simp [ints, hrj]
        rw [if_neg (by rw [hgd]; simp)] at hst
        have hB := h6.kept kB
        have qc := (kB.old (by omega)).trans cc6
        simp (disch := first | omega | (simp only [nx] <;> omega) | fail) only [vaw, hc3, hix, h6.ro, hrj2, hneg, cc6, h6.bo, Nat.reduceAdd, Nat.reduceMul, Nat.reduceLeDiff, Nat.reduceEqDiff, ↓reduceIte]
        generalize ((H6.new (.cells [.int .i64 0] true)).upd H6.next (some (.cells [.int .i64 v] true))) = HB at *
        have hfew := c5.few
        have hN2 : i * i ≤ 12 * 12 := Nat.mul_le_mul hN hN
        have hm1 := fun (e : Key × Int) (he : e ∈ ms5) => mayOf_of qv qc hB.bo rfl hB.go h6.gl (k := e.1) (c5.rng e he).1 (c5.rng e he).2.1
        refine arcs_ret (down := false) (es := ms5) (sel := upSel ms5 s.gone v) (.inl ⟨.inl rfl, rfl⟩) hB.bo rfl hB.mo (mayAll_of fun e he => (hm1 e he).1) (by omega) c5.nodup fun ur H7 k7 g7 => ?_
        rw [up_eq c5 s.gone hvN] at g7
        have n7 := k7.next
        have h7 := hB.kept k7
        have qv7 := (k7.old (by omega)).trans qv
        have cc7 := (k7.old (by omega)).trans qc
        have cu := g7.cells
        have hvu : aindexAddrS 1 (.slice uid 0 i (.exact i)) (.int .i64 (v : Int)) = some (.ptr uid v) := by rw [aindexAddrS_slice ⟨by omega, by omega⟩]; simp
        have hle : v + 1 ≤ i := hvN
        have hul := h6.ul
        simp (disch := first | omega | (simp only [nx] <;> omega) | fail) only [vaw, qv7, cc7, h7.bo, h7.uo, hvu, cu, hul, hle, g7.notBot, splice_one, Nat.reduceAdd, Nat.reduceMul, Nat.reduceLeDiff, Nat.reduceEqDiff, ↓reduceIte]
        have h8 := h7.ups (us' := us6.set v ur) (by rw [List.length_set]; exact hul)
        have k8 : Keep (fun j => j = uid) H7 (H7.upd uid (some (.cells (us6.set v ur) true))) := (Keep.refl (fun j => j = uid) _).upd (.inr rfl) _
        have k68 : Keep (fun j => j = uid) H6 (H7.upd uid (some (.cells (us6.set v ur) true))) := ((kB.trans k7).mono (fun j hj e => e.elim)).trans' k8 (fun j hj e => e)
        refine ⟨i - (v + 1), by omega, v + 1, us6.set v ur, rfl, by omega, rfl, k6.trans' k68 (fun j hj e => e), h8, ?_, rd6.M' k68 (fun j hj => .inl (by omega)) (fun j hj => .inl hj)⟩
        rw [hst]
        exact (ru6.M' k68 (fun j hj => .inl (by omega)) (fun j hj => .inl hj)).set (g7.row.M k8 (fun j hj e => by have := (g7.sid_ge hj).1; omega)) (fun j hj => ⟨by have := (g7.sid_ge hj).1; omega, fun e => by have := (g7.sid_ge hj).1; have := (h6.arcsO.sid_ge e).2; omega⟩) (by rw [hul, stayAll_length, hgo.upLen])
      ·have : i = v := by omega
       subst this
       simp (disch := first | omega | (simp only [nx] <;> omega) | fail) only [vaw, hc3, cc6, h6.bo, Nat.reduceAdd, Nat.reduceMul, Nat.reduceLeDiff, Nat.reduceEqDiff, ↓reduceIte]
       refine cloneA_ret h6.arcsO.row (by have := hgo.count; have hNN : i * i ≤ 12 * 12 := Nat.mul_le_mul hN hN; have hk25 : l.length * (25 * (i * i)) ≤ 12 * (25 * (12 * 12)) := Nat.mul_le_mul (by omega) (by omega); omega) fun v7 H7 k7 g7 => ?_
       have h7 := h6.kept k7
       have cc7 := (k7.old (by omega)).trans cc6
       have rs7 := (k7.old (by omega)).trans rs6
       have c7 := g7.cells
       have c1 := h7.edges.cells
       simp (disch := first | omega | (simp only [nx] <;> omega) | fail) only [vaw, cc7, h7.bo, rs7, c7, c1, Nat.reduceAdd, Nat.reduceMul, Nat.reduceLeDiff, Nat.reduceEqDiff, ↓reduceIte]
       have n7 := k7.next
       obtain ⟨hend, hhe⟩ : ∃ x, x = ((H7.upd b (some (.cells [.int .i64 i, ew, .slice rid 0 i (.exact i), v7, .slice uid 0 i (.exact i), .slice did 0 i (.exact i), .map mid, .slice gid 0 i (.exact i)] true))).upd (H.next + 1) (some (.cells [.int .i64 i, ew, .slice rid 0 i (.exact i), v7, .slice uid 0 i (.exact i), .slice did 0 i (.exact i)] true))) := ⟨_, rfl⟩
       rw [← hhe]
       have k8 : Keep (fun j => j = b ∨ j = H.next + 1) H7 hend := by rw [hhe]; exact ((Keep.refl (fun j => j = b ∨ j = H.next + 1) _).upd (.inr (.inl rfl)) _).upd (.inr (.inr rfl)) _
       have n8 := k8.next
       have kk : Keep Nothing H hend := by
        refine (((((((((k0.trans k1).trans' hXK ?_).trans' k2 ?_).trans' k3 ?_).trans' k4 ?_).trans' k5 ?_).trans' k6 ?_).trans' k7 ?_).trans' k8 ?_) <;> intro j hj e
        ·omega
        ·omega
        ·rcases e with e | e | e <;> first | omega | cases e
        ·exact e
        ·rcases e with e | e | e | e | e | e | e <;> first | omega | (have := sa3 _ e; omega)
        ·omega
        ·exact e
        ·omega
       clear hhe
       refine hq _ _ _ _ _ _ kk ?_
       rw [hidx]
       have rows : ∀ (w : Nat) (vs : List AVal) (ul : List (List Int)), w < b → H.next + 1 < w → H7.obj w = some (.cells vs true) → vs.length = i → ul.length = i → RowsAt (c + 1) H6 av5 vs ul → FromRows H.next hend (.slice w 0 i (.exact i)) ul := by
        intro w vs ul h1 h2 h4 h5 h6 h7
        refine ⟨vs, ⟨.mk (c := vs) (by omega) (by rw [cells?_of, k8.obj w (by omega) (by omega), h4]; rfl) (by omega) (by simp [← h5]), fun j hj => by injection hj with hj; omega⟩, by omega, fun i r l e1 e2 => ?_⟩
        obtain ⟨g1, g2⟩ := h7 i r l e1 e2
        exact ⟨(g1.kept k7).M k8 (fun j hj e => by have := (g2 j hj).1; omega), fun j hj => by have := (g2 j hj).1; omega⟩
       refine ⟨⟨h7.edges.M k8 (fun j hj e => by have := hew j hj; have := h7.ewid j hj; omega), fun j hj => by have := hew j hj; omega⟩, ⟨.mk (c := ints s.rank) (by omega) (by rw [cells?_of, k8.obj rid (by omega) (by omega), h7.ro]; rfl) (by rw [ints_length, h7.rl]; omega) (by rw [List.drop_zero, List.take_of_length_le (by rw [ints_length, h7.rl]; omega)]), fun j hj => by injection hj with hj; omega⟩, ⟨g7.row.M k8 (fun j hj e => by have := (g7.sid_ge hj).1; omega), fun j hj => by have := (g7.sid_ge hj).1; omega⟩,
        rows _ _ _ (by omega) (by omega) h7.uo h7.ul (by rw [stayAll_length, hgo.upLen]) ru6, rows _ _ _ (by omega) (by omega) h7.dO h7.dl hgo.downLen rd6⟩
end Go.Proofs.Ytknhlpmmalcchaa

namespace Go.Proofs.Ytknhlpmmalcchaa
open Go Go.VAI
set_option linter.unusedSimpArgs false

def knownH : List Edge := [⟨0, 1, 0, 3⟩]
theorem known_one : idxOf 1 [] = ⟨1, [], [0], [], [[]], [[]]⟩ := by decide +kernel
theorem known_two : (idxOf 2 knownH).arcs.length = 1 ∧ (idxOf 2 knownH).rank.length = 2 := by decide +kernel
set_option maxRecDepth 20000 in
set_option maxHeartbeats 8000000 in
theorem known47_ret {H : AHeap} {Q : AVal → AHeap → Prop} (hq : ∀ H', Keep Nothing H H' → Q (.bool true) H') : Ret A 47 [] H Q := by
 refine Ret.of (fn := F47) rfl ?_
 have hn1 : NetOk (1 : Nat) [] := ⟨by omega, by omega, by simp, by simp⟩
 have hn2 : NetOk (2 : Nat) knownH := ⟨by omega, by omega, by decide, fun e he => by simp only [knownH, List.mem_cons, List.not_mem_nil, or_false] at he; subst he; unfold EdgeOk; simp⟩
 simp (disch := first | omega | (simp only [nx] <;> omega) | fail) only [vaw, F47, Nat.reduceAdd, Nat.reduceMul, Nat.reduceLeDiff, Nat.reduceEqDiff, ↓reduceIte]
 refine hbuild_ret (N := 1) (es := []) .nil hn1 (by omega) fun ew rv av uv dv H1 k1 h1 => ?_
 have n1 := k1.next
 have kA : Keep Nothing H1 ((H1.new (.cells [.int .i64 0, .nilSlice, .nilSlice, .nilSlice, .nilSlice, .nilSlice] true)).upd H1.next (some (.cells [.int .i64 1, ew, rv, av, uv, dv] true))) := ((Keep.refl _ _).new _).upd (.inl (Nat.le_refl _)) _
 have oA : ((H1.new (.cells [.int .i64 0, .nilSlice, .nilSlice, .nilSlice, .nilSlice, .nilSlice] true)).upd H1.next (some (.cells [.int .i64 1, ew, rv, av, uv, dv] true))).obj H1.next = some (.cells [.int .i64 1, ew, rv, av, uv, dv] true) := obj_upd_eq rfl
 have nA : ((H1.new (.cells [.int .i64 0, .nilSlice, .nilSlice, .nilSlice, .nilSlice, .nilSlice] true)).upd H1.next (some (.cells [.int .i64 1, ew, rv, av, uv, dv] true))).next = H1.next + 1 := rfl
 rw [known_one] at h1
 have c1 := h1.es.1.cells
 have c2 := h1.rank.1.cells
 have c3 := h1.arcs.1.cells
 have c4 := h1.up.rows.cells
 have c5 := h1.down.rows.cells
 simp (disch := first | omega | (simp only [nx] <;> omega) | fail) only [vaw, c1, c2, c3, c4, c5, Nat.reduceAdd, Nat.reduceMul, Nat.reduceLeDiff, Nat.reduceEqDiff, ↓reduceIte]
 generalize ((H1.new (.cells [.int .i64 0, .nilSlice, .nilSlice, .nilSlice, .nilSlice, .nilSlice] true)).upd H1.next (some (.cells [.int .i64 1, ew, rv, av, uv, dv] true))) = HA at *
 refine hbuild_ret (N := 2) (es := knownH) (.mk (c := edgeCells knownH) (by simp only [next_new]; omega) (by simp (disch := first | omega | (simp only [nx] <;> omega) | fail) only [vaim]; rfl) (by decide) rfl) hn2 (by omega) fun ew2 rv2 av2 uv2 dv2 H2 k2 h2 => ?_
 have n2 := k2.next
 simp only [next_new] at n2
 have o2 := (k2.old (i := H1.next) (by simp only [next_new]; omega)).trans ((obj_new_ne (by omega)).trans oA)
 have kB : Keep Nothing H2 ((H2.new (.cells [.int .i64 0, .nilSlice, .nilSlice, .nilSlice, .nilSlice, .nilSlice] true)).upd H2.next (some (.cells [.int .i64 2, ew2, rv2, av2, uv2, dv2] true))) := ((Keep.refl _ _).new _).upd (.inl (Nat.le_refl _)) _
 have oB : ((H2.new (.cells [.int .i64 0, .nilSlice, .nilSlice, .nilSlice, .nilSlice, .nilSlice] true)).upd H2.next (some (.cells [.int .i64 2, ew2, rv2, av2, uv2, dv2] true))).obj H2.next = some (.cells [.int .i64 2, ew2, rv2, av2, uv2, dv2] true) := obj_upd_eq rfl
 have nB : ((H2.new (.cells [.int .i64 0, .nilSlice, .nilSlice, .nilSlice, .nilSlice, .nilSlice] true)).upd H2.next (some (.cells [.int .i64 2, ew2, rv2, av2, uv2, dv2] true))).next = H2.next + 1 := rfl
 have oB1 := (kB.old (by omega)).trans o2
 have d1 := h2.es.1.cells
 have d2 := h2.rank.1.cells
 have d3 := h2.arcs.1.cells
 have d4 := h2.up.rows.cells
 have d5 := h2.down.rows.cells
 simp (disch := first | omega | (simp only [nx] <;> omega) | fail) only [vaw, d1, d2, d3, d4, d5, Nat.reduceAdd, Nat.reduceMul, Nat.reduceLeDiff, Nat.reduceEqDiff, ↓reduceIte]
 generalize ((H2.new (.cells [.int .i64 0, .nilSlice, .nilSlice, .nilSlice, .nilSlice, .nilSlice] true)).upd H2.next (some (.cells [.int .i64 2, ew2, rv2, av2, uv2, dv2] true))) = HB at *
 have h1' := ((h1.kept (kA.trans ((Keep.refl _ _).new _))).kept k2).kept kB
 have h2' := h2.kept kB
 have al1 := idx_allowed hn1 (by omega)
 have al2 := idx_allowed hn2 (by omega)
 rw [known_one] at al1
 have l1 := h1'.arcs.1.len (n := 0) (by omega) rfl
 have l2 := h1'.rank.1.len1
 obtain ⟨i1, f1, p1, p2, p3⟩ := h1'.rank.1.int_at (k := .i64) (j := 0) (x := 0) rfl
 have l3 := h2'.arcs.1.len (n := 1) (by omega) (by rw [arcCells_length, known_two.1])
 have l4 := h2'.rank.1.len1
 rw [ints_length, known_two.2] at l4
 have q3 : ((0 : Nat) : Int) = 0 := rfl
 rw [q3] at p1
 have l1' : alenS av = some (.int .i64 0) := l1
 have l2' : alenS rv = some (.int .i64 1) := l2
 have l3' : alenS av2 = some (.int .i64 1) := l3
 have l4' : alenS rv2 = some (.int .i64 2) := l4
 have e0 : (0 : Int) = 0 := rfl
 simp (disch := first | omega | (simp only [nx] <;> omega) | fail) only [vaw, o2, oB1, oB, l1', l2', l3', l4', p1, p3, Nat.reduceAdd, Nat.reduceMul, Nat.reduceLeDiff, Nat.reduceEqDiff, ↓reduceIte]
 refine check_ret (x := ⟨1, [], [0], [], [[]], [[]]⟩) h1'.idx (by simp) (by simp) fun b H3 k3 s3 => ?_
 have := s3.2 al1
 subst this
 have n3 := k3.next
 have o3 := (k3.old (by omega)).trans oB
 simp (disch := first | omega | (simp only [nx] <;> omega) | fail) only [vaw, o3, Nat.reduceAdd, Nat.reduceMul, Nat.reduceLeDiff, Nat.reduceEqDiff, ↓reduceIte]
 obtain ⟨hs1, hs2⟩ := allowed_short al2
 obtain ⟨_, _, _, _, s5, s6⟩ := hs1
 refine check_ret (x := idxOf 2 knownH) (h2'.kept k3).idx s5 s6 fun b H4 k4 s4 => ?_
 have := s4.2 al2
 subst this
 simp (disch := first | omega | (simp only [nx] <;> omega) | fail) only [vaw, Nat.reduceAdd, Nat.reduceMul, Nat.reduceLeDiff, Nat.reduceEqDiff, ↓reduceIte]
 refine hq _ ?_
 exact ((((k1.trans kA).trans ((Keep.refl _ _).new _)).trans k2).trans kB).trans k3 |>.trans k4
end Go.Proofs.Ytknhlpmmalcchaa

namespace Go.Proofs.Ytknhlpmmalcchaa
open Go Go.VAI
set_option linter.unusedSimpArgs false

end Go.Proofs.Ytknhlpmmalcchaa

namespace Go.Proofs.Ytknhlpmmalcchaa
open Go Go.VAI
set_option linter.unusedSimpArgs false

inductive Stk (lo : Nat) (H : AHeap) : AVal → List AVal → Prop where
 | room {id len : Nat} {c cs : List AVal} (hlo : lo ≤ id) (hhi : id < H.next) (ho : H.obj id = some (.cells c true)) (hlen : len ≤ c.length) (hc : cs = c.take len) : Stk lo H (.slice id 0 len (.room 1)) cs
 | full {id len n : Nat} {c cs : List AVal} (hlo : lo ≤ id) (hhi : id < H.next) (ho : H.obj id = some (.cells c true)) (hlen : len ≤ c.length) (hn : len ≤ n) (hn1 : n ≤ 1) (hc : cs = c.take len) : Stk lo H (.slice id 0 len (.exact n)) cs
theorem Stk.len {lo : Nat} {H : AHeap} {v : AVal} {cs : List AVal} (h : Stk lo H v cs) : alenS v = some (.int .i64 cs.length) := by
 cases h with
 | room h1 h2 h3 h4 h5 => subst h5; simp [alenS]; omega
 | full h1 h2 h3 h4 h5 h6 h7 => subst h7; simp [alenS]; omega
theorem Stk.sid_ge {lo : Nat} {H : AHeap} {v : AVal} {cs : List AVal} (h : Stk lo H v cs) {j : Nat} (hj : sid v = some j) : lo ≤ j ∧ j < H.next := by
 cases h <;> (injection hj with hj; subst hj; exact ⟨by assumption, by assumption⟩)
theorem Stk.keepM {lo : Nat} {M : Nat → Prop} {H H' : AHeap} {v : AVal} {cs : List AVal} (h : Stk lo H v cs) (hk : Keep M H H') (hM : ∀ j, sid v = some j → ¬ M j) : Stk lo H' v cs := by
 have hn := hk.next
 cases h with
 | room h1 h2 h3 h4 h5 => exact .room h1 (by omega) (by rw [hk.obj _ h2 (hM _ rfl)]; exact h3) h4 h5
 | full h1 h2 h3 h4 h5 h6 h7 => exact .full h1 (by omega) (by rw [hk.obj _ h2 (hM _ rfl)]; exact h3) h4 h5 h6 h7
theorem Stk.notBot {lo : Nat} {H : AHeap} {v : AVal} {cs : List AVal} (h : Stk lo H v cs) : notBot v = some v := by
 cases h <;> rfl
theorem Stk.top {lo : Nat} {H : AHeap} {v x : AVal} {cs : List AVal} (h : Stk lo H v (cs ++ [x])) : ∃ id off, aindexAddrS 1 v (.int .i64 (cs.length : Int)) = some (.ptr id off) ∧ id < H.next ∧ (bnd (cellsOf (H.obj id)) fun c => c[off]?) = some x := by
 have key : ∀ (id len : Nat) (c : List AVal) (cap : ACap), H.obj id = some (.cells c true) → len ≤ c.length → cs ++ [x] = c.take len → id < H.next → ∃ id' off, aindexAddrS 1 (.slice id 0 len cap) (.int .i64 (cs.length : Int)) = some (.ptr id' off) ∧ id' < H.next ∧ (bnd (cellsOf (H.obj id')) fun c => c[off]?) = some x := by
  intro id len c cap ho hlen hc hid
  have hl : cs.length + 1 = min len c.length := by simpa using congrArg List.length hc
  refine ⟨id, cs.length, ?_, hid, ?_⟩
  ·simp only [aindexAddrS]
   rw [if_pos ⟨by omega, by omega⟩]
   simp
  ·rw [ho]
   simp only [cellsOf, bnd]
   have : (c.take len)[cs.length]? = some x := by rw [← hc]; simp
   rw [List.getElem?_take] at this
   split at this
   ·exact this
   ·cases this
 cases h with
 | room h1 h2 h3 h4 h5 => exact key _ _ _ _ h3 h4 h5 h2
 | full h1 h2 h3 h4 h5 h6 h7 => exact key _ _ _ _ h3 h4 h7 h2
theorem Stk.push {lo : Nat} {H : AHeap} {v x : AVal} {cs vs : List AVal} (h : Stk lo H v cs) (hx : taken H 1 x = some (2, vs)) (hvs : vs.length = 2) (hlen : cs.length ≤ 10000) :
  ∃ H', aappend H 1 8 v x = some (.slice H.next 0 (cs.length + 2) (.room 1), H') ∧ Keep (fun j => sid v = some j) H H' ∧ Stk lo H' (.slice H.next 0 (cs.length + 2) (.room 1)) (cs ++ vs) := by
 cases h with
 | @room id len c cs' h1 h2 h3 h4 h5 =>
  have hl : cs.length = len := by subst h5; simp; omega
  subst hl
  have hcut : (c.drop 0).take (cs.length * 1) = cs := by simpa using h5.symm
  refine ⟨(H.upd id none).new (.cells (cs ++ vs) true), ?_, ((Keep.refl (fun j => sid (AVal.slice id 0 cs.length (.room 1)) = some j) _).upd (.inr rfl) _).new _, .room (by omega) (by simp only [next_new, next_upd]; omega) (obj_new_eq rfl) (by simp; omega) (by rw [List.take_of_length_le (by simp; omega)])⟩
  simp only [aappend, hx, bnd, rw?_of, h3, ownCellsOf]
  rw [if_neg (by omega), if_pos (by omega)]
  by_cases he : 0 + cs.length * 1 = c.length
  ·rw [if_pos ⟨trivial, he, by omega⟩]
   rw [List.take_of_length_le (by simp; omega)] at hcut
   rw [hcut]
  ·rw [if_neg (fun h => he h.2.1), if_pos ⟨trivial, by omega, by omega⟩, hcut]
 | @full id len n c cs' h1 h2 h3 h4 h5 h6 h7 =>
  have hl : cs.length = len := by subst h7; simp; omega
  subst hl
  have hcut : (c.drop 0).take (cs.length * 1) = cs := by simpa using h7.symm
  refine ⟨H.new (.cells (cs ++ vs) true), ?_, (Keep.refl _ _).new _, .room (by omega) (by simp only [next_new]; omega) (obj_new_eq rfl) (by simp; omega) (by rw [List.take_of_length_le (by simp; omega)])⟩
  have htk : taken H 1 (.slice id 0 cs.length (.exact n)) = some (cs.length, cs) := by
   simp only [taken, cells?_of, h3, cellsOf, bnd]
   rw [if_pos (by omega), hcut]
  simp only [aappend, hx, bnd, htk]
  rw [if_neg (by omega), if_pos (by omega), if_neg (by omega)]
end Go.Proofs.Ytknhlpmmalcchaa

namespace Go.Proofs.Ytknhlpmmalcchaa
open Go Go.VAI
set_option linter.unusedSimpArgs false

end Go.Proofs.Ytknhlpmmalcchaa

namespace Go.Proofs.Ytknhlpmmalcchaa
open Go Go.VAI
set_option linter.unusedSimpArgs false

theorem arc_flds {H : AHeap} {v : AVal} {es : List Arc} (h : Row H v 7 (arcCells es)) {i : Nat} {e : Arc} (he : es[i]? = some e) : ∃ id off, aindexAddrS 7 v (.int .i64 (i : Int)) = some (.ptr id off) ∧ id < H.next ∧
  (bnd (cellsOf (H.obj id)) fun c => c[off]?) = some (.int .i64 e.src) ∧ (bnd (cellsOf (H.obj id)) fun c => c[off + 1]?) = some (.int .i64 e.dst) ∧ (bnd (cellsOf (H.obj id)) fun c => c[off + 2]?) = some (.int .i64 e.mode) ∧ (bnd (cellsOf (H.obj id)) fun c => c[off + 3]?) = some (.int .i64 e.cost) ∧
  (bnd (cellsOf (H.obj id)) fun c => c[off + 4]?) = some (.int .i64 e.edge) ∧ (bnd (cellsOf (H.obj id)) fun c => c[off + 5]?) = some (.int .i64 e.a) ∧ (bnd (cellsOf (H.obj id)) fun c => c[off + 6]?) = some (.int .i64 e.b) ∧
  (bnd (cellsOf (H.obj id)) fun c => if off + 7 ≤ c.length then some (AVal.agg ((c.drop off).take 7)) else none) = some (AVal.agg [.int .i64 e.src, .int .i64 e.dst, .int .i64 e.mode, .int .i64 e.cost, .int .i64 e.edge, .int .i64 e.a, .int .i64 e.b]) := by
 have hi := (List.getElem?_eq_some_iff.1 he).1
 obtain ⟨id, off, c, h1, h2, h3, h4, h5⟩ := h.at (j := i) (k := .i64) (by omega) (by omega) (by rw [arcCells_length, Int.toNat_natCast]; omega)
 rw [Int.toNat_natCast, arc_drop es i e he] at h5
 rw [cells?_of] at h3
 refine ⟨id, off, h1, h2, ?_⟩
 simp only [h3, bnd, if_pos h4, h5]
 exact ⟨cell_at (f := 0) h5 rfl, cell_at (f := 1) h5 rfl, cell_at (f := 2) h5 rfl, cell_at (f := 3) h5 rfl, cell_at (f := 4) h5 rfl, cell_at (f := 5) h5 rfl, cell_at (f := 6) h5 rfl, rfl⟩

end Go.Proofs.Ytknhlpmmalcchaa

namespace Go.Proofs.Ytknhlpmmalcchaa
open Go Go.VAI
set_option linter.unusedSimpArgs false

end Go.Proofs.Ytknhlpmmalcchaa

namespace Go.Proofs.Ytknhlpmmalcchaa
open Go Go.VAI
set_option linter.unusedSimpArgs false

end Go.Proofs.Ytknhlpmmalcchaa

namespace Go.Proofs.Ytknhlpmmalcchaa
open Go Go.VAI
set_option linter.unusedSimpArgs false

def Turned (a b : List Edge) : Prop := a.length = b.length ∧ ∀ (i : Nat) x y, a[i]? = some x → b[i]? = some y → y.src = x.dst ∧ y.dst = x.src ∧ y.mode = x.mode
theorem turned_tail {x y : Edge} {a b : List Edge} (h : Turned (x :: a) (y :: b)) : Turned a b :=
 ⟨by have := h.1; simp at this; exact this, fun i p q h1 h2 => h.2 (i + 1) p q (by simpa using h1) (by simpa using h2)⟩
theorem turned_modes (v : Int) : ∀ (a b : List Edge) (s : Int), Turned a b →
  b.foldl (fun s e => if e.src = v ∨ e.dst = v then orI .i64 s (shlI .i64 1 e.mode) else s) s = a.foldl (fun s e => if e.src = v ∨ e.dst = v then orI .i64 s (shlI .i64 1 e.mode) else s) s
 | [], [], s, _ => rfl
 | [], y :: b, s, h => by have := h.1; simp at this
 | x :: a, [], s, h => by have := h.1; simp at this
 | x :: a, y :: b, s, h => by
  obtain ⟨h1, h2, h3⟩ := h.2 0 x y rfl rfl
  rw [List.foldl_cons, List.foldl_cons, turned_modes v a b _ (turned_tail h), h1, h2, h3]
  congr 1
  by_cases c1 : x.dst = v <;> by_cases c2 : x.src = v <;> simp [c1, c2]
theorem picks_map {p q : Edge → Bool} {a b : List Edge} (n : Nat) (h : ∀ i : Nat, (b[i]?).any p = (a[i]?).any q) : picks p b n = picks q a n := by
 unfold picks
 congr 1
 exact List.filter_congr fun i _ => h i
theorem turned_any {a b : List Edge} (h : Turned a b) (v : Int) (i : Nat) : (b[i]?).any (fun e => decide (e.src = v)) = (a[i]?).any (fun e => decide (e.dst = v)) ∧ (b[i]?).any (fun e => decide (e.dst = v)) = (a[i]?).any (fun e => decide (e.src = v)) := by
 by_cases hi : i < a.length
 ·have e1 := List.getElem?_eq_getElem hi
  have e2 := List.getElem?_eq_getElem (l := b) (i := i) (by have := h.1; omega)
  obtain ⟨h1, h2, h3⟩ := h.2 i _ _ e1 e2
  rw [e1, e2]
  simp [h1, h2]
 ·have := h.1
  rw [List.getElem?_eq_none (by omega), List.getElem?_eq_none (by omega)]
  simp
theorem turned_degree {a b : List Edge} (h : Turned a b) (v : Int) : degree b v = degree a v := by
 unfold degree
 rw [← h.1, picks_map (q := fun e => decide (e.dst = v)) a.length (fun i => (turned_any h v i).1), picks_map (q := fun e => decide (e.src = v)) a.length (fun i => (turned_any h v i).2), Nat.add_comm]
theorem turned_order {a b : List Edge} (h : Turned a b) (N k : Nat) : orderOf N b k = orderOf N a k := by
 unfold orderOf orderRow
 congr 1
 funext d
 congr 1
 refine List.filter_congr fun v _ => ?_
 rw [turned_degree h]
 unfold linkAt modesOf
 rw [turned_modes (v : Int) a b 0 h]
end Go.Proofs.Ytknhlpmmalcchaa

namespace Go.Proofs.Ytknhlpmmalcchaa
open Go Go.VAI
set_option linter.unusedSimpArgs false

end Go.Proofs.Ytknhlpmmalcchaa

namespace Go.Proofs.Ytknhlpmmalcchaa
open Go Go.VAI
set_option linter.unusedSimpArgs false

def modE (e : Edge) : Edge := ⟨e.src, e.dst, e.mode, e.cost % 1000⟩
def partE (f : Edge → Edge) (es : List Edge) (i : Nat) : List Edge := (es.take i).map f ++ es.drop i
theorem partE_length (f : Edge → Edge) (es : List Edge) (i : Nat) : (partE f es i).length = es.length := by simp [partE]; omega
theorem partE_at {f : Edge → Edge} {es : List Edge} {i : Nat} {e : Edge} (he : es[i]? = some e) : (partE f es i)[i]? = some e := by
 have hi := (List.getElem?_eq_some_iff.1 he).1
 have hl : ((es.take i).map f).length = i := by simp; omega
 rw [partE, List.getElem?_append_right (by omega), hl, Nat.sub_self, List.getElem?_drop]
 exact he
theorem partE_next {f : Edge → Edge} {es : List Edge} {i : Nat} {e : Edge} (he : es[i]? = some e) : (partE f es (i + 1))[i]? = some (f e) := by
 have hi := (List.getElem?_eq_some_iff.1 he).1
 have hl : ((es.take (i + 1)).map f).length = i + 1 := by simp; omega
 rw [partE, List.getElem?_append_left (by omega), List.getElem?_map, List.getElem?_take, if_pos (by omega), he]
 rfl
theorem partE_set {f : Edge → Edge} {es : List Edge} {i : Nat} {e : Edge} (he : es[i]? = some e) : (partE f es i).set i (f e) = partE f es (i + 1) := by
 obtain ⟨hi, h2⟩ := List.getElem?_eq_some_iff.1 he
 have hl : ((es.take i).map f).length = i := by simp; omega
 rw [partE, partE, List.set_append_right _ _ (by omega), hl, Nat.sub_self, List.drop_eq_getElem_cons hi, List.set_cons_zero, List.take_succ_eq_append_getElem hi, List.map_append, List.append_assoc, h2]
 rfl
theorem partE_all (f : Edge → Edge) (es : List Edge) : partE f es es.length = es.map f := by simp [partE]
theorem modE_net {n : Int} {es : List Edge} (h : NetOk n es) : NetOk n (es.map modE) ∧ NetOk n ((es.map modE).map dblE) := by
 obtain ⟨h1, h2, h3, h4⟩ := h
 refine ⟨⟨h1, h2, by simpa using h3, fun e he => ?_⟩, h1, h2, by simpa using h3, fun e he => ?_⟩
 ·obtain ⟨x, hx, rfl⟩ := List.mem_map.1 he
  obtain ⟨a1, a2, a3, a4⟩ := h4 x hx
  exact ⟨a1, a2, a3, by simp only [modE]; omega⟩
 ·obtain ⟨y, hy, rfl⟩ := List.mem_map.1 he
  obtain ⟨x, hx, rfl⟩ := List.mem_map.1 hy
  obtain ⟨a1, a2, a3, a4⟩ := h4 x hx
  exact ⟨a1, a2, a3, by simp only [modE, dblE]; omega⟩
def flipE (e : Edge) : Edge := ⟨e.dst, e.src, e.mode, e.cost⟩
theorem dbl_order (N : Nat) (es : List Edge) : orderAll N (es.map dblE) = orderAll N es := by
 have t1 : Turned es (es.map flipE) := ⟨by simp, fun i x y h1 h2 => by
  rw [List.getElem?_map, h1] at h2
  simp at h2
  subst h2
  exact ⟨rfl, rfl, rfl⟩⟩
 have t2 : Turned (es.map dblE) (es.map flipE) := ⟨by simp, fun i x y h1 h2 => by
  rw [List.getElem?_map] at h1 h2
  cases h : es[i]? with
  | none => rw [h] at h1; simp at h1
  | some e =>
   rw [h] at h1 h2
   simp at h1 h2
   subst h1
   subst h2
   exact ⟨rfl, rfl, rfl⟩⟩
 unfold orderAll
 rw [List.length_map, ← turned_order t1, ← turned_order t2]
theorem idx_dbl (N : Nat) (es : List Edge) : (idxOf N (es.map dblE)).rank = (idxOf N es).rank ∧ (idxOf N (es.map dblE)).arcs = (idxOf N es).arcs.map dblA := by
 simp only [idxOf, dbl_order, hierOf_dbl]
 exact ⟨trivial, trivial⟩

set_option maxRecDepth 20000 in
set_option maxHeartbeats 8000000 in
theorem hierCosts_ret {size modes : Int} {ns : AVal} {xs : List Int} {H : AHeap} (_ : I64 size) (hr : Row H ns 1 (ints xs)) (hx : ∀ x ∈ xs, I64 x) (hx2 : xs.length ≤ 9223372036854775807) (_ : I64 modes) :
  Ret A 21 [.int .i64 size, ns, .int .i64 modes] H (fun v _ => v = .bool true) := by
 refine Ret.of (fn := F21) rfl ?_
 simp (disch := first | omega | (simp only [nx] <;> omega) | fail) only [vaw, F21, Nat.reduceAdd, Nat.reduceMul, Nat.reduceLeDiff, Nat.reduceEqDiff, ↓reduceIte]
 refine known47_ret fun H1 k1 => ?_
 simp (disch := first | omega | (simp only [nx] <;> omega) | fail) only [vaw, Bool.not_true, Nat.reduceAdd, Nat.reduceMul, Nat.reduceLeDiff, Nat.reduceEqDiff, ↓reduceIte]
 refine mk_ret (hr.kept k1) hx hx2 fun ev H2 k2 g2 => ?_
 simp (disch := first | omega | (simp only [nx] <;> omega) | fail) only [vaw, Nat.reduceAdd, Nat.reduceMul, Nat.reduceLeDiff, Nat.reduceEqDiff, ↓reduceIte]
 refine mk_ret ((hr.kept k1).kept k2) hx hx2 fun fv H3 k3 g3 => ?_
 have hnet := mk_net size modes xs
 have hsm := mk_small size
 have h12 : mkN size ≤ 12 := by unfold mkN; omega
 generalize mkEs size modes xs = es at *
 generalize mkN size = N at *
 have ce := g2.cells
 have cf := g3.cells
 simp (disch := first | omega | (simp only [nx] <;> omega) | fail) only [vaw, Nat.reduceAdd, Nat.reduceMul, Nat.reduceLeDiff, Nat.reduceEqDiff, ↓reduceIte]
 have kB : Keep Nothing H3 ((((H3.new (.cells [.int .i64 0, .nilSlice] true)).new (.cells [.int .i64 0, .nilSlice] true)).upd H3.next (some (.cells [.int .i64 N, ev] true))).upd (H3.next + 1) (some (.cells [.int .i64 N, fv] true))) := ((((Keep.refl _ _).new _).new _).upd (.inl (Nat.le_refl _)) _).upd (.inl (by omega)) _
 have o1 : ((((H3.new (.cells [.int .i64 0, .nilSlice] true)).new (.cells [.int .i64 0, .nilSlice] true)).upd H3.next (some (.cells [.int .i64 N, ev] true))).upd (H3.next + 1) (some (.cells [.int .i64 N, fv] true))).obj H3.next = some (.cells [.int .i64 N, ev] true) := by simp (disch := first | omega | (simp only [nx] <;> omega) | fail) only [vaim]
 have o2 : ((((H3.new (.cells [.int .i64 0, .nilSlice] true)).new (.cells [.int .i64 0, .nilSlice] true)).upd H3.next (some (.cells [.int .i64 N, ev] true))).upd (H3.next + 1) (some (.cells [.int .i64 N, fv] true))).obj (H3.next + 1) = some (.cells [.int .i64 N, fv] true) := obj_upd_eq rfl
 have nB : ((((H3.new (.cells [.int .i64 0, .nilSlice] true)).new (.cells [.int .i64 0, .nilSlice] true)).upd H3.next (some (.cells [.int .i64 N, ev] true))).upd (H3.next + 1) (some (.cells [.int .i64 N, fv] true))).next = H3.next + 2 := rfl
 generalize (((H3.new (.cells [.int .i64 0, .nilSlice] true)).new (.cells [.int .i64 0, .nilSlice] true)).upd H3.next (some (.cells [.int .i64 N, ev] true))).upd (H3.next + 1) (some (.cells [.int .i64 N, fv] true)) = HB at *
 have n3 := k3.next
 have se : ∀ j, sid ev = some j → j < H2.next := fun j hj => (g2.sid_ge hj).2
 have sf : ∀ j, sid fv = some j → H2.next ≤ j ∧ j < H3.next := fun j hj => g3.sid_ge hj
 have gB := (g2.own.kept k3).kept kB
 have fB := g3.own.kept kB
 have hel := hnet.2.2.1
 have hed := hnet.2.2.2
 have be := g2.row.beq
 have bf := g3.row.beq
 generalize H3.next = p at *
 clear g2 g3 ce cf
 refine wpx_loop (fun m t H' => ∃ (i : Nat), m = es.length - i ∧ i ≤ es.length ∧ t = (bots 7 (.ptr p 0 :: .ptr (p + 1) 0 :: .int .i64 i :: bots 139 ([])) : Tmps) ∧ p + 2 ≤ H'.next ∧ H'.obj p = some (.cells [.int .i64 N, ev] true) ∧ H'.obj (p + 1) = some (.cells [.int .i64 N, fv] true) ∧ Own H1.next H' ev 4 (edgeCells (partE modE es i)) ∧ Own H2.next H' fv 4 (edgeCells (partE (fun e => dblE (modE e)) es i))) es.length ?_ ?_
 ·exact ⟨0, rfl, by omega, rfl, by omega, o1, o2, by simpa [partE] using gB, by simpa [partE] using fB⟩
 ·clear o1 o2 gB fB
  rintro m t H5 ⟨i, rfl, hi, rfl, n5, oN, oM, g5, f5⟩
  have hl := g5.row.len (n := es.length) (by omega) (by rw [edgeCells_length, partE_length])
  by_cases hc : (i : Int) < es.length
  ·have hil : i < es.length := by omega
   obtain ⟨e, he⟩ : ∃ e, es[i]? = some e := ⟨_, List.getElem?_eq_getElem hil⟩
   have heb := (hed e (List.mem_of_getElem? he)).2.2.2
   have hp1 := partE_at (f := modE) he
   have hp2 := partE_at (f := fun e => dblE (modE e)) he
   have hp3 := partE_next (f := modE) he
   obtain ⟨id, s1, s2, s3, s4, s5, s6⟩ := Own.edgeSlot g5 (i := i) (by rw [partE_length]; exact hil)
   obtain ⟨ix, ox, x1, x2, x3, x4, x5, x6, x7⟩ := edge_at g5.row hp1
   rw [s4] at x1
   injection x1 with x1
   injection x1 with x11 x12
   subst x11
   subst x12
   have hset := (edge_set _ i e (e.cost % 1000) hp1).trans (congrArg edgeCells (partE_set (f := modE) he))
   have hcl := edgeCells_length (partE modE es i)
   rw [partE_length] at hcl
   have hle2 : i * 4 + 3 + 1 ≤ (edgeCells (partE modE es i)).length := by omega
   have hid := se _ s1
   simp (disch := first | omega | (simp only [nx] <;> omega) | fail) only [vaw, oN, hl, hc, s4, x6, Nat.reduceAdd, Nat.reduceMul, Nat.reduceLeDiff, Nat.reduceEqDiff, ↓reduceIte]
   refine within_ret (f := 50) (n := 1000) rfl (by omega) (by omega) ?_
   simp (disch := first | omega | (simp only [nx] <;> omega) | fail) only [vaw, reK_same be, oN, s4, s5, hle2, hset, vaij, Nat.reduceAdd, Nat.reduceMul, Nat.reduceLeDiff, Nat.reduceEqDiff, ↓reduceIte]
   have g7 := s6 (H5.upd id (some (.cells (edgeCells (partE modE es (i + 1))) true))) _ (by simp only [next_upd]; omega) (obj_upd_eq rfl) (by rw [edgeCells_length, partE_length, hcl])
   have kV : Keep (fun j => j = id) H5 (H5.upd id (some (.cells (edgeCells (partE modE es (i + 1))) true))) := (Keep.refl (fun j => j = id) _).upd (.inr rfl) _
   have f7 := f5.keepM kV (fun j hj e => by have := (sf _ hj).1; omega)
   have oN7 : (H5.upd id (some (.cells (edgeCells (partE modE es (i + 1))) true))).obj p = some (.cells [.int .i64 N, ev] true) := by rw [obj_upd_ne (by omega)]; exact oN
   have oM7 : (H5.upd id (some (.cells (edgeCells (partE modE es (i + 1))) true))).obj (p + 1) = some (.cells [.int .i64 N, fv] true) := by rw [obj_upd_ne (by omega)]; exact oM
   have n7 : p + 2 ≤ (H5.upd id (some (.cells (edgeCells (partE modE es (i + 1))) true))).next := by simp only [next_upd]; omega
   generalize H5.upd id (some (.cells (edgeCells (partE modE es (i + 1))) true)) = H7 at *
   obtain ⟨ix, ox, y1, y2, y3, y4, y5, y6, y7⟩ := edge_at g7.row hp3
   obtain ⟨id2, z1, z2, z3, z4, z5, z6⟩ := Own.edgeSlot f7 (i := i) (by rw [partE_length]; exact hil)
   have hset2 := (edge_set _ i e (2 * (e.cost % 1000)) hp2).trans (congrArg edgeCells (partE_set (f := fun e => dblE (modE e)) he))
   have hcl2 := edgeCells_length (partE (fun e => dblE (modE e)) es i)
   rw [partE_length] at hcl2
   have hle3 : i * 4 + 3 + 1 ≤ (edgeCells (partE (fun e => dblE (modE e)) es i)).length := by omega
   have hid2 := sf _ z1
   have hmc : (modE e).cost = e.cost % 1000 := rfl
   rw [hmc] at y6
   simp (disch := first | omega | (simp only [nx] <;> omega) | fail) only [vaw, oM, oN, oM7, oN7, y1, y6, z4, z5, hle3, hset2, vaij, Nat.reduceAdd, Nat.reduceMul, Nat.reduceLeDiff, Nat.reduceEqDiff, ↓reduceIte]
   have g9 := z6 (H7.upd id2 (some (.cells (edgeCells (partE (fun e => dblE (modE e)) es (i + 1))) true))) _ (by simp only [next_upd]; omega) (obj_upd_eq rfl) (by rw [edgeCells_length, partE_length, hcl2])
   have kW : Keep (fun j => j = id2) H7 (H7.upd id2 (some (.cells (edgeCells (partE (fun e => dblE (modE e)) es (i + 1))) true))) := (Keep.refl (fun j => j = id2) _).upd (.inr rfl) _
   have f9 := g7.keepM kW (fun j hj e => by have := se _ hj; omega)
   exact ⟨es.length - (i + 1), by omega, i + 1, rfl, by omega, rfl, n7, f9, g9⟩
  ·have : i = es.length := by omega
   subst this
   rw [partE_all] at g5 f5
   have hmm : es.map (fun e => dblE (modE e)) = (es.map modE).map dblE := by rw [List.map_map]; rfl
   rw [hmm] at f5
   obtain ⟨hn1, hn2⟩ := modE_net hnet
   have hbeq : AVal.beq (.agg [.int .i64 (N : Int), fv]) (.agg [.int .i64 (N : Int), fv]) = true := by simp [AVal.beq, AVal.beqs, bf]
   obtain ⟨hd1, hd2⟩ := idx_dbl N (es.map modE)
   simp (disch := first | omega | (simp only [nx] <;> omega) | fail) only [vaw, oN, oM, hl, hc, Nat.reduceAdd, Nat.reduceMul, Nat.reduceLeDiff, Nat.reduceEqDiff, ↓reduceIte]
   have kX : Keep Nothing H5 ((H5.new (.cells [.int .i64 0, .nilSlice, .nilSlice, .nilSlice, .nilSlice, .nilSlice] true)).new (.cells [.int .i64 0, .nilSlice, .nilSlice, .nilSlice, .nilSlice, .nilSlice] true)) := ((Keep.refl _ _).new _).new _
   have q1 : ((H5.new (.cells [.int .i64 0, .nilSlice, .nilSlice, .nilSlice, .nilSlice, .nilSlice] true)).new (.cells [.int .i64 0, .nilSlice, .nilSlice, .nilSlice, .nilSlice, .nilSlice] true)).obj H5.next = some (.cells [.int .i64 0, .nilSlice, .nilSlice, .nilSlice, .nilSlice, .nilSlice] true) := by simp (disch := first | omega | (simp only [nx] <;> omega) | fail) only [vaim]
   have q2 : ((H5.new (.cells [.int .i64 0, .nilSlice, .nilSlice, .nilSlice, .nilSlice, .nilSlice] true)).new (.cells [.int .i64 0, .nilSlice, .nilSlice, .nilSlice, .nilSlice, .nilSlice] true)).obj (H5.next + 1) = some (.cells [.int .i64 0, .nilSlice, .nilSlice, .nilSlice, .nilSlice, .nilSlice] true) := obj_new_eq rfl
   have nX : ((H5.new (.cells [.int .i64 0, .nilSlice, .nilSlice, .nilSlice, .nilSlice, .nilSlice] true)).new (.cells [.int .i64 0, .nilSlice, .nilSlice, .nilSlice, .nilSlice, .nilSlice] true)).next = H5.next + 2 := rfl
   have oM5 := oM
   generalize (H5.new (.cells [.int .i64 0, .nilSlice, .nilSlice, .nilSlice, .nilSlice, .nilSlice] true)).new (.cells [.int .i64 0, .nilSlice, .nilSlice, .nilSlice, .nilSlice, .nilSlice] true) = HX at *
   refine hbuild_ret (g5.row.kept kX) hn1 h12 fun ew rv av uv dv H6 k6 h6 => ?_
   have n6 := k6.next
   have oM6 := (k6.old (by omega)).trans ((kX.old (by omega)).trans oM)
   simp (disch := first | omega | (simp only [nx] <;> omega) | fail) only [vaw, oM6, reK_same hbeq, Nat.reduceAdd, Nat.reduceMul, Nat.reduceLeDiff, Nat.reduceEqDiff, ↓reduceIte]
   refine hbuild_ret (f5.row.kept (kX.trans k6)) hn2 h12 fun ew2 rv2 av2 uv2 dv2 H7 k7 h7 => ?_
   have n7 := k7.next
   have r1 := (k7.old (by omega)).trans ((k6.old (by omega)).trans q1)
   have r2 := (k7.old (by omega)).trans ((k6.old (by omega)).trans q2)
   have hx1 := h6.kept k7
   have a1 := hx1.arcs.1
   have a2 := h7.arcs.1
   have b1 := hx1.rank.1
   have b2 := h7.rank.1
   have hal1 := (idx_allowed hn1 hsm).count
   have hcost := fun i a ha => ((idx_allowed hn1 hsm).arcs i a ha).1
   have hrl1 := (allowed_short (idx_allowed hn1 hsm)).1.2.1
   rw [hd2] at a2
   rw [hd1] at b2
   have m1 := hx1.arcs.2
   have m2 := h7.arcs.2
   have m3 := hx1.rank.2
   have m4 := h7.rank.2
   simp (disch := first | omega | (simp only [nx] <;> omega) | fail) only [vaw, r1, r2, Nat.reduceAdd, Nat.reduceMul, Nat.reduceLeDiff, Nat.reduceEqDiff, ↓reduceIte]
   have kY : Keep (fun j => j = H5.next ∨ j = H5.next + 1) H7 ((H7.upd H5.next (some (.cells [.int .i64 N, ew, rv, av, uv, dv] true))).upd (H5.next + 1) (some (.cells [.int .i64 N, ew2, rv2, av2, uv2, dv2] true))) := ((Keep.refl (fun j => j = H5.next ∨ j = H5.next + 1) _).upd (.inr (.inl rfl)) _).upd (.inr (.inr rfl)) _
   have oX : ((H7.upd H5.next (some (.cells [.int .i64 N, ew, rv, av, uv, dv] true))).upd (H5.next + 1) (some (.cells [.int .i64 N, ew2, rv2, av2, uv2, dv2] true))).obj H5.next = some (.cells [.int .i64 N, ew, rv, av, uv, dv] true) := by rw [obj_upd_ne (by omega)]; exact obj_upd_eq rfl
   have oY : ((H7.upd H5.next (some (.cells [.int .i64 N, ew, rv, av, uv, dv] true))).upd (H5.next + 1) (some (.cells [.int .i64 N, ew2, rv2, av2, uv2, dv2] true))).obj (H5.next + 1) = some (.cells [.int .i64 N, ew2, rv2, av2, uv2, dv2] true) := obj_upd_eq rfl
   have nY : ((H7.upd H5.next (some (.cells [.int .i64 N, ew, rv, av, uv, dv] true))).upd (H5.next + 1) (some (.cells [.int .i64 N, ew2, rv2, av2, uv2, dv2] true))).next = H7.next := rfl
   generalize (H7.upd H5.next (some (.cells [.int .i64 N, ew, rv, av, uv, dv] true))).upd (H5.next + 1) (some (.cells [.int .i64 N, ew2, rv2, av2, uv2, dv2] true)) = HY at *
   have a1 := a1.M kY (fun j hj e => by have := m1 j hj; omega)
   have a2 := a2.M kY (fun j hj e => by have := m2 j hj; omega)
   have b1 := b1.M kY (fun j hj e => by have := m3 j hj; omega)
   have b2 := b2.M kY (fun j hj e => by have := m4 j hj; omega)
   generalize (idxOf N (es.map modE)).arcs = arcs at *
   generalize (idxOf N (es.map modE)).rank = rank at *
   have la1 := a1.len (n := arcs.length) (by omega) (arcCells_length arcs)
   have la2 := a2.len (n := arcs.length) (by omega) (by rw [arcCells_length, List.length_map])
   have lr1 := b1.len1
   have lr2 := b2.len1
   simp (disch := first | omega | (simp only [nx] <;> omega) | fail) only [vaw, oX, oY, la1, la2, lr1, lr2, ne_eq, not_true_eq_false, Nat.reduceAdd, Nat.reduceMul, Nat.reduceLeDiff, Nat.reduceEqDiff, ↓reduceIte]
   refine ints_ret b1 b2 hrl1 fun b sb => ?_
   have := sb.2 rfl
   subst this
   simp (disch := first | omega | (simp only [nx] <;> omega) | fail) only [vaw, Bool.not_true, Nat.reduceAdd, Nat.reduceMul, Nat.reduceLeDiff, Nat.reduceEqDiff, ↓reduceIte]
   generalize H5.next = q at *
   refine wpx_loop (fun m t H' => ∃ (i : Nat), m = arcs.length - i ∧ i ≤ arcs.length ∧ t = (bots 10 (.ptr q 0 :: .ptr (q + 1) 0 :: .int .i64 i :: bots 136 ([])) : Tmps) ∧ Keep Nothing HY H') arcs.length ?_ ?_
   ·exact ⟨0, rfl, by omega, rfl, .refl _ _⟩
   ·rintro m t H8 ⟨i, rfl, hi, rfl, k8⟩
    have oX8 := (k8.old (by omega)).trans oX
    have oY8 := (k8.old (by omega)).trans oY
    have n8 := k8.next
    have c1 := a1.kept k8
    have c2 := a2.kept k8
    have la1 := c1.len (n := arcs.length) (by omega) (arcCells_length arcs)
    have bv := c2.beq
    by_cases hc2 : (i : Int) < arcs.length
    ·have hil : i < arcs.length := by omega
     obtain ⟨a, ha⟩ : ∃ a, arcs[i]? = some a := ⟨_, List.getElem?_eq_getElem hil⟩
     have ha2 : (arcs.map dblA)[i]? = some (dblA a) := by rw [List.getElem?_map, ha]; rfl
     have hcb := hcost i a ha
     obtain ⟨ia, oa, u1, u2, u3, u4, u5, u6, u7, u8, u9, u10⟩ := arc_flds c1 ha
     obtain ⟨ib, ob, w1, w2, w3, w4, w5, w6, w7, w8, w9, w10⟩ := arc_flds c2 ha2
     simp only [dblA] at w10
     have bb : AVal.beq (.agg [.int .i64 a.src, .int .i64 a.dst, .int .i64 a.mode, .int .i64 (2 * a.cost), .int .i64 a.edge, .int .i64 a.a, .int .i64 a.b]) (.agg [.int .i64 a.src, .int .i64 a.dst, .int .i64 a.mode, .int .i64 (2 * a.cost), .int .i64 a.edge, .int .i64 a.a, .int .i64 a.b]) = true := by simp [AVal.beq, AVal.beqs]
     simp (disch := first | omega | (simp only [nx] <;> omega) | fail) only [vaw, hc2, la1, oX8, oY8, u1, u10, w1, w10, reK_same bv, reK_same bb, ne_eq, not_true_eq_false, Nat.reduceAdd, Nat.reduceMul, Nat.reduceLeDiff, Nat.reduceEqDiff, ↓reduceIte]
     first | exact ⟨arcs.length - (i + 1), by omega, i + 1, rfl, by omega, rfl, (((k8.new _).new _).upd (.inl (by omega)) _).upd (.inl (by omega)) _⟩ | (trace_state; sorry)
    ·simp (disch := first | omega | (simp only [nx] <;> omega) | fail) only [vaw, hc2, la1, oX8, Nat.reduceAdd, Nat.reduceMul, Nat.reduceLeDiff, Nat.reduceEqDiff, ↓reduceIte]
end Go.Proofs.Ytknhlpmmalcchaa
