/- Steps of the walk. -/
import Derived.Test.YtknhlpmmalcchaaH22Tc
import Derived.Test.YtknhlpmmalcchaaH22Te
import Derived.Test.YtknhlpmmalcchaaH22Td
import Derived.Test.YtknhlpmmalcchaaH22Ta
import Derived.Test.YtknhlpmmalcchaaH22Pa
set_option linter.all false
set_option linter.unusedVariables false
set_option linter.unusedSimpArgs false
namespace Go.Proofs.Ytknhlpmmalcchaa
open Go Go.VAI
set_option linter.unusedSimpArgs false

theorem HLay.ranks {H : AHeap} {b mid rid uid did gid N : Nat} {es : List Edge} {ew av : AVal} {ms : List (Key × Int)} {arcs : List Arc} {gone : List Bool} {rank : List Int} {us ds : List AVal} (h : HLay H b mid rid uid did gid N es ew av ms arcs gone rank us ds) {rank' : List Int} (hg : rank'.length = N) :
  HLay (H.upd rid (some (.cells (ints rank') true))) b mid rid uid did gid N es ew av ms arcs gone rank' us ds := by
 obtain ⟨o1, o2, o3, o4, o5, o6⟩ := h.ord
 have kM : Keep (fun j => j = rid) H (H.upd rid (some (.cells (ints rank') true))) := (Keep.refl (fun j => j = rid) _).upd (.inr rfl) _
 exact ⟨(kM.obj _ (by omega) (by omega)).trans h.bo, (kM.obj _ (by omega) (by omega)).trans h.mo, obj_upd_eq rfl, (kM.obj _ (by omega) (by omega)).trans h.uo, (kM.obj _ (by omega) (by omega)).trans h.dO, (kM.obj _ (by omega) (by omega)).trans h.go, ⟨o1, o2, o3, o4, o5, o6⟩, h.ewid, h.edges.M kM (fun j hj e => by have := h.ewid j hj; omega), h.arcsO.keepM kM (fun j hj e => by have := (h.arcsO.sid_ge hj).1; omega), hg, h.ul, h.dl, h.gl⟩
theorem HLay.ups {H : AHeap} {b mid rid uid did gid N : Nat} {es : List Edge} {ew av : AVal} {ms : List (Key × Int)} {arcs : List Arc} {gone : List Bool} {rank : List Int} {us ds : List AVal} (h : HLay H b mid rid uid did gid N es ew av ms arcs gone rank us ds) {us' : List AVal} (hg : us'.length = N) :
  HLay (H.upd uid (some (.cells us' true))) b mid rid uid did gid N es ew av ms arcs gone rank us' ds := by
 obtain ⟨o1, o2, o3, o4, o5, o6⟩ := h.ord
 have kM : Keep (fun j => j = uid) H (H.upd uid (some (.cells us' true))) := (Keep.refl (fun j => j = uid) _).upd (.inr rfl) _
 exact ⟨(kM.obj _ (by omega) (by omega)).trans h.bo, (kM.obj _ (by omega) (by omega)).trans h.mo, (kM.obj _ (by omega) (by omega)).trans h.ro, obj_upd_eq rfl, (kM.obj _ (by omega) (by omega)).trans h.dO, (kM.obj _ (by omega) (by omega)).trans h.go, ⟨o1, o2, o3, o4, o5, o6⟩, h.ewid, h.edges.M kM (fun j hj e => by have := h.ewid j hj; omega), h.arcsO.keepM kM (fun j hj e => by have := (h.arcsO.sid_ge hj).1; omega), h.rl, hg, h.dl, h.gl⟩
theorem RowsAt.M' {lo : Nat} {M : Nat → Prop} {H H' : AHeap} {av av' : AVal} {us : List AVal} {ul : List (List Int)} (h : RowsAt lo H av us ul) (hk : Keep M H H') (hM : ∀ j, M j → j < lo ∨ sid av = some j) (ha : ∀ j, sid av' = some j → sid av = some j ∨ H.next ≤ j) : RowsAt lo H' av' us ul := by
 intro v r l h1 h2
 obtain ⟨h3, h4⟩ := h v r l h1 h2
 refine ⟨h3.M hk (fun j hj hm => ?_), fun j hj => ⟨(h4 j hj).1, fun e => ?_⟩⟩
 ·rcases hM j hm with h | h
  ·have := (h4 j hj).1; omega
  ·exact (h4 j hj).2 h
 ·rcases ha j e with ha | ha
  ·exact (h4 j hj).2 ha
  ·have := h3.sid_lt hj
   omega
theorem order_few {N : Nat} {l : List Int} (h : OrderOk N l) : l.length ≤ N := by
 have := few_below N l h.nodup h.bd
 exact this
theorem rowsAt_nil {lo : Nat} {H : AHeap} {av : AVal} (N : Nat) : RowsAt lo H av (List.replicate N .nilSlice) (List.replicate N []) := by
 intro v r l h1 h2
 have e1 := List.eq_of_mem_replicate (List.mem_of_getElem? h1)
 have e2 := List.eq_of_mem_replicate (List.mem_of_getElem? h2)
 subst e1; subst e2
 exact ⟨.nil, fun j hj => by cases hj⟩
theorem ints_set (l : List Int) (i : Nat) (x : Int) : (ints l).set i (.int .i64 x) = ints (l.set i x) := by simp [ints, List.map_set]
set_option maxRecDepth 20000 in
set_option maxHeartbeats 8000000 in
theorem hbuild_ret {N : Nat} {ev : AVal} {es : List Edge} {H : AHeap} {Q : AVal → AHeap → Prop} (hr : Row H ev 4 (edgeCells es)) (hnet : NetOk N es) (hN : N ≤ 12)
  (hq : ∀ ew rv av uv dv H', Keep Nothing H H' → IdxFrom H.next H' ew rv av uv dv (idxOf N es) → Q (.agg [.int .i64 N, ew, rv, av, uv, dv]) H') : Ret A 48 [.agg [.int .i64 N, ev]] H Q := by
 obtain ⟨hN1, hN2, hn, hok⟩ := hnet
 refine Ret.of (fn := F48) rfl ?_
 have hcells := hr.cells
 have hg1 : (N : Int) * ((1 : Nat) : Int) ≤ 140737488355328 := by omega
 have hg8 : (N : Int) * ((8 : Nat) : Int) ≤ 140737488355328 := by omega
 have hg2 : (N : Int) ≤ 9223372036854775807 := by omega
 have hg3 : (N : Int) * ((24 : Nat) : Int) ≤ 140737488355328 := by omega
 simp (disch := first | omega | (simp only [nx] <;> omega) | fail) only [vaw, F48, Nat.reduceAdd, Nat.reduceMul, Nat.reduceLeDiff, Nat.reduceEqDiff, ↓reduceIte]
 have k0 : Keep Nothing H ((H.new (.cells [.int .i64 N, ev] true)).new (.cells [.int .i64 0, .nilSlice, .nilSlice, .nilSlice, .nilSlice, .nilSlice] true)) := ((Keep.refl _ _).new _).new _
 have z1 : ((H.new (.cells [.int .i64 N, ev] true)).new (.cells [.int .i64 0, .nilSlice, .nilSlice, .nilSlice, .nilSlice, .nilSlice] true)).obj H.next = some (.cells [.int .i64 N, ev] true) := by simp (disch := first | omega | (simp only [nx] <;> omega) | fail) only [vaim]
 have z2 : ((H.new (.cells [.int .i64 N, ev] true)).new (.cells [.int .i64 0, .nilSlice, .nilSlice, .nilSlice, .nilSlice, .nilSlice] true)).obj (H.next + 1) = some (.cells [.int .i64 0, .nilSlice, .nilSlice, .nilSlice, .nilSlice, .nilSlice] true) := obj_new_eq rfl
 have nz : ((H.new (.cells [.int .i64 N, ev] true)).new (.cells [.int .i64 0, .nilSlice, .nilSlice, .nilSlice, .nilSlice, .nilSlice] true)).next = H.next + 2 := rfl
 generalize (H.new (.cells [.int .i64 N, ev] true)).new (.cells [.int .i64 0, .nilSlice, .nilSlice, .nilSlice, .nilSlice, .nilSlice] true) = HZ at *
 refine cloneE_ret (hr.kept k0) (by omega) fun ew H1 k1 g1 => ?_
 have n1 := k1.next
 have y1 := (k1.old (by omega)).trans z1
 have y2 := (k1.old (by omega)).trans z2
 have cw := g1.cells
 have hew : ∀ j, sid ew = some j → H.next + 2 ≤ j ∧ j < H1.next := fun j hj => by have := g1.sid_ge hj; omega
 have hcm : ∀ i, (AVal.map i).cells = some [AVal.map i] := fun _ => rfl
 simp (disch := first | omega | (simp only [nx] <;> omega) | fail) only [vaw, y1, y2, cw, amkSlice_int hg1 hg2, amkSlice_int hg8 hg2, amkSlice_int hg3 hg2, hcm, reps_oneB, Nat.reduceAdd, Nat.reduceMul, Nat.reduceLeDiff, Nat.reduceEqDiff, ↓reduceIte]
 have hXK : Keep (fun j => j = H.next) H1 (((((((((H1.upd H.next (some (.cells [.int .i64 N, ew] true))).new (.cells (List.replicate N (.int .i64 0)) true)).new (.cells (List.replicate N .nilSlice) true)).new (.cells (List.replicate N .nilSlice) true)).new (.amap [])).new (.cells (List.replicate N (.bool false)) true)).new (.cells [.int .i64 N, ew, .slice H1.next 0 N (.exact N), .nilSlice, .slice (H1.next + 1) 0 N (.exact N), .slice (H1.next + 1 + 1) 0 N (.exact N), .map (H1.next + 1 + 1 + 1), .slice (H1.next + 1 + 1 + 1 + 1) 0 N (.exact N)] true)).new (.cells [.nilPtr] true)).upd (H1.next + 1 + 1 + 1 + 1 + 1 + 1) (some (.cells [.ptr (H1.next + 1 + 1 + 1 + 1 + 1) 0] true))) := ((((((((Keep.refl (fun j => j = H.next) H1).upd (.inr rfl) _).new _).new _).new _).new _).new _).new _).new _ |>.upd (.inl (by first | omega | (simp only [next_new, next_upd]; omega))) _
 have hXH : HLay (((((((((H1.upd H.next (some (.cells [.int .i64 N, ew] true))).new (.cells (List.replicate N (.int .i64 0)) true)).new (.cells (List.replicate N .nilSlice) true)).new (.cells (List.replicate N .nilSlice) true)).new (.amap [])).new (.cells (List.replicate N (.bool false)) true)).new (.cells [.int .i64 N, ew, .slice H1.next 0 N (.exact N), .nilSlice, .slice (H1.next + 1) 0 N (.exact N), .slice (H1.next + 1 + 1) 0 N (.exact N), .map (H1.next + 1 + 1 + 1), .slice (H1.next + 1 + 1 + 1 + 1) 0 N (.exact N)] true)).new (.cells [.nilPtr] true)).upd (H1.next + 1 + 1 + 1 + 1 + 1 + 1) (some (.cells [.ptr (H1.next + 1 + 1 + 1 + 1 + 1) 0] true))) (H1.next + 1 + 1 + 1 + 1 + 1) (H1.next + 1 + 1 + 1) H1.next (H1.next + 1) (H1.next + 1 + 1) (H1.next + 1 + 1 + 1 + 1) N es ew .nilSlice [] [] (List.replicate N false) (List.replicate N 0) (List.replicate N .nilSlice) (List.replicate N .nilSlice) := by
  have e1 : bools (List.replicate N false) = List.replicate N (.bool false) := by simp [bools]
  have e2 : ints (List.replicate N 0) = List.replicate N (.int .i64 0) := by simp [ints]
  refine ⟨by simp (disch := first | omega | (simp only [nx] <;> omega) | fail) only [vaim], by simp (disch := first | omega | (simp only [nx] <;> omega) | fail) only [vaim]; rfl, by simp (disch := first | omega | (simp only [nx] <;> omega) | fail) only [vaim]; rw [e2], by simp (disch := first | omega | (simp only [nx] <;> omega) | fail) only [vaim], by simp (disch := first | omega | (simp only [nx] <;> omega) | fail) only [vaim], by simp (disch := first | omega | (simp only [nx] <;> omega) | fail) only [vaim]; rw [e1], ⟨by omega, by omega, by omega, by omega, by omega, (by first | omega | (simp only [next_new, next_upd]; omega))⟩, fun j hj => (hew j hj).2, g1.row.M hXK (fun j hj e => by have := hew j hj; omega), .nil, by simp, by simp, by simp, by simp⟩
 have hXc : (((((((((H1.upd H.next (some (.cells [.int .i64 N, ew] true))).new (.cells (List.replicate N (.int .i64 0)) true)).new (.cells (List.replicate N .nilSlice) true)).new (.cells (List.replicate N .nilSlice) true)).new (.amap [])).new (.cells (List.replicate N (.bool false)) true)).new (.cells [.int .i64 N, ew, .slice H1.next 0 N (.exact N), .nilSlice, .slice (H1.next + 1) 0 N (.exact N), .slice (H1.next + 1 + 1) 0 N (.exact N), .map (H1.next + 1 + 1 + 1), .slice (H1.next + 1 + 1 + 1 + 1) 0 N (.exact N)] true)).new (.cells [.nilPtr] true)).upd (H1.next + 1 + 1 + 1 + 1 + 1 + 1) (some (.cells [.ptr (H1.next + 1 + 1 + 1 + 1 + 1) 0] true))).obj (H1.next + 1 + 1 + 1 + 1 + 1 + 1) = some (.cells [.ptr (H1.next + 1 + 1 + 1 + 1 + 1) 0] true) := obj_upd_eq rfl
 have hXn : (((((((((H1.upd H.next (some (.cells [.int .i64 N, ew] true))).new (.cells (List.replicate N (.int .i64 0)) true)).new (.cells (List.replicate N .nilSlice) true)).new (.cells (List.replicate N .nilSlice) true)).new (.amap [])).new (.cells (List.replicate N (.bool false)) true)).new (.cells [.int .i64 N, ew, .slice H1.next 0 N (.exact N), .nilSlice, .slice (H1.next + 1) 0 N (.exact N), .slice (H1.next + 1 + 1) 0 N (.exact N), .map (H1.next + 1 + 1 + 1), .slice (H1.next + 1 + 1 + 1 + 1) 0 N (.exact N)] true)).new (.cells [.nilPtr] true)).upd (H1.next + 1 + 1 + 1 + 1 + 1 + 1) (some (.cells [.ptr (H1.next + 1 + 1 + 1 + 1 + 1) 0] true))).obj H.next = some (.cells [.int .i64 N, ew] true) := by simp (disch := first | omega | (simp only [nx] <;> omega) | fail) only [vaim]
 have hX2 := (hXK.obj (H.next + 1) (by omega) (by omega)).trans y2
 have hXN : (((((((((H1.upd H.next (some (.cells [.int .i64 N, ew] true))).new (.cells (List.replicate N (.int .i64 0)) true)).new (.cells (List.replicate N .nilSlice) true)).new (.cells (List.replicate N .nilSlice) true)).new (.amap [])).new (.cells (List.replicate N (.bool false)) true)).new (.cells [.int .i64 N, ew, .slice H1.next 0 N (.exact N), .nilSlice, .slice (H1.next + 1) 0 N (.exact N), .slice (H1.next + 1 + 1) 0 N (.exact N), .map (H1.next + 1 + 1 + 1), .slice (H1.next + 1 + 1 + 1 + 1) 0 N (.exact N)] true)).new (.cells [.nilPtr] true)).upd (H1.next + 1 + 1 + 1 + 1 + 1 + 1) (some (.cells [.ptr (H1.next + 1 + 1 + 1 + 1 + 1) 0] true))).next = H1.next + 7 := rfl
 generalize ((((((((H1.upd H.next (some (.cells [.int .i64 N, ew] true))).new (.cells (List.replicate N (.int .i64 0)) true)).new (.cells (List.replicate N .nilSlice) true)).new (.cells (List.replicate N .nilSlice) true)).new (.amap [])).new (.cells (List.replicate N (.bool false)) true)).new (.cells [.int .i64 N, ew, .slice H1.next 0 N (.exact N), .nilSlice, .slice (H1.next + 1) 0 N (.exact N), .slice (H1.next + 1 + 1) 0 N (.exact N), .map (H1.next + 1 + 1 + 1), .slice (H1.next + 1 + 1 + 1 + 1) 0 N (.exact N)] true)).new (.cells [.nilPtr] true)).upd (H1.next + 1 + 1 + 1 + 1 + 1 + 1) (some (.cells [.ptr (H1.next + 1 + 1 + 1 + 1 + 1) 0] true)) = HX at *
 generalize hec : H1.next + 1 + 1 + 1 + 1 + 1 + 1 = c at *
 generalize heb : H1.next + 1 + 1 + 1 + 1 + 1 = b at *
 generalize heg : H1.next + 1 + 1 + 1 + 1 = gid at *
 generalize hem : H1.next + 1 + 1 + 1 = mid at *
 generalize hed : H1.next + 1 + 1 = did at *
 generalize heu : H1.next + 1 = uid at *
 generalize her : H1.next = rid at *
 refine wpx_loop (fun m t H' => ∃ (i : Nat), m = N - i ∧ i ≤ N ∧ t = (bots 1 (.ptr H.next 0 :: .ptr (H.next + 1) 0 :: .ptr c 0 :: bots 33 (.int .i64 N :: .int .i64 i :: bots 70 ([]))) : Tmps) ∧ Keep (fun j => j = rid) HX H' ∧ HLay H' b mid rid uid did gid N es ew .nilSlice [] [] (List.replicate N false) (List.replicate i (-1) ++ List.replicate (N - i) 0) (List.replicate N .nilSlice) (List.replicate N .nilSlice)) N ?_ ?_
 ·exact ⟨0, rfl, by omega, rfl, .refl _ _, hXH⟩
 ·rintro m t H2 ⟨i, rfl, hi, rfl, k2, h2⟩
  have c2 := (k2.obj c (by omega) (by omega)).trans hXc
  by_cases hc : (i : Int) < N
  ·have hiN : i < N := by omega
   have hix : aindexAddrS 1 (.slice rid 0 N (.exact N)) (.int .i64 (i : Int)) = some (.ptr rid i) := by rw [aindexAddrS_slice ⟨by omega, by omega⟩]; simp
   have hrl : (ints (List.replicate i (-1) ++ List.replicate (N - i) 0)).length = N := by rw [ints_length]; exact h2.rl
   have hle : i + 1 ≤ N := hiN
   have hsp : splice (ints (List.replicate i (-1) ++ List.replicate (N - i) 0)) i [.int .i64 (-1)] = ints (List.replicate (i + 1) (-1) ++ List.replicate (N - (i + 1)) 0) := by
    rw [splice_one (by rw [hrl]; exact hiN), ints_set]
    congr 1
    rw [List.set_append_right _ _ (by simp), show N - i = (N - (i + 1)) + 1 by omega, List.replicate_succ]
    simp [List.replicate_succ']
   simp (disch := first | omega | (simp only [nx] <;> omega) | fail) only [vaw, hc, c2, h2.bo, h2.ro, hix, hrl, hle, hsp, Nat.reduceAdd, Nat.reduceMul, Nat.reduceLeDiff, Nat.reduceEqDiff, ↓reduceIte]
   exact ⟨N - (i + 1), by omega, i + 1, rfl, by omega, rfl, k2.upd (.inr rfl) _, h2.ranks (by simp; omega)⟩
  ·have : i = N := by omega
   subst this
   rw [Nat.sub_self, List.replicate_zero, List.append_nil] at h2
   simp (disch := first | omega | (simp only [nx] <;> omega) | fail) only [vaw, hc, c2, Nat.reduceAdd, Nat.reduceMul, Nat.reduceLeDiff, Nat.reduceEqDiff, ↓reduceIte]
   refine first_ret h2 hok hn (by omega) fun H3 av3 ms3 k3 h3 c3 s3 => ?_
   have nb3 : H3.obj H.next = some (.cells [.int .i64 i, ew] true) := (k3.obj _ (by have := k2.next; omega) (fun e => by rcases e with e | e | e <;> first | omega | cases e)).trans ((k2.obj _ (by omega) (by omega)).trans hXn)
   have cc3 := (k3.obj c (by have := k2.next; omega) (fun e => by rcases e with e | e | e <;> first | omega | cases e)).trans c2
   have rs3 := (k3.obj (H.next + 1) (by have := k2.next; omega) (fun e => by rcases e with e | e | e <;> first | omega | cases e)).trans ((k2.obj _ (by omega) (by omega)).trans hX2)
   simp (disch := first | omega | (simp only [nx] <;> omega) | fail) only [vaw, nb3, Nat.reduceAdd, Nat.reduceMul, Nat.reduceLeDiff, Nat.reduceEqDiff, ↓reduceIte]
   refine odBF_ret (N := i) h3.edges hok hN (by omega) fun lv H4 k4 r4 lo4 => ?_
   have hmo : ∀ e ∈ es, 0 ≤ e.mode ∧ e.mode < 5 := fun e he => ⟨(hok e he).2.2.1.1, (hok e he).2.2.1.2⟩
   rw [odB_eq hmo] at r4
   have hlo : OrderOk i (orderOf i es (2 * es.length + 1)) := orderOf_ok i es _
   have hoa : orderAll i es = orderOf i es (2 * es.length + 1) := rfl
   have hidx : idxOf i es = ⟨i, es, (hierOf i es (orderAll i es)).rank, (hierOf i es (orderAll i es)).arcs, (hierOf i es (orderAll i es)).up, (hierOf i es (orderAll i es)).down⟩ := rfl
   have hlN := order_few hlo
   rw [← hoa] at r4 hlo hlN
   generalize orderAll i es = l at *
   have hedg : EdgesOk i es := fun e he => ⟨(hok e he).1, (hok e he).2.1, (hok e he).2.2.1, (hok e he).2.2.2.1⟩
   have hcost : ∀ e ∈ es, 0 ≤ e.cost ∧ e.cost ≤ 2147483647 := fun e he => (hok e he).2.2.2
   have n2 := k2.next
   have n3 := k3.next
   have n4 := k4.next
   have h4 := h3.kept k4
   have cc4 := (k4.old (by omega)).trans cc3
   have rs4 := (k4.old (by omega)).trans rs3
   have ll := r4.len1
   rw [ints_length] at ll
   have sa3 : ∀ j, sid av3 = some j → c < j ∧ j < H3.next := fun j hj => by
    have h1 := h3.arcsO.sid_ge hj
    rcases s3 j hj with e | e
    ·cases e
    ·omega
   simp (disch := first | omega | (simp only [nx] <;> omega) | fail) only [vaw, ll, Nat.reduceAdd, Nat.reduceMul, Nat.reduceLeDiff, Nat.reduceEqDiff, ↓reduceIte]
   refine wpx_loop (fun m t H' => ∃ (k : Nat) (av' : AVal) (ms' : List (Key × Int)) (us ds : List AVal), m = l.length - k ∧ k ≤ l.length ∧ t = (bots 2 (.ptr (H.next + 1) 0 :: .ptr c 0 :: bots 48 (lv :: .int .i64 l.length :: .int .i64 k :: bots 54 ([]))) : Tmps) ∧ Keep (fun j => j = b ∨ j = mid ∨ j = uid ∨ j = did ∨ j = gid ∨ j = rid ∨ sid av3 = some j) H4 H' ∧
    HLay H' b mid rid uid did gid i es ew av' ms' (goAll i (startOf i es) l k).arcs (goAll i (startOf i es) l k).gone (goAll i (startOf i es) l k).rank us ds ∧ MapCur i ms' (goAll i (startOf i es) l k).cur ∧ RowsAt (c + 1) H' av' us (goAll i (startOf i es) l k).up ∧ RowsAt (c + 1) H' av' ds (goAll i (startOf i es) l k).down ∧ (∀ j, sid av' = some j → sid av3 = some j ∨ H4.next ≤ j)) l.length ?_ ?_
   ·exact ⟨0, av3, ms3, _, _, rfl, by omega, rfl, .refl _ _, h4, c3, rowsAt_nil i, rowsAt_nil i, fun j hj => .inl hj⟩
   ·rintro m t H5 ⟨k, av5, ms5, us, ds, rfl, hk, rfl, k5, h5, c5, ru5, rd5, s5⟩
    have cc5 := (k5.obj c (by omega) (fun e => by rcases e with e | e | e | e | e | e | e <;> first | omega | (have := sa3 _ e; omega))).trans cc4
    have rs5 := (k5.obj (H.next + 1) (by omega) (fun e => by rcases e with e | e | e | e | e | e | e <;> first | omega | (have := sa3 _ e; omega))).trans rs4
    have n5 := k5.next
    by_cases hc2 : (k : Int) < l.length
    ·have hkl : k < l.length := by omega
     have hv : l[k]? = some l[k] := by simp [hkl]
     have hbd := hlo.bd _ (List.getElem_mem hkl)
     have hgd : l.getD k 0 = l[k] := getD_of hv
     have hgs : goAll i (startOf i es) l (k + 1) = goStep i (goAll i (startOf i es) l k) k (l.getD k 0).toNat := rfl
     rw [hgd] at hgs
     have r5 := (r4.M k5 (fun j hj e => by
      have := r4.sid_lt hj
      have := lo4 j hj
      rcases e with e | e | e | e | e | e | e <;> first | omega | (have := sa3 _ e; omega)))
     obtain ⟨i1, f1, d1, d2, d3⟩ := r5.int_at (k := .i64) hv
     obtain ⟨ex, hgo⟩ := go_gone hedg hlo k hk
     generalize l[k] = vi at *
     obtain ⟨v, rfl⟩ := Int.eq_ofNat_of_zero_le hbd.1
     rw [Int.toNat_natCast] at hgs
     have hvN : v < i := by omega
     generalize goAll i (startOf i es) l k = s at *
     have hix : aindexAddrS 1 (.slice rid 0 i (.exact i)) (.int .i64 (v : Int)) = some (.ptr rid v) := by rw [aindexAddrS_slice ⟨by omega, by omega⟩]; simp
     have hrl : (ints s.rank).length = i := by rw [ints_length]; exact h5.rl
     have hle : v + 1 ≤ i := hvN
     have hsp : splice (ints s.rank) v [.int .i64 (k : Int)] = ints (s.rank.set v (k : Int)) := by
      rw [splice_one (by rw [hrl]; exact hvN), ints_set]
     have h6 := h5.ranks (rank' := s.rank.set v (k : Int)) (by rw [List.length_set]; exact h5.rl)
     have k6 : Keep (fun j => j = rid) H5 (H5.upd rid (some (.cells (ints (s.rank.set v (k : Int))) true))) := (Keep.refl (fun j => j = rid) _).upd (.inr rfl) _
     have cc6 := (k6.obj c (by omega) (by omega)).trans cc5
     simp (disch := first | omega | (simp only [nx] <;> omega) | fail) only [vaw, hc2, d1, d3, cc5, h5.bo, h5.ro, hix, hrl, hle, hsp, Nat.reduceAdd, Nat.reduceMul, Nat.reduceLeDiff, Nat.reduceEqDiff, ↓reduceIte]
     have ru6 := ru5.M' k6 (fun j hj => .inl (by omega)) (fun j hj => .inl hj)
     have rd6 := rd5.M' k6 (fun j hj => .inl (by omega)) (fun j hj => .inl hj)
     have n6 : (H5.upd rid (some (.cells (ints (s.rank.set v (k : Int))) true))).next = H5.next := rfl
     generalize H5.upd rid (some (.cells (ints (s.rank.set v (k : Int))) true)) = H6 at *
     refine goes_ret h6 c5 hcost hlo hgo (by omega) hv hvN (by omega) fun H7 av7 ms7 ur dr k7 h7 c7 g7 q7 s7 w7 x7 => ?_
     simp (disch := first | omega | (simp only [nx] <;> omega) | fail) only [vaw, Nat.reduceAdd, Nat.reduceMul, Nat.reduceLeDiff, Nat.reduceEqDiff, ↓reduceIte]
     have sa5 : ∀ j, sid av5 = some j → c < j := fun j hj => by
      rcases s5 j hj with e | e
      ·exact (sa3 j e).1
      ·omega
     have ru7 := (ru6.M' k7 (fun j hj => by rcases hj with e | e | e | e | e | e <;> first | exact .inl (by omega) | exact .inr e) (fun j hj => s7 j hj)).set (v := v) (l := outOf i s.cur s.gone v i) g7.row (fun j hj => ⟨by have := (g7.sid_ge hj).1; omega, w7 j hj⟩) (by rw [h5.ul, hgo.upLen])
     have rd7 := (rd6.M' k7 (fun j hj => by rcases hj with e | e | e | e | e | e <;> first | exact .inl (by omega) | exact .inr e) (fun j hj => s7 j hj)).set (v := v) (l := inOf i s.cur s.gone v i) q7.row (fun j hj => ⟨by have := (q7.sid_ge hj).1; omega, x7 j hj⟩) (by rw [h5.dl, hgo.downLen])
     have kF : Keep (fun j => j = b ∨ j = mid ∨ j = uid ∨ j = did ∨ j = gid ∨ j = rid ∨ sid av3 = some j) H4 H7 := (k5.trans' k6 (fun j hj e => by simp [e])).trans' k7 (fun j hj e => by
      rcases e with e | e | e | e | e | e
      ·simp [e]
      ·simp [e]
      ·simp [e]
      ·simp [e]
      ·simp [e]
      ·rcases s5 j e with e2 | e2
       ·simp [e2]
       ·omega)
     refine ⟨l.length - (k + 1), by omega, k + 1, av7, ms7, us.set v ur, ds.set v dr, rfl, by omega, rfl, kF, by rw [hgs]; exact h7, by rw [hgs]; exact c7, by rw [hgs]; exact ru7, by rw [hgs]; exact rd7, fun j hj => ?_⟩
     rcases s7 j hj with e | e
     ·exact s5 j e
     ·exact .inr (by omega)
    ·have : k = l.length := by omega
     subst this
     obtain ⟨ex, hgo⟩ := go_gone hedg hlo l.length (Nat.le_refl _)
     simp only [hierOf] at hidx
     simp (disch := first | omega | (simp only [nx] <;> omega) | fail) only [vaw, hc2, cc5, h5.bo, Nat.reduceAdd, Nat.reduceMul, Nat.reduceLeDiff, Nat.reduceEqDiff, ↓reduceIte]
     generalize goAll i (startOf i es) l l.length = s at *
     obtain ⟨o1, o2, o3, o4, o5, o6⟩ := h5.ord
     have sa5 : ∀ j, sid av5 = some j → c < j := fun j hj => by
      rcases s5 j hj with e | e
      ·exact (sa3 j e).1
      ·omega
     refine wpx_loop (fun m t H' => ∃ (v : Nat) (us : List AVal), m = i - v ∧ v ≤ i ∧ t = (bots 2 (.ptr (H.next + 1) 0 :: .ptr c 0 :: bots 71 (.slice rid 0 i (.exact i) :: .int .i64 i :: .int .i64 v :: bots 31 ([]))) : Tmps) ∧ Keep (fun j => j = uid) H5 H' ∧
      HLay H' b mid rid uid did gid i es ew av5 ms5 s.arcs s.gone s.rank us ds ∧ RowsAt (c + 1) H' av5 us (stayAll i s s.up v) ∧ RowsAt (c + 1) H' av5 ds s.down) i ?_ ?_
     ·exact ⟨0, us, rfl, by omega, rfl, .refl _ _, h5, ru5, rd5⟩
     ·rintro m t H6 ⟨v, us6, rfl, hv1, rfl, k6, h6, ru6, rd6⟩
      have n6 := k6.next
      have cc6 := (k6.obj c (by omega) (by omega)).trans cc5
      have rs6 := (k6.obj (H.next + 1) (by omega) (by omega)).trans rs5
      by_cases hc3 : (v : Int) < i
      ·have hvN : v < i := by omega
       have hix : aindexAddrS 1 (.slice rid 0 i (.exact i)) (.int .i64 (v : Int)) = some (.ptr rid v) := by rw [aindexAddrS_slice ⟨by omega, by omega⟩]; simp
       have hst : stayAll i s s.up (v + 1) = stayStep i s (stayAll i s s.up v) v := rfl
       unfold stayStep at hst
       have kB : Keep Nothing H6 ((H6.new (.cells [.int .i64 0] true)).upd H6.next (some (.cells [.int .i64 v] true))) := ((Keep.refl _ _).new _).upd (.inl (Nat.le_refl _)) _
       have qv : ((H6.new (.cells [.int .i64 0] true)).upd H6.next (some (.cells [.int .i64 v] true))).obj H6.next = some (.cells [.int .i64 v] true) := obj_upd_eq rfl
       have nB : ((H6.new (.cells [.int .i64 0] true)).upd H6.next (some (.cells [.int .i64 v] true))).next = H6.next + 1 := rfl
       have hneg : (-1 : Int) < 0 := by decide
       cases hgd : s.gone.getD v false with
       | true =>
        obtain ⟨j, hj, hlj⟩ := (hgo.gone v hvN).1 hgd
        have hrj := hgo.ranked j _ hj hlj
        rw [Int.toNat_natCast] at hrj
        have hrj2 : (ints s.rank)[v]? = some (.int .i64 (j : Int)) := by simp [ints, hrj]
        have hjn : ¬ ((j : Int) < 0) := by omega
        rw [if_pos hgd] at hst
        simp (disch := first | omega | (simp only [nx] <;> omega) | fail) only [vaw, hc3, hix, h6.ro, hrj2, hjn, Nat.reduceAdd, Nat.reduceMul, Nat.reduceLeDiff, Nat.reduceEqDiff, ↓reduceIte]
        exact ⟨i - (v + 1), by omega, v + 1, us6, rfl, by omega, rfl, k6.trans' kB (fun j hj e => e.elim), h6.kept kB, by rw [hst]; exact ru6.M' kB (fun j hj => hj.elim) (fun j hj => .inl hj), rd6.M' kB (fun j hj => hj.elim) (fun j hj => .inl hj)⟩
       | false =>
        have hrj := hgo.unranked v hvN (fun h => by have := (hgo.gone v hvN).2 h; rw [hgd] at this; cases this)
        have hrj2 : (ints s.rank)[v]? = some (.int .i64 (-1)) := by simp [ints, hrj]
        rw [if_neg (by rw [hgd]; simp)] at hst
        have hB := h6.kept kB
        have qc := (kB.old (by omega)).trans cc6
        simp (disch := first | omega | (simp only [nx] <;> omega) | fail) only [vaw, hc3, hix, h6.ro, hrj2, hneg, cc6, h6.bo, Nat.reduceAdd, Nat.reduceMul, Nat.reduceLeDiff, Nat.reduceEqDiff, ↓reduceIte]
        generalize ((H6.new (.cells [.int .i64 0] true)).upd H6.next (some (.cells [.int .i64 v] true))) = HB at *
        have hfew := c5.few
        have hN2 : i * i ≤ 12 * 12 := Nat.mul_le_mul hN hN
        have hm1 := fun (e : Key × Int) (he : e ∈ ms5) => mayOf_of qv qc hB.bo rfl hB.go h6.gl (k := e.1) (c5.rng e he).1 (c5.rng e he).2.1
        refine arcs_ret (down := false) (es := ms5) (sel := upSel ms5 s.gone v) (.inl ⟨.inl rfl, rfl⟩) hB.bo rfl hB.mo (mayAll_of fun e he => (hm1 e he).1) (by omega) c5.nodup fun ur H7 k7 g7 => ?_
        rw [up_eq c5 s.gone hvN] at g7
        have n7 := k7.next
        have h7 := hB.kept k7
        have qv7 := (k7.old (by omega)).trans qv
        have cc7 := (k7.old (by omega)).trans qc
        have cu := g7.cells
        have hvu : aindexAddrS 1 (.slice uid 0 i (.exact i)) (.int .i64 (v : Int)) = some (.ptr uid v) := by rw [aindexAddrS_slice ⟨by omega, by omega⟩]; simp
        have hle : v + 1 ≤ i := hvN
        have hul := h6.ul
        simp (disch := first | omega | (simp only [nx] <;> omega) | fail) only [vaw, qv7, cc7, h7.bo, h7.uo, hvu, cu, hul, hle, g7.notBot, splice_one, Nat.reduceAdd, Nat.reduceMul, Nat.reduceLeDiff, Nat.reduceEqDiff, ↓reduceIte]
        have h8 := h7.ups (us' := us6.set v ur) (by rw [List.length_set]; exact hul)
        have k8 : Keep (fun j => j = uid) H7 (H7.upd uid (some (.cells (us6.set v ur) true))) := (Keep.refl (fun j => j = uid) _).upd (.inr rfl) _
        have k68 : Keep (fun j => j = uid) H6 (H7.upd uid (some (.cells (us6.set v ur) true))) := ((kB.trans k7).mono (fun j hj e => e.elim)).trans' k8 (fun j hj e => e)
        refine ⟨i - (v + 1), by omega, v + 1, us6.set v ur, rfl, by omega, rfl, k6.trans' k68 (fun j hj e => e), h8, ?_, rd6.M' k68 (fun j hj => .inl (by omega)) (fun j hj => .inl hj)⟩
        rw [hst]
        exact (ru6.M' k68 (fun j hj => .inl (by omega)) (fun j hj => .inl hj)).set (g7.row.M k8 (fun j hj e => by have := (g7.sid_ge hj).1; omega)) (fun j hj => ⟨by have := (g7.sid_ge hj).1; omega, fun e => by have := (g7.sid_ge hj).1; have := (h6.arcsO.sid_ge e).2; omega⟩) (by rw [hul, stayAll_length, hgo.upLen])
      ·have : i = v := by omega
       subst this
       simp (disch := first | omega | (simp only [nx] <;> omega) | fail) only [vaw, hc3, cc6, h6.bo, Nat.reduceAdd, Nat.reduceMul, Nat.reduceLeDiff, Nat.reduceEqDiff, ↓reduceIte]
       refine cloneA_ret h6.arcsO.row (by have := hgo.count; have hNN : i * i ≤ 12 * 12 := Nat.mul_le_mul hN hN; have hk25 : l.length * (25 * (i * i)) ≤ 12 * (25 * (12 * 12)) := Nat.mul_le_mul (by omega) (by omega); omega) fun v7 H7 k7 g7 => ?_
       have h7 := h6.kept k7
       have cc7 := (k7.old (by omega)).trans cc6
       have rs7 := (k7.old (by omega)).trans rs6
       have c7 := g7.cells
       have c1 := h7.edges.cells
       simp (disch := first | omega | (simp only [nx] <;> omega) | fail) only [vaw, cc7, h7.bo, rs7, c7, c1, Nat.reduceAdd, Nat.reduceMul, Nat.reduceLeDiff, Nat.reduceEqDiff, ↓reduceIte]
       have n7 := k7.next
       obtain ⟨hend, hhe⟩ : ∃ x, x = ((H7.upd b (some (.cells [.int .i64 i, ew, .slice rid 0 i (.exact i), v7, .slice uid 0 i (.exact i), .slice did 0 i (.exact i), .map mid, .slice gid 0 i (.exact i)] true))).upd (H.next + 1) (some (.cells [.int .i64 i, ew, .slice rid 0 i (.exact i), v7, .slice uid 0 i (.exact i), .slice did 0 i (.exact i)] true))) := ⟨_, rfl⟩
       rw [← hhe]
       have k8 : Keep (fun j => j = b ∨ j = H.next + 1) H7 hend := by rw [hhe]; exact ((Keep.refl (fun j => j = b ∨ j = H.next + 1) _).upd (.inr (.inl rfl)) _).upd (.inr (.inr rfl)) _
       have n8 := k8.next
       have kk : Keep Nothing H hend := by
        refine (((((((((k0.trans k1).trans' hXK ?_).trans' k2 ?_).trans' k3 ?_).trans' k4 ?_).trans' k5 ?_).trans' k6 ?_).trans' k7 ?_).trans' k8 ?_) <;> intro j hj e
        ·omega
        ·omega
        ·rcases e with e | e | e <;> first | omega | cases e
        ·exact e
        ·rcases e with e | e | e | e | e | e | e <;> first | omega | (have := sa3 _ e; omega)
        ·omega
        ·exact e
        ·omega
       clear hhe
       refine hq _ _ _ _ _ _ kk ?_
       rw [hidx]
       have rows : ∀ (w : Nat) (vs : List AVal) (ul : List (List Int)), w < b → H.next + 1 < w → H7.obj w = some (.cells vs true) → vs.length = i → ul.length = i → RowsAt (c + 1) H6 av5 vs ul → FromRows H.next hend (.slice w 0 i (.exact i)) ul := by
        intro w vs ul h1 h2 h4 h5 h6 h7
        refine ⟨vs, ⟨.mk (c := vs) (by omega) (by rw [cells?_of, k8.obj w (by omega) (by omega), h4]; rfl) (by omega) (by simp [← h5]), fun j hj => by injection hj with hj; omega⟩, by omega, fun i r l e1 e2 => ?_⟩
        obtain ⟨g1, g2⟩ := h7 i r l e1 e2
        exact ⟨(g1.kept k7).M k8 (fun j hj e => by have := (g2 j hj).1; omega), fun j hj => by have := (g2 j hj).1; omega⟩
       refine ⟨⟨h7.edges.M k8 (fun j hj e => by have := hew j hj; have := h7.ewid j hj; omega), fun j hj => by have := hew j hj; omega⟩, ⟨.mk (c := ints s.rank) (by omega) (by rw [cells?_of, k8.obj rid (by omega) (by omega), h7.ro]; rfl) (by rw [ints_length, h7.rl]; omega) (by rw [List.drop_zero, List.take_of_length_le (by rw [ints_length, h7.rl]; omega)]), fun j hj => by injection hj with hj; omega⟩, ⟨g7.row.M k8 (fun j hj e => by have := (g7.sid_ge hj).1; omega), fun j hj => by have := (g7.sid_ge hj).1; omega⟩,
        rows _ _ _ (by omega) (by omega) h7.uo h7.ul (by rw [stayAll_length, hgo.upLen]) ru6, rows _ _ _ (by omega) (by omega) h7.dO h7.dl hgo.downLen rd6⟩
end Go.Proofs.Ytknhlpmmalcchaa

namespace Go.Proofs.Ytknhlpmmalcchaa
open Go Go.VAI
set_option linter.unusedSimpArgs false

def knownH : List Edge := [⟨0, 1, 0, 3⟩]
theorem known_one : idxOf 1 [] = ⟨1, [], [0], [], [[]], [[]]⟩ := by decide +kernel
theorem known_two : (idxOf 2 knownH).arcs.length = 1 ∧ (idxOf 2 knownH).rank.length = 2 := by decide +kernel
set_option maxRecDepth 20000 in
set_option maxHeartbeats 8000000 in
theorem known47_ret {H : AHeap} {Q : AVal → AHeap → Prop} (hq : ∀ H', Keep Nothing H H' → Q (.bool true) H') : Ret A 47 [] H Q := by
 refine Ret.of (fn := F47) rfl ?_
 have hn1 : NetOk (1 : Nat) [] := ⟨by omega, by omega, by simp, by simp⟩
 have hn2 : NetOk (2 : Nat) knownH := ⟨by omega, by omega, by decide, fun e he => by simp only [knownH, List.mem_cons, List.not_mem_nil, or_false] at he; subst he; unfold EdgeOk; simp⟩
 simp (disch := first | omega | (simp only [nx] <;> omega) | fail) only [vaw, F47, Nat.reduceAdd, Nat.reduceMul, Nat.reduceLeDiff, Nat.reduceEqDiff, ↓reduceIte]
 refine hbuild_ret (N := 1) (es := []) .nil hn1 (by omega) fun ew rv av uv dv H1 k1 h1 => ?_
 have n1 := k1.next
 have kA : Keep Nothing H1 ((H1.new (.cells [.int .i64 0, .nilSlice, .nilSlice, .nilSlice, .nilSlice, .nilSlice] true)).upd H1.next (some (.cells [.int .i64 1, ew, rv, av, uv, dv] true))) := ((Keep.refl _ _).new _).upd (.inl (Nat.le_refl _)) _
 have oA : ((H1.new (.cells [.int .i64 0, .nilSlice, .nilSlice, .nilSlice, .nilSlice, .nilSlice] true)).upd H1.next (some (.cells [.int .i64 1, ew, rv, av, uv, dv] true))).obj H1.next = some (.cells [.int .i64 1, ew, rv, av, uv, dv] true) := obj_upd_eq rfl
 have nA : ((H1.new (.cells [.int .i64 0, .nilSlice, .nilSlice, .nilSlice, .nilSlice, .nilSlice] true)).upd H1.next (some (.cells [.int .i64 1, ew, rv, av, uv, dv] true))).next = H1.next + 1 := rfl
 rw [known_one] at h1
 have c1 := h1.es.1.cells
 have c2 := h1.rank.1.cells
 have c3 := h1.arcs.1.cells
 have c4 := h1.up.rows.cells
 have c5 := h1.down.rows.cells
 simp (disch := first | omega | (simp only [nx] <;> omega) | fail) only [vaw, c1, c2, c3, c4, c5, Nat.reduceAdd, Nat.reduceMul, Nat.reduceLeDiff, Nat.reduceEqDiff, ↓reduceIte]
 generalize ((H1.new (.cells [.int .i64 0, .nilSlice, .nilSlice, .nilSlice, .nilSlice, .nilSlice] true)).upd H1.next (some (.cells [.int .i64 1, ew, rv, av, uv, dv] true))) = HA at *
 refine hbuild_ret (N := 2) (es := knownH) (.mk (c := edgeCells knownH) (by simp only [next_new]; omega) (by simp (disch := first | omega | (simp only [nx] <;> omega) | fail) only [vaim]; rfl) (by decide) rfl) hn2 (by omega) fun ew2 rv2 av2 uv2 dv2 H2 k2 h2 => ?_
 have n2 := k2.next
 simp only [next_new] at n2
 have o2 := (k2.old (i := H1.next) (by simp only [next_new]; omega)).trans ((obj_new_ne (by omega)).trans oA)
 have kB : Keep Nothing H2 ((H2.new (.cells [.int .i64 0, .nilSlice, .nilSlice, .nilSlice, .nilSlice, .nilSlice] true)).upd H2.next (some (.cells [.int .i64 2, ew2, rv2, av2, uv2, dv2] true))) := ((Keep.refl _ _).new _).upd (.inl (Nat.le_refl _)) _
 have oB : ((H2.new (.cells [.int .i64 0, .nilSlice, .nilSlice, .nilSlice, .nilSlice, .nilSlice] true)).upd H2.next (some (.cells [.int .i64 2, ew2, rv2, av2, uv2, dv2] true))).obj H2.next = some (.cells [.int .i64 2, ew2, rv2, av2, uv2, dv2] true) := obj_upd_eq rfl
 have nB : ((H2.new (.cells [.int .i64 0, .nilSlice, .nilSlice, .nilSlice, .nilSlice, .nilSlice] true)).upd H2.next (some (.cells [.int .i64 2, ew2, rv2, av2, uv2, dv2] true))).next = H2.next + 1 := rfl
 have oB1 := (kB.old (by omega)).trans o2
 have d1 := h2.es.1.cells
 have d2 := h2.rank.1.cells
 have d3 := h2.arcs.1.cells
 have d4 := h2.up.rows.cells
 have d5 := h2.down.rows.cells
 simp (disch := first | omega | (simp only [nx] <;> omega) | fail) only [vaw, d1, d2, d3, d4, d5, Nat.reduceAdd, Nat.reduceMul, Nat.reduceLeDiff, Nat.reduceEqDiff, ↓reduceIte]
 generalize ((H2.new (.cells [.int .i64 0, .nilSlice, .nilSlice, .nilSlice, .nilSlice, .nilSlice] true)).upd H2.next (some (.cells [.int .i64 2, ew2, rv2, av2, uv2, dv2] true))) = HB at *
 have h1' := ((h1.kept (kA.trans ((Keep.refl _ _).new _))).kept k2).kept kB
 have h2' := h2.kept kB
 have al1 := idx_allowed hn1 (by omega)
 have al2 := idx_allowed hn2 (by omega)
 rw [known_one] at al1
 have l1 := h1'.arcs.1.len (n := 0) (by omega) rfl
 have l2 := h1'.rank.1.len1
 obtain ⟨i1, f1, p1, p2, p3⟩ := h1'.rank.1.int_at (k := .i64) (j := 0) (x := 0) rfl
 have l3 := h2'.arcs.1.len (n := 1) (by omega) (by rw [arcCells_length, known_two.1])
 have l4 := h2'.rank.1.len1
 rw [ints_length, known_two.2] at l4
 have q3 : ((0 : Nat) : Int) = 0 := rfl
 rw [q3] at p1
 have l1' : alenS av = some (.int .i64 0) := l1
 have l2' : alenS rv = some (.int .i64 1) := l2
 have l3' : alenS av2 = some (.int .i64 1) := l3
 have l4' : alenS rv2 = some (.int .i64 2) := l4
 have e0 : (0 : Int) = 0 := rfl
 simp (disch := first | omega | (simp only [nx] <;> omega) | fail) only [vaw, o2, oB1, oB, l1', l2', l3', l4', p1, p3, Nat.reduceAdd, Nat.reduceMul, Nat.reduceLeDiff, Nat.reduceEqDiff, ↓reduceIte]
 refine check_ret (x := ⟨1, [], [0], [], [[]], [[]]⟩) h1'.idx (by simp) (by simp) fun b H3 k3 s3 => ?_
 have := s3.2 al1
 subst this
 have n3 := k3.next
 have o3 := (k3.old (by omega)).trans oB
 simp (disch := first | omega | (simp only [nx] <;> omega) | fail) only [vaw, o3, Nat.reduceAdd, Nat.reduceMul, Nat.reduceLeDiff, Nat.reduceEqDiff, ↓reduceIte]
 obtain ⟨hs1, hs2⟩ := allowed_short al2
 obtain ⟨_, _, _, _, s5, s6⟩ := hs1
 refine check_ret (x := idxOf 2 knownH) (h2'.kept k3).idx s5 s6 fun b H4 k4 s4 => ?_
 have := s4.2 al2
 subst this
 simp (disch := first | omega | (simp only [nx] <;> omega) | fail) only [vaw, Nat.reduceAdd, Nat.reduceMul, Nat.reduceLeDiff, Nat.reduceEqDiff, ↓reduceIte]
 refine hq _ ?_
 exact ((((k1.trans kA).trans ((Keep.refl _ _).new _)).trans k2).trans kB).trans k3 |>.trans k4
end Go.Proofs.Ytknhlpmmalcchaa

namespace Go.Proofs.Ytknhlpmmalcchaa
open Go Go.VAI
set_option linter.unusedSimpArgs false

end Go.Proofs.Ytknhlpmmalcchaa

namespace Go.Proofs.Ytknhlpmmalcchaa
open Go Go.VAI
set_option linter.unusedSimpArgs false

structure UnOk (arcs : List Arc) (ex : List (List Int)) : Prop where
 len : ex.length = arcs.length
 pos : ∀ l ∈ ex, 0 < l.length ∧ l.length ≤ 1000
 form : ∀ (i : Nat) a l, arcs[i]? = some a → ex[i]? = some l → (0 ≤ a.edge ∧ l = [a.edge]) ∨ (a.edge = -1 ∧ 0 ≤ a.a ∧ a.a < i ∧ 0 ≤ a.b ∧ a.b < i ∧ ∃ lp lq, ex[a.a.toNat]? = some lp ∧ ex[a.b.toNat]? = some lq ∧ l = lp ++ lq)
def exAt (ex : List (List Int)) (k : Int) : List Int := ex.getD k.toNat []
def todoOf (ex : List (List Int)) (w : List Int) : List Int := w.reverse.flatMap (exAt ex)
def stepsOf (ex : List (List Int)) (w : List Int) : Nat := (w.map fun k => 2 * (exAt ex k).length - 1).sum
theorem todoOf_snoc {ex : List (List Int)} {w : List Int} {k : Int} : todoOf ex (w ++ [k]) = exAt ex k ++ todoOf ex w := by simp [todoOf]
theorem stepsOf_snoc {ex : List (List Int)} {w : List Int} {k : Int} : stepsOf ex (w ++ [k]) = stepsOf ex w + (2 * (exAt ex k).length - 1) := by simp [stepsOf]
theorem exAt_of {ex : List (List Int)} {k : Int} {l : List Int} (h : ex[k.toNat]? = some l) : exAt ex k = l := by simp [exAt, h]
theorem todo_long {ex : List (List Int)} {n : Nat} (hp : ∀ l ∈ ex, 0 < l.length ∧ l.length ≤ 1000) (hn : ex.length = n) : ∀ {w : List Int}, (∀ k ∈ w, 0 ≤ k ∧ k < n) → w.length ≤ (todoOf ex w).length := by
 intro w
 unfold todoOf
 rw [← List.length_reverse]
 intro h
 have h : ∀ k ∈ w.reverse, 0 ≤ k ∧ k < n := fun k hk => h k (List.mem_reverse.1 hk)
 generalize w.reverse = w at *
 induction w with
 | nil => simp
 | cons k w ih =>
  rw [List.flatMap_cons, List.length_append, List.length_cons]
  have h1 := ih (fun j hj => h j (List.mem_cons_of_mem _ hj))
  have h2 := h k List.mem_cons_self
  have h3 : k.toNat < ex.length := by omega
  have h4 := hp _ (List.getElem_mem h3)
  have h5 : exAt ex k = ex[k.toNat] := exAt_of (by simp [h3])
  rw [h5]; omega
inductive Stk (lo : Nat) (H : AHeap) : AVal → List AVal → Prop where
 | room {id len : Nat} {c cs : List AVal} (hlo : lo ≤ id) (hhi : id < H.next) (ho : H.obj id = some (.cells c true)) (hlen : len ≤ c.length) (hc : cs = c.take len) : Stk lo H (.slice id 0 len (.room 1)) cs
 | full {id len n : Nat} {c cs : List AVal} (hlo : lo ≤ id) (hhi : id < H.next) (ho : H.obj id = some (.cells c true)) (hlen : len ≤ c.length) (hn : len ≤ n) (hn1 : n ≤ 1) (hc : cs = c.take len) : Stk lo H (.slice id 0 len (.exact n)) cs
theorem Stk.len {lo : Nat} {H : AHeap} {v : AVal} {cs : List AVal} (h : Stk lo H v cs) : alenS v = some (.int .i64 cs.length) := by
 cases h with
 | room h1 h2 h3 h4 h5 => subst h5; simp [alenS]; omega
 | full h1 h2 h3 h4 h5 h6 h7 => subst h7; simp [alenS]; omega
theorem Stk.sid_ge {lo : Nat} {H : AHeap} {v : AVal} {cs : List AVal} (h : Stk lo H v cs) {j : Nat} (hj : sid v = some j) : lo ≤ j ∧ j < H.next := by
 cases h <;> (injection hj with hj; subst hj; exact ⟨by assumption, by assumption⟩)
theorem Stk.keepM {lo : Nat} {M : Nat → Prop} {H H' : AHeap} {v : AVal} {cs : List AVal} (h : Stk lo H v cs) (hk : Keep M H H') (hM : ∀ j, sid v = some j → ¬ M j) : Stk lo H' v cs := by
 have hn := hk.next
 cases h with
 | room h1 h2 h3 h4 h5 => exact .room h1 (by omega) (by rw [hk.obj _ h2 (hM _ rfl)]; exact h3) h4 h5
 | full h1 h2 h3 h4 h5 h6 h7 => exact .full h1 (by omega) (by rw [hk.obj _ h2 (hM _ rfl)]; exact h3) h4 h5 h6 h7
theorem Stk.notBot {lo : Nat} {H : AHeap} {v : AVal} {cs : List AVal} (h : Stk lo H v cs) : notBot v = some v := by
 cases h <;> rfl
theorem Stk.top {lo : Nat} {H : AHeap} {v x : AVal} {cs : List AVal} (h : Stk lo H v (cs ++ [x])) : ∃ id off, aindexAddrS 1 v (.int .i64 (cs.length : Int)) = some (.ptr id off) ∧ id < H.next ∧ (bnd (cellsOf (H.obj id)) fun c => c[off]?) = some x := by
 have key : ∀ (id len : Nat) (c : List AVal) (cap : ACap), H.obj id = some (.cells c true) → len ≤ c.length → cs ++ [x] = c.take len → id < H.next → ∃ id' off, aindexAddrS 1 (.slice id 0 len cap) (.int .i64 (cs.length : Int)) = some (.ptr id' off) ∧ id' < H.next ∧ (bnd (cellsOf (H.obj id')) fun c => c[off]?) = some x := by
  intro id len c cap ho hlen hc hid
  have hl : cs.length + 1 = min len c.length := by simpa using congrArg List.length hc
  refine ⟨id, cs.length, ?_, hid, ?_⟩
  ·simp only [aindexAddrS]
   rw [if_pos ⟨by omega, by omega⟩]
   simp
  ·rw [ho]
   simp only [cellsOf, bnd]
   have : (c.take len)[cs.length]? = some x := by rw [← hc]; simp
   rw [List.getElem?_take] at this
   split at this
   ·exact this
   ·cases this
 cases h with
 | room h1 h2 h3 h4 h5 => exact key _ _ _ _ h3 h4 h5 h2
 | full h1 h2 h3 h4 h5 h6 h7 => exact key _ _ _ _ h3 h4 h7 h2
theorem bound_nat {n y : Nat} (h : n ≤ y) : bound (.int .i64 (n : Int)) y = some n := by
 simp only [bound]
 rw [if_pos ⟨by omega, by omega⟩]
 simp
theorem Stk.pop {lo : Nat} {H : AHeap} {v x : AVal} {cs : List AVal} (h : Stk lo H v (cs ++ [x])) : ∃ v', aslice 1 v none (some (.int .i64 (cs.length : Int))) none = some v' ∧ sid v' = sid v ∧ Stk lo H v' cs := by
 have hle : ∀ (len : Nat) (c : List AVal), cs ++ [x] = c.take len → len ≤ c.length → len = cs.length + 1 ∧ cs = c.take cs.length := fun len c e h => by
  have hl : cs.length + 1 = min len c.length := by simpa using congrArg List.length e
  have : len = cs.length + 1 := by omega
  refine ⟨this, ?_⟩
  have h2 := congrArg (List.take cs.length) e
  rw [List.take_left' rfl, List.take_take, Nat.min_eq_left (by omega)] at h2
  exact h2
 cases h with
 | @room id len c cs' h1 h2 h3 h4 h5 =>
  obtain ⟨rfl, e⟩ := hle _ _ h5 h4
  refine ⟨.slice id 0 cs.length (.room 1), ?_, rfl, .room h1 h2 h3 (by omega) e⟩
  simp only [aslice, obound]
  rw [bound_nat (by simp only [ACap.top]; omega)]
  simp [bnd]
 | @full id len n c cs' h1 h2 h3 h4 h5 h6 h7 =>
  obtain ⟨rfl, e⟩ := hle _ _ h7 h4
  refine ⟨.slice id 0 cs.length (.exact n), ?_, rfl, .full h1 h2 h3 (by omega) (by omega) h6 e⟩
  simp only [aslice, obound]
  rw [bound_nat (by simp only [ACap.top]; omega)]
  simp [bnd]
theorem Stk.push {lo : Nat} {H : AHeap} {v x : AVal} {cs vs : List AVal} (h : Stk lo H v cs) (hx : taken H 1 x = some (2, vs)) (hvs : vs.length = 2) (hlen : cs.length ≤ 10000) :
  ∃ H', aappend H 1 8 v x = some (.slice H.next 0 (cs.length + 2) (.room 1), H') ∧ Keep (fun j => sid v = some j) H H' ∧ Stk lo H' (.slice H.next 0 (cs.length + 2) (.room 1)) (cs ++ vs) := by
 cases h with
 | @room id len c cs' h1 h2 h3 h4 h5 =>
  have hl : cs.length = len := by subst h5; simp; omega
  subst hl
  have hcut : (c.drop 0).take (cs.length * 1) = cs := by simpa using h5.symm
  refine ⟨(H.upd id none).new (.cells (cs ++ vs) true), ?_, ((Keep.refl (fun j => sid (AVal.slice id 0 cs.length (.room 1)) = some j) _).upd (.inr rfl) _).new _, .room (by omega) (by simp only [next_new, next_upd]; omega) (obj_new_eq rfl) (by simp; omega) (by rw [List.take_of_length_le (by simp; omega)])⟩
  simp only [aappend, hx, bnd, rw?_of, h3, ownCellsOf]
  rw [if_neg (by omega), if_pos (by omega)]
  by_cases he : 0 + cs.length * 1 = c.length
  ·rw [if_pos ⟨trivial, he, by omega⟩]
   rw [List.take_of_length_le (by simp; omega)] at hcut
   rw [hcut]
  ·rw [if_neg (fun h => he h.2.1), if_pos ⟨trivial, by omega, by omega⟩, hcut]
 | @full id len n c cs' h1 h2 h3 h4 h5 h6 h7 =>
  have hl : cs.length = len := by subst h7; simp; omega
  subst hl
  have hcut : (c.drop 0).take (cs.length * 1) = cs := by simpa using h7.symm
  refine ⟨H.new (.cells (cs ++ vs) true), ?_, (Keep.refl _ _).new _, .room (by omega) (by simp only [next_new]; omega) (obj_new_eq rfl) (by simp; omega) (by rw [List.take_of_length_le (by simp; omega)])⟩
  have htk : taken H 1 (.slice id 0 cs.length (.exact n)) = some (cs.length, cs) := by
   simp only [taken, cells?_of, h3, cellsOf, bnd]
   rw [if_pos (by omega), hcut]
  simp only [aappend, hx, bnd, htk]
  rw [if_neg (by omega), if_pos (by omega), if_neg (by omega)]
end Go.Proofs.Ytknhlpmmalcchaa

namespace Go.Proofs.Ytknhlpmmalcchaa
open Go Go.VAI
set_option linter.unusedSimpArgs false

set_option maxRecDepth 20000 in
set_option maxHeartbeats 8000000 in
theorem unpack_ret {n : Int} {ew rv av uv dv : AVal} {arcs : List Arc} {ex : List (List Int)} {i : Nat} {l : List Int} {H : AHeap} {Q : AVal → AHeap → Prop} (hr : Row H av 7 (arcCells arcs)) (hu : UnOk arcs ex) (hi : ex[i]? = some l) (hlen : arcs.length ≤ 1000000)
  (hq : ∀ v' H', Keep Nothing H H' → Own H.next H' v' 1 (ints l) → Q v' H') : Ret A 51 [.agg [.int .i64 n, ew, rv, av, uv, dv], .int .i64 i] H Q := by
 refine Ret.of (fn := F51) rfl ?_
 have hla := hr.len (n := arcs.length) (by omega) (arcCells_length arcs)
 have hbe := hr.beq
 simp (disch := first | omega | (simp only [nx] <;> omega) | fail) only [vaw, F51, Nat.reduceAdd, Nat.reduceMul, Nat.reduceLeDiff, Nat.reduceEqDiff, ↓reduceIte]
 have k0 : Keep Nothing H ((H.new (.cells [.int .i64 n, ew, rv, av, uv, dv] true)).new (.cells [.int .i64 i] true)) := ((Keep.refl _ _).new _).new _
 have o0 : ((H.new (.cells [.int .i64 n, ew, rv, av, uv, dv] true)).new (.cells [.int .i64 i] true)).obj H.next = some (.cells [.int .i64 n, ew, rv, av, uv, dv] true) := by simp (disch := first | omega | (simp only [nx] <;> omega) | fail) only [vaim]
 have o1 : ((H.new (.cells [.int .i64 n, ew, rv, av, uv, dv] true)).new (.cells [.int .i64 i] true)).obj (H.next + 1) = some (.cells [.int .i64 i] true) := obj_new_eq rfl
 have n0 : ((H.new (.cells [.int .i64 n, ew, rv, av, uv, dv] true)).new (.cells [.int .i64 i] true)).next = H.next + 2 := rfl
 generalize (H.new (.cells [.int .i64 n, ew, rv, av, uv, dv] true)).new (.cells [.int .i64 i] true) = H0 at *
 have hil : i < ex.length := (List.getElem?_eq_some_iff.1 hi).1
 have hex : exAt ex (i : Int) = l := exAt_of (by rw [Int.toNat_natCast]; exact hi)
 have hll := hu.pos l (List.mem_of_getElem? hi)
 have hul := hu.len
 refine wpx_loop (fun m t H' => ∃ (ov wv : AVal) (out w : List Int), m = stepsOf ex w ∧ t = (bots 2 (.ptr H.next 0 :: bots 2 (ov :: wv :: bots 67 ([]))) : Tmps) ∧ Keep Nothing H H' ∧ H0.next ≤ H'.next ∧ H'.obj H.next = some (.cells [.int .i64 n, ew, rv, av, uv, dv] true) ∧
  Own (H.next + 1) H' ov 1 (ints out) ∧ Stk (H.next + 1) H' wv (ints w) ∧ (∀ j, sid ov = some j → sid wv ≠ some j) ∧ (∀ k ∈ w, 0 ≤ k ∧ k < arcs.length) ∧ out ++ todoOf ex w = l) (stepsOf ex [(i : Int)]) ?_ ?_
 ·refine ⟨.nilSlice, .slice (H.next + 1) 0 1 (.exact 1), [], [(i : Int)], rfl, rfl, k0, Nat.le_refl _, o0, .nil, .full (by omega) (by omega) o1 (by simp) (by omega) (by omega) rfl, (fun j hj => by cases hj), fun k hk => ?_, ?_⟩
  ·simp at hk; omega
  ·simp [todoOf, hex]
 ·rintro m t H1 ⟨ov, wv, out, w, rfl, rfl, k1, hn1, ob1, g1, w1, hdis, hbd, htodo⟩
  have lw := w1.len
  rw [ints_length] at lw
  have lo := g1.row.len1
  rw [ints_length] at lo
  have hol : out.length + (todoOf ex w).length = l.length := by rw [← htodo, List.length_append]
  have hwl := todo_long hu.pos hul hbd
  by_cases hc : (0 : Int) < w.length
  ·obtain ⟨w0, k, rfl⟩ : ∃ w0 k, w = w0 ++ [k] := ⟨w.dropLast, w.getLast (by intro e; subst e; simp at hc), (List.dropLast_concat_getLast _).symm⟩
   have hkb := hbd k (by simp)
   have hbd0 : ∀ j ∈ w0, 0 ≤ j ∧ j < arcs.length := fun j hj => hbd j (by simp [hj])
   have hw0 := todo_long hu.pos hul hbd0
   rw [todoOf_snoc] at htodo
   rw [todoOf_snoc, List.length_append] at hol
   have hint : ints (w0 ++ [k]) = ints w0 ++ [.int .i64 k] := by simp [ints]
   rw [hint] at w1
   obtain ⟨id, off, t1, t2, t3⟩ := w1.top
   obtain ⟨wv', s1, s2, s3⟩ := w1.pop
   rw [ints_length] at t1 s1
   rw [List.length_append, List.length_singleton] at lw hc
   have hsub : ((w0.length + 1 : Nat) : Int) - 1 = w0.length := by omega
   obtain ⟨kn, rfl⟩ := Int.eq_ofNat_of_zero_le hkb.1
   have hkl : kn < arcs.length := by omega
   obtain ⟨a, ha⟩ : ∃ a, arcs[kn]? = some a := ⟨_, List.getElem?_eq_getElem hkl⟩
   obtain ⟨lk, hlk⟩ : ∃ lk, ex[kn]? = some lk := ⟨_, List.getElem?_eq_getElem (by omega)⟩
   have hek : exAt ex (kn : Int) = lk := exAt_of (by rw [Int.toNat_natCast]; exact hlk)
   have hlp := hu.pos lk (List.mem_of_getElem? hlk)
   obtain ⟨ida, offa, a1, a2, a3, a4⟩ := arc_at (hr.kept k1) ha
   unfold Arc.cells at a4
   rw [hek] at htodo hol
   have hk1 : ¬ (kn : Int) < 0 := by omega
   have hk2 : ¬ (arcs.length : Int) ≤ kn := by omega
   have lw' := s3.len
   rw [ints_length] at lw'
   have kA : Keep Nothing H1 ((H1.new (.cells [.int .i64 0, .int .i64 0, .int .i64 0, .int .i64 0, .int .i64 0, .int .i64 0, .int .i64 0] true)).upd H1.next (some (.cells [.int .i64 a.src, .int .i64 a.dst, .int .i64 a.mode, .int .i64 a.cost, .int .i64 a.edge, .int .i64 a.a, .int .i64 a.b] true))) := ((Keep.refl _ _).new _).upd (.inl (Nat.le_refl _)) _
   rcases hu.form kn a lk ha hlk with ⟨f1, f2⟩ | ⟨f1, f2, f3, f4, f5, lp, lq, f6, f7, f8⟩
   ·simp (disch := first | omega | (simp only [nx] <;> omega) | fail) only [vaw, lw, hc, hsub, t1, t3, s1, s3.notBot, hk1, hk2, ge_iff_le, ob1, hla, a1, a4, f1, lo, Nat.reduceAdd, Nat.reduceMul, Nat.reduceLeDiff, Nat.reduceEqDiff, ↓reduceIte]
    have kB := kA.new (.cells [.int .i64 a.edge] true)
    refine app_ret (n := out.length) (k := 1) g1 (by simp (disch := first | omega | (simp only [nx] <;> omega) | fail) only [vaim]; rfl) rfl (by omega) (by omega) (by rw [ints_length]; omega) (by omega) (by omega) ?_
    intro ov' H2 n2 k2 g2 sy
    have kE : Keep (fun j => sid ov = some j) H1 H2 := (kB.mono (N := fun j => sid ov = some j) (fun _ _ e => e.elim)).trans' (N := fun j => sid ov = some j) ⟨n2, k2⟩ (fun j hj hm => hm)
    have nE := kE.next
    simp (disch := first | omega | (simp only [nx] <;> omega) | fail) only [vaw, g2.notBot, Nat.reduceAdd, Nat.reduceMul, Nat.reduceLeDiff, Nat.reduceEqDiff, ↓reduceIte]
    refine ⟨stepsOf ex w0, ?_, ov', wv', out ++ [a.edge], w0, rfl, rfl, k1.trans' kE (fun j hj hm => by have := (g1.sid_ge hm).1; omega), by omega, ?_, ?_, ?_, ?_, hbd0, ?_⟩
    ·rw [stepsOf_snoc, hek]; omega
    ·rw [kE.obj _ (by omega) (fun hm => by have := (g1.sid_ge hm).1; omega)]; exact ob1
    ·rw [ints_append]; exact g2.own
    ·exact s3.keepM kE (fun j hj hm => hdis j hm (by rw [← s2]; exact hj))
    ·obtain ⟨y, y1, y2⟩ := sy
     intro j hj hj2
     have := s3.sid_ge hj2
     rw [y1] at hj
     injection hj with hj
     simp only [next_new, next_upd] at y2
     omega
    ·rw [← htodo, f2]; simp
   ·have hlp := hu.pos lp (List.mem_of_getElem? f6)
    have hlq := hu.pos lq (List.mem_of_getElem? f7)
    have hkl2 : lk.length = lp.length + lq.length := by rw [f8, List.length_append]
    have hlt : (out.length : Int) + w0.length < 2000 := by omega
    have hneg : ¬ (0 : Int) ≤ -1 := by omega
    simp (disch := first | omega | (simp only [nx] <;> omega) | fail) only [vaw, lw, hc, hsub, t1, t3, s1, s3.notBot, hk1, hk2, ge_iff_le, ob1, hla, a1, a4, f1, hneg, lo, f3, f5, lw', hlt, Nat.reduceAdd, Nat.reduceMul, Nat.reduceLeDiff, Nat.reduceEqDiff, ↓reduceIte]
    rw [f1] at kA
    have kB := kA.new (.cells [.int .i64 a.b, .int .i64 a.a] true)
    obtain ⟨H2, e1, e2, e3⟩ := (s3.keepM kB (fun _ _ e => e)).push (x := .slice (H1.next + 1) 0 2 (.exact 2)) (vs := [.int .i64 a.b, .int .i64 a.a]) (taken_one (by rw [cells?_of]; simp (disch := first | omega | (simp only [nx] <;> omega) | fail) only [vaim]) rfl) rfl (by rw [ints_length]; omega)
    have kE : Keep (fun j => sid wv' = some j) H1 H2 := (kB.mono (N := fun j => sid wv' = some j) (fun _ _ e => e.elim)).trans' (N := fun j => sid wv' = some j) e2 (fun j hj hm => hm)
    have nE := kE.next
    rw [e1]
    simp (disch := first | omega | (simp only [nx] <;> omega) | fail) only [vaw, e3.notBot, Nat.reduceAdd, Nat.reduceMul, Nat.reduceLeDiff, Nat.reduceEqDiff, ↓reduceIte]
    have hint2 : ints w0 ++ [.int .i64 a.b, .int .i64 a.a] = ints (w0 ++ [a.b] ++ [a.a]) := by simp [ints]
    rw [hint2] at e3
    have hb1 : exAt ex a.a = lp := exAt_of f6
    have hb2 : exAt ex a.b = lq := exAt_of f7
    have lw0 : (ints w0).length = w0.length := ints_length _
    rw [lw0] at e3
    refine ⟨stepsOf ex (w0 ++ [a.b] ++ [a.a]), ?_, ov, _, out, w0 ++ [a.b] ++ [a.a], rfl, by rw [lw0]; rfl, k1.trans' kE (fun j hj hm => by have := (s3.sid_ge hm).1; omega), by omega, ?_, ?_, e3, ?_, ?_, ?_⟩
    ·rw [stepsOf_snoc, stepsOf_snoc, stepsOf_snoc, hek, hb1, hb2]; omega
    ·rw [kE.obj _ (by omega) (fun hm => by have := (s3.sid_ge hm).1; omega)]; exact ob1
    ·exact g1.keepM kE (fun j hj hm => hdis j hj (by rw [← s2]; exact hm))
    ·intro j hj hj2
     have := (g1.sid_ge hj).2
     injection hj2 with hj2
     simp only [next_new, next_upd] at hj2
     omega
    ·intro j hj
     simp only [List.mem_append, List.mem_singleton] at hj
     rcases hj with (hj | hj) | hj
     ·exact hbd0 j hj
     ·subst hj; omega
     ·subst hj; omega
    ·rw [todoOf_snoc, todoOf_snoc, hb1, hb2, ← htodo, f8]; simp
  ·have : w = [] := List.eq_nil_of_length_eq_zero (by omega)
   subst this
   have lw0 : alenS wv = some (.int .i64 0) := lw
   have h00 : ¬ (0 : Int) < 0 := by omega
   simp (disch := first | omega | (simp only [nx] <;> omega) | fail) only [vaw, lw0, h00, Nat.reduceAdd, Nat.reduceMul, Nat.reduceLeDiff, Nat.reduceEqDiff, ↓reduceIte]
   refine cloneI_ret g1.row (by omega) fun v' H' k' o' => ?_
   simp (disch := first | omega | (simp only [nx] <;> omega) | fail) only [vaw, o'.notBot, Nat.reduceAdd, Nat.reduceMul, Nat.reduceLeDiff, Nat.reduceEqDiff, ↓reduceIte]
   have : out = l := by rw [← htodo]; simp [todoOf]
   subst this
   exact hq _ _ (k1.trans k') (o'.lower (by omega))
end Go.Proofs.Ytknhlpmmalcchaa

namespace Go.Proofs.Ytknhlpmmalcchaa
open Go Go.VAI
set_option linter.unusedSimpArgs false

theorem built_un {N : Nat} {es : List Edge} {l : List Int} {h : Hier} {cur : List Int} {ex : List (List Int)} (hl : OrderOk N l) (hN : N ≤ 999) (hb : Built N es l h cur ex) : UnOk h.arcs ex := by
 have hel := hb.good.exLen
 simp only at hel
 refine ⟨hel, fun p hp => ?_, fun i a p ha hp => ?_⟩
 ·obtain ⟨i, hi, e⟩ := List.getElem_of_mem hp
  have hp' : ex[i]? = some p := by rw [List.getElem?_eq_getElem hi, e]
  obtain ⟨a, ha⟩ : ∃ a, h.arcs[i]? = some a := ⟨_, List.getElem?_eq_getElem (by omega)⟩
  obtain ⟨w1, _, _, w4, _⟩ := built_walks hl hb ha hp'
  exact ⟨List.length_pos_iff.2 w1, by omega⟩
 ·rcases hb.good.form i a p ha hp with ⟨q1, q2, q3, q4, _⟩ | ⟨q1, q2, q3, q4, q5, p1, q, lp, lq, q6, q7, q8, q9, q10⟩
  ·exact .inl ⟨q1, q4⟩
  ·exact .inr ⟨q1, q2, q3, q4, q5, lp, lq, q8, q9, q10.2.2.2.2.2.2⟩
theorem idx_built {N : Nat} {es : List Edge} (h : NetOk N es) : OrderOk N (orderAll N es) ∧ ∃ cur ex, Built N es (orderAll N es) ⟨(idxOf N es).rank, (idxOf N es).arcs, (idxOf N es).up, (idxOf N es).down⟩ cur ex := by
 refine ⟨orderOf_ok N es _, ?_⟩
 exact built (l := orderAll N es) (fun e he => by
  obtain ⟨a1, a2, a3, a4⟩ := h.2.2.2 e he
  exact ⟨a1, a2, a3, a4.1⟩) (orderOf_ok N es _)

theorem arc_flds {H : AHeap} {v : AVal} {es : List Arc} (h : Row H v 7 (arcCells es)) {i : Nat} {e : Arc} (he : es[i]? = some e) : ∃ id off, aindexAddrS 7 v (.int .i64 (i : Int)) = some (.ptr id off) ∧ id < H.next ∧
  (bnd (cellsOf (H.obj id)) fun c => c[off]?) = some (.int .i64 e.src) ∧ (bnd (cellsOf (H.obj id)) fun c => c[off + 1]?) = some (.int .i64 e.dst) ∧ (bnd (cellsOf (H.obj id)) fun c => c[off + 2]?) = some (.int .i64 e.mode) ∧ (bnd (cellsOf (H.obj id)) fun c => c[off + 3]?) = some (.int .i64 e.cost) ∧
  (bnd (cellsOf (H.obj id)) fun c => c[off + 4]?) = some (.int .i64 e.edge) ∧ (bnd (cellsOf (H.obj id)) fun c => c[off + 5]?) = some (.int .i64 e.a) ∧ (bnd (cellsOf (H.obj id)) fun c => c[off + 6]?) = some (.int .i64 e.b) ∧
  (bnd (cellsOf (H.obj id)) fun c => if off + 7 ≤ c.length then some (AVal.agg ((c.drop off).take 7)) else none) = some (AVal.agg [.int .i64 e.src, .int .i64 e.dst, .int .i64 e.mode, .int .i64 e.cost, .int .i64 e.edge, .int .i64 e.a, .int .i64 e.b]) := by
 have hi := (List.getElem?_eq_some_iff.1 he).1
 obtain ⟨id, off, c, h1, h2, h3, h4, h5⟩ := h.at (j := i) (k := .i64) (by omega) (by omega) (by rw [arcCells_length, Int.toNat_natCast]; omega)
 rw [Int.toNat_natCast, arc_drop es i e he] at h5
 rw [cells?_of] at h3
 refine ⟨id, off, h1, h2, ?_⟩
 simp only [h3, bnd, if_pos h4, h5]
 exact ⟨cell_at (f := 0) h5 rfl, cell_at (f := 1) h5 rfl, cell_at (f := 2) h5 rfl, cell_at (f := 3) h5 rfl, cell_at (f := 4) h5 rfl, cell_at (f := 5) h5 rfl, cell_at (f := 6) h5 rfl, rfl⟩

set_option maxRecDepth 20000 in
set_option maxHeartbeats 8000000 in
theorem refunpack_ret {n : Int} {ew rv av uv dv : AVal} {arcs : List Arc} {ex : List (List Int)} (hbq : AVal.beq (.agg [.int .i64 n, ew, rv, av, uv, dv]) (.agg [.int .i64 n, ew, rv, av, uv, dv]) = true) (hu : UnOk arcs ex) (hlen : arcs.length ≤ 1000000) (i : Nat) : ∀ {l : List Int} {H : AHeap} {Q : AVal → AHeap → Prop}, Row H av 7 (arcCells arcs) → ex[i]? = some l →
  (∀ v' H', Keep Nothing H H' → Own H.next H' v' 1 (ints l) → Q v' H') → Ret A 53 [.agg [.int .i64 n, ew, rv, av, uv, dv], .int .i64 i] H Q := by
 induction i using Nat.strongRecOn with
 | _ i ih =>
 intro l H Q hr hi hq
 refine Ret.of (fn := F53) rfl ?_
 have hil := (List.getElem?_eq_some_iff.1 hi).1
 have hel := hu.len
 obtain ⟨a, ha⟩ : ∃ a, arcs[i]? = some a := ⟨_, List.getElem?_eq_getElem (by omega)⟩
 have hbe := hr.beq
 have hll := hu.pos l (List.mem_of_getElem? hi)
 have k0 : Keep Nothing H (H.new (.cells [.int .i64 n, ew, rv, av, uv, dv] true)) := (Keep.refl _ _).new _
 have o0 : (H.new (.cells [.int .i64 n, ew, rv, av, uv, dv] true)).obj H.next = some (.cells [.int .i64 n, ew, rv, av, uv, dv] true) := obj_new_eq rfl
 have n0 : (H.new (.cells [.int .i64 n, ew, rv, av, uv, dv] true)).next = H.next + 1 := rfl
 obtain ⟨ida, offa, a1, a2, a3, a4, a5, a6, a7, a8, a9, a10⟩ := arc_flds (hr.kept k0) ha
 rcases hu.form i a l ha hi with ⟨f1, f2⟩ | ⟨f1, f2, f3, f4, f5, lp, lq, f6, f7, f8⟩
 ·simp (disch := first | omega | (simp only [nx] <;> omega) | fail) only [vaw, F53, a1, a10, f1, ge_iff_le, Nat.reduceAdd, Nat.reduceMul, Nat.reduceLeDiff, Nat.reduceEqDiff, ↓reduceIte]
  subst f2
  refine hq _ _ (((k0.new _).upd (.inl (by first | omega | (simp only [next_new, next_upd]; omega))) _).new _) (.full (by first | omega | (simp only [next_new, next_upd]; omega)) (by first | omega | (simp only [next_new, next_upd]; omega)) (obj_new_eq rfl) rfl)
 ·have hneg : ¬ (0 : Int) ≤ -1 := by omega
  obtain ⟨pa, hpa⟩ := Int.eq_ofNat_of_zero_le f2
  obtain ⟨pb, hpb⟩ := Int.eq_ofNat_of_zero_le f4
  rw [hpa, Int.toNat_natCast] at f6
  rw [hpb, Int.toNat_natCast] at f7
  simp (disch := first | omega | (simp only [nx] <;> omega) | fail) only [vaw, F53, a1, a10, f1, hneg, ge_iff_le, hpa, hpb, Nat.reduceAdd, Nat.reduceMul, Nat.reduceLeDiff, Nat.reduceEqDiff, ↓reduceIte]
  have kD : Keep Nothing H (((H.new (.cells [.int .i64 n, ew, rv, av, uv, dv] true)).new (.cells [.int .i64 0, .int .i64 0, .int .i64 0, .int .i64 0, .int .i64 0, .int .i64 0, .int .i64 0] true)).upd (H.next + 1) (some (.cells [.int .i64 a.src, .int .i64 a.dst, .int .i64 a.mode, .int .i64 a.cost, .int .i64 (-1), .int .i64 pa, .int .i64 pb] true))) := (k0.new _).upd (.inl (by first | omega | (simp only [next_new, next_upd]; omega))) _
  have oD : (((H.new (.cells [.int .i64 n, ew, rv, av, uv, dv] true)).new (.cells [.int .i64 0, .int .i64 0, .int .i64 0, .int .i64 0, .int .i64 0, .int .i64 0, .int .i64 0] true)).upd (H.next + 1) (some (.cells [.int .i64 a.src, .int .i64 a.dst, .int .i64 a.mode, .int .i64 a.cost, .int .i64 (-1), .int .i64 pa, .int .i64 pb] true))).obj H.next = some (.cells [.int .i64 n, ew, rv, av, uv, dv] true) := by simp (disch := first | omega | (simp only [nx] <;> omega) | fail) only [vaim]
  have oE : (((H.new (.cells [.int .i64 n, ew, rv, av, uv, dv] true)).new (.cells [.int .i64 0, .int .i64 0, .int .i64 0, .int .i64 0, .int .i64 0, .int .i64 0, .int .i64 0] true)).upd (H.next + 1) (some (.cells [.int .i64 a.src, .int .i64 a.dst, .int .i64 a.mode, .int .i64 a.cost, .int .i64 (-1), .int .i64 pa, .int .i64 pb] true))).obj (H.next + 1) = some (.cells [.int .i64 a.src, .int .i64 a.dst, .int .i64 a.mode, .int .i64 a.cost, .int .i64 (-1), .int .i64 pa, .int .i64 pb] true) := obj_upd_eq rfl
  have nD : (((H.new (.cells [.int .i64 n, ew, rv, av, uv, dv] true)).new (.cells [.int .i64 0, .int .i64 0, .int .i64 0, .int .i64 0, .int .i64 0, .int .i64 0, .int .i64 0] true)).upd (H.next + 1) (some (.cells [.int .i64 a.src, .int .i64 a.dst, .int .i64 a.mode, .int .i64 a.cost, .int .i64 (-1), .int .i64 pa, .int .i64 pb] true))).next = H.next + 2 := rfl
  generalize ((H.new (.cells [.int .i64 n, ew, rv, av, uv, dv] true)).new (.cells [.int .i64 0, .int .i64 0, .int .i64 0, .int .i64 0, .int .i64 0, .int .i64 0, .int .i64 0] true)).upd (H.next + 1) (some (.cells [.int .i64 a.src, .int .i64 a.dst, .int .i64 a.mode, .int .i64 a.cost, .int .i64 (-1), .int .i64 pa, .int .i64 pb] true)) = HD at *
  refine ih pa (by omega) (hr.kept kD) f6 fun v1 H1 k1 g1 => ?_
  have n1 := k1.next
  simp (disch := first | omega | (simp only [nx] <;> omega) | fail) only [vaw, (k1.old (show H.next < HD.next by omega)).trans oD, (k1.old (show H.next + 1 < HD.next by omega)).trans oE, reK_same hbq, reK_int, Nat.reduceAdd, Nat.reduceMul, Nat.reduceLeDiff, Nat.reduceEqDiff, ↓reduceIte]
  refine ih pb (by omega) (hr.kept (kD.trans k1)) f7 fun v2 H2 k2 g2 => ?_
  have n2 := k2.next
  have hl2 : l.length = lp.length + lq.length := by rw [f8, List.length_append]
  simp (disch := first | omega | (simp only [nx] <;> omega) | fail) only [vaw, Nat.reduceAdd, Nat.reduceMul, Nat.reduceLeDiff, Nat.reduceEqDiff, ↓reduceIte]
  refine appRow_ret (n := lp.length) (k := lq.length) (g1.kept k2) g2.row (by rw [ints_length]; omega) (by omega) (by rw [ints_length]; omega) (by omega) (by omega) ?_ (by omega) (Nat.le_refl _) (fun _ _ _ => rfl)
  intro v3 H3 n3 k3 g3 s3
  simp (disch := first | omega | (simp only [nx] <;> omega) | fail) only [vaw, g3.notBot, Nat.reduceAdd, Nat.reduceMul, Nat.reduceLeDiff, Nat.reduceEqDiff, ↓reduceIte]
  have kE : Keep (fun j => sid v1 = some j) H2 H3 := ⟨n3, fun j hj hm => k3 j hj hm⟩
  rw [← ints_append, ← f8] at g3
  exact hq _ _ (((kD.trans k1).trans k2).trans' kE (fun j hj hm => by have := (g1.sid_ge hm).1; omega)) (g3.lower (by omega))
end Go.Proofs.Ytknhlpmmalcchaa

namespace Go.Proofs.Ytknhlpmmalcchaa
open Go Go.VAI
set_option linter.unusedSimpArgs false

set_option maxRecDepth 20000 in
set_option maxHeartbeats 8000000 in
theorem walk_ret {n x y c m : Int} {ev lv : AVal} {es : List Edge} {l : List Int} {H : AHeap} {Q : AVal → AHeap → Prop} (he : Row H ev 4 (edgeCells es)) (hl : Row H lv 1 (ints l)) (hx : 0 ≤ x ∧ x < n) (hy : 0 ≤ y ∧ y < n) (hw : Walk es m x l y c)
  (hcost : ∀ e ∈ es, 0 ≤ e.cost ∧ e.cost ≤ 2147483647) (hn : es.length ≤ 1000000) (hll : l.length ≤ 1000)
  (hq : ∀ wv H', Keep Nothing H H' → Own H.next H' wv 1 (ints (List.replicate l.length m)) → Q (.tuple [.int .i64 c, wv, .bool true]) H') : Ret A 52 [.agg [.int .i64 n, ev], .int .i64 x, .int .i64 y, lv] H Q := by
 refine Ret.of (fn := F52) rfl ?_
 have h1 := he.len (by omega) (edgeCells_length es)
 have h2 := hl.len1
 rw [ints_length] at h2
 have be := he.beq
 have bl := hl.beq
 have hx1 : ¬ x < 0 := by omega
 have hx2 : ¬ n ≤ x := by omega
 have hy1 : ¬ y < 0 := by omega
 have hy2 : ¬ n ≤ y := by omega
 simp (disch := first | omega | (simp only [nx] <;> omega) | fail) only [vaw, F52, hx1, hx2, hy1, hy2, ge_iff_le, Nat.reduceAdd, Nat.reduceMul, Nat.reduceLeDiff, Nat.reduceEqDiff, ↓reduceIte]
 have k0 : Keep Nothing H (H.new (.cells [.int .i64 n, ev] true)) := (Keep.refl _ _).new _
 have o0 : (H.new (.cells [.int .i64 n, ev] true)).obj H.next = some (.cells [.int .i64 n, ev] true) := obj_new_eq rfl
 have n0 : (H.new (.cells [.int .i64 n, ev] true)).next = H.next + 1 := rfl
 generalize H.new (.cells [.int .i64 n, ev] true) = H0 at *
 refine wpx_loop (fun k t H' => ∃ (i : Nat) (z a : Int) (wv : AVal), k = l.length - i ∧ i ≤ l.length ∧ t = (bots 1 (.int .i64 z :: .int .i64 y :: lv :: .ptr H.next 0 :: bots 6 (.int .i64 a :: wv :: .int .i64 i :: bots 77 ([]))) : Tmps) ∧ Keep Nothing H0 H' ∧ Own (H.next + 1) H' wv 1 (ints (List.replicate i m)) ∧ Walk es m z (l.drop i) y (c - a) ∧ 0 ≤ a ∧ a ≤ i * 2147483647) l.length ?_ ?_
 ·exact ⟨0, x, 0, .nilSlice, rfl, by omega, rfl, .refl _ _, .nil, by simpa using hw, by omega, by omega⟩
 ·rintro k t H1 ⟨i, z, a, wv, rfl, hi, rfl, k1, g1, w1, ha, ha2⟩
  have n1 := k1.next
  have o1 := (k1.old (by omega)).trans o0
  have he1 := (he.kept k0).kept k1
  have hl1 := (hl.kept k0).kept k1
  by_cases hc : (i : Int) < l.length
  ·have hil : i < l.length := by omega
   rw [List.drop_eq_getElem_cons hil] at w1
   obtain ⟨e, e1, e2, e3, e4, w2⟩ := w1
   obtain ⟨ip, op, p1, p2, p3⟩ := hl1.int_at (k := .i64) (j := i) (x := l[i]) (by simp [hil])
   generalize l[i] = q at *
   obtain ⟨qn, rfl⟩ := Int.eq_ofNat_of_zero_le e2
   rw [Int.toNat_natCast] at e1
   obtain ⟨ix, ox, x1, x2, x3, x4, x5, x6, x7⟩ := edge_at he1 e1
   have hql := (List.getElem?_eq_some_iff.1 e1).1
   have hq1 : ¬ (qn : Int) < 0 := by omega
   have hq2 : ¬ (es.length : Int) ≤ qn := by omega
   have hc1 := hcost e (List.mem_of_getElem? e1)
   unfold Edge.cells at x7
   subst e3; subst e4
   simp (disch := first | omega | (simp only [nx] <;> omega) | fail) only [vaw, vaij, hc, h2, p1, p3, hq1, hq2, o1, h1, x1, x3, x7, ne_eq, not_true_eq_false, ge_iff_le, Nat.reduceAdd, Nat.reduceMul, Nat.reduceLeDiff, Nat.reduceEqDiff, ↓reduceIte]
   have kB : Keep Nothing H1 (((H1.new (.cells [.int .i64 0, .int .i64 0, .int .i64 0, .int .i64 0] true)).upd H1.next (some (.cells [.int .i64 e.src, .int .i64 e.dst, .int .i64 e.mode, .int .i64 e.cost] true))).new (.cells [.int .i64 e.mode] true)) := (((Keep.refl _ _).new _).upd (.inl (Nat.le_refl _)) _).new _
   refine app_ret (n := i) (k := 1) g1 (by simp (disch := first | omega | (simp only [nx] <;> omega) | fail) only [vaim]; rfl) rfl (by omega) (by omega) (by rw [ints_length, List.length_replicate]; omega) (by omega) (by omega) ?_
   intro wv' H2 n2 k2 g2 s2
   simp (disch := first | omega | (simp only [nx] <;> omega) | fail) only [vaw, g2.notBot, Nat.reduceAdd, Nat.reduceMul, Nat.reduceLeDiff, Nat.reduceEqDiff, ↓reduceIte]
   refine ⟨l.length - (i + 1), by omega, i + 1, e.dst, a + e.cost, wv', rfl, by omega, rfl, k1.trans' ((kB.mono (N := fun j => sid wv = some j) (fun _ _ e => e.elim)).trans' (N := fun j => sid wv = some j) ⟨n2, k2⟩ (fun j hj hm => hm)) (fun j hj hm => by have := (g1.sid_ge hm).1; omega), ?_, ?_, by omega, by omega⟩
   ·rw [List.replicate_succ', ints_append]; exact g2.own
   ·rw [show c - (a + e.cost) = c - a - e.cost by omega]; exact w2
  ·have : i = l.length := by omega
   subst this
   rw [List.drop_length] at w1
   obtain ⟨rfl, w2⟩ := w1
   simp (disch := first | omega | (simp only [nx] <;> omega) | fail) only [vaw, hc, h2, ne_eq, not_true_eq_false, g1.notBot, Nat.reduceAdd, Nat.reduceMul, Nat.reduceLeDiff, Nat.reduceEqDiff, ↓reduceIte]
   have hca : c = a := by omega
   subst hca
   exact hq _ _ (k0.trans k1) (g1.lower (by omega))
end Go.Proofs.Ytknhlpmmalcchaa

namespace Go.Proofs.Ytknhlpmmalcchaa
open Go Go.VAI
set_option linter.unusedSimpArgs false

set_option maxRecDepth 20000 in
set_option maxHeartbeats 8000000 in
theorem hierArcs_ret {size modes : Int} {ns : AVal} {xs : List Int} {H : AHeap} (_ : I64 size) (hr : Row H ns 1 (ints xs)) (hx : ∀ x ∈ xs, I64 x) (hx2 : xs.length ≤ 9223372036854775807) (_ : I64 modes) :
  Ret A 22 [.int .i64 size, ns, .int .i64 modes] H (fun v _ => v = .bool true) := by
 refine Ret.of (fn := F22) rfl ?_
 simp (disch := first | omega | (simp only [nx] <;> omega) | fail) only [vaw, F22, Nat.reduceAdd, Nat.reduceMul, Nat.reduceLeDiff, Nat.reduceEqDiff, ↓reduceIte]
 refine known47_ret fun H1 k1 => ?_
 simp (disch := first | omega | (simp only [nx] <;> omega) | fail) only [vaw, Bool.not_true, Nat.reduceAdd, Nat.reduceMul, Nat.reduceLeDiff, Nat.reduceEqDiff, ↓reduceIte]
 refine mk_ret (hr.kept k1) hx hx2 fun ev H2 k2 g2 => ?_
 have hnet := mk_net size modes xs
 have hsm := mk_small size
 have h12 : mkN size ≤ 12 := by unfold mkN; omega
 generalize mkEs size modes xs = es at *
 generalize mkN size = N at *
 simp (disch := first | omega | (simp only [nx] <;> omega) | fail) only [vaw, Nat.reduceAdd, Nat.reduceMul, Nat.reduceLeDiff, Nat.reduceEqDiff, ↓reduceIte]
 have kB : Keep Nothing H2 ((H2.new (.cells [.int .i64 0, .nilSlice] true)).upd H2.next (some (.cells [.int .i64 N, ev] true))) := ((Keep.refl _ _).new _).upd (.inl (Nat.le_refl _)) _
 have oB : ((H2.new (.cells [.int .i64 0, .nilSlice] true)).upd H2.next (some (.cells [.int .i64 N, ev] true))).obj H2.next = some (.cells [.int .i64 N, ev] true) := obj_upd_eq rfl
 have lB : H2.next < ((H2.new (.cells [.int .i64 0, .nilSlice] true)).upd H2.next (some (.cells [.int .i64 N, ev] true))).next := (by first | omega | (simp only [next_new, next_upd]; omega))
 generalize (H2.new (.cells [.int .i64 0, .nilSlice] true)).upd H2.next (some (.cells [.int .i64 N, ev] true)) = HB at *
 have hrB := g2.row.kept kB
 have hel := hnet.2.2.1
 have hed := hnet.2.2.2
 generalize H2.next = p at *
 refine hbuild_ret hrB hnet h12 fun ew rv av uv dv H3 k3 h3 => ?_
 have o3 := (k3.old lB).trans oB
 have n3 := k3.next
 have hal := idx_allowed hnet hsm
 obtain ⟨sh1, sh2⟩ := allowed_short hal
 obtain ⟨sh3, sh4, sh5, sh6, sh7, sh8⟩ := sh1
 obtain ⟨hlo, cur, ex, hb⟩ := idx_built hnet
 have hun := built_un hlo (by omega) hb
 have hac := hal.count
 have hrkl : (idxOf N es).rank.length = N := hb.rankLen
 have cE := h3.es.1.cells
 simp (disch := first | omega | (simp only [nx] <;> omega) | fail) only [vaw, Nat.reduceAdd, Nat.reduceMul, Nat.reduceLeDiff, Nat.reduceEqDiff, ↓reduceIte]
 have kC : Keep Nothing H3 ((H3.new (.cells [.int .i64 0, .nilSlice, .nilSlice, .nilSlice, .nilSlice, .nilSlice] true)).upd H3.next (some (.cells [.int .i64 N, ew, rv, av, uv, dv] true))) := ((Keep.refl _ _).new _).upd (.inl (Nat.le_refl _)) _
 have oC : ((H3.new (.cells [.int .i64 0, .nilSlice, .nilSlice, .nilSlice, .nilSlice, .nilSlice] true)).upd H3.next (some (.cells [.int .i64 N, ew, rv, av, uv, dv] true))).obj H3.next = some (.cells [.int .i64 N, ew, rv, av, uv, dv] true) := obj_upd_eq rfl
 have lC : H3.next < ((H3.new (.cells [.int .i64 0, .nilSlice, .nilSlice, .nilSlice, .nilSlice, .nilSlice] true)).upd H3.next (some (.cells [.int .i64 N, ew, rv, av, uv, dv] true))).next := (by first | omega | (simp only [next_new, next_upd]; omega))
 generalize (H3.new (.cells [.int .i64 0, .nilSlice, .nilSlice, .nilSlice, .nilSlice, .nilSlice] true)).upd H3.next (some (.cells [.int .i64 N, ew, rv, av, uv, dv] true)) = HC at *
 have hix := h3.idx.kept kC
 have heC := (hrB.kept k3).kept kC
 have oN := (kC.old (by omega)).trans o3
 have qp : p < H3.next := by omega
 have lC' := lC
 generalize H3.next = q at *
 refine refcheck_ret hix (by omega) sh7 sh8 fun b H4 k4 s4 => ?_
 have := s4.2 hal
 subst this
 simp (disch := first | omega | (simp only [nx] <;> omega) | fail) only [vaw, Bool.not_true, Nat.reduceAdd, Nat.reduceMul, Nat.reduceLeDiff, Nat.reduceEqDiff, ↓reduceIte]
 have hix := hix.kept k4
 have heC := heC.kept k4
 have oN := (k4.old (by omega)).trans oN
 have oC := (k4.old lC).trans oC
 have n4 := k4.next
 have ha : (idxOf N es).arcs = (⟨(idxOf N es).rank, (idxOf N es).arcs, (idxOf N es).up, (idxOf N es).down⟩ : Hier).arcs := rfl
 have iA := hix.arcs
 have hwalks := fun i a l => built_walks hlo hb (i := i) (a := a) (p := l)
 generalize (idxOf N es).arcs = arcs at *
 simp only at hun hwalks
 have hul := hun.len
 have n4' : q < H4.next := by omega
 have hbx := hix.beq (n := (N : Int))
 clear hb hix ha hlo hal s4 sh2 sh3 sh4 sh5 sh6 sh7 sh8
 refine wpx_loop (fun m t H' => ∃ (i : Nat), m = arcs.length - i ∧ i ≤ arcs.length ∧ t = (bots 7 (.ptr p 0 :: .ptr q 0 :: .int .i64 i :: bots 87 ([])) : Tmps) ∧ Keep Nothing H4 H') arcs.length ?_ ?_
 ·exact ⟨0, rfl, by omega, rfl, .refl _ _⟩
 ·rintro m t H5 ⟨i, rfl, hi, rfl, k5⟩
  have iA5 := iA.kept k5
  have hla := iA5.len (n := arcs.length) (by omega) (arcCells_length arcs)
  have oC5 := (k5.old n4').trans oC
  have oN5 := (k5.old (by omega)).trans oN
  have n5 := k5.next
  by_cases hc : (i : Int) < arcs.length
  ·have hil : i < arcs.length := by omega
   obtain ⟨a, ha⟩ : ∃ a, arcs[i]? = some a := ⟨_, List.getElem?_eq_getElem hil⟩
   obtain ⟨l, hl⟩ : ∃ l, ex[i]? = some l := ⟨_, List.getElem?_eq_getElem (by omega)⟩
   obtain ⟨w1, w2, w3, w4, w5, w6⟩ := hwalks i a l ha hl
   have hlp := hun.pos l (List.mem_of_getElem? hl)
   simp (disch := first | omega | (simp only [nx] <;> omega) | fail) only [vaw, hc, hla, oC5, Nat.reduceAdd, Nat.reduceMul, Nat.reduceLeDiff, Nat.reduceEqDiff, ↓reduceIte]
   refine unpack_ret iA5 hun hl (by omega) fun v6 H6 k6 g6 => ?_
   simp (disch := first | omega | (simp only [nx] <;> omega) | fail) only [vaw, g6.notBot, Nat.reduceAdd, Nat.reduceMul, Nat.reduceLeDiff, Nat.reduceEqDiff, ↓reduceIte]
   have iA6 := iA5.kept k6
   have oC6 := (k6.old (by omega)).trans oC5
   have oN6 := (k6.old (by omega)).trans oN5
   have n6 := k6.next
   obtain ⟨ida, offa, a1, a2, a3, a4, a5, a6, a7, a8, a9, a10⟩ := arc_flds iA6 ha
   simp (disch := first | omega | (simp only [nx] <;> omega) | fail) only [vaw, oC6, oN6, a1, a3, a4, Nat.reduceAdd, Nat.reduceMul, Nat.reduceLeDiff, Nat.reduceEqDiff, ↓reduceIte]
   refine walk_ret (heC.kept (k5.trans k6)) g6.row w5 w6 w2 (fun e he => (hed e he).2.2.2) (by omega) (by omega) fun wv H7 k7 g7 => ?_
   simp (disch := first | omega | (simp only [nx] <;> omega) | fail) only [vaw, g7.notBot, Nat.reduceAdd, Nat.reduceMul, Nat.reduceLeDiff, Nat.reduceEqDiff, ↓reduceIte]
   have iA7 := iA6.kept k7
   have oC7 := (k7.old (by omega)).trans oC6
   have n7 := k7.next
   have gl7 := g6.kept k7
   have lv7 := gl7.row.len1
   rw [ints_length] at lv7
   have hA : ¬ (l.length : Int) < 1 := by omega
   obtain ⟨idb, offb, b1, b2, b3, b4, b5, b6, b7, b8, b9, b10⟩ := arc_flds iA7 ha
   simp (disch := first | omega | (simp only [nx] <;> omega) | fail) only [vaw, oC7, b1, b6, ne_eq, not_true_eq_false, lv7, hA, Nat.reduceAdd, Nat.reduceMul, Nat.reduceLeDiff, Nat.reduceEqDiff, ↓reduceIte]
   refine refunpack_ret hbx hun (by omega) i iA7 hl fun uv8 H8 k8 g8 => ?_
   simp (disch := first | omega | (simp only [nx] <;> omega) | fail) only [vaw, Nat.reduceAdd, Nat.reduceMul, Nat.reduceLeDiff, Nat.reduceEqDiff, ↓reduceIte]
   refine ints_ret (gl7.kept k8).row g8.row (by omega) fun b sb => ?_
   have := sb.2 rfl
   subst this
   simp (disch := first | omega | (simp only [nx] <;> omega) | fail) only [vaw, Bool.not_true, Nat.reduceAdd, Nat.reduceMul, Nat.reduceLeDiff, Nat.reduceEqDiff, ↓reduceIte]
   have iA8 := iA7.kept k8
   have oC8 := (k8.old (by omega)).trans oC7
   have w8 := (g7.kept k8).row
   have lw := w8.len1
   rw [ints_length, List.length_replicate] at lw
   refine wpx_loop (fun m t H' => ∃ (k : Nat), m = l.length - k ∧ k ≤ l.length ∧ t = (bots 7 (.ptr p 0 :: .ptr q 0 :: .int .i64 i :: bots 2 (wv :: bots 1 (.int .i64 k :: bots 82 ([])))) : Tmps) ∧ H' = H8) l.length ?_ ?_
   ·exact ⟨0, rfl, by omega, rfl, rfl⟩
   ·rintro m t H9 ⟨k, rfl, hk, rfl, rfl⟩
    by_cases hc2 : (k : Int) < l.length
    ·obtain ⟨i1, f1, c1, c2, c3⟩ := w8.int_at (k := .i64) (j := k) (x := a.mode) (by rw [List.getElem?_replicate, if_pos (by omega)])
     obtain ⟨idd, offd, d1, d2, d3, d4, d5, d6, d7, d8, d9, d10⟩ := arc_flds iA8 ha
     simp (disch := first | omega | (simp only [nx] <;> omega) | fail) only [vaw, lw, hc2, c1, c3, oC8, d1, d5, ne_eq, not_true_eq_false, Nat.reduceAdd, Nat.reduceMul, Nat.reduceLeDiff, Nat.reduceEqDiff, ↓reduceIte]
     refine ⟨l.length - (k + 1), by omega, k + 1, rfl, by omega, ?_⟩
     first | exact ⟨rfl, rfl⟩ | exact rfl
    ·simp (disch := first | omega | (simp only [nx] <;> omega) | fail) only [vaw, lw, hc2, Nat.reduceAdd, Nat.reduceMul, Nat.reduceLeDiff, Nat.reduceEqDiff, ↓reduceIte]
     exact ⟨arcs.length - (i + 1), by omega, i + 1, rfl, by omega, rfl, k5.trans (k6.trans (k7.trans k8))⟩
  ·simp (disch := first | omega | (simp only [nx] <;> omega) | fail) only [vaw, hc, hla, oC5, Nat.reduceAdd, Nat.reduceMul, Nat.reduceLeDiff, Nat.reduceEqDiff, ↓reduceIte]
end Go.Proofs.Ytknhlpmmalcchaa
