/- Steps of the walk. -/
import Derived.Test.YtknhlpmmalcchaaGreatG4Td
import Derived.Test.YtknhlpmmalcchaaGreatG4Tf
import Derived.Test.YtknhlpmmalcchaaGreatG4Te
import Derived.Test.YtknhlpmmalcchaaGreatG4Tb
import Derived.Test.YtknhlpmmalcchaaGreatG4Pa
import Derived.Test.YtknhlpmmalcchaaGreatG4Ta
import Derived.Test.YtknhlpmmalcchaaGreatRows
import Derived.ProofKit
set_option linter.all false
set_option linter.unusedVariables false
set_option linter.unusedSimpArgs false
namespace Go.Proofs.YtknhlpmmalcchaaGreat
open Go Go.VAI
set_option linter.unusedSimpArgs false

theorem HLay.ranks {H : AHeap} {b mid rid uid did gid N : Nat} {es : List Edge} {ew av : AVal} {ms : List (Key × Int)} {arcs : List Arc} {gone : List Bool} {rank : List Int} {us ds : List AVal} (h : HLay H b mid rid uid did gid N es ew av ms arcs gone rank us ds) {rank' : List Int} (hg : rank'.length = N) :
  HLay (H.upd rid (some (.cells (ints rank') true))) b mid rid uid did gid N es ew av ms arcs gone rank' us ds := by
 obtain ⟨o1,o2,o3,o4,o5,o6⟩ := h.ord
 have kM : Keep (fun j => j = rid) H (H.upd rid (some (.cells (ints rank') true))) := (Keep.refl (fun j => j = rid) _).upd (.inr rfl) _
 exact ⟨(kM.obj _ (by omega) (by omega)).trans h.bo,(kM.obj _ (by omega) (by omega)).trans h.mo,obj_upd_eq rfl,(kM.obj _ (by omega) (by omega)).trans h.uo,(kM.obj _ (by omega) (by omega)).trans h.dO,(kM.obj _ (by omega) (by omega)).trans h.go,⟨o1,o2,o3,o4,o5,o6⟩,h.ewid,h.edges.M kM (fun j hj e => by have := h.ewid j hj; omega),h.arcsO.keepM kM (fun j hj e => by have := (h.arcsO.sid_ge hj).1; omega),hg,h.ul,h.dl,h.gl⟩
theorem HLay.ups {H : AHeap} {b mid rid uid did gid N : Nat} {es : List Edge} {ew av : AVal} {ms : List (Key × Int)} {arcs : List Arc} {gone : List Bool} {rank : List Int} {us ds : List AVal} (h : HLay H b mid rid uid did gid N es ew av ms arcs gone rank us ds) {us' : List AVal} (hg : us'.length = N) :
  HLay (H.upd uid (some (.cells us' true))) b mid rid uid did gid N es ew av ms arcs gone rank us' ds := by
 obtain ⟨o1,o2,o3,o4,o5,o6⟩ := h.ord
 have kM : Keep (fun j => j = uid) H (H.upd uid (some (.cells us' true))) := (Keep.refl (fun j => j = uid) _).upd (.inr rfl) _
 exact ⟨(kM.obj _ (by omega) (by omega)).trans h.bo,(kM.obj _ (by omega) (by omega)).trans h.mo,(kM.obj _ (by omega) (by omega)).trans h.ro,obj_upd_eq rfl,(kM.obj _ (by omega) (by omega)).trans h.dO,(kM.obj _ (by omega) (by omega)).trans h.go,⟨o1,o2,o3,o4,o5,o6⟩,h.ewid,h.edges.M kM (fun j hj e => by have := h.ewid j hj; omega),h.arcsO.keepM kM (fun j hj e => by have := (h.arcsO.sid_ge hj).1; omega),h.rl,hg,h.dl,h.gl⟩
theorem RowsAt.M' {lo : Nat} {M : Nat → Prop} {H H' : AHeap} {av av' : AVal} {us : List AVal} {ul : List (List Int)} (h : RowsAt lo H av us ul) (hk : Keep M H H') (hM : ∀ j,M j → j < lo ∨ sid av = some j) (ha : ∀ j,sid av' = some j → sid av = some j ∨ H.next ≤ j) : RowsAt lo H' av' us ul := by
 intro v r l h1 h2
 obtain ⟨h3,h4⟩ := h v r l h1 h2
 refine ⟨h3.M hk (fun j hj hm => ?_),fun j hj => ⟨(h4 j hj).1,fun e => ?_⟩⟩
 ·rcases hM j hm with h | h
  ·have := (h4 j hj).1; omega
  ·exact (h4 j hj).2 h
 ·rcases ha j e with ha | ha
  ·exact (h4 j hj).2 ha
  ·have := h3.sid_lt hj
   omega
theorem order_few {N : Nat} {l : List Int} (h : OrderOk N l) : l.length ≤ N := by
 have := few_below N l h.nodup h.bd
 exact this
theorem rowsAt_nil {lo : Nat} {H : AHeap} {av : AVal} (N : Nat) : RowsAt lo H av (List.replicate N .nilSlice) (List.replicate N []) := by
 intro v r l h1 h2
 have e1 := List.eq_of_mem_replicate (List.mem_of_getElem? h1)
 have e2 := List.eq_of_mem_replicate (List.mem_of_getElem? h2)
 subst e1; subst e2
 exact ⟨.nil,fun j hj => by cases hj⟩
theorem ints_set (l : List Int) (i : Nat) (x : Int) : (ints l).set i (.int .i64 x) = ints (l.set i x) := by simp [ints,List.map_set]
set_option maxRecDepth 20000 in
set_option maxHeartbeats 8000000 in
theorem hbuild_ret {N : Nat} {ev : AVal} {es : List Edge} {H : AHeap} {Q : AVal → AHeap → Prop} (hr : Row H ev 4 (edgeCells es)) (hnet : NetOk N es) (hN : N ≤ 21) (hne : rkB es N ≠ [])
  (hq : ∀ ew rv av uv dv H',Keep Nothing H H' → IdxFrom H.next H' ew rv av uv dv (idxOf N es) → Q (.agg [.int .i64 N,ew,rv,av,uv,dv]) H') : Ret A 13 [.agg [.int .i64 N,ev]] H Q := by
 obtain ⟨hN1,hN2,hn,hok⟩ := hnet
 refine Ret.of (fn := F13) rfl ?_
 have hcells := hr.cells
 have hg1 : (N : Int) * ((1 : Nat) : Int) ≤ 140737488355328 := by omega
 have hg8 : (N : Int) * ((8 : Nat) : Int) ≤ 140737488355328 := by omega
 have hg2 : (N : Int) ≤ 9223372036854775807 := by omega
 have hg3 : (N : Int) * ((24 : Nat) : Int) ≤ 140737488355328 := by omega
 simp (disch := first | omega | (simp only [nx] <;> omega) | fail) only [vaw,F13,Nat.reduceAdd,Nat.reduceMul,Nat.reduceLeDiff,Nat.reduceEqDiff,↓reduceIte]
 have k0 : Keep Nothing H ((H.new (.cells [.int .i64 N,ev] true)).new (.cells [.int .i64 0,.nilSlice,.nilSlice,.nilSlice,.nilSlice,.nilSlice] true)) := ((Keep.refl _ _).new _).new _
 have z1 : ((H.new (.cells [.int .i64 N,ev] true)).new (.cells [.int .i64 0,.nilSlice,.nilSlice,.nilSlice,.nilSlice,.nilSlice] true)).obj H.next = some (.cells [.int .i64 N,ev] true) := by simp (disch := first | omega | (simp only [nx] <;> omega) | fail) only [vaim]
 have z2 : ((H.new (.cells [.int .i64 N,ev] true)).new (.cells [.int .i64 0,.nilSlice,.nilSlice,.nilSlice,.nilSlice,.nilSlice] true)).obj (H.next + 1) = some (.cells [.int .i64 0,.nilSlice,.nilSlice,.nilSlice,.nilSlice,.nilSlice] true) := obj_new_eq rfl
 have nz : ((H.new (.cells [.int .i64 N,ev] true)).new (.cells [.int .i64 0,.nilSlice,.nilSlice,.nilSlice,.nilSlice,.nilSlice] true)).next = H.next + 2 := rfl
 generalize (H.new (.cells [.int .i64 N,ev] true)).new (.cells [.int .i64 0,.nilSlice,.nilSlice,.nilSlice,.nilSlice,.nilSlice] true) = HZ at *
 refine cloneE_ret (hr.kept k0) (by omega) fun ew H1 k1 g1 => ?_
 have n1 := k1.next
 have y1 := (k1.old (by omega)).trans z1
 have y2 := (k1.old (by omega)).trans z2
 have cw := g1.cells
 have hew : ∀ j,sid ew = some j → H.next + 2 ≤ j ∧ j < H1.next := fun j hj => by have := g1.sid_ge hj; omega
 have hcm : ∀ i,(AVal.map i).cells = some [AVal.map i] := fun _ => rfl
 simp (disch := first | omega | (simp only [nx] <;> omega) | fail) only [vaw,y1,y2,cw,amkSlice_int hg1 hg2,amkSlice_int hg8 hg2,amkSlice_int hg3 hg2,hcm,reps_oneB,Nat.reduceAdd,Nat.reduceMul,Nat.reduceLeDiff,Nat.reduceEqDiff,↓reduceIte]
 have hXK : Keep (fun j => j = H.next) H1 (((((((((H1.upd H.next (some (.cells [.int .i64 N,ew] true))).new (.cells (List.replicate N (.int .i64 0)) true)).new (.cells (List.replicate N .nilSlice) true)).new (.cells (List.replicate N .nilSlice) true)).new (.amap [])).new (.cells (List.replicate N (.bool false)) true)).new (.cells [.int .i64 N,ew,.slice H1.next 0 N (.exact N),.nilSlice,.slice (H1.next + 1) 0 N (.exact N),.slice (H1.next + 1 + 1) 0 N (.exact N),.map (H1.next + 1 + 1 + 1),.slice (H1.next + 1 + 1 + 1 + 1) 0 N (.exact N)] true)).new (.cells [.nilPtr] true)).upd (H1.next + 1 + 1 + 1 + 1 + 1 + 1) (some (.cells [.ptr (H1.next + 1 + 1 + 1 + 1 + 1) 0] true))) := ((((((((Keep.refl (fun j => j = H.next) H1).upd (.inr rfl) _).new _).new _).new _).new _).new _).new _).new _ |>.upd (.inl (by first | omega | (simp only [next_new,next_upd]; omega))) _
 have hXH : HLay (((((((((H1.upd H.next (some (.cells [.int .i64 N,ew] true))).new (.cells (List.replicate N (.int .i64 0)) true)).new (.cells (List.replicate N .nilSlice) true)).new (.cells (List.replicate N .nilSlice) true)).new (.amap [])).new (.cells (List.replicate N (.bool false)) true)).new (.cells [.int .i64 N,ew,.slice H1.next 0 N (.exact N),.nilSlice,.slice (H1.next + 1) 0 N (.exact N),.slice (H1.next + 1 + 1) 0 N (.exact N),.map (H1.next + 1 + 1 + 1),.slice (H1.next + 1 + 1 + 1 + 1) 0 N (.exact N)] true)).new (.cells [.nilPtr] true)).upd (H1.next + 1 + 1 + 1 + 1 + 1 + 1) (some (.cells [.ptr (H1.next + 1 + 1 + 1 + 1 + 1) 0] true))) (H1.next + 1 + 1 + 1 + 1 + 1) (H1.next + 1 + 1 + 1) H1.next (H1.next + 1) (H1.next + 1 + 1) (H1.next + 1 + 1 + 1 + 1) N es ew .nilSlice [] [] (List.replicate N false) (List.replicate N 0) (List.replicate N .nilSlice) (List.replicate N .nilSlice) := by
  have e1 : bools (List.replicate N false) = List.replicate N (.bool false) := by simp [bools]
  have e2 : ints (List.replicate N 0) = List.replicate N (.int .i64 0) := by simp [ints]
  refine ⟨by simp (disch := first | omega | (simp only [nx] <;> omega) | fail) only [vaim],by simp (disch := first | omega | (simp only [nx] <;> omega) | fail) only [vaim]; rfl,by simp (disch := first | omega | (simp only [nx] <;> omega) | fail) only [vaim]; rw [e2],by simp (disch := first | omega | (simp only [nx] <;> omega) | fail) only [vaim],by simp (disch := first | omega | (simp only [nx] <;> omega) | fail) only [vaim],by simp (disch := first | omega | (simp only [nx] <;> omega) | fail) only [vaim]; rw [e1],⟨by omega,by omega,by omega,by omega,by omega,(by first | omega | (simp only [next_new,next_upd]; omega))⟩,fun j hj => (hew j hj).2,g1.row.M hXK (fun j hj e => by have := hew j hj; omega),.nil,by simp,by simp,by simp,by simp⟩
 have hXc : (((((((((H1.upd H.next (some (.cells [.int .i64 N,ew] true))).new (.cells (List.replicate N (.int .i64 0)) true)).new (.cells (List.replicate N .nilSlice) true)).new (.cells (List.replicate N .nilSlice) true)).new (.amap [])).new (.cells (List.replicate N (.bool false)) true)).new (.cells [.int .i64 N,ew,.slice H1.next 0 N (.exact N),.nilSlice,.slice (H1.next + 1) 0 N (.exact N),.slice (H1.next + 1 + 1) 0 N (.exact N),.map (H1.next + 1 + 1 + 1),.slice (H1.next + 1 + 1 + 1 + 1) 0 N (.exact N)] true)).new (.cells [.nilPtr] true)).upd (H1.next + 1 + 1 + 1 + 1 + 1 + 1) (some (.cells [.ptr (H1.next + 1 + 1 + 1 + 1 + 1) 0] true))).obj (H1.next + 1 + 1 + 1 + 1 + 1 + 1) = some (.cells [.ptr (H1.next + 1 + 1 + 1 + 1 + 1) 0] true) := obj_upd_eq rfl
 have hXn : (((((((((H1.upd H.next (some (.cells [.int .i64 N,ew] true))).new (.cells (List.replicate N (.int .i64 0)) true)).new (.cells (List.replicate N .nilSlice) true)).new (.cells (List.replicate N .nilSlice) true)).new (.amap [])).new (.cells (List.replicate N (.bool false)) true)).new (.cells [.int .i64 N,ew,.slice H1.next 0 N (.exact N),.nilSlice,.slice (H1.next + 1) 0 N (.exact N),.slice (H1.next + 1 + 1) 0 N (.exact N),.map (H1.next + 1 + 1 + 1),.slice (H1.next + 1 + 1 + 1 + 1) 0 N (.exact N)] true)).new (.cells [.nilPtr] true)).upd (H1.next + 1 + 1 + 1 + 1 + 1 + 1) (some (.cells [.ptr (H1.next + 1 + 1 + 1 + 1 + 1) 0] true))).obj H.next = some (.cells [.int .i64 N,ew] true) := by simp (disch := first | omega | (simp only [nx] <;> omega) | fail) only [vaim]
 have hX2 := (hXK.obj (H.next + 1) (by omega) (by omega)).trans y2
 have hXN : (((((((((H1.upd H.next (some (.cells [.int .i64 N,ew] true))).new (.cells (List.replicate N (.int .i64 0)) true)).new (.cells (List.replicate N .nilSlice) true)).new (.cells (List.replicate N .nilSlice) true)).new (.amap [])).new (.cells (List.replicate N (.bool false)) true)).new (.cells [.int .i64 N,ew,.slice H1.next 0 N (.exact N),.nilSlice,.slice (H1.next + 1) 0 N (.exact N),.slice (H1.next + 1 + 1) 0 N (.exact N),.map (H1.next + 1 + 1 + 1),.slice (H1.next + 1 + 1 + 1 + 1) 0 N (.exact N)] true)).new (.cells [.nilPtr] true)).upd (H1.next + 1 + 1 + 1 + 1 + 1 + 1) (some (.cells [.ptr (H1.next + 1 + 1 + 1 + 1 + 1) 0] true))).next = H1.next + 7 := rfl
 generalize ((((((((H1.upd H.next (some (.cells [.int .i64 N,ew] true))).new (.cells (List.replicate N (.int .i64 0)) true)).new (.cells (List.replicate N .nilSlice) true)).new (.cells (List.replicate N .nilSlice) true)).new (.amap [])).new (.cells (List.replicate N (.bool false)) true)).new (.cells [.int .i64 N,ew,.slice H1.next 0 N (.exact N),.nilSlice,.slice (H1.next + 1) 0 N (.exact N),.slice (H1.next + 1 + 1) 0 N (.exact N),.map (H1.next + 1 + 1 + 1),.slice (H1.next + 1 + 1 + 1 + 1) 0 N (.exact N)] true)).new (.cells [.nilPtr] true)).upd (H1.next + 1 + 1 + 1 + 1 + 1 + 1) (some (.cells [.ptr (H1.next + 1 + 1 + 1 + 1 + 1) 0] true)) = HX at *
 generalize hec : H1.next + 1 + 1 + 1 + 1 + 1 + 1 = c at *
 generalize heb : H1.next + 1 + 1 + 1 + 1 + 1 = b at *
 generalize heg : H1.next + 1 + 1 + 1 + 1 = gid at *
 generalize hem : H1.next + 1 + 1 + 1 = mid at *
 generalize hed : H1.next + 1 + 1 = did at *
 generalize heu : H1.next + 1 = uid at *
 generalize her : H1.next = rid at *
 refine wpx_loop (fun m t H' => ∃ (i : Nat),m = N - i ∧ i ≤ N ∧ t = (bots 1 (.ptr H.next 0 :: .ptr (H.next + 1) 0 :: .ptr c 0 :: bots 33 (.int .i64 N :: .int .i64 i :: bots 70 ([]))) : Tmps) ∧ Keep (fun j => j = rid) HX H' ∧ HLay H' b mid rid uid did gid N es ew .nilSlice [] [] (List.replicate N false) (List.replicate i (-1) ++ List.replicate (N - i) 0) (List.replicate N .nilSlice) (List.replicate N .nilSlice)) N ?_ ?_
 ·exact ⟨0,rfl,by omega,rfl,.refl _ _,hXH⟩
 ·rintro m t H2 ⟨i,rfl,hi,rfl,k2,h2⟩
  have c2 := (k2.obj c (by omega) (by omega)).trans hXc
  by_cases hc : (i : Int) < N
  ·have hiN : i < N := by omega
   have hix : aindexAddrS 1 (.slice rid 0 N (.exact N)) (.int .i64 (i : Int)) = some (.ptr rid i) := by rw [aindexAddrS_slice ⟨by omega,by omega⟩]; simp
   have hrl : (ints (List.replicate i (-1) ++ List.replicate (N - i) 0)).length = N := by rw [ints_length]; exact h2.rl
   have hle : i + 1 ≤ N := hiN
   have hsp : splice (ints (List.replicate i (-1) ++ List.replicate (N - i) 0)) i [.int .i64 (-1)] = ints (List.replicate (i + 1) (-1) ++ List.replicate (N - (i + 1)) 0) := by
    rw [splice_one (by rw [hrl]; exact hiN),ints_set]
    congr 1
    rw [List.set_append_right _ _ (by simp),show N - i = (N - (i + 1)) + 1 by omega,List.replicate_succ]
    simp [List.replicate_succ']
   simp (disch := first | omega | (simp only [nx] <;> omega) | fail) only [vaw,hc,c2,h2.bo,h2.ro,hix,hrl,hle,hsp,Nat.reduceAdd,Nat.reduceMul,Nat.reduceLeDiff,Nat.reduceEqDiff,↓reduceIte]
   exact ⟨N - (i + 1),by omega,i + 1,rfl,by omega,rfl,k2.upd (.inr rfl) _,h2.ranks (by simp; omega)⟩
  ·have : i = N := by omega
   subst this
   rw [Nat.sub_self,List.replicate_zero,List.append_nil] at h2
   simp (disch := first | omega | (simp only [nx] <;> omega) | fail) only [vaw,hc,c2,Nat.reduceAdd,Nat.reduceMul,Nat.reduceLeDiff,Nat.reduceEqDiff,↓reduceIte]
   refine first_ret h2 hok hn (by omega) fun H3 av3 ms3 k3 h3 c3 s3 => ?_
   have nb3 : H3.obj H.next = some (.cells [.int .i64 i,ew] true) := (k3.obj _ (by have := k2.next; omega) (fun e => by rcases e with e | e | e <;> first | omega | cases e)).trans ((k2.obj _ (by omega) (by omega)).trans hXn)
   have cc3 := (k3.obj c (by have := k2.next; omega) (fun e => by rcases e with e | e | e <;> first | omega | cases e)).trans c2
   have rs3 := (k3.obj (H.next + 1) (by have := k2.next; omega) (fun e => by rcases e with e | e | e <;> first | omega | cases e)).trans ((k2.obj _ (by omega) (by omega)).trans hX2)
   simp (disch := first | omega | (simp only [nx] <;> omega) | fail) only [vaw,nb3,Nat.reduceAdd,Nat.reduceMul,Nat.reduceLeDiff,Nat.reduceEqDiff,↓reduceIte]
   refine odBF_ret (N := i) h3.edges hok hN hne (by omega) fun lv H4 k4 r4 lo4 => ?_
   have hmo : ∀ e ∈ es,0 ≤ e.mode ∧ e.mode < 5 := fun e he => ⟨(hok e he).2.2.1.1,(hok e he).2.2.1.2⟩
   rw [odB_eq hmo] at r4
   have hlo : OrderOk i (orderOf i es (2 * es.length + 1)) := orderOf_ok i es _
   have hoa : orderAll i es = orderOf i es (2 * es.length + 1) := rfl
   have hidx : idxOf i es = ⟨i,es,(hierOf i es (orderAll i es)).rank,(hierOf i es (orderAll i es)).arcs,(hierOf i es (orderAll i es)).up,(hierOf i es (orderAll i es)).down⟩ := rfl
   have hlN := order_few hlo
   rw [← hoa] at r4 hlo hlN
   generalize orderAll i es = l at *
   have hedg : EdgesOk i es := fun e he => ⟨(hok e he).1,(hok e he).2.1,(hok e he).2.2.1,(hok e he).2.2.2.1⟩
   have hcost : ∀ e ∈ es,0 ≤ e.cost ∧ e.cost ≤ 2147483647 := fun e he => (hok e he).2.2.2
   have n2 := k2.next
   have n3 := k3.next
   have n4 := k4.next
   have h4 := h3.kept k4
   have cc4 := (k4.old (by omega)).trans cc3
   have rs4 := (k4.old (by omega)).trans rs3
   have ll := r4.len1
   rw [ints_length] at ll
   have sa3 : ∀ j,sid av3 = some j → c < j ∧ j < H3.next := fun j hj => by
    have h1 := h3.arcsO.sid_ge hj
    rcases s3 j hj with e | e
    ·cases e
    ·omega
   simp (disch := first | omega | (simp only [nx] <;> omega) | fail) only [vaw,ll,Nat.reduceAdd,Nat.reduceMul,Nat.reduceLeDiff,Nat.reduceEqDiff,↓reduceIte]
   refine wpx_loop (fun m t H' => ∃ (k : Nat) (av' : AVal) (ms' : List (Key × Int)) (us ds : List AVal),m = l.length - k ∧ k ≤ l.length ∧ t = (bots 2 (.ptr (H.next + 1) 0 :: .ptr c 0 :: bots 48 (lv :: .int .i64 l.length :: .int .i64 k :: bots 54 ([]))) : Tmps) ∧ Keep (fun j => j = b ∨ j = mid ∨ j = uid ∨ j = did ∨ j = gid ∨ j = rid ∨ sid av3 = some j) H4 H' ∧
    HLay H' b mid rid uid did gid i es ew av' ms' (goAll i (startOf i es) l k).arcs (goAll i (startOf i es) l k).gone (goAll i (startOf i es) l k).rank us ds ∧ MapCur i ms' (goAll i (startOf i es) l k).cur ∧ RowsAt (c + 1) H' av' us (goAll i (startOf i es) l k).up ∧ RowsAt (c + 1) H' av' ds (goAll i (startOf i es) l k).down ∧ (∀ j,sid av' = some j → sid av3 = some j ∨ H4.next ≤ j)) l.length ?_ ?_
   ·exact ⟨0,av3,ms3,_,_,rfl,by omega,rfl,.refl _ _,h4,c3,rowsAt_nil i,rowsAt_nil i,fun j hj => .inl hj⟩
   ·rintro m t H5 ⟨k,av5,ms5,us,ds,rfl,hk,rfl,k5,h5,c5,ru5,rd5,s5⟩
    have cc5 := (k5.obj c (by omega) (fun e => by rcases e with e | e | e | e | e | e | e <;> first | omega | (have := sa3 _ e; omega))).trans cc4
    have rs5 := (k5.obj (H.next + 1) (by omega) (fun e => by rcases e with e | e | e | e | e | e | e <;> first | omega | (have := sa3 _ e; omega))).trans rs4
    have n5 := k5.next
    by_cases hc2 : (k : Int) < l.length
    ·have hkl : k < l.length := by omega
     have hv : l[k]? = some l[k] := by simp [hkl]
     have hbd := hlo.bd _ (List.getElem_mem hkl)
     have hgd : l.getD k 0 = l[k] := getD_of hv
     have hgs : goAll i (startOf i es) l (k + 1) = goStep i (goAll i (startOf i es) l k) k (l.getD k 0).toNat := rfl
     rw [hgd] at hgs
     have r5 := (r4.M k5 (fun j hj e => by
      have := r4.sid_lt hj
      have := lo4 j hj
      rcases e with e | e | e | e | e | e | e <;> first | omega | (have := sa3 _ e; omega)))
     obtain ⟨i1,f1,d1,d2,d3⟩ := r5.int_at (k := .i64) hv
     obtain ⟨ex,hgo⟩ := go_gone hedg hlo k hk
     generalize l[k] = vi at *
     obtain ⟨v,rfl⟩ := Int.eq_ofNat_of_zero_le hbd.1
     rw [Int.toNat_natCast] at hgs
     have hvN : v < i := by omega
     generalize goAll i (startOf i es) l k = s at *
     have hix : aindexAddrS 1 (.slice rid 0 i (.exact i)) (.int .i64 (v : Int)) = some (.ptr rid v) := by rw [aindexAddrS_slice ⟨by omega,by omega⟩]; simp
     have hrl : (ints s.rank).length = i := by rw [ints_length]; exact h5.rl
     have hle : v + 1 ≤ i := hvN
     have hsp : splice (ints s.rank) v [.int .i64 (k : Int)] = ints (s.rank.set v (k : Int)) := by
      rw [splice_one (by rw [hrl]; exact hvN),ints_set]
     have h6 := h5.ranks (rank' := s.rank.set v (k : Int)) (by rw [List.length_set]; exact h5.rl)
     have k6 : Keep (fun j => j = rid) H5 (H5.upd rid (some (.cells (ints (s.rank.set v (k : Int))) true))) := (Keep.refl (fun j => j = rid) _).upd (.inr rfl) _
     have cc6 := (k6.obj c (by omega) (by omega)).trans cc5
     simp (disch := first | omega | (simp only [nx] <;> omega) | fail) only [vaw,hc2,d1,d3,cc5,h5.bo,h5.ro,hix,hrl,hle,hsp,Nat.reduceAdd,Nat.reduceMul,Nat.reduceLeDiff,Nat.reduceEqDiff,↓reduceIte]
     have ru6 := ru5.M' k6 (fun j hj => .inl (by omega)) (fun j hj => .inl hj)
     have rd6 := rd5.M' k6 (fun j hj => .inl (by omega)) (fun j hj => .inl hj)
     have n6 : (H5.upd rid (some (.cells (ints (s.rank.set v (k : Int))) true))).next = H5.next := rfl
     generalize H5.upd rid (some (.cells (ints (s.rank.set v (k : Int))) true)) = H6 at *
     refine goes_ret h6 c5 hcost hlo hgo (by omega) hv hvN (by omega) fun H7 av7 ms7 ur dr k7 h7 c7 g7 q7 s7 w7 x7 => ?_
     simp (disch := first | omega | (simp only [nx] <;> omega) | fail) only [vaw,Nat.reduceAdd,Nat.reduceMul,Nat.reduceLeDiff,Nat.reduceEqDiff,↓reduceIte]
     have sa5 : ∀ j,sid av5 = some j → c < j := fun j hj => by
      rcases s5 j hj with e | e
      ·exact (sa3 j e).1
      ·omega
     have ru7 := (ru6.M' k7 (fun j hj => by rcases hj with e | e | e | e | e | e <;> first | exact .inl (by omega) | exact .inr e) (fun j hj => s7 j hj)).set (v := v) (l := outOf i s.cur s.gone v i) g7.row (fun j hj => ⟨by have := (g7.sid_ge hj).1; omega,w7 j hj⟩) (by rw [h5.ul,hgo.upLen])
     have rd7 := (rd6.M' k7 (fun j hj => by rcases hj with e | e | e | e | e | e <;> first | exact .inl (by omega) | exact .inr e) (fun j hj => s7 j hj)).set (v := v) (l := inOf i s.cur s.gone v i) q7.row (fun j hj => ⟨by have := (q7.sid_ge hj).1; omega,x7 j hj⟩) (by rw [h5.dl,hgo.downLen])
     have kF : Keep (fun j => j = b ∨ j = mid ∨ j = uid ∨ j = did ∨ j = gid ∨ j = rid ∨ sid av3 = some j) H4 H7 := (k5.trans' k6 (fun j hj e => by simp [e])).trans' k7 (fun j hj e => by
      rcases e with e | e | e | e | e | e
      ·simp [e]
      ·simp [e]
      ·simp [e]
      ·simp [e]
      ·simp [e]
      ·rcases s5 j e with e2 | e2
       ·simp [e2]
       ·omega)
     refine ⟨l.length - (k + 1),by omega,k + 1,av7,ms7,us.set v ur,ds.set v dr,rfl,by omega,rfl,kF,by rw [hgs]; exact h7,by rw [hgs]; exact c7,by rw [hgs]; exact ru7,by rw [hgs]; exact rd7,fun j hj => ?_⟩
     rcases s7 j hj with e | e
     ·exact s5 j e
     ·exact .inr (by omega)
    ·have : k = l.length := by omega
     subst this
     obtain ⟨ex,hgo⟩ := go_gone hedg hlo l.length (Nat.le_refl _)
     simp only [hierOf] at hidx
     simp (disch := first | omega | (simp only [nx] <;> omega) | fail) only [vaw,hc2,cc5,h5.bo,Nat.reduceAdd,Nat.reduceMul,Nat.reduceLeDiff,Nat.reduceEqDiff,↓reduceIte]
     generalize goAll i (startOf i es) l l.length = s at *
     obtain ⟨o1,o2,o3,o4,o5,o6⟩ := h5.ord
     have sa5 : ∀ j,sid av5 = some j → c < j := fun j hj => by
      rcases s5 j hj with e | e
      ·exact (sa3 j e).1
      ·omega
     refine wpx_loop (fun m t H' => ∃ (v : Nat) (us : List AVal),m = i - v ∧ v ≤ i ∧ t = (bots 2 (.ptr (H.next + 1) 0 :: .ptr c 0 :: bots 71 (.slice rid 0 i (.exact i) :: .int .i64 i :: .int .i64 v :: bots 31 ([]))) : Tmps) ∧ Keep (fun j => j = uid) H5 H' ∧
      HLay H' b mid rid uid did gid i es ew av5 ms5 s.arcs s.gone s.rank us ds ∧ RowsAt (c + 1) H' av5 us (stayAll i s s.up v) ∧ RowsAt (c + 1) H' av5 ds s.down) i ?_ ?_
     ·exact ⟨0,us,rfl,by omega,rfl,.refl _ _,h5,ru5,rd5⟩
     ·rintro m t H6 ⟨v,us6,rfl,hv1,rfl,k6,h6,ru6,rd6⟩
      have n6 := k6.next
      have cc6 := (k6.obj c (by omega) (by omega)).trans cc5
      have rs6 := (k6.obj (H.next + 1) (by omega) (by omega)).trans rs5
      by_cases hc3 : (v : Int) < i
      ·have hvN : v < i := by omega
       have hix : aindexAddrS 1 (.slice rid 0 i (.exact i)) (.int .i64 (v : Int)) = some (.ptr rid v) := by rw [aindexAddrS_slice ⟨by omega,by omega⟩]; simp
       have hst : stayAll i s s.up (v + 1) = stayStep i s (stayAll i s s.up v) v := rfl
       unfold stayStep at hst
       have kB : Keep Nothing H6 ((H6.new (.cells [.int .i64 0] true)).upd H6.next (some (.cells [.int .i64 v] true))) := ((Keep.refl _ _).new _).upd (.inl (Nat.le_refl _)) _
       have qv : ((H6.new (.cells [.int .i64 0] true)).upd H6.next (some (.cells [.int .i64 v] true))).obj H6.next = some (.cells [.int .i64 v] true) := obj_upd_eq rfl
       have nB : ((H6.new (.cells [.int .i64 0] true)).upd H6.next (some (.cells [.int .i64 v] true))).next = H6.next + 1 := rfl
       have hneg : (-1 : Int) < 0 := by decide
       cases hgd : s.gone.getD v false with
       | true =>
        obtain ⟨j,hj,hlj⟩ := (hgo.gone v hvN).1 hgd
        have hrj := hgo.ranked j _ hj hlj
        rw [Int.toNat_natCast] at hrj
        have hrj2 : (ints s.rank)[v]? = some (.int .i64 (j : Int)) := by simp [ints,hrj]
        have hjn : ¬ ((j : Int) < 0) := by omega
        rw [if_pos hgd] at hst
        simp (disch := first | omega | (simp only [nx] <;> omega) | fail) only [vaw,hc3,hix,h6.ro,hrj2,hjn,Nat.reduceAdd,Nat.reduceMul,Nat.reduceLeDiff,Nat.reduceEqDiff,↓reduceIte]
        exact ⟨i - (v + 1),by omega,v + 1,us6,rfl,by omega,rfl,k6.trans' kB (fun j hj e => e.elim),h6.kept kB,by rw [hst]; exact ru6.M' kB (fun j hj => hj.elim) (fun j hj => .inl hj),rd6.M' kB (fun j hj => hj.elim) (fun j hj => .inl hj)⟩
       | false =>
        have hrj := hgo.unranked v hvN (fun h => by have := (hgo.gone v hvN).2 h; rw [hgd] at this; cases this)
        have hrj2 : (ints s.rank)[v]? = some (.int .i64 (-1)) := by simp [ints,hrj]
        rw [if_neg (by rw [hgd]; simp)] at hst
        have hB := h6.kept kB
        have qc := (kB.old (by omega)).trans cc6
        simp (disch := first | omega | (simp only [nx] <;> omega) | fail) only [vaw,hc3,hix,h6.ro,hrj2,hneg,cc6,h6.bo,Nat.reduceAdd,Nat.reduceMul,Nat.reduceLeDiff,Nat.reduceEqDiff,↓reduceIte]
        generalize ((H6.new (.cells [.int .i64 0] true)).upd H6.next (some (.cells [.int .i64 v] true))) = HB at *
        have hfew := c5.few
        have hN2 : i * i ≤ 21 * 21 := Nat.mul_le_mul hN hN
        have hm1 := fun (e : Key × Int) (he : e ∈ ms5) => mayOf_of qv qc hB.bo rfl hB.go h6.gl (k := e.1) (c5.rng e he).1 (c5.rng e he).2.1
        refine arcs_ret (down := false) (es := ms5) (sel := upSel ms5 s.gone v) (.inl ⟨.inl rfl,rfl⟩) hB.bo rfl hB.mo (mayAll_of fun e he => (hm1 e he).1) (by omega) c5.nodup fun ur H7 k7 g7 => ?_
        rw [up_eq c5 s.gone hvN] at g7
        have n7 := k7.next
        have h7 := hB.kept k7
        have qv7 := (k7.old (by omega)).trans qv
        have cc7 := (k7.old (by omega)).trans qc
        have cu := g7.cells
        have hvu : aindexAddrS 1 (.slice uid 0 i (.exact i)) (.int .i64 (v : Int)) = some (.ptr uid v) := by rw [aindexAddrS_slice ⟨by omega,by omega⟩]; simp
        have hle : v + 1 ≤ i := hvN
        have hul := h6.ul
        simp (disch := first | omega | (simp only [nx] <;> omega) | fail) only [vaw,qv7,cc7,h7.bo,h7.uo,hvu,cu,hul,hle,g7.notBot,splice_one,Nat.reduceAdd,Nat.reduceMul,Nat.reduceLeDiff,Nat.reduceEqDiff,↓reduceIte]
        have h8 := h7.ups (us' := us6.set v ur) (by rw [List.length_set]; exact hul)
        have k8 : Keep (fun j => j = uid) H7 (H7.upd uid (some (.cells (us6.set v ur) true))) := (Keep.refl (fun j => j = uid) _).upd (.inr rfl) _
        have k68 : Keep (fun j => j = uid) H6 (H7.upd uid (some (.cells (us6.set v ur) true))) := ((kB.trans k7).mono (fun j hj e => e.elim)).trans' k8 (fun j hj e => e)
        refine ⟨i - (v + 1),by omega,v + 1,us6.set v ur,rfl,by omega,rfl,k6.trans' k68 (fun j hj e => e),h8,?_,rd6.M' k68 (fun j hj => .inl (by omega)) (fun j hj => .inl hj)⟩
        rw [hst]
        exact (ru6.M' k68 (fun j hj => .inl (by omega)) (fun j hj => .inl hj)).set (g7.row.M k8 (fun j hj e => by have := (g7.sid_ge hj).1; omega)) (fun j hj => ⟨by have := (g7.sid_ge hj).1; omega,fun e => by have := (g7.sid_ge hj).1; have := (h6.arcsO.sid_ge e).2; omega⟩) (by rw [hul,stayAll_length,hgo.upLen])
      ·have : i = v := by omega
       subst this
       simp (disch := first | omega | (simp only [nx] <;> omega) | fail) only [vaw,hc3,cc6,h6.bo,Nat.reduceAdd,Nat.reduceMul,Nat.reduceLeDiff,Nat.reduceEqDiff,↓reduceIte]
       refine cloneA_ret h6.arcsO.row (by have := hgo.count; have hNN : i * i ≤ 21 * 21 := Nat.mul_le_mul hN hN; have hk25 : l.length * (25 * (i * i)) ≤ 21 * (25 * (21 * 21)) := Nat.mul_le_mul (by omega) (by omega); omega) fun v7 H7 k7 g7 => ?_
       have h7 := h6.kept k7
       have cc7 := (k7.old (by omega)).trans cc6
       have rs7 := (k7.old (by omega)).trans rs6
       have c7 := g7.cells
       have c1 := h7.edges.cells
       simp (disch := first | omega | (simp only [nx] <;> omega) | fail) only [vaw,cc7,h7.bo,rs7,c7,c1,Nat.reduceAdd,Nat.reduceMul,Nat.reduceLeDiff,Nat.reduceEqDiff,↓reduceIte]
       have n7 := k7.next
       obtain ⟨hend,hhe⟩ : ∃ x,x = ((H7.upd b (some (.cells [.int .i64 i,ew,.slice rid 0 i (.exact i),v7,.slice uid 0 i (.exact i),.slice did 0 i (.exact i),.map mid,.slice gid 0 i (.exact i)] true))).upd (H.next + 1) (some (.cells [.int .i64 i,ew,.slice rid 0 i (.exact i),v7,.slice uid 0 i (.exact i),.slice did 0 i (.exact i)] true))) := ⟨_,rfl⟩
       rw [← hhe]
       have k8 : Keep (fun j => j = b ∨ j = H.next + 1) H7 hend := by rw [hhe]; exact ((Keep.refl (fun j => j = b ∨ j = H.next + 1) _).upd (.inr (.inl rfl)) _).upd (.inr (.inr rfl)) _
       have n8 := k8.next
       have kk : Keep Nothing H hend := by
        refine (((((((((k0.trans k1).trans' hXK ?_).trans' k2 ?_).trans' k3 ?_).trans' k4 ?_).trans' k5 ?_).trans' k6 ?_).trans' k7 ?_).trans' k8 ?_) <;> intro j hj e
        ·omega
        ·omega
        ·rcases e with e | e | e <;> first | omega | cases e
        ·exact e
        ·rcases e with e | e | e | e | e | e | e <;> first | omega | (have := sa3 _ e; omega)
        ·omega
        ·exact e
        ·omega
       clear hhe
       refine hq _ _ _ _ _ _ kk ?_
       rw [hidx]
       have rows : ∀ (w : Nat) (vs : List AVal) (ul : List (List Int)),w < b → H.next + 1 < w → H7.obj w = some (.cells vs true) → vs.length = i → ul.length = i → RowsAt (c + 1) H6 av5 vs ul → FromRows H.next hend (.slice w 0 i (.exact i)) ul := by
        intro w vs ul h1 h2 h4 h5 h6 h7
        refine ⟨vs,⟨.mk (c := vs) (by omega) (by rw [cells?_of,k8.obj w (by omega) (by omega),h4]; rfl) (by omega) (by simp [← h5]),fun j hj => by injection hj with hj; omega⟩,by omega,fun i r l e1 e2 => ?_⟩
        obtain ⟨g1,g2⟩ := h7 i r l e1 e2
        exact ⟨(g1.kept k7).M k8 (fun j hj e => by have := (g2 j hj).1; omega),fun j hj => by have := (g2 j hj).1; omega⟩
       refine ⟨⟨h7.edges.M k8 (fun j hj e => by have := hew j hj; have := h7.ewid j hj; omega),fun j hj => by have := hew j hj; omega⟩,⟨.mk (c := ints s.rank) (by omega) (by rw [cells?_of,k8.obj rid (by omega) (by omega),h7.ro]; rfl) (by rw [ints_length,h7.rl]; omega) (by rw [List.drop_zero,List.take_of_length_le (by rw [ints_length,h7.rl]; omega)]),fun j hj => by injection hj with hj; omega⟩,⟨g7.row.M k8 (fun j hj e => by have := (g7.sid_ge hj).1; omega),fun j hj => by have := (g7.sid_ge hj).1; omega⟩,
        rows _ _ _ (by omega) (by omega) h7.uo h7.ul (by rw [stayAll_length,hgo.upLen]) ru6,rows _ _ _ (by omega) (by omega) h7.dO h7.dl hgo.downLen rd6⟩
end Go.Proofs.YtknhlpmmalcchaaGreat

namespace Go.Proofs.YtknhlpmmalcchaaGreat
open Go Go.VAI
set_option linter.unusedSimpArgs false

def knownH : List Edge := [⟨0,1,0,3⟩]
theorem known_one : idxOf 1 [] = ⟨1,[],[0],[],[[]],[[]]⟩ := by decide +kernel
theorem known_two : (idxOf 2 knownH).arcs.length = 1 ∧ (idxOf 2 knownH).rank.length = 2 := by decide +kernel
set_option maxRecDepth 20000 in
set_option maxHeartbeats 8000000 in
theorem known47_ret {H : AHeap} {Q : AVal → AHeap → Prop} (hq : ∀ H',Keep Nothing H H' → Q (.bool true) H') : Ret A 5 [] H Q := by
 refine Ret.of (fn := F5) rfl ?_
 have hn1 : NetOk (1 : Nat) [] := ⟨by omega,by omega,by simp,by simp⟩
 have hn2 : NetOk (2 : Nat) knownH := ⟨by omega,by omega,by decide,fun e he => by simp only [knownH,List.mem_cons,List.not_mem_nil,or_false] at he; subst he; unfold EdgeOk; simp⟩
 simp (disch := first | omega | (simp only [nx] <;> omega) | fail) only [vaw,F5,Nat.reduceAdd,Nat.reduceMul,Nat.reduceLeDiff,Nat.reduceEqDiff,↓reduceIte]
 refine hbuild_ret (N := 1) (es := []) .nil hn1 (by omega) (by decide) fun ew rv av uv dv H1 k1 h1 => ?_
 have n1 := k1.next
 have kA : Keep Nothing H1 ((H1.new (.cells [.int .i64 0,.nilSlice,.nilSlice,.nilSlice,.nilSlice,.nilSlice] true)).upd H1.next (some (.cells [.int .i64 1,ew,rv,av,uv,dv] true))) := ((Keep.refl _ _).new _).upd (.inl (Nat.le_refl _)) _
 have oA : ((H1.new (.cells [.int .i64 0,.nilSlice,.nilSlice,.nilSlice,.nilSlice,.nilSlice] true)).upd H1.next (some (.cells [.int .i64 1,ew,rv,av,uv,dv] true))).obj H1.next = some (.cells [.int .i64 1,ew,rv,av,uv,dv] true) := obj_upd_eq rfl
 have nA : ((H1.new (.cells [.int .i64 0,.nilSlice,.nilSlice,.nilSlice,.nilSlice,.nilSlice] true)).upd H1.next (some (.cells [.int .i64 1,ew,rv,av,uv,dv] true))).next = H1.next + 1 := rfl
 rw [known_one] at h1
 have c1 := h1.es.1.cells
 have c2 := h1.rank.1.cells
 have c3 := h1.arcs.1.cells
 have c4 := h1.up.rows.cells
 have c5 := h1.down.rows.cells
 simp (disch := first | omega | (simp only [nx] <;> omega) | fail) only [vaw,c1,c2,c3,c4,c5,Nat.reduceAdd,Nat.reduceMul,Nat.reduceLeDiff,Nat.reduceEqDiff,↓reduceIte]
 generalize ((H1.new (.cells [.int .i64 0,.nilSlice,.nilSlice,.nilSlice,.nilSlice,.nilSlice] true)).upd H1.next (some (.cells [.int .i64 1,ew,rv,av,uv,dv] true))) = HA at *
 refine hbuild_ret (N := 2) (es := knownH) (.mk (c := edgeCells knownH) (by simp only [next_new]; omega) (by simp (disch := first | omega | (simp only [nx] <;> omega) | fail) only [vaim]; rfl) (by decide) rfl) hn2 (by omega) (by decide) fun ew2 rv2 av2 uv2 dv2 H2 k2 h2 => ?_
 have n2 := k2.next
 simp only [next_new] at n2
 have o2 := (k2.old (i := H1.next) (by simp only [next_new]; omega)).trans ((obj_new_ne (by omega)).trans oA)
 have kB : Keep Nothing H2 ((H2.new (.cells [.int .i64 0,.nilSlice,.nilSlice,.nilSlice,.nilSlice,.nilSlice] true)).upd H2.next (some (.cells [.int .i64 2,ew2,rv2,av2,uv2,dv2] true))) := ((Keep.refl _ _).new _).upd (.inl (Nat.le_refl _)) _
 have oB : ((H2.new (.cells [.int .i64 0,.nilSlice,.nilSlice,.nilSlice,.nilSlice,.nilSlice] true)).upd H2.next (some (.cells [.int .i64 2,ew2,rv2,av2,uv2,dv2] true))).obj H2.next = some (.cells [.int .i64 2,ew2,rv2,av2,uv2,dv2] true) := obj_upd_eq rfl
 have nB : ((H2.new (.cells [.int .i64 0,.nilSlice,.nilSlice,.nilSlice,.nilSlice,.nilSlice] true)).upd H2.next (some (.cells [.int .i64 2,ew2,rv2,av2,uv2,dv2] true))).next = H2.next + 1 := rfl
 have oB1 := (kB.old (by omega)).trans o2
 have d1 := h2.es.1.cells
 have d2 := h2.rank.1.cells
 have d3 := h2.arcs.1.cells
 have d4 := h2.up.rows.cells
 have d5 := h2.down.rows.cells
 simp (disch := first | omega | (simp only [nx] <;> omega) | fail) only [vaw,d1,d2,d3,d4,d5,Nat.reduceAdd,Nat.reduceMul,Nat.reduceLeDiff,Nat.reduceEqDiff,↓reduceIte]
 generalize ((H2.new (.cells [.int .i64 0,.nilSlice,.nilSlice,.nilSlice,.nilSlice,.nilSlice] true)).upd H2.next (some (.cells [.int .i64 2,ew2,rv2,av2,uv2,dv2] true))) = HB at *
 have h1' := ((h1.kept (kA.trans ((Keep.refl _ _).new _))).kept k2).kept kB
 have h2' := h2.kept kB
 have al1 := idx_allowed hn1 (by omega)
 have al2 := idx_allowed hn2 (by omega)
 rw [known_one] at al1
 have l1 := h1'.arcs.1.len (n := 0) (by omega) rfl
 have l2 := h1'.rank.1.len1
 obtain ⟨i1,f1,p1,p2,p3⟩ := h1'.rank.1.int_at (k := .i64) (j := 0) (x := 0) rfl
 have l3 := h2'.arcs.1.len (n := 1) (by omega) (by rw [arcCells_length,known_two.1])
 have l4 := h2'.rank.1.len1
 rw [ints_length,known_two.2] at l4
 have q3 : ((0 : Nat) : Int) = 0 := rfl
 rw [q3] at p1
 have l1' : alenS av = some (.int .i64 0) := l1
 have l2' : alenS rv = some (.int .i64 1) := l2
 have l3' : alenS av2 = some (.int .i64 1) := l3
 have l4' : alenS rv2 = some (.int .i64 2) := l4
 have e0 : (0 : Int) = 0 := rfl
 simp (disch := first | omega | (simp only [nx] <;> omega) | fail) only [vaw,o2,oB1,oB,l1',l2',l3',l4',p1,p3,Nat.reduceAdd,Nat.reduceMul,Nat.reduceLeDiff,Nat.reduceEqDiff,↓reduceIte]
 refine check_ret (x := ⟨1,[],[0],[],[[]],[[]]⟩) h1'.idx (by simp) (by simp) fun b H3 k3 s3 => ?_
 have := s3.2 al1
 subst this
 have n3 := k3.next
 have o3 := (k3.old (by omega)).trans oB
 simp (disch := first | omega | (simp only [nx] <;> omega) | fail) only [vaw,o3,Nat.reduceAdd,Nat.reduceMul,Nat.reduceLeDiff,Nat.reduceEqDiff,↓reduceIte]
 obtain ⟨hs1,hs2⟩ := allowed_short al2
 obtain ⟨_,_,_,_,s5,s6⟩ := hs1
 refine check_ret (x := idxOf 2 knownH) (h2'.kept k3).idx s5 s6 fun b H4 k4 s4 => ?_
 have := s4.2 al2
 subst this
 simp (disch := first | omega | (simp only [nx] <;> omega) | fail) only [vaw,Nat.reduceAdd,Nat.reduceMul,Nat.reduceLeDiff,Nat.reduceEqDiff,↓reduceIte]
 refine hq _ ?_
 exact ((((k1.trans kA).trans ((Keep.refl _ _).new _)).trans k2).trans kB).trans k3 |>.trans k4
end Go.Proofs.YtknhlpmmalcchaaGreat

namespace Go.Proofs.YtknhlpmmalcchaaGreat
open Go Go.VAI
set_option linter.unusedSimpArgs false

end Go.Proofs.YtknhlpmmalcchaaGreat

namespace Go.Proofs.YtknhlpmmalcchaaGreat
open Go Go.VAI
set_option linter.unusedSimpArgs false

inductive Stk (lo : Nat) (H : AHeap) : AVal → List AVal → Prop where
 | room {id len : Nat} {c cs : List AVal} (hlo : lo ≤ id) (hhi : id < H.next) (ho : H.obj id = some (.cells c true)) (hlen : len ≤ c.length) (hc : cs = c.take len) : Stk lo H (.slice id 0 len (.room 1)) cs
 | full {id len n : Nat} {c cs : List AVal} (hlo : lo ≤ id) (hhi : id < H.next) (ho : H.obj id = some (.cells c true)) (hlen : len ≤ c.length) (hn : len ≤ n) (hn1 : n ≤ 1) (hc : cs = c.take len) : Stk lo H (.slice id 0 len (.exact n)) cs
theorem Stk.len {lo : Nat} {H : AHeap} {v : AVal} {cs : List AVal} (h : Stk lo H v cs) : alenS v = some (.int .i64 cs.length) := by
 cases h with
 | room h1 h2 h3 h4 h5 => subst h5; simp [alenS]; omega
 | full h1 h2 h3 h4 h5 h6 h7 => subst h7; simp [alenS]; omega
theorem Stk.sid_ge {lo : Nat} {H : AHeap} {v : AVal} {cs : List AVal} (h : Stk lo H v cs) {j : Nat} (hj : sid v = some j) : lo ≤ j ∧ j < H.next := by
 cases h <;> (injection hj with hj; subst hj; exact ⟨by assumption,by assumption⟩)
theorem Stk.keepM {lo : Nat} {M : Nat → Prop} {H H' : AHeap} {v : AVal} {cs : List AVal} (h : Stk lo H v cs) (hk : Keep M H H') (hM : ∀ j,sid v = some j → ¬ M j) : Stk lo H' v cs := by
 have hn := hk.next
 cases h with
 | room h1 h2 h3 h4 h5 => exact .room h1 (by omega) (by rw [hk.obj _ h2 (hM _ rfl)]; exact h3) h4 h5
 | full h1 h2 h3 h4 h5 h6 h7 => exact .full h1 (by omega) (by rw [hk.obj _ h2 (hM _ rfl)]; exact h3) h4 h5 h6 h7
theorem Stk.notBot {lo : Nat} {H : AHeap} {v : AVal} {cs : List AVal} (h : Stk lo H v cs) : notBot v = some v := by
 cases h <;> rfl
theorem Stk.top {lo : Nat} {H : AHeap} {v x : AVal} {cs : List AVal} (h : Stk lo H v (cs ++ [x])) : ∃ id off,aindexAddrS 1 v (.int .i64 (cs.length : Int)) = some (.ptr id off) ∧ id < H.next ∧ (bnd (cellsOf (H.obj id)) fun c => c[off]?) = some x := by
 have key : ∀ (id len : Nat) (c : List AVal) (cap : ACap),H.obj id = some (.cells c true) → len ≤ c.length → cs ++ [x] = c.take len → id < H.next → ∃ id' off,aindexAddrS 1 (.slice id 0 len cap) (.int .i64 (cs.length : Int)) = some (.ptr id' off) ∧ id' < H.next ∧ (bnd (cellsOf (H.obj id')) fun c => c[off]?) = some x := by
  intro id len c cap ho hlen hc hid
  have hl : cs.length + 1 = min len c.length := by simpa using congrArg List.length hc
  refine ⟨id,cs.length,?_,hid,?_⟩
  ·simp only [aindexAddrS]
   rw [if_pos ⟨by omega,by omega⟩]
   simp
  ·rw [ho]
   simp only [cellsOf,bnd]
   have : (c.take len)[cs.length]? = some x := by rw [← hc]; simp
   rw [List.getElem?_take] at this
   split at this
   ·exact this
   ·cases this
 cases h with
 | room h1 h2 h3 h4 h5 => exact key _ _ _ _ h3 h4 h5 h2
 | full h1 h2 h3 h4 h5 h6 h7 => exact key _ _ _ _ h3 h4 h7 h2
theorem Stk.push {lo : Nat} {H : AHeap} {v x : AVal} {cs vs : List AVal} (h : Stk lo H v cs) (hx : taken H 1 x = some (2,vs)) (hvs : vs.length = 2) (hlen : cs.length ≤ 10000) :
  ∃ H',aappend H 1 8 v x = some (.slice H.next 0 (cs.length + 2) (.room 1),H') ∧ Keep (fun j => sid v = some j) H H' ∧ Stk lo H' (.slice H.next 0 (cs.length + 2) (.room 1)) (cs ++ vs) := by
 cases h with
 | @room id len c cs' h1 h2 h3 h4 h5 =>
  have hl : cs.length = len := by subst h5; simp; omega
  subst hl
  have hcut : (c.drop 0).take (cs.length * 1) = cs := by simpa using h5.symm
  refine ⟨(H.upd id none).new (.cells (cs ++ vs) true),?_,((Keep.refl (fun j => sid (AVal.slice id 0 cs.length (.room 1)) = some j) _).upd (.inr rfl) _).new _,.room (by omega) (by simp only [next_new,next_upd]; omega) (obj_new_eq rfl) (by simp; omega) (by rw [List.take_of_length_le (by simp; omega)])⟩
  simp only [aappend,hx,bnd,rw?_of,h3,ownCellsOf]
  rw [if_neg (by omega),if_pos (by omega)]
  by_cases he : 0 + cs.length * 1 = c.length
  ·rw [if_pos ⟨trivial,he,by omega⟩]
   rw [List.take_of_length_le (by simp; omega)] at hcut
   rw [hcut]
  ·rw [if_neg (fun h => he h.2.1),if_pos ⟨trivial,by omega,by omega⟩,hcut]
 | @full id len n c cs' h1 h2 h3 h4 h5 h6 h7 =>
  have hl : cs.length = len := by subst h7; simp; omega
  subst hl
  have hcut : (c.drop 0).take (cs.length * 1) = cs := by simpa using h7.symm
  refine ⟨H.new (.cells (cs ++ vs) true),?_,(Keep.refl _ _).new _,.room (by omega) (by simp only [next_new]; omega) (obj_new_eq rfl) (by simp; omega) (by rw [List.take_of_length_le (by simp; omega)])⟩
  have htk : taken H 1 (.slice id 0 cs.length (.exact n)) = some (cs.length,cs) := by
   simp only [taken,cells?_of,h3,cellsOf,bnd]
   rw [if_pos (by omega),hcut]
  simp only [aappend,hx,bnd,htk]
  rw [if_neg (by omega),if_pos (by omega),if_neg (by omega)]
end Go.Proofs.YtknhlpmmalcchaaGreat

namespace Go.Proofs.YtknhlpmmalcchaaGreat
open Go Go.VAI
set_option linter.unusedSimpArgs false

end Go.Proofs.YtknhlpmmalcchaaGreat

namespace Go.Proofs.YtknhlpmmalcchaaGreat
open Go Go.VAI
set_option linter.unusedSimpArgs false

theorem idx_built {N : Nat} {es : List Edge} (h : NetOk N es) : OrderOk N (orderAll N es) ∧ ∃ cur ex,Built N es (orderAll N es) ⟨(idxOf N es).rank,(idxOf N es).arcs,(idxOf N es).up,(idxOf N es).down⟩ cur ex := by
 refine ⟨orderOf_ok N es _,?_⟩
 exact built (l := orderAll N es) (fun e he => by
  obtain ⟨a1,a2,a3,a4⟩ := h.2.2.2 e he
  exact ⟨a1,a2,a3,a4.1⟩) (orderOf_ok N es _)

theorem arc_flds {H : AHeap} {v : AVal} {es : List Arc} (h : Row H v 7 (arcCells es)) {i : Nat} {e : Arc} (he : es[i]? = some e) : ∃ id off,aindexAddrS 7 v (.int .i64 (i : Int)) = some (.ptr id off) ∧ id < H.next ∧
  (bnd (cellsOf (H.obj id)) fun c => c[off]?) = some (.int .i64 e.src) ∧ (bnd (cellsOf (H.obj id)) fun c => c[off + 1]?) = some (.int .i64 e.dst) ∧ (bnd (cellsOf (H.obj id)) fun c => c[off + 2]?) = some (.int .i64 e.mode) ∧ (bnd (cellsOf (H.obj id)) fun c => c[off + 3]?) = some (.int .i64 e.cost) ∧
  (bnd (cellsOf (H.obj id)) fun c => c[off + 4]?) = some (.int .i64 e.edge) ∧ (bnd (cellsOf (H.obj id)) fun c => c[off + 5]?) = some (.int .i64 e.a) ∧ (bnd (cellsOf (H.obj id)) fun c => c[off + 6]?) = some (.int .i64 e.b) ∧
  (bnd (cellsOf (H.obj id)) fun c => if off + 7 ≤ c.length then some (AVal.agg ((c.drop off).take 7)) else none) = some (AVal.agg [.int .i64 e.src,.int .i64 e.dst,.int .i64 e.mode,.int .i64 e.cost,.int .i64 e.edge,.int .i64 e.a,.int .i64 e.b]) := by
 have hi := (List.getElem?_eq_some_iff.1 he).1
 obtain ⟨id,off,c,h1,h2,h3,h4,h5⟩ := h.at (j := i) (k := .i64) (by omega) (by omega) (by rw [arcCells_length,Int.toNat_natCast]; omega)
 rw [Int.toNat_natCast,arc_drop es i e he] at h5
 rw [cells?_of] at h3
 refine ⟨id,off,h1,h2,?_⟩
 simp only [h3,bnd,if_pos h4,h5]
 exact ⟨cell_at (f := 0) h5 rfl,cell_at (f := 1) h5 rfl,cell_at (f := 2) h5 rfl,cell_at (f := 3) h5 rfl,cell_at (f := 4) h5 rfl,cell_at (f := 5) h5 rfl,cell_at (f := 6) h5 rfl,rfl⟩

end Go.Proofs.YtknhlpmmalcchaaGreat

namespace Go.Proofs.YtknhlpmmalcchaaGreat
open Go Go.VAI
set_option linter.unusedSimpArgs false

def lineC (cs : List Int) (i : Nat) : Int := if i < cs.length then cs.getD i 0 % 50 else i
def lineEs (cs : List Int) (j : Nat) : List Edge := (List.range j).flatMap fun (i : Nat) => [⟨i,(i : Int) + 1,1,lineC cs i⟩,⟨(i : Int) + 1,i,1,lineC cs i⟩]
def lineS (cs : List Int) : Nat → Int
 | 0 => 0
 | j + 1 => lineS cs j + lineC cs j
def lineSums (cs : List Int) (j : Nat) : List Int := (List.range j).map (lineS cs)
theorem lineEs_succ (cs : List Int) (j : Nat) : lineEs cs (j + 1) = lineEs cs j ++ [⟨j,(j : Int) + 1,1,lineC cs j⟩,⟨(j : Int) + 1,j,1,lineC cs j⟩] := by simp [lineEs,List.range_succ]
theorem lineEs_length (cs : List Int) : ∀ j,(lineEs cs j).length = 2 * j
 | 0 => rfl
 | j + 1 => by rw [lineEs_succ,List.length_append,lineEs_length cs j]; simp; omega
theorem lineSums_succ (cs : List Int) (j : Nat) : lineSums cs (j + 1) = lineSums cs j ++ [lineS cs j] := by simp [lineSums,List.range_succ]
theorem lineSums_length (cs : List Int) (j : Nat) : (lineSums cs j).length = j := by simp [lineSums]
theorem lineC_bd (cs : List Int) {i : Nat} (h : i ≤ 60) : 0 ≤ lineC cs i ∧ lineC cs i ≤ 60 := by
 unfold lineC
 split <;> omega
theorem lineS_bd (cs : List Int) : ∀ j,j ≤ 60 → 0 ≤ lineS cs j ∧ lineS cs j ≤ 60 * j
 | 0,_ => by simp [lineS]
 | j + 1,h => by
  have h1 := lineS_bd cs j (by omega)
  have h2 := lineC_bd cs (i := j) (by omega)
  simp only [lineS]
  omega
theorem lineEs_mem {cs : List Int} {j : Nat} {e : Edge} : e ∈ lineEs cs j ↔ ∃ i : Nat,i < j ∧ (e = ⟨i,(i : Int) + 1,1,lineC cs i⟩ ∨ e = ⟨(i : Int) + 1,i,1,lineC cs i⟩) := by
 simp [lineEs]
theorem line_net {cs : List Int} {K : Nat} (h2 : 2 ≤ K) (h21 : K ≤ 21) : NetOk K (lineEs cs (K - 1)) := by
 refine ⟨by omega,by omega,by rw [lineEs_length]; omega,fun e he => ?_⟩
 obtain ⟨i,hi,rfl | rfl⟩ := lineEs_mem.1 he
 ·have := lineC_bd cs (i := i) (by omega)
  exact ⟨⟨by simp only; omega,by simp only; omega⟩,⟨by simp only; omega,by simp only; omega⟩,⟨by simp only; omega,by simp only; omega⟩,⟨by simp only; omega,by simp only; omega⟩⟩
 ·have := lineC_bd cs (i := i) (by omega)
  exact ⟨⟨by simp only; omega,by simp only; omega⟩,⟨by simp only; omega,by simp only; omega⟩,⟨by simp only; omega,by simp only; omega⟩,⟨by simp only; omega,by simp only; omega⟩⟩
theorem ways_one (v : Int) : ∀ (es : List Edge) (a : Nat),(∀ e ∈ es,e.mode = 1) → a = 0 ∨ a = 2 → ways v es a = 0 ∨ ways v es a = 2
 | [],a,_,h => h
 | e :: l,a,hm,h => by
  have ih := ways_one v l
  unfold ways at ih ⊢
  rw [List.foldl_cons]
  refine ih _ (fun e he => hm e (List.mem_cons_of_mem _ he)) ?_
  rw [hm e List.mem_cons_self]
  split
  ·rcases h with rfl | rfl
   ·exact .inr rfl
   ·exact .inr rfl
  ·exact h
theorem link_one {es : List Edge} (hm : ∀ e ∈ es,e.mode = 1) (v : Nat) : linkB es v = false := by
 have hm5 : ∀ e ∈ es,0 ≤ e.mode ∧ e.mode < 5 := fun e he => by rw [hm e he]; omega
 rw [linkB_eq hm5]
 obtain ⟨w1,w2⟩ := ways_eq (v : Int) es 0 hm5 (by decide)
 have h1' : es.foldl (fun s e => if e.src = (v : Int) ∨ e.dst = (v : Int) then orI .i64 s (shlI .i64 1 e.mode) else s) 0 = ((ways (v : Int) es 0 : Nat) : Int) := w1
 unfold linkAt modesOf
 rw [h1']
 rcases ways_one (v : Int) es 0 hm (.inl rfl) with h | h <;> rw [h] <;> decide
theorem line_goes {cs : List Int} {K : Nat} (h2 : 2 ≤ K) : rkB (lineEs cs (K - 1)) K ≠ [] := by
 intro h
 have hm : ∀ e ∈ lineEs cs (K - 1),e.mode = 1 := fun e he => by
  obtain ⟨i,_,rfl | rfl⟩ := lineEs_mem.1 he <;> rfl
 have : (((0 : Nat) : Int),dgB (lineEs cs (K - 1)) 0) ∈ rkB (lineEs cs (K - 1)) K := by
  unfold rkB
  exact List.mem_map.2 ⟨0,List.mem_filter.2 ⟨List.mem_range.2 (by omega),by rw [link_one hm]; rfl⟩,rfl⟩
 rw [h] at this
 simp at this
theorem walk_pot {es : List Edge} {m : Int} {S : Int → Int} (hS : ∀ e ∈ es,S e.src - S e.dst ≤ e.cost ∧ S e.dst - S e.src ≤ e.cost) : ∀ {l : List Int} {x y c : Int},Walk es m x l y c → S x - S y ≤ c ∧ S y - S x ≤ c
 | [],x,y,c,h => by
  obtain ⟨rfl,rfl⟩ := h
  omega
 | k :: l,x,y,c,h => by
  obtain ⟨e,e1,e2,e3,e4,h⟩ := h
  have h1 := hS e (List.mem_of_getElem? e1)
  have h2 := walk_pot hS h
  rw [e3] at h1
  omega
theorem line_pot (cs : List Int) (K : Nat) : ∀ e ∈ lineEs cs K,lineS cs e.src.toNat - lineS cs e.dst.toNat ≤ e.cost ∧ lineS cs e.dst.toNat - lineS cs e.src.toNat ≤ e.cost := by
 intro e he
 obtain ⟨i,hi,rfl | rfl⟩ := lineEs_mem.1 he
 ·have h1 : ((i : Int) + 1).toNat = i + 1 := by omega
  have h2 : lineS cs (i + 1) = lineS cs i + lineC cs i := rfl
  have h3 : 0 ≤ lineC cs i := by unfold lineC; split <;> omega
  simp only [h1,Int.toNat_natCast]
  omega
 ·have h1 : ((i : Int) + 1).toNat = i + 1 := by omega
  have h2 : lineS cs (i + 1) = lineS cs i + lineC cs i := rfl
  have h3 : 0 ≤ lineC cs i := by unfold lineC; split <;> omega
  simp only [h1,Int.toNat_natCast]
  omega
theorem amax_two {a b : Int} : afolds amax2 [.int .i64 a,.int .i64 b] = some (.int .i64 (if b > a then b else a)) := rfl
set_option maxRecDepth 20000 in
set_option maxHeartbeats 8000000 in
theorem hierLine_ret {n : Int} {cv : AVal} {cs : List Int} {H : AHeap} (_ : I64 n) (hr : Row H cv 1 (ints cs)) (hx : ∀ x ∈ cs,I64 x) (hx2 : cs.length ≤ 9223372036854775807) :
  Ret A 4 [.int .i64 n,cv] H (fun v _ => v = .bool true) := by
 refine Ret.of (fn := F4) rfl ?_
 simp (disch := first | omega | (simp only [nx] <;> omega) | fail) only [vaw,F4,Nat.reduceAdd,Nat.reduceMul,Nat.reduceLeDiff,Nat.reduceEqDiff,↓reduceIte]
 refine known47_ret fun H1 k1 => ?_
 simp (disch := first | omega | (simp only [nx] <;> omega) | fail) only [vaw,Bool.not_true,Nat.reduceAdd,Nat.reduceMul,Nat.reduceLeDiff,Nat.reduceEqDiff,↓reduceIte]
 refine within_ret (f := 12) (n := 20) rfl (by omega) (by omega) ?_
 obtain ⟨k,hk⟩ : ∃ k : Nat,n % 20 = k := ⟨(n % 20).toNat,by omega⟩
 rw [hk]
 obtain ⟨K,hK⟩ : ∃ K : Nat,K = k + 2 := ⟨_,rfl⟩
 have hK2 : (2 : Int) + k = (K : Nat) := by omega
 have hK21 : K ≤ 21 := by omega
 simp (disch := first | omega | (simp only [nx] <;> omega) | fail) only [vaw,hK2,Nat.reduceAdd,Nat.reduceMul,Nat.reduceLeDiff,Nat.reduceEqDiff,↓reduceIte]
 have kB : Keep Nothing H1 ((H1.new (.cells [.int .i64 0,.nilSlice] true)).upd H1.next (some (.cells [.int .i64 K,.nilSlice] true))) := ((Keep.refl _ _).new _).upd (.inl (Nat.le_refl _)) _
 have oB : ((H1.new (.cells [.int .i64 0,.nilSlice] true)).upd H1.next (some (.cells [.int .i64 K,.nilSlice] true))).obj H1.next = some (.cells [.int .i64 K,.nilSlice] true) := obj_upd_eq rfl
 have nB : ((H1.new (.cells [.int .i64 0,.nilSlice] true)).upd H1.next (some (.cells [.int .i64 K,.nilSlice] true))).next = H1.next + 1 := rfl
 generalize (H1.new (.cells [.int .i64 0,.nilSlice] true)).upd H1.next (some (.cells [.int .i64 K,.nilSlice] true)) = HB at *
 have hr1 := hr.kept k1
 have lcv := hr.len1
 rw [ints_length] at lcv
 obtain ⟨p,hp⟩ : ∃ p,p = H1.next := ⟨_,rfl⟩
 rw [← hp] at oB ⊢
 refine wpx_loop (fun m t H' => ∃ (i : Nat) (nv sv : AVal),m = K - 1 - i ∧ i + 1 ≤ K ∧ t = (bots 1 (cv :: bots 3 (.int .i64 K :: .ptr p 0 :: sv :: .int .i64 (lineS cs i) :: .int .i64 i :: bots 103 ([]))) : Tmps) ∧ Keep Nothing H1 H' ∧ p + 1 ≤ H'.next ∧ H'.obj p = some (.cells [.int .i64 K,nv] true) ∧ Own (p + 1) H' nv 4 (edgeCells (lineEs cs i)) ∧ Own (p + 1) H' sv 1 (ints (lineSums cs i)) ∧ (∀ j,sid nv = some j → sid sv ≠ some j)) (K - 1) ?_ ?_
 ·exact ⟨0,.nilSlice,.nilSlice,rfl,by omega,rfl,kB,by omega,oB,.nil,.nil,fun j hj => by cases hj⟩
 ·clear oB
  rintro m t H3 ⟨i,nv,sv,rfl,hi,rfl,k3,n3,o3,g3,u3,d3⟩
  have hcb := lineC_bd cs (i := i) (by omega)
  have hsb := lineS_bd cs i (by omega)
  by_cases hc : (i : Int) + 1 < K
  ·by_cases hcs : (i : Int) < cs.length
   ·obtain ⟨x,hxi⟩ : ∃ x,cs[i]? = some x := ⟨_,List.getElem?_eq_getElem (by omega)⟩
    have hcv : x % 50 = lineC cs i := by
     unfold lineC
     rw [if_pos (by omega),List.getD_eq_getElem?_getD,hxi]
     rfl
    obtain ⟨ic,oc,z1,z2,z3⟩ := (hr1.kept k3).int_at (k := .i64) hxi
    simp (disch := first | omega | (simp only [nx] <;> omega) | fail) only [vaw,hc,lcv,hcs,z1,z3,Nat.reduceAdd,Nat.reduceMul,Nat.reduceLeDiff,Nat.reduceEqDiff,↓reduceIte]
    refine within_ret (f := 12) (n := 50) rfl (by omega) (by omega) ?_
    simp (disch := first | omega | (simp only [nx] <;> omega) | fail) only [vaw,hcv,o3,Nat.reduceAdd,Nat.reduceMul,Nat.reduceLeDiff,Nat.reduceEqDiff,↓reduceIte]
    refine app_ret (n := 2 * i) (k := 2) g3 (by simp (disch := first | omega | (simp only [nx] <;> omega) | fail) only [vaim]; rfl) rfl (by omega) (by omega) (by rw [edgeCells_length,lineEs_length]) (by omega) (by omega) ?_
    intro v6 H6 n6 k6 g6 s6
    simp only [next_new,next_upd] at n6 k6
    have q3 : H6.obj p = some (.cells [.int .i64 K,nv] true) := by
     rw [k6 _ (by omega) (fun e => by have := (g3.sid_ge e).1; omega)]
     simp (disch := first | omega | (simp only [nx] <;> omega) | fail) only [vaim,o3]
    have u6 : Own (p + 1) H6 sv 1 (ints (lineSums cs i)) := u3.keepM (M := fun j => sid nv = some j) ⟨by omega,fun j hj hm => by
     rw [k6 j (by omega) hm]
     simp (disch := first | omega | (simp only [nx] <;> omega) | fail) only [vaim]⟩ (fun j hj hm => d3 j hm hj)
    have kk6 : Keep Nothing H1 H6 := ⟨by omega,fun j hj _ => by
     rw [k6 j (by omega) (fun e => by have := (g3.sid_ge e).1; omega)]
     simp (disch := first | omega | (simp only [nx] <;> omega) | fail) only [vaim]
     exact k3.old hj⟩
    have c6 := g6.cells
    simp (disch := first | omega | (simp only [nx] <;> omega) | fail) only [vaw,q3,c6,Nat.reduceAdd,Nat.reduceMul,Nat.reduceLeDiff,Nat.reduceEqDiff,↓reduceIte]
    obtain ⟨y,hy1,hy2⟩ := s6
    simp only [next_new] at hy2
    have gU := g6.own.upd (id := p) (fun j hj => by have := (g6.own.sid_ge hj).1; omega) (some (.cells [.int .i64 K,v6] true))
    have uU := u6.upd (id := p) (fun j hj => by have := (u6.sid_ge hj).1; omega) (some (.cells [.int .i64 K,v6] true))
    have oU : (H6.upd p (some (.cells [.int .i64 K,v6] true))).obj p = some (.cells [.int .i64 K,v6] true) := obj_upd_eq rfl
    have kkU : Keep Nothing H1 (H6.upd p (some (.cells [.int .i64 K,v6] true))) := kk6.upd (.inl (by omega)) _
    have nU : (H6.upd p (some (.cells [.int .i64 K,v6] true))).next = H6.next := rfl
    generalize H6.upd p (some (.cells [.int .i64 K,v6] true)) = HU at *
    refine app_ret (n := i) (k := 1) uU (by simp (disch := first | omega | (simp only [nx] <;> omega) | fail) only [vaim]; rfl) rfl (by omega) (by omega) (by rw [ints_length,lineSums_length]; omega) (by omega) (by omega) ?_
    intro v8 H8 n8 k8 g8 s8
    simp only [next_new] at n8 k8
    simp (disch := first | omega | (simp only [nx] <;> omega) | fail) only [vaw,g8.notBot,Nat.reduceAdd,Nat.reduceMul,Nat.reduceLeDiff,Nat.reduceEqDiff,↓reduceIte]
    obtain ⟨y8,hz1,hz2⟩ := s8
    simp only [next_new] at hz2
    have kE : Keep (fun j => sid sv = some j) HU H8 := ⟨by omega,fun j hj hm => by
     rw [k8 j (by omega) hm]
     simp (disch := first | omega | (simp only [nx] <;> omega) | fail) only [vaim]⟩
    have hsu := fun j (hj : sid sv = some j) => uU.sid_ge hj
    have hu3 := fun j (hj : sid sv = some j) => u3.sid_ge hj
    refine ⟨K - 1 - (i + 1),by omega,i + 1,v6,v8,rfl,by omega,?_,kkU.trans' kE (fun j hj hm => by have := (hsu j hm).1; omega),by omega,?_,?_,?_,?_⟩
    ·rw [show lineS cs (i + 1) = lineS cs i + lineC cs i from by show lineS cs i + lineC cs i = _; rw [show lineC cs i = lineC cs i from rfl]]
     rfl
    ·rw [kE.obj p (by omega) (fun e => by have := (hsu _ e).1; omega)]
     exact oU
    ·have hcells : edgeCells (lineEs cs (i + 1)) = edgeCells (lineEs cs i) ++ [.int .i64 i,.int .i64 ((i : Int) + 1),.int .i64 1,.int .i64 (lineC cs i),.int .i64 ((i : Int) + 1),.int .i64 i,.int .i64 1,.int .i64 (lineC cs i)] := by
      rw [lineEs_succ,show lineC cs i = lineC cs i from rfl]
      simp [edgeCells,Edge.cells]
     rw [hcells]
     exact gU.keepM kE (fun j hj hm => by have h1 := (hu3 j hm).2; rw [hy1] at hj; injection hj with hj; omega)
    ·rw [lineSums_succ,ints_append]
     exact g8.own
    ·intro j hj hj2
     rw [hy1] at hj
     rw [hz1] at hj2
     injection hj with hj
     injection hj2 with hj2
     have := (gU.sid_ge hy1).2
     omega
   ·have hcv : lineC cs i = (i : Int) := by
     unfold lineC
     rw [if_neg (by omega)]
    simp (disch := first | omega | (simp only [nx] <;> omega) | fail) only [vaw,hc,lcv,hcs,o3,Nat.reduceAdd,Nat.reduceMul,Nat.reduceLeDiff,Nat.reduceEqDiff,↓reduceIte]
    refine app_ret (n := 2 * i) (k := 2) g3 (by simp (disch := first | omega | (simp only [nx] <;> omega) | fail) only [vaim]; rfl) rfl (by omega) (by omega) (by rw [edgeCells_length,lineEs_length]) (by omega) (by omega) ?_
    intro v6 H6 n6 k6 g6 s6
    simp only [next_new,next_upd] at n6 k6
    have q3 : H6.obj p = some (.cells [.int .i64 K,nv] true) := by
     rw [k6 _ (by omega) (fun e => by have := (g3.sid_ge e).1; omega)]
     simp (disch := first | omega | (simp only [nx] <;> omega) | fail) only [vaim,o3]
    have u6 : Own (p + 1) H6 sv 1 (ints (lineSums cs i)) := u3.keepM (M := fun j => sid nv = some j) ⟨by omega,fun j hj hm => by
     rw [k6 j (by omega) hm]
     simp (disch := first | omega | (simp only [nx] <;> omega) | fail) only [vaim]⟩ (fun j hj hm => d3 j hm hj)
    have kk6 : Keep Nothing H1 H6 := ⟨by omega,fun j hj _ => by
     rw [k6 j (by omega) (fun e => by have := (g3.sid_ge e).1; omega)]
     simp (disch := first | omega | (simp only [nx] <;> omega) | fail) only [vaim]
     exact k3.old hj⟩
    have c6 := g6.cells
    simp (disch := first | omega | (simp only [nx] <;> omega) | fail) only [vaw,q3,c6,Nat.reduceAdd,Nat.reduceMul,Nat.reduceLeDiff,Nat.reduceEqDiff,↓reduceIte]
    obtain ⟨y,hy1,hy2⟩ := s6
    simp only [next_new] at hy2
    have gU := g6.own.upd (id := p) (fun j hj => by have := (g6.own.sid_ge hj).1; omega) (some (.cells [.int .i64 K,v6] true))
    have uU := u6.upd (id := p) (fun j hj => by have := (u6.sid_ge hj).1; omega) (some (.cells [.int .i64 K,v6] true))
    have oU : (H6.upd p (some (.cells [.int .i64 K,v6] true))).obj p = some (.cells [.int .i64 K,v6] true) := obj_upd_eq rfl
    have kkU : Keep Nothing H1 (H6.upd p (some (.cells [.int .i64 K,v6] true))) := kk6.upd (.inl (by omega)) _
    have nU : (H6.upd p (some (.cells [.int .i64 K,v6] true))).next = H6.next := rfl
    generalize H6.upd p (some (.cells [.int .i64 K,v6] true)) = HU at *
    refine app_ret (n := i) (k := 1) uU (by simp (disch := first | omega | (simp only [nx] <;> omega) | fail) only [vaim]; rfl) rfl (by omega) (by omega) (by rw [ints_length,lineSums_length]; omega) (by omega) (by omega) ?_
    intro v8 H8 n8 k8 g8 s8
    simp only [next_new] at n8 k8
    simp (disch := first | omega | (simp only [nx] <;> omega) | fail) only [vaw,g8.notBot,Nat.reduceAdd,Nat.reduceMul,Nat.reduceLeDiff,Nat.reduceEqDiff,↓reduceIte]
    obtain ⟨y8,hz1,hz2⟩ := s8
    simp only [next_new] at hz2
    have kE : Keep (fun j => sid sv = some j) HU H8 := ⟨by omega,fun j hj hm => by
     rw [k8 j (by omega) hm]
     simp (disch := first | omega | (simp only [nx] <;> omega) | fail) only [vaim]⟩
    have hsu := fun j (hj : sid sv = some j) => uU.sid_ge hj
    have hu3 := fun j (hj : sid sv = some j) => u3.sid_ge hj
    refine ⟨K - 1 - (i + 1),by omega,i + 1,v6,v8,rfl,by omega,?_,kkU.trans' kE (fun j hj hm => by have := (hsu j hm).1; omega),by omega,?_,?_,?_,?_⟩
    ·rw [show lineS cs (i + 1) = lineS cs i + (i : Int) from by show lineS cs i + lineC cs i = _; rw [hcv]]
     rfl
    ·rw [kE.obj p (by omega) (fun e => by have := (hsu _ e).1; omega)]
     exact oU
    ·have hcells : edgeCells (lineEs cs (i + 1)) = edgeCells (lineEs cs i) ++ [.int .i64 i,.int .i64 ((i : Int) + 1),.int .i64 1,.int .i64 ((i : Int)),.int .i64 ((i : Int) + 1),.int .i64 i,.int .i64 1,.int .i64 ((i : Int))] := by
      rw [lineEs_succ,hcv]
      simp [edgeCells,Edge.cells]
     rw [hcells]
     exact gU.keepM kE (fun j hj hm => by have h1 := (hu3 j hm).2; rw [hy1] at hj; injection hj with hj; omega)
    ·rw [lineSums_succ,ints_append]
     exact g8.own
    ·intro j hj hj2
     rw [hy1] at hj
     rw [hz1] at hj2
     injection hj with hj
     injection hj2 with hj2
     have := (gU.sid_ge hy1).2
     omega
  ·have : i + 1 = K := by omega
   simp (disch := first | omega | (simp only [nx] <;> omega) | fail) only [vaw,hc,Nat.reduceAdd,Nat.reduceMul,Nat.reduceLeDiff,Nat.reduceEqDiff,↓reduceIte]
   refine app_ret (n := i) (k := 1) u3 (by simp (disch := first | omega | (simp only [nx] <;> omega) | fail) only [vaim]; rfl) rfl (by omega) (by omega) (by rw [ints_length,lineSums_length]; omega) (by omega) (by omega) ?_
   intro v8 H8 n8 k8 g8 s8
   simp only [next_new] at n8 k8
   have kE : Keep (fun j => sid sv = some j) H3 H8 := ⟨by omega,fun j hj hm => by
    rw [k8 j (by omega) hm]
    simp (disch := first | omega | (simp only [nx] <;> omega) | fail) only [vaim]⟩
   have hu3 := fun j (hj : sid sv = some j) => u3.sid_ge hj
   have o8 := (kE.obj p (by omega) (fun e => by have := (hu3 _ e).1; omega)).trans o3
   have g38 := g3.keepM kE (fun j hj hm => d3 j hj hm)
   have hKi : K - 1 = i := by omega
   have hnet := line_net (cs := cs) (K := K) (by omega) hK21
   have hgo := line_goes (cs := cs) (K := K) (by omega)
   rw [hKi] at hnet hgo
   have hsums : lineSums cs K = lineSums cs i ++ [lineS cs i] := by rw [← this,lineSums_succ]
   have g8' : Own (p + 1) H8 v8 1 (ints (lineSums cs K)) := by rw [hsums,ints_append]; exact g8.own
   have hpot := line_pot cs i
   have hsb2 := fun (u : Nat) (hu : u < K) => lineS_bd cs u (by omega)
   simp (disch := first | omega | (simp only [nx] <;> omega) | fail) only [vaw,g8.notBot,o8,Nat.reduceAdd,Nat.reduceMul,Nat.reduceLeDiff,Nat.reduceEqDiff,↓reduceIte]
   generalize lineEs cs i = es at *
   refine hbuild_ret (N := K) g38.row hnet hK21 hgo fun ew rv av uv dv H9 k9 h9 => ?_
   have o9 := (k9.old (by omega)).trans o8
   have n9 := k9.next
   have hal := idx_allowed hnet hK21
   obtain ⟨sh1,sh2⟩ := allowed_short hal
   obtain ⟨sh3,sh4,sh5,sh6,sh7,sh8⟩ := sh1
   obtain ⟨hlo,cur,ex,hb⟩ := idx_built hnet
   have hrkl : (idxOf K es).rank.length = K := hb.rankLen
   have hgood := hb.good
   have hac := hal.count
   have hcost := fun i a ha => (hal.arcs i a ha).1
   have be := g38.beq
   simp (disch := first | omega | (simp only [nx] <;> omega) | fail) only [vaw,Nat.reduceAdd,Nat.reduceMul,Nat.reduceLeDiff,Nat.reduceEqDiff,↓reduceIte]
   have kC : Keep Nothing H9 ((H9.new (.cells [.int .i64 0,.nilSlice,.nilSlice,.nilSlice,.nilSlice,.nilSlice] true)).upd H9.next (some (.cells [.int .i64 K,ew,rv,av,uv,dv] true))) := ((Keep.refl _ _).new _).upd (.inl (Nat.le_refl _)) _
   have oC : ((H9.new (.cells [.int .i64 0,.nilSlice,.nilSlice,.nilSlice,.nilSlice,.nilSlice] true)).upd H9.next (some (.cells [.int .i64 K,ew,rv,av,uv,dv] true))).obj H9.next = some (.cells [.int .i64 K,ew,rv,av,uv,dv] true) := obj_upd_eq rfl
   have nC : ((H9.new (.cells [.int .i64 0,.nilSlice,.nilSlice,.nilSlice,.nilSlice,.nilSlice] true)).upd H9.next (some (.cells [.int .i64 K,ew,rv,av,uv,dv] true))).next = H9.next + 1 := rfl
   generalize (H9.new (.cells [.int .i64 0,.nilSlice,.nilSlice,.nilSlice,.nilSlice,.nilSlice] true)).upd H9.next (some (.cells [.int .i64 K,ew,rv,av,uv,dv] true)) = HC at *
   have hix := h9.idx.kept kC
   have hbq := hix.beq (n := (K : Int))
   have gC := (g38.kept k9).kept kC
   have sC := (g8'.kept k9).kept kC
   have oN := (kC.old (by omega)).trans o9
   refine refcheck_ret hix (by omega) sh7 sh8 fun b HD kD sD => ?_
   have := sD.2 hal
   subst this
   have nD := kD.next
   have oND := (kD.old (by omega)).trans oN
   have oCD := (kD.old (by omega)).trans oC
   simp (disch := first | omega | (simp only [nx] <;> omega) | fail) only [vaw,vaij,oND,oCD,Nat.reduceAdd,Nat.reduceMul,Nat.reduceLeDiff,Nat.reduceEqDiff,↓reduceIte]
   refine build_ret (gC.kept kD).row hnet hK21 fun ew2 rv2 av2 uv2 dv2 HE kE2 hE => ?_
   have nE := kE2.next
   have oCE := (kE2.old (by omega)).trans oCD
   simp (disch := first | omega | (simp only [nx] <;> omega) | fail) only [vaw,vaij,oCE,reK_same hbq,Nat.reduceAdd,Nat.reduceMul,Nat.reduceLeDiff,Nat.reduceEqDiff,↓reduceIte]
   refine same_ret ((hix.kept kD).kept kE2) hE ⟨sh3,sh4,sh5,sh6,sh7,sh8⟩ sh2 fun b HF kF sF => ?_
   have := sF.2 rfl
   subst this
   simp (disch := first | omega | (simp only [nx] <;> omega) | fail) only [vaw,vaij,Bool.not_true,Nat.reduceAdd,Nat.reduceMul,Nat.reduceLeDiff,Nat.reduceEqDiff,↓reduceIte]
   have oCF := (kF.old (by omega)).trans oCE
   have nF := kF.next
   have iA := ((hix.arcs.kept kD).kept kE2).kept kF
   have uF := ((sC.kept kD).kept kE2).kept kF
   have hga := fun (i : Nat) a l => hgood.walk i a l
   have hge := fun (i : Nat) a => hgood.ends i a
   have hexl := hgood.exLen
   simp only at hga hge hexl
   generalize (idxOf K es).arcs = arcs at *
   generalize H9.next = q at *
   refine wpx_loop (fun m t H' => ∃ (i : Nat),m = arcs.length - i ∧ i ≤ arcs.length ∧ t = (bots 7 (v8 :: bots 3 (.ptr q 0 :: .int .i64 i :: bots 100 ([]))) : Tmps) ∧ Keep Nothing HF H') arcs.length ?_ ?_
   ·exact ⟨0,rfl,by omega,rfl,.refl _ _⟩
   ·rintro m t HG ⟨j,rfl,hj,rfl,kG⟩
    have nG := kG.next
    have oCG := (kG.old (by omega)).trans oCF
    have iAG := iA.kept kG
    have uG := (uF.kept kG).row
    have la := iAG.len (n := arcs.length) (by omega) (arcCells_length arcs)
    by_cases hc2 : (j : Int) < arcs.length
    ·have hjl : j < arcs.length := by omega
     obtain ⟨a,ha⟩ : ∃ a,arcs[j]? = some a := ⟨_,List.getElem?_eq_getElem hjl⟩
     obtain ⟨l,hl⟩ : ∃ l,ex[j]? = some l := ⟨_,List.getElem?_eq_getElem (by omega)⟩
     obtain ⟨w1,w2,w3,w4⟩ := hga j a l ha hl
     obtain ⟨e1,e2,e3⟩ := hge j a ha
     have hcj := hcost j a ha
     obtain ⟨u,hu⟩ := Int.eq_ofNat_of_zero_le e1.1
     obtain ⟨v,hv⟩ := Int.eq_ofNat_of_zero_le e2.1
     have hpw := walk_pot (S := fun z => lineS cs z.toNat) hpot w2
     simp only [hu,hv,Int.toNat_natCast] at hpw
     have hbu := hsb2 u (by omega)
     have hbv := hsb2 v (by omega)
     obtain ⟨ia,oa,p1,p2,p3,p4,p5,p6,p7,p8,p9,p10⟩ := arc_flds iAG ha
     rw [hu,hv] at p10
     obtain ⟨i1,f1,x1,x2,x3⟩ := uG.int_at (k := .i64) (j := u) (x := lineS cs u) (by unfold lineSums; rw [List.getElem?_map,List.getElem?_range (by omega)]; rfl)
     obtain ⟨i2,f2,y1,y2,y3⟩ := uG.int_at (k := .i64) (j := v) (x := lineS cs v) (by unfold lineSums; rw [List.getElem?_map,List.getElem?_range (by omega)]; rfl)
     have kH : Keep Nothing HF ((HG.new (.cells [.int .i64 0,.int .i64 0,.int .i64 0,.int .i64 0,.int .i64 0,.int .i64 0,.int .i64 0] true)).upd HG.next (some (.cells [.int .i64 u,.int .i64 v,.int .i64 a.mode,.int .i64 a.cost,.int .i64 a.edge,.int .i64 a.a,.int .i64 a.b] true))) := (kG.new _).upd (.inl (by omega)) _
     by_cases huv : u = v
     ·subst huv
      simp (disch := first | omega | (simp only [nx] <;> omega) | fail) only [vaw,vaij,hc2,la,oCG,p1,p10,x1,x3,ne_eq,not_true_eq_false,Nat.reduceAdd,Nat.reduceMul,Nat.reduceLeDiff,Nat.reduceEqDiff,↓reduceIte]
      exact ⟨arcs.length - (j + 1),by omega,j + 1,rfl,by omega,rfl,kH⟩
     ·have huv' : ¬ (u : Int) = v := by omega
      have hlt : ¬ a.cost < (if 0 - (lineS cs u - lineS cs v) > lineS cs u - lineS cs v then 0 - (lineS cs u - lineS cs v) else lineS cs u - lineS cs v) := by split <;> omega
      simp (disch := first | omega | (simp only [nx] <;> omega) | fail) only [vaw,vaij,hc2,la,oCG,p1,p10,x1,x3,y1,y3,ne_eq,huv',not_false_eq_true,amax_two,hlt,Nat.reduceAdd,Nat.reduceMul,Nat.reduceLeDiff,Nat.reduceEqDiff,↓reduceIte]
      exact ⟨arcs.length - (j + 1),by omega,j + 1,rfl,by omega,rfl,kH⟩
    ·simp (disch := first | omega | (simp only [nx] <;> omega) | fail) only [vaw,hc2,la,oCG,Nat.reduceAdd,Nat.reduceMul,Nat.reduceLeDiff,Nat.reduceEqDiff,↓reduceIte]
end Go.Proofs.YtknhlpmmalcchaaGreat

/- Closed facts of the program: what its head says,read as a list of signs (the kernel is slow at a long text's own signs). -/
namespace Go.Proofs.YtknhlpmmalcchaaGreat
open Go Go.ChangeShapes Go.WideShapes Go.ChangeAt Go.RowKit
set_option maxRecDepth 100000
def headSigns : List Char := List.map Char.ofNat [104,97,114,110,101,115,115,32,49,97,53,53,48,55,99,101,102,48,56,49,55,55,57,50,54,55,54,97,50,57,99,51,49,97,101,102,57,100,102,101,54,57,48,54,54,51,99,55,100,102,102,98,51,102,57,97,101,55,97,100,55,54,99,56,100,98,100,56,55,100,57,97,32,99,117,116,32,97,116,32,109,105,108,101,115,116,111,110,101,47,109,105,108,101,115,116,111,110,101,108,97,119,49,49,46,72,105,101,114,67,104,101,99,107,115,32,109,105,108,101,115,116,111,110,101,47,109,105,108,101,115,116,111,110,101,108,97,119,49,49,46,72,105,101,114,76,105,110,101]
theorem head_eq : Tryz.prog.initOrder = String.ofList headSigns := by kernel_rfl
theorem head_list : Tryz.prog.initOrder.toList = headSigns := by rw [head_eq,String.toList_ofList]
theorem head_words : ∃ rest,behindMainWord (wordsSigns headSigns) = "cut".toList :: rest := ⟨(behindMainWord (wordsSigns headSigns)).tail,by kernel_rfl⟩
theorem strip_cut (rest : List (List Char)) : stripLifts liftWords ("cut".toList :: rest) = ([],"cut".toList :: rest) := by kernel_rfl
theorem ne2 : ("cut".toList == "spec".toList) = false := by kernel_rfl
theorem ne3 : ("cut".toList == "carried".toList) = false := by kernel_rfl
theorem words_of : ∃ rest,behindMainWord (wordsSigns Tryz.prog.initOrder.toList) = "cut".toList :: rest := by
 obtain ⟨rest,h⟩ := head_words
 exact ⟨rest,(congrArg (fun l => behindMainWord (wordsSigns l)) head_list).trans h⟩
theorem make_of (P : Program) (rest : List (List Char)) (h : behindMainWord (wordsSigns P.initOrder.toList) = "cut".toList :: rest) : P.make = some .cut := by
 unfold Program.make
 rw [h]
 simp only [ne1,ne2,beq_self_eq_true,Bool.false_or,Bool.true_or,Bool.or_self,Bool.false_eq_true,if_true,if_false]
theorem lifts_of (P : Program) (rest : List (List Char)) (h : behindMainWord (wordsSigns P.initOrder.toList) = "cut".toList :: rest) : P.liftsFinal = false := by
 unfold Program.liftsFinal Program.headLifts
 rw [h]
 have e : ((some "cut".toList : Option (List Char)) == some "carried".toList) = false := by kernel_rfl
 simp only [strip_cut,List.head?_cons,beq_self_eq_true,if_true,e,Bool.false_and,Bool.false_or]
 rfl
theorem enter_of (P : Program) (rest : List (List Char)) (h : behindMainWord (wordsSigns P.initOrder.toList) = "cut".toList :: rest) (h1 : P.laysLater = false) (h2 : P.bearsReflect = false) (h3 : P.doorFits [] = true) : P.mayEnter = true := by
 unfold Program.mayEnter
 rw [h]
 simp only [strip_cut,ne1,ne2,ne3,h1,h2,h3,List.head?_cons,beq_self_eq_true,Bool.false_or,Bool.or_false,Bool.false_and,Bool.true_and,Bool.and_true,Bool.not_false,Bool.or_true,List.contains_nil]
theorem fact_make : Tryz.prog.make = some .cut := by
 obtain ⟨rest,h⟩ := words_of
 exact make_of _ _ h
theorem fact_lifts : Tryz.prog.liftsFinal = false := by
 obtain ⟨rest,h⟩ := words_of
 exact lifts_of _ _ h
theorem fact_later : Tryz.prog.laysLater = false := by kernel_rfl
theorem fact_reflect : Tryz.prog.bearsReflect = false := by kernel_rfl
theorem fact_door : Tryz.prog.doorFits [] = true := by kernel_rfl
theorem fact_enter : Tryz.prog.mayEnter = true := by
 obtain ⟨rest,h⟩ := words_of
 exact enter_of _ _ h fact_later fact_reflect fact_door
theorem fact_laid : laidOutB Tryz.prog = true := by kernel_rfl
theorem fact_maps : mapsRowed Tryz.prog = true := by kernel_rfl
theorem fact_heard : Tryz.prog.stopsHeard = true := by kernel_rfl
end Go.Proofs.YtknhlpmmalcchaaGreat
