/- Steps of the walk. -/
import Derived.Test.YtknhlpmmalcchaaGreatG3Ta
import Derived.Test.YtknhlpmmalcchaaGreatG3Vba
import Derived.Test.YtknhlpmmalcchaaGreatG3Pa
import Derived.Test.YtknhlpmmalcchaaGreatRows
import Derived.ProofKit
import Derived.Shelf.SlSortCmp.NoneTotal
import Derived.Shelf.SlGeneric
import Derived.Ground.SlsfProg
import Derived.Test.YtknhlpmmalcchaaGreatProg
import Derived.Test.YtknhlpmmalcchaaGreatG3Fa
import Derived.KernelRfl
set_option linter.all false
set_option linter.unusedVariables false
set_option linter.unusedSimpArgs false
namespace Go.Proofs.YtknhlpmmalcchaaGreat
open Go Go.VAI
set_option linter.unusedSimpArgs false

structure BLay (H:AHeap) (b0 b1 b2 b3 b4 u d N:Nat) (es:List Edge) (ev ew rv av:AVal) (cur:List Int) (gone:List Bool) (us ds:List AVal):Prop where
 nbox:H.obj b0=some (.cells [.int .i64 N,ev] true)
 var:H.obj b1=some (.cells [.int .i64 0,.nilSlice,.nilSlice,.nilSlice,.nilSlice,.nilSlice] true)
 lay:Lay H b4 b2 b3 N ew rv av (.slice u 0 N (.exact N)) (.slice d 0 N (.exact N)) cur gone
 upO:H.obj u=some (.cells us true)
 downO:H.obj d=some (.cells ds true)
 usl:us.length=N
 dsl:ds.length=N
 ord:b0 < b1∧b1 < b2∧b2 < b3∧b3 < b4∧b4 < u∧u < d∧d < H.next
 ewid:∀ j,sid ew=some j→b4 < j∧j < u
 edges:Row H ew 4 (xG es)
theorem BLay.upd {H H':AHeap} {b0 b1 b2 b3 b4 u d N:Nat} {es:List Edge} {ev ew rv av rv' av':AVal} {cur cur':List Int} {gone gone':List Bool} {us ds us' ds':List AVal} (h:BLay H b0 b1 b2 b3 b4 u d N es ev ew rv av cur gone us ds) (hn:H.next≤H'.next)
  (hk:∀ j,j≤d→j≠b4→j≠b2→j≠b3→j≠u→j≠d→H'.obj j=H.obj j) (hlay:Lay H' b4 b2 b3 N ew rv' av' (.slice u 0 N (.exact N)) (.slice d 0 N (.exact N)) cur' gone')
  (hu:H'.obj u=some (.cells us' true)) (hd:H'.obj d=some (.cells ds' true)) (hul:us'.length=N) (hdl:ds'.length=N):BLay H' b0 b1 b2 b3 b4 u d N es ev ew rv' av' cur' gone' us' ds':=by
 obtain ⟨o1,o2,o3,o4,o5,o6,o7⟩:=h.ord
 refine ⟨by rw [hk b0 (by omega) (by omega) (by omega) (by omega) (by omega) (by omega)]; exact h.nbox,by rw [hk b1 (by omega) (by omega) (by omega) (by omega) (by omega) (by omega)]; exact h.var,hlay,hu,hd,hul,hdl,⟨o1,o2,o3,o4,o5,o6,by omega⟩,h.ewid,?_⟩
 have hk2:Keep (fun j=>j≤b4∨u≤j) H H':=⟨hn,fun j hj hm=>hk j (by omega) (by omega) (by omega) (by omega) (by omega) (by omega)⟩
 exact h.edges.M hk2 (fun j hj=>by have:=h.ewid j hj; omega)
theorem Lay.M {H H':AHeap} {M:Nat→Prop} {w c g N:Nat} {ev rv av uv dv:AVal} {cur:List Int} {gone:List Bool} (h:Lay H w c g N ev rv av uv dv cur gone) (hk:Keep M H H') (h1:¬ M w) (h2:¬ M c) (h3:¬ M g):Lay H' w c g N ev rv av uv dv cur gone:=by
 have:=hk.next
 have:=h.wlt
 have:=h.clt
 have:=h.glt
 exact ⟨by rw [hk.obj _ h.wlt h1]; exact h.obj,by rw [hk.obj _ h.clt h2]; exact h.curO,by rw [hk.obj _ h.glt h3]; exact h.goneO,by omega,by omega,by omega,h.curLen,h.goneLen⟩
theorem BLay.M {H H':AHeap} {M:Nat→Prop} {b0 b1 b2 b3 b4 u d N:Nat} {es:List Edge} {ev ew rv av:AVal} {cur:List Int} {gone:List Bool} {us ds:List AVal} (h:BLay H b0 b1 b2 b3 b4 u d N es ev ew rv av cur gone us ds) (hk:Keep M H H') (hM:∀ j,j≤d→¬ M j):BLay H' b0 b1 b2 b3 b4 u d N es ev ew rv av cur gone us ds:=by
 obtain ⟨o1,o2,o3,o4,o5,o6,o7⟩:=h.ord
 exact h.upd hk.next (fun j hj _ _ _ _ _=>hk.obj j (by omega) (hM j hj)) (h.lay.M hk (hM _ (by omega)) (hM _ (by omega)) (hM _ (by omega))) (by rw [hk.obj _ (by omega) (hM _ (by omega))]; exact h.upO) (by rw [hk.obj _ (by omega) (hM _ (by omega))]; exact h.downO) h.usl h.dsl
theorem BLay.kept {H H':AHeap} {b0 b1 b2 b3 b4 u d N:Nat} {es:List Edge} {ev ew rv av:AVal} {cur:List Int} {gone:List Bool} {us ds:List AVal} (h:BLay H b0 b1 b2 b3 b4 u d N es ev ew rv av cur gone us ds) (hk:Keep Nothing H H'):BLay H' b0 b1 b2 b3 b4 u d N es ev ew rv av cur gone us ds:=by
 obtain ⟨o1,o2,o3,o4,o5,o6,o7⟩:=h.ord
 exact h.upd hk.next (fun j hj _ _ _ _ _=>hk.old (by omega)) (h.lay.kept hk) (by rw [hk.old (by omega)]; exact h.upO) (by rw [hk.old (by omega)]; exact h.downO) h.usl h.dsl
theorem orderOf_ok (N:Nat) (es:List Edge) (k:Nat):OrderOk N (wK N es k):=by
 have mem:∀ (d:Nat) x,x∈wS es d N→0≤x∧x < N∧degree es x=d:=by
  intro d x hx
  simp only [wS,List.mem_map,List.mem_filter,List.mem_range,Bool.and_eq_true,decide_eq_true_eq] at hx
  obtain ⟨v,⟨h1,_,h2⟩,rfl⟩:=hx
  exact ⟨by simp,by simpa using h1,by have h2':(degree es (v:Int):Int)=d:=h2; show degree es (v:Int)=d; omega⟩
 refine ⟨fun x hx=>?_,?_⟩
 ·simp only [wK,List.mem_flatMap,List.mem_range] at hx
  obtain ⟨d,_,hx⟩:=hx
  exact ⟨(mem d x hx).1,(mem d x hx).2.1⟩
 ·refine nodup_flat k (fun d _=>?_) (fun d d' x _ _ h1 h2=>by rw [← (mem d x h1).2.2,(mem d' x h2).2.2])
  simp only [wS]
  refine List.Pairwise.map _ (fun a b (h:a≠b)=>?_) (List.Pairwise.filter _ (List.nodup_range))
  intro e
  exact h (by injection e)
def uX (N:Nat) (es:List Edge):List Int:=wK N es (2*es.length+1)
def qA (N:Nat) (es:List Edge):Idx :=
 let h:=hierOf N es (uX N es)
 ⟨N,es,h.rank,h.arcs,h.up,h.down⟩
structure IdxAt (H:AHeap) (ew rv av uv dv:AVal) (x:Idx):Prop where
 es:Row H ew 4 (xG x.es)
 rank:Row H rv 1 (xL x.rank)
 arcs:Row H av 7 (xW x.arcs)
 up:RowsOf H uv x.up
 down:RowsOf H dv x.down
theorem IdxAt.kept {H H':AHeap} {ew rv av uv dv:AVal} {x:Idx} (h:IdxAt H ew rv av uv dv x) (hk:Keep Nothing H H'):IdxAt H' ew rv av uv dv x:=⟨h.es.kept hk,h.rank.kept hk,h.arcs.kept hk,h.up.kept hk,h.down.kept hk⟩
def From (lo:Nat) (H:AHeap) (v:AVal) (sz:Nat) (cs:List AVal):Prop:=Row H v sz cs∧∀ j,sid v=some j→lo≤j
theorem From.M {lo:Nat} {M:Nat→Prop} {H H':AHeap} {v:AVal} {sz:Nat} {cs:List AVal} (h:From lo H v sz cs) (hk:Keep M H H') (hM:∀ j,M j→j < lo):From lo H' v sz cs:=⟨h.1.M hk (fun j hj e=>by have:=h.2 j hj; have:=hM j e; omega),h.2⟩
def FromRows (lo:Nat) (H:AHeap) (v:AVal) (ll:List (List Int)):Prop:=∃ vs,From lo H v 1 vs∧vs.length=ll.length∧∀ (i:Nat) r l,vs[i]? = some r→ll[i]? = some l→From lo H r 1 (xL l)
theorem FromRows.M {lo:Nat} {M:Nat→Prop} {H H':AHeap} {v:AVal} {ll:List (List Int)} (h:FromRows lo H v ll) (hk:Keep M H H') (hM:∀ j,M j→j < lo):FromRows lo H' v ll:=by
 obtain ⟨vs,h1,h2,h3⟩:=h
 exact ⟨vs,h1.M hk hM,h2,fun i r l e1 e2=>(h3 i r l e1 e2).M hk hM⟩
theorem FromRows.rows {lo:Nat} {H:AHeap} {v:AVal} {ll:List (List Int)} (h:FromRows lo H v ll):RowsOf H v ll:=by
 obtain ⟨vs,h1,h2,h3⟩:=h
 exact ⟨vs,h1.1,h2,fun i r l e1 e2=>(h3 i r l e1 e2).1⟩
structure IdxFrom (lo:Nat) (H:AHeap) (ew rv av uv dv:AVal) (x:Idx):Prop where
 es:From lo H ew 4 (xG x.es)
 rank:From lo H rv 1 (xL x.rank)
 arcs:From lo H av 7 (xW x.arcs)
 up:FromRows lo H uv x.up
 down:FromRows lo H dv x.down
theorem IdxFrom.M {lo:Nat} {M:Nat→Prop} {H H':AHeap} {ew rv av uv dv:AVal} {x:Idx} (h:IdxFrom lo H ew rv av uv dv x) (hk:Keep M H H') (hM:∀ j,M j→j < lo):IdxFrom lo H' ew rv av uv dv x:=⟨h.es.M hk hM,h.rank.M hk hM,h.arcs.M hk hM,h.up.M hk hM,h.down.M hk hM⟩
theorem IdxFrom.kept {lo:Nat} {H H':AHeap} {ew rv av uv dv:AVal} {x:Idx} (h:IdxFrom lo H ew rv av uv dv x) (hk:Keep Nothing H H'):IdxFrom lo H' ew rv av uv dv x:=h.M hk (fun _ h=>h.elim)
theorem IdxFrom.idx {lo:Nat} {H:AHeap} {ew rv av uv dv:AVal} {x:Idx} (h:IdxFrom lo H ew rv av uv dv x):IdxAt H ew rv av uv dv x:=⟨h.es.1,h.rank.1,h.arcs.1,h.up.rows,h.down.rows⟩
def RowsAt (lo:Nat) (H:AHeap) (av:AVal) (us:List AVal) (ul:List (List Int)):Prop:=∀ (v:Nat) r l,us[v]? = some r→ul[v]? = some l→Row H r 1 (xL l)∧∀ j,sid r=some j→lo≤j∧sid av≠some j
theorem RowsAt.M {lo:Nat} {M:Nat→Prop} {H H':AHeap} {av av':AVal} {us:List AVal} {ul:List (List Int)} (h:RowsAt lo H av us ul) (hk:Keep M H H') (hM:∀ j,M j→j < lo∨sid av=some j) (ha:sid av'=sid av∨∃ y,sid av'=some y∧H.next≤y):RowsAt lo H' av' us ul:=by
 intro v r l h1 h2
 obtain ⟨h3,h4⟩:=h v r l h1 h2
 refine ⟨h3.M hk (fun j hj hm=>?_),fun j hj=>⟨(h4 j hj).1,fun e=>?_⟩⟩
 ·rcases hM j hm with h | h
  ·have:=(h4 j hj).1; omega
  ·exact (h4 j hj).2 h
 ·rcases ha with ha | ⟨y,ha,hy⟩
  ·rw [ha] at e; exact (h4 j hj).2 e
  ·rw [ha] at e; injection e with e; subst e
   have:=h3.sid_lt hj
   omega
theorem RowsAt.set {lo:Nat} {H:AHeap} {av r:AVal} {us:List AVal} {ul:List (List Int)} {l:List Int} {v:Nat} (h:RowsAt lo H av us ul) (hr:Row H r 1 (xL l)) (hs:∀ j,sid r=some j→lo≤j∧sid av≠some j) (hlen:us.length=ul.length):RowsAt lo H av (us.set v r) (ul.set v l):=by
 intro w q m h1 h2
 rw [List.getElem?_set] at h1 h2
 by_cases hvw:v=w
 ·subst hvw
  rw [if_pos rfl] at h1 h2
  by_cases hl:v < us.length
  ·rw [if_pos hl] at h1; rw [if_pos (by omega)] at h2
   injection h1 with h1; injection h2 with h2; subst h1; subst h2
   exact ⟨hr,hs⟩
  ·rw [if_neg hl] at h1; cases h1
 ·rw [if_neg hvw] at h1 h2
  exact h w q m h1 h2
theorem reps_nil (n:Nat):reps [.nilSlice] n=List.replicate n .nilSlice:=by
 induction n with
 | zero=>rfl
 | succ n ih=>simp [reps,ih,List.replicate_succ]
theorem reps_false (n:Nat):reps [.bool false] n=xV (List.replicate n false):=by
 induction n with
 | zero=>rfl
 | succ n ih=>simp [reps,ih,xV,List.replicate_succ]
set_option maxRecDepth 20000 in
set_option maxHeartbeats 4000000 in
theorem buildFrom_ret {N:Nat} {ev:AVal} {es:List Edge} {H:AHeap} {Q:AVal→AHeap→Prop} (hr:Row H ev 4 (xG es)) (hnet:NetOk N es) (hN21:N≤21)
  (hq:∀ ew rv av uv dv H',Keep Nothing H H'→IdxFrom H.next H' ew rv av uv dv (qA N es)→Q (.agg [.int .i64 N,ew,rv,av,uv,dv]) H'):Ret A 7 [.agg [.int .i64 N,ev]] H Q:=by
 obtain ⟨hN1,hN2,hn,hok⟩:=hnet
 refine Ret.of (fn:=F7) rfl ?_
 have p1:0≤(N:Int)*(N:Int):=Int.mul_nonneg (by omega) (by omega)
 have p2:(N:Int)*(N:Int)≤60*60:=Int.mul_le_mul (by omega) (by omega) (by omega) (by omega)
 have hc5:(N:Int)*(N:Int)*5=((N*N*5:Nat):Int):=by simp
 have hcells:=hr.cells
 have hb5:((N*N*5:Nat):Int)*((8:Nat):Int)≤140737488355328:=by rw [← hc5]; omega
 have hb6:((N*N*5:Nat):Int)≤9223372036854775807:=by rw [← hc5]; omega
 have hg1:(N:Int)*((1:Nat):Int)≤140737488355328:=by omega
 have hg2:(N:Int)≤9223372036854775807:=by omega
 have hg3:(N:Int)*((24:Nat):Int)≤140737488355328:=by omega
 simp (disch:=first | omega | (simp only [xB,xC] <;> omega) | fail) only [vai,xI,xP,Bool.not_true,Bool.not_false,decide_true,decide_false,xH,F7,hc5,zH hb5 hb6,zH hg1 hg2,hcells,Nat.reduceAdd,Nat.reduceMul,Nat.reduceLeDiff,Nat.reduceEqDiff,↓reduceIte]
 refine copy_ret (n:=es.length) (by simp (disch:=first | omega | (simp only [xB,xC] <;> omega) | fail) only [xI]) (by simp only [xB]; omega) (hr.kept ((((((Keep.refl _ _).new _).new _).new _).new _).new _ |>.new _)) (xU es) (by omega) (by omega) (by omega) ?_
 intro ew H1 hk1 ho1 hs1
 have hn1:=hk1.next
 simp only [xB] at hn1
 have kA:Keep Nothing H H1:=((((((Keep.refl _ _).new _).new _).new _).new _).new _ |>.new _).trans hk1
 have q0:H1.obj H.next=some (.cells [.int .i64 N,ev] true):=by rw [hk1.old (by simp only [xB]; omega)]; simp (disch:=first | omega | (simp only [xB,xC] <;> omega) | fail) only [xI]
 have q1:H1.obj (H.next+1)=some (.cells [.int .i64 0,.nilSlice,.nilSlice,.nilSlice,.nilSlice,.nilSlice] true):=by rw [hk1.old (by simp only [xB]; omega)]; simp (disch:=first | omega | (simp only [xB,xC] <;> omega) | fail) only [xI]
 have q2:H1.obj (H.next+1+1)=some (.cells (xL (List.replicate (N*N*5) 0)) true):=by rw [hk1.old (by simp only [xB]; omega)]; simp (disch:=first | omega | (simp only [xB,xC] <;> omega) | fail) only [xI,reps_zero]
 have q3:H1.obj (H.next+1+1+1)=some (.cells (xV (List.replicate N false)) true):=by rw [hk1.old (by simp only [xB]; omega)]; simp (disch:=first | omega | (simp only [xB,xC] <;> omega) | fail) only [xI,reps_false]
 have q4:H1.obj (H.next+1+1+1+1)=some (.cells [.int .i64 0,.nilSlice,.nilSlice,.nilSlice,.nilSlice,.nilSlice,.slice (H.next+1+1) 0 (N*N*5) (.exact (N*N*5)),.slice (H.next+1+1+1) 0 N (.exact N)] true):=by rw [hk1.old (by simp only [xB]; omega)]; simp (disch:=first | omega | (simp only [xB,xC] <;> omega) | fail) only [xI]
 clear hk1
 have hce:=ho1.cells
 have hew:=ho1.row
 have hes:∀ j,sid ew=some j→H.next+1+1+1+1+1≤j∧j < H1.next:=fun j hj=>ho1.sid_ge hj
 clear ho1 hs1
 generalize hb1:H.next+1=b1 at *
 generalize hb2:b1+1=b2 at *
 generalize hb3:b2+1=b3 at *
 generalize hb4:b3+1=b4 at *
 simp (disch:=first | omega | (simp only [xB,xC] <;> omega) | fail) only [vai,xI,xP,Bool.not_true,Bool.not_false,decide_true,decide_false,xH,q0,q1,q2,q3,q4,hce,zH hg3 hg2,Nat.reduceAdd,Nat.reduceMul,Nat.reduceLeDiff,Nat.reduceEqDiff,↓reduceIte]
 refine xS (fun m t H'=>∃ (i:Nat) (rv:AVal),m=N - i∧i≤N∧t=(xP 1 (.ptr H.next 0 :: .ptr b1 0 :: .ptr b4 0 :: .int .i64 i :: xP 162 ([])):xJ)∧Keep Nothing H H'∧H1.next+2≤H'.next ∧
  BLay H' H.next b1 b2 b3 b4 H1.next (H1.next+1) N es ev ew rv .nilSlice (List.replicate (N*N*5) 0) (List.replicate N false) (List.replicate N .nilSlice) (List.replicate N .nilSlice)∧Grown (H1.next+2) H' rv 1 (xL (List.replicate i (-1)))) N ?_ ?_
 ·have kB:Keep Nothing H1 ((H1.new (.cells (List.replicate N .nilSlice) true)).new (.cells (List.replicate N .nilSlice) true)):=((Keep.refl _ _).new _).new _
  refine ⟨0,.nilSlice,rfl,by omega,rfl,?_,?_,⟨?_,?_,⟨?_,?_,?_,?_,?_,?_,by simp,by simp⟩,?_,?_,by simp,by simp,?_,fun j hj=>by have:=hes j hj; omega,?_⟩,.nil⟩
  ·exact ((((kA.upd (.inl (by omega)) _).new _).new _).upd (.inl (by omega)) _).upd (.inl (by omega)) _
  ·simp only [xB,xC]; omega
  ·simp (disch:=first | omega | (simp only [xB,xC] <;> omega) | fail) only [xI,q0]
  ·simp (disch:=first | omega | (simp only [xB,xC] <;> omega) | fail) only [xI,q1]
  ·simp (disch:=first | omega | (simp only [xB,xC] <;> omega) | fail) only [xI]
  ·simp (disch:=first | omega | (simp only [xB,xC] <;> omega) | fail) only [xI,q2]
  ·simp (disch:=first | omega | (simp only [xB,xC] <;> omega) | fail) only [xI,q3]
  ·simp only [xB,xC]; omega
  ·simp only [xB,xC]; omega
  ·simp only [xB,xC]; omega
  ·simp (disch:=first | omega | (simp only [xB,xC] <;> omega) | fail) only [xI,reps_nil]
  ·simp (disch:=first | omega | (simp only [xB,xC] <;> omega) | fail) only [xI,reps_nil]
  ·simp only [xB,xC]; omega
  ·exact hew.M (M:=fun j=>j=b4) (((((Keep.refl (fun j=>j=b4) _).upd (.inr rfl) _).new _).new _).upd (.inr rfl) _ |>.upd (.inr rfl) _) (fun j hj=>by have:=hes j hj; omega)
 ·clear q0 q1 q2 q3 q4
  rintro m t H2 ⟨i,rv,rfl,hi1,rfl,hk2,hn2,hB,hg⟩
  have ho:=hB.lay.obj
  have hnb:=hB.nbox
  have hrv:∀ j,j < H1.next+2→sid rv≠some j:=fun j hj e=>by have:=(hg.sid_ge e).1; omega
  by_cases hc1:(i:Int) < N
  ·simp (disch:=first | omega | (simp only [xB,xC] <;> omega) | fail) only [vai,xI,xP,Bool.not_true,Bool.not_false,decide_true,decide_false,xH,List.replicate,hc1,decide_true,hnb,ho,Nat.reduceAdd,Nat.reduceMul,Nat.reduceLeDiff,Nat.reduceEqDiff,↓reduceIte]
   refine vK (n:=i) hg.own (by simp (disch:=first | omega | (simp only [xB,xC] <;> omega) | fail) only [xI]; rfl) rfl (by omega) (by omega) (by simp [xL]) (by omega) (by omega) ?_
   intro v' H' h1 h2 h3 h4
   simp only [xB] at h1 h2 h4
   have hold:∀ j,j < H1.next+2→H'.obj j=H2.obj j:=fun j hj=>by rw [h2 j (by omega) (hrv j hj),xX (by omega)]
   have ho':H'.obj b4=_:=(hold b4 (by omega)).trans ho
   simp (disch:=first | omega | (simp only [xB,xC] <;> omega) | fail) only [vai,xI,xP,Bool.not_true,Bool.not_false,decide_true,decide_false,xH,ho',h3.cells,Nat.reduceAdd,Nat.reduceMul,Nat.reduceLeDiff,Nat.reduceEqDiff,↓reduceIte]
   have kk:Keep Nothing H H':=⟨by have:=hk2.next; omega,fun j hj _=>by rw [hold j (by omega),hk2.old hj]⟩
   refine ⟨N - (i+1),by omega,i+1,v',rfl,by omega,rfl,kk.upd (.inl (by omega)) _,(by first | omega | (simp only [xB,xC]; omega)),hB.upd (by first | omega | (simp only [xB,xC]; omega)) (fun j h5 h6 _ _ _ _=>by rw [xQ h6,hold j (by omega)]) ⟨xN rfl,?_,?_,?_,?_,?_,by simp,by simp⟩ ?_ ?_ (by simp) (by simp),?_⟩
   ·rw [xQ (by omega),hold _ (by omega)]; exact hB.lay.curO
   ·rw [xQ (by omega),hold _ (by omega)]; exact hB.lay.goneO
   ·simp only [xC]; omega
   ·simp only [xC]; omega
   ·simp only [xC]; omega
   ·rw [xQ (by omega),hold _ (by omega)]; exact hB.upO
   ·rw [xQ (by omega),hold _ (by omega)]; exact hB.downO
   ·refine Grown.upd ?_ (by omega) _
    rw [List.replicate_succ',zF]
    exact h3
  ·simp (disch:=first | omega | (simp only [xB,xC] <;> omega) | fail) only [vai,xI,xP,Bool.not_true,Bool.not_false,decide_true,decide_false,xH,List.replicate,hc1,decide_false,hnb,Nat.reduceAdd,Nat.reduceMul,Nat.reduceLeDiff,Nat.reduceEqDiff,↓reduceIte]
   have hi:N=i:=by omega
   subst hi
   have hedge:EdgesOk N es:=fun e he=>by
    obtain ⟨a1,a2,a3,a4⟩:=hok e he
    exact ⟨a1,a2,a3,a4.1⟩
   have hcost:∀ e∈es,0≤e.cost∧e.cost≤2147483647:=fun e he=>(hok e he).2.2.2
   refine begin_ret (lo:=H2.next) hB.lay (by omega) (by omega) (by omega) (by omega) (by omega) (by omega) (by omega) (Nat.le_refl _) hB.edges (fun j hj=>by have:=hB.ewid j hj; omega) (by omega) (fun e he=>by
    obtain ⟨a1,a2,a3,a4⟩:=hok e he
    exact ⟨a1,a2,a3,a4.1,by omega⟩) ?_
   intro av H3 hk3 hL3 hg3
   have hn3:=hk3.next
   have kC:Keep Nothing H H3:=⟨by have:=hk2.next; omega,fun j hj _=>by rw [hk3.obj j (by omega) (by omega),hk2.old hj]⟩
   have hB3:=hB.upd (rv':=rv) (av':=av) hn3 (fun j _ h6 h7 _ _ _=>hk3.obj j (by omega) (by omega)) hL3 (by rw [hk3.obj _ (by omega) (by omega)]; exact hB.upO) (by rw [hk3.obj _ (by omega) (by omega)]; exact hB.downO) hB.usl hB.dsl
   have hg3r:Own (H1.next+2) H3 rv 1 (xL (List.replicate N (-1))):=hg.own.keepM hk3 (fun j hj=>by have:=(hg.sid_ge hj).1; omega)
   have hrlt:∀ j,sid rv=some j→j < H2.next:=fun j hj=>(hg.sid_ge hj).2
   clear hL3 hB hg hrv ho hnb hk3 hk2
   have hnb:=hB3.nbox
   simp (disch:=first | omega | (simp only [xB,xC] <;> omega) | fail) only [vai,xI,xP,Bool.not_true,Bool.not_false,decide_true,decide_false,xH,hnb,Nat.reduceAdd,Nat.reduceMul,Nat.reduceLeDiff,Nat.reduceEqDiff,↓reduceIte]
   refine order_ret (hr.kept kC) (by omega) (by omega) (fun e he=>by have:=(hok e he).2.2.1; omega) ?_
   intro lv H4 hk4 hg4
   have hB4:=hB3.kept hk4
   have hg4r:=hg3r.kept hk4
   have hg4a:=hg3.keep hk4.next (fun j _ hj=>hk4.old hj)
   have hn4:=hk4.next
   have kD:=kC.trans hk4
   have hlv:∀ j,sid lv=some j→H3.next≤j∧j < H4.next:=fun j hj=>hg4.sid_ge hj
   have hlvr:=hg4.row
   have hav:∀ j,sid av=some j→j < H3.next:=fun j hj=>(hg3.sid_ge hj).2
   clear hB3 hg3r hg3 hk4 kC hnb hg4
   have hlo:=orderOf_ok N es (2*es.length+1)
   generalize hl:wK N es (2*es.length+1)=l at *
   have hlN:=wO N l hlo.nodup hlo.bd
   simp (disch:=first | omega | (simp only [xB,xC] <;> omega) | fail) only [vai,xI,xP,Bool.not_true,Bool.not_false,decide_true,decide_false,xH,Nat.reduceAdd,Nat.reduceMul,Nat.reduceLeDiff,Nat.reduceEqDiff,↓reduceIte]
   refine xS (fun m t H'=>∃ (k:Nat) (rv av:AVal) (us ds:List AVal),m=l.length - k∧k≤l.length∧t=(xP 1 (.ptr H.next 0 :: .ptr b1 0 :: .ptr b4 0 :: xP 1 (lv :: .int .i64 k :: xP 160 ([]))):xJ)∧Keep Nothing H H'∧H4.next≤H'.next ∧
    BLay H' H.next b1 b2 b3 b4 H1.next (H1.next+1) N es ev ew rv av (zQ N (yG N es) l k).cur (zQ N (yG N es) l k).gone us ds ∧
    Own (H1.next+2) H' rv 1 (xL (zQ N (yG N es) l k).rank)∧(∀ j,sid rv=some j→j < H2.next)∧Grown H2.next H' av 7 (xW (zQ N (yG N es) l k).arcs)∧Row H' lv 1 (xL l)∧(∀ j,sid lv=some j→sid av≠some j) ∧
    RowsAt H2.next H' av us (zQ N (yG N es) l k).up∧RowsAt H2.next H' av ds (zQ N (yG N es) l k).down) l.length ?_ ?_
   ·refine ⟨0,rv,av,_,_,rfl,by omega,rfl,kD,Nat.le_refl _,hB4,hg4r,hrlt,hg4a,hlvr,fun j hj e=>by have:=hlv j hj; have:=hav j e; omega,?_,?_⟩
    ·intro v r m h1 h2
     simp only [zQ,yG] at h2
     have e1:=List.eq_of_mem_replicate (List.mem_of_getElem? h1)
     have e2:=List.eq_of_mem_replicate (List.mem_of_getElem? h2)
     subst e1; subst e2
     exact ⟨.nil,fun j hj=>by cases hj⟩
    ·intro v r m h1 h2
     simp only [zQ,yG] at h2
     have e1:=List.eq_of_mem_replicate (List.mem_of_getElem? h1)
     have e2:=List.eq_of_mem_replicate (List.mem_of_getElem? h2)
     subst e1; subst e2
     exact ⟨.nil,fun j hj=>by cases hj⟩
   ·clear hB4 hg4r hrlt hg4a hlvr hav kD
    rintro m t H5 ⟨k,rv,av,us,ds,rfl,hk1,rfl,kE,hn5,hB,hrk,hrlt,hga,hlr,hlne,hup,hdn⟩
    obtain ⟨ex,hgone⟩:=go_gone hedge hlo k hk1
    have hlen:=hlr.len1
    rw [xE] at hlen
    by_cases hc2:(k:Int) < l.length
    ·have hkl:k < l.length:=by omega
     have hv:l[k]? = some l[k]:=by simp [hkl]
     have hgd:l.getD k 0=l[k]:=yS hv
     have hbd:=hlo.bd _ (List.getElem_mem hkl)
     have hst:zQ N (yG N es) l (k+1)=vR N (zQ N (yG N es) l k) k (l.getD k 0).toNat:=rfl
     rw [hgd] at hst
     have hnw:=not_went hlo hv
     obtain ⟨id,off,a1,a2,a3⟩:=hlr.int_at (k:=.i64) hv
     generalize l[k]=vi at *
     obtain ⟨v,rfl⟩:∃ v:Nat,vi=v:=⟨vi.toNat,by omega⟩
     rw [Int.toNat_natCast] at hst
     generalize zQ N (yG N es) l k=s at *
     have ho:=hB.lay.obj
     obtain ⟨ri,r1,r2,r3,r4,r5,r6⟩:=hrk.slot (j:=v) (k:=.i64) (by rw [xE,hgone.rankLen]; omega)
     have r7:=hrlt ri r1
     have hrl:(xL s.rank).length=N:=by rw [xE,hgone.rankLen]
     have hle:v+1≤N:=by omega
     have hset:yV (xL s.rank) v [.int .i64 (k:Int)]=xL (s.rank.set v k):=by
      rw [yQ (by rw [hrl]; omega)]
      simp [xL,List.map_set]
     have hNN:N*N≤441:=Nat.mul_le_mul hN21 hN21
     have hk25:k*(25*(N*N))≤21*11025:=Nat.mul_le_mul (by omega) (by omega)
     have hac:=hgone.count
     have hcurb:∀ x∈s.cur,0≤x∧x≤1000000:=fun x hx=>by
      have:=hgone.good.bd x hx
      simp only at this
      omega
     have hvu:xO 1 (.slice H1.next 0 N (.exact N)) (.int .i64 (v:Int))=some (.ptr H1.next v):=by rw [xM ⟨by omega,by omega⟩]; simp
     have hvd:xO 1 (.slice (H1.next+1) 0 N (.exact N)) (.int .i64 (v:Int))=some (.ptr (H1.next+1) v):=by rw [xM ⟨by omega,by omega⟩]; simp
     simp (disch:=first | omega | (simp only [xB,xC] <;> omega) | fail) only [vai,xI,xP,Bool.not_true,Bool.not_false,decide_true,decide_false,xH,List.replicate,hc2,decide_true,hlen,a1,a3,ho,r4,r5,hrl,hle,hset,Nat.reduceAdd,Nat.reduceMul,Nat.reduceLeDiff,Nat.reduceEqDiff,↓reduceIte]
     have k6:Keep (fun j=>j=ri) H5 (H5.upd ri (some (.cells (xL (s.rank.set v k)) true))):=(Keep.refl (fun j=>j=ri) _).upd (.inr rfl) _
     have hrk6:=r6 (H5.upd ri (some (.cells (xL (s.rank.set v k)) true))) _ (Nat.le_refl _) (xN rfl) (by rw [xE,List.length_set,hrl,hgone.rankLen])
     have hB6:=hB.M k6 (fun j hj e=>by omega)
     have hg6:=hga.upd (id:=ri) (by omega) (some (.cells (xL (s.rank.set v k)) true))
     have hl6:=hlr.M k6 (fun j hj e=>by
      have:=hlv j hj; omega)
     have hu6:=hup.M (av':=av) k6 (fun j e=>by subst e; omega) (.inl rfl)
     have hd6:=hdn.M (av':=av) k6 (fun j e=>by subst e; omega) (.inl rfl)
     have kF:Keep Nothing H (H5.upd ri (some (.cells (xL (s.rank.set v k)) true))):=kE.upd (.inl (by omega)) _
     have hn6:H5.next=(H5.upd ri (some (.cells (xL (s.rank.set v k)) true))).next:=rfl
     have hrk6':∀ j,sid rv=some j→j=ri:=fun j e=>by rw [r1] at e; injection e with e; exact e.symm
     clear hB hga hlr hup hdn kE k6 ho hrk r5 r6
     generalize H5.upd ri (some (.cells (xL (s.rank.set v k)) true))=H6 at *
     refine wout_ret hB6.lay (by omega) (by omega) hcurb ?_
     intro ur H7 k7 g7
     have hB7:=hB6.kept k7
     have n7:=k7.next
     simp (disch:=first | omega | (simp only [xB,xC] <;> omega) | fail) only [vai,xI,xP,Bool.not_true,Bool.not_false,decide_true,decide_false,xH,Nat.reduceAdd,Nat.reduceMul,Nat.reduceLeDiff,Nat.reduceEqDiff,↓reduceIte]
     refine win_ret hB7.lay (by omega) (by omega) hcurb ?_
     intro dr H8 k8 g8
     have hB8:=hB7.kept k8
     have n8:=k8.next
     have k68:=k7.trans k8
     have gu8:=g7.row.kept k8
     have gd8:=g8.row
     have su:∀ j,sid ur=some j→H6.next≤j∧j < H7.next:=fun j hj=>g7.sid_ge hj
     have sd:∀ j,sid dr=some j→H7.next≤j∧j < H8.next:=fun j hj=>g8.sid_ge hj
     have hg8:=hg6.keep k68.next (fun j _ hj=>k68.old hj)
     have hl8:=hl6.kept k68
     have hu8:=hu6.M (av':=av) k68 (fun j e=>e.elim) (.inl rfl)
     have hd8:=hd6.M (av':=av) k68 (fun j e=>e.elim) (.inl rfl)
     have hrk8:=hrk6.kept k68
     have kG:=kF.trans k68
     have havlt:∀ j,sid av=some j→j < H6.next:=fun j hj=>(hg6.sid_ge hj).2
     have cu:=gu8.cells
     have cd:=gd8.cells
     clear hB6 hB7 k7 k8 g7 g8 k68 hg6 hl6 hu6 hd6 kF hrk6
     have ho:=hB8.lay.obj
     have uO:=hB8.upO
     have dO:=hB8.downO
     have usl:=hB8.usl
     have dsl:=hB8.dsl
     simp (disch:=first | omega | (simp only [xB,xC] <;> omega) | fail) only [vai,xI,xP,Bool.not_true,Bool.not_false,decide_true,decide_false,xH,ho,uO,dO,usl,dsl,hvu,hvd,cu,cd,hle,yQ,Nat.reduceAdd,Nat.reduceMul,Nat.reduceLeDiff,Nat.reduceEqDiff,↓reduceIte]
     have k9:Keep (fun j=>j=H1.next∨j=H1.next+1) H8 ((H8.upd H1.next (some (.cells (us.set v ur) true))).upd (H1.next+1) (some (.cells (ds.set v dr) true))):=((Keep.refl (fun j=>j=H1.next∨j=H1.next+1) _).upd (.inr (.inl rfl)) _).upd (.inr (.inr rfl)) _
     have hB9:=hB8.upd (us':=us.set v ur) (ds':=ds.set v dr) (rv':=rv) (av':=av) k9.next (fun j hj _ _ _ h5 h6=>k9.obj j (by omega) (by omega)) (hB8.lay.M k9 (by omega) (by omega) (by omega)) (by rw [xQ (by omega),xN rfl]) (xN rfl) (by rw [List.length_set,usl]) (by rw [List.length_set,dsl])
     have hu9:=(hu8.M (av':=av) k9 (fun j e=>by omega) (.inl rfl)).set (v:=v) (gu8.M k9 (fun j hj e=>by have:=su j hj; omega)) (fun j hj=>⟨by have:=su j hj; omega,fun e=>by have:=su j hj; have:=havlt j e; omega⟩) (by rw [usl,hgone.upLen])
     have hd9:=(hd8.M (av':=av) k9 (fun j e=>by omega) (.inl rfl)).set (v:=v) (gd8.M k9 (fun j hj e=>by have:=sd j hj; omega)) (fun j hj=>⟨by have:=sd j hj; omega,fun e=>by have:=sd j hj; have:=havlt j e; omega⟩) (by rw [dsl,hgone.downLen])
     have gu9:=gu8.M k9 (fun j hj e=>by have:=su j hj; omega)
     have gd9:=gd8.M k9 (fun j hj e=>by have:=sd j hj; omega)
     have hg9:Grown H2.next ((H8.upd H1.next (some (.cells (us.set v ur) true))).upd (H1.next+1) (some (.cells (ds.set v dr) true))) av 7 (xW s.arcs):=(hg8.upd (by omega) _).upd (by omega) _
     have hl9:=hl8.M k9 (fun j hj e=>by have:=hlv j hj; omega)
     have hrk9:=hrk8.keepM k9 (fun j hj e=>by have:=hrk6' j hj; omega)
     have kI:Keep Nothing H ((H8.upd H1.next (some (.cells (us.set v ur) true))).upd (H1.next+1) (some (.cells (ds.set v dr) true))):=(kG.upd (.inl (by omega)) _).upd (.inl (by omega)) _
     have n9:H8.next=((H8.upd H1.next (some (.cells (us.set v ur) true))).upd (H1.next+1) (some (.cells (ds.set v dr) true))).next:=rfl
     clear hB8 hu8 hd8 gu8 gd8 hg8 hl8 hrk8 kG k9 ho uO dO usl dsl
     generalize (H8.upd H1.next (some (.cells (us.set v ur) true))).upd (H1.next+1) (some (.cells (ds.set v dr) true))=H9 at *
     have hGm:∀ (ps:List (Int × Int)),(∀ p∈ps,p.1∈vI N s.cur s.gone v N∧p.2∈zM N s.cur s.gone v N)→∃ ex',Mid N es (Went l k) v (s.arcs,s.cur) ex ps (zB N (s.arcs,s.cur) ps) ex':=fun ps hps =>
      goes_mid (fun e he=>(hcost e he).1) hgone.good hgone.least hnw (by omega) hgone.gone ps hps
     have hup:vR N s k v=⟨(zB N (s.arcs,s.cur) (vA (vI N s.cur s.gone v N) (zM N s.cur s.gone v N))).1,(zB N (s.arcs,s.cur) (vA (vI N s.cur s.gone v N) (zM N s.cur s.gone v N))).2,s.gone.set v true,s.rank.set v k,s.up.set v (zM N s.cur s.gone v N),s.down.set v (vI N s.cur s.gone v N)⟩:=rfl
     have olen:=uW N s.cur s.gone v N
     have ilen:=inOf_length N s.cur s.gone v N
     have hupA:∀ p∈zM N s.cur s.gone v N,0≤p∧∃ a,s.arcs[p.toNat]? = some a:=by
      intro p hp
      obtain ⟨u,m,q1,q2,q3,q4,rfl⟩:=mem_outOf.1 hp
      obtain ⟨a,q5,_⟩:=hgone.good.key v u m (by omega) q1 q2 q3
      exact ⟨by omega,a,by rw [show (cv N s.cur v u m - 1).toNat=(cv N s.cur v u m).toNat - 1 by omega]; exact q5⟩
     have hdownA:∀ p∈vI N s.cur s.gone v N,0≤p∧∃ a,s.arcs[p.toNat]? = some a:=by
      intro p hp
      obtain ⟨u,m,q1,q0,q2,q3,q4,rfl⟩:=mem_inOf.1 hp
      obtain ⟨a,q5,_⟩:=hgone.good.key u v m q1 (by omega) q2 q3
      exact ⟨by omega,a,by rw [show (cv N s.cur u v m - 1).toNat=(cv N s.cur u v m).toNat - 1 by omega]; exact q5⟩
     generalize zM N s.cur s.gone v N=up at *
     generalize vI N s.cur s.gone v N=down at *
     have hlenU:=gu9.len1
     have hlenD:=gd9.len1
     rw [xE] at hlenU hlenD
     refine xS (fun m t H'=>∃ (i:Nat) (av':AVal),m=down.length - i∧i≤down.length∧t=(xP 1 (.ptr H.next 0 :: .ptr b1 0 :: .ptr b4 0 :: xP 1 (lv :: .int .i64 k :: .int .i64 v :: ur :: dr :: .int .i64 i :: xP 156 ([]))):xJ) ∧
      Keep (fun j=>j=b4∨j=b2∨sid av=some j) H9 H'∧Lay H' b4 b2 b3 N ew rv av' (.slice H1.next 0 N (.exact N)) (.slice (H1.next+1) 0 N (.exact N)) (zB N (s.arcs,s.cur) (yK down up i 0)).2 s.gone ∧
      Grown H2.next H' av' 7 (xW (zB N (s.arcs,s.cur) (yK down up i 0)).1)∧(sid av'=sid av∨∃ y,sid av'=some y∧H9.next≤y)) down.length ?_ ?_
     ·exact ⟨0,av,rfl,by omega,rfl,.refl _ _,by simpa [yK,vA,zB] using hB9.lay,by simpa [yK,vA,zB] using hg9,.inl rfl⟩
     ·rintro m t H10 ⟨i,av1,rfl,hi1,rfl,k10,hL10,hg10,hs10⟩
      by_cases hc3:(i:Int) < down.length
      ·have hil:i < down.length:=by omega
       simp (disch:=first | omega | (simp only [xB,xC] <;> omega) | fail) only [vai,xI,xP,Bool.not_true,Bool.not_false,decide_true,decide_false,xH,List.replicate,hc3,decide_true,hlenD,Nat.reduceAdd,Nat.reduceMul,Nat.reduceLeDiff,Nat.reduceEqDiff,↓reduceIte]
       refine xS (fun m t H'=>∃ (j:Nat) (av':AVal),m=up.length - j∧j≤up.length∧t=(xP 1 (.ptr H.next 0 :: .ptr b1 0 :: .ptr b4 0 :: xP 1 (lv :: .int .i64 k :: .int .i64 v :: ur :: dr :: .int .i64 i :: .int .i64 j :: xP 155 ([]))):xJ) ∧
        Keep (fun j=>j=b4∨j=b2∨sid av=some j) H9 H'∧Lay H' b4 b2 b3 N ew rv av' (.slice H1.next 0 N (.exact N)) (.slice (H1.next+1) 0 N (.exact N)) (zB N (s.arcs,s.cur) (yK down up i j)).2 s.gone ∧
        Grown H2.next H' av' 7 (xW (zB N (s.arcs,s.cur) (yK down up i j)).1)∧(sid av'=sid av∨∃ y,sid av'=some y∧H9.next≤y)) up.length ?_ ?_
       ·exact ⟨0,av1,rfl,by omega,rfl,k10,hL10,hg10,hs10⟩
       ·clear k10 hL10 hg10 hs10
        rintro m t H11 ⟨j,av1,rfl,hj1,rfl,k11,hL11,hg11,hs11⟩
        have n11:=k11.next
        by_cases hc4:(j:Int) < up.length
        ·have hjl:j < up.length:=by omega
         have hdi:down[i]? = some down[i]:=by simp [hil]
         have huj:up[j]? = some up[j]:=by simp [hjl]
         have hdd:down.getD i 0=down[i]:=yS hdi
         have gd11:=gd9.M k11 (fun j hj e=>by have:=sd j hj; rcases e with e | e | e <;> first | omega | (have:=havlt j e; omega))
         have gu11:=gu9.M k11 (fun j hj e=>by have:=su j hj; rcases e with e | e | e <;> first | omega | (have:=havlt j e; omega))
         obtain ⟨i1,o1,c1,c2,c3⟩:=gd11.int_at (k:=.i64) hdi
         obtain ⟨i2,o2,e1,e2,e3⟩:=gu11.int_at (k:=.i64) huj
         have hone:=pairsAt_one (down:=down) (up:=up) (i:=i) hjl
         have hmem:∀ p∈yK down up i j,p.1∈down∧p.2∈up:=fun p hp=>pairsAt_mem (.inl hil) hp
         obtain ⟨ex1,hm1⟩:=hGm (yK down up i j) hmem
         have hcount:=hm1.count
         simp only at hcount
         have hpl:=pairsAt_length (down:=down) (up:=up) (i:=i) (j:=j)
         have hmul:down.length*up.length≤105*105:=Nat.mul_le_mul (by omega) (by omega)
         obtain ⟨ex2,hm0⟩:=hGm [] (fun p hp=>by simp at hp)
         rw [hdd] at hone
         have hxm:down[i]∈down:=List.getElem_mem hil
         have hym:up[j]∈up:=List.getElem_mem hjl
         generalize down[i]=di at *
         generalize up[j]=uj at *
         simp (disch:=first | omega | (simp only [xB,xC] <;> omega) | fail) only [vai,xI,xP,Bool.not_true,Bool.not_false,decide_true,decide_false,xH,List.replicate,hc4,decide_true,hlenU,c1,c3,e1,e3,Nat.reduceAdd,Nat.reduceMul,Nat.reduceLeDiff,Nat.reduceEqDiff,↓reduceIte]
         obtain ⟨hd0,x,hx⟩:=hdownA di hxm
         obtain ⟨hu0,y,hy⟩:=hupA uj hym
         have hx1:=hm1.arcs _ _ hx
         have hy1:=hm1.arcs _ _ hy
         have hGb:∀ g,(Went l k g∨g=(v:Int))→0≤g∧g < N:=fun g hg=>by
          rcases hg with hg | hg
          ·exact went_bd hlo hg
          ·omega
         have fx:=hm1.good.fits hcost hGb (by omega) hx1
         have fy:=hm1.good.fits hcost hGb (by omega) hy1
         have hbd1:=hm1.good.bd
         have hsS:zB N (s.arcs,s.cur) (yK down up i (j+1))=match wR N (zB N (s.arcs,s.cur) (yK down up i j)).2 (zB N (s.arcs,s.cur) (yK down up i j)).1 di.toNat uj.toNat x y with | none=>zB N (s.arcs,s.cur) (yK down up i j) | some a=>vL N (zB N (s.arcs,s.cur) (yK down up i j)) a:=by
          rw [hone,shorts_one,shortStep_at hx1 hy1]
          try rfl
         clear hone hm0
         generalize zB N (s.arcs,s.cur) (yK down up i j)=S at *
         obtain ⟨nd,rfl⟩:∃ n:Nat,di=n:=⟨di.toNat,by omega⟩
         obtain ⟨nu,rfl⟩:∃ n:Nat,uj=n:=⟨uj.toNat,by omega⟩
         simp only [Int.toNat_natCast] at hsS hx1 hy1
         refine short_ret (lo:=H2.next) hL11 (by omega) (by omega) (by omega) (by omega) (by omega) (by omega) (by omega) hg11 (by omega) (by omega) hx1 hy1 fx fy hbd1 ?_ ?_
         ·intro hno H12 k12
          rw [hno] at hsS
          have k13:=k11.trans k12.any
          simp (disch:=first | omega | (simp only [xB,xC] <;> omega) | fail) only [vai,xI,xP,Bool.not_true,Bool.not_false,decide_true,decide_false,xH,Nat.reduceAdd,Nat.reduceMul,Nat.reduceLeDiff,Nat.reduceEqDiff,↓reduceIte]
          refine ⟨up.length - (j+1),by omega,j+1,av1,rfl,by omega,rfl,k13,?_⟩
          rw [hsS]
          exact ⟨hL11.kept k12,hg11.keep k12.next (fun j _ hj=>k12.old hj),hs11⟩
         ·intro a hso av2 H12 k12 hL12 hg12 hs12
          rw [hso] at hsS
          have k13:Keep (fun j=>j=b4∨j=b2∨sid av=some j) H9 H12:=k11.trans' k12 (fun j hj e=>by
           rcases e with e | e | e
           ·exact .inl e
           ·exact .inr (.inl e)
           ·rcases hs11 with h | ⟨q,h,hq⟩
            ·rw [h] at e; exact .inr (.inr e)
            ·rw [h] at e; injection e with e; omega)
          simp (disch:=first | omega | (simp only [xB,xC] <;> omega) | fail) only [vai,xI,xP,Bool.not_true,Bool.not_false,decide_true,decide_false,xH,Nat.reduceAdd,Nat.reduceMul,Nat.reduceLeDiff,Nat.reduceEqDiff,↓reduceIte]
          refine ⟨up.length - (j+1),by omega,j+1,av2,rfl,by omega,rfl,k13,?_⟩
          rw [hsS]
          obtain ⟨q,h1,h2⟩:=hs12
          exact ⟨hL12,hg12,.inr ⟨q,h1,by omega⟩⟩
        ·simp (disch:=first | omega | (simp only [xB,xC] <;> omega) | fail) only [vai,xI,xP,Bool.not_true,Bool.not_false,decide_true,decide_false,xH,List.replicate,hc4,decide_false,hlenU,Nat.reduceAdd,Nat.reduceMul,Nat.reduceLeDiff,Nat.reduceEqDiff,↓reduceIte]
         have hj:up.length=j:=by omega
         refine ⟨down.length - (i+1),by omega,i+1,av1,rfl,by omega,rfl,k11,?_⟩
         have hrow:=pairsAt_row (up:=up) hil
         rw [hj] at hrow
         rw [← hrow]
         exact ⟨hL11,hg11,hs11⟩
      ·simp (disch:=first | omega | (simp only [xB,xC] <;> omega) | fail) only [vai,xI,xP,Bool.not_true,Bool.not_false,decide_true,decide_false,xH,List.replicate,hc3,decide_false,hlenD,Nat.reduceAdd,Nat.reduceMul,Nat.reduceLeDiff,Nat.reduceEqDiff,↓reduceIte]
       have hi:i=down.length:=by omega
       subst hi
       rw [pairsAt_all] at hL10 hg10
       have n10:=k10.next
       have havlo:∀ j,sid av=some j→H2.next≤j:=fun j hj=>by
        have:=(hg9.sid_ge hj).1
        exact this
       have hB10:=hB9.upd (rv':=rv) (av':=av1) n10 (fun j hj h5 h6 _ _ _=>k10.obj j (by omega) (fun e=>by rcases e with e | e | e <;> first | omega | (have:=havlo j e; omega))) hL10 (by rw [k10.obj _ (by omega) (fun e=>by rcases e with e | e | e <;> first | omega | (have:=havlo _ e; omega))]; exact hB9.upO) (by rw [k10.obj _ (by omega) (fun e=>by rcases e with e | e | e <;> first | omega | (have:=havlo _ e; omega))]; exact hB9.downO) hB9.usl hB9.dsl
       have hu10:=hu9.M (av':=av1) k10 (fun j e=>by rcases e with e | e | e <;> first | omega | exact .inr e) hs10
       have hd10:=hd9.M (av':=av1) k10 (fun j e=>by rcases e with e | e | e <;> first | omega | exact .inr e) hs10
       have hl10:=hl9.M k10 (fun j hj e=>by have:=hlv j hj; rcases e with e | e | e <;> first | omega | exact hlne j hj e)
       have hrk10:=hrk9.keepM k10 (fun j hj e=>by have:=hrk6' j hj; rcases e with e | e | e <;> first | omega | (have:=havlo j e; omega))
       have kJ:Keep Nothing H H10:=kI.trans' k10 (fun j hj e=>by rcases e with e | e | e <;> first | omega | (have:=havlo j e; omega))
       have hlne10:∀ j,sid lv=some j→sid av1≠some j:=fun j hj e=>by
        rcases hs10 with h | ⟨y,h,hy⟩
        ·rw [h] at e; exact hlne j hj e
        ·rw [h] at e; injection e with e
         have:=hlv j hj; omega
       have ho:=hB10.lay.obj
       have gO:=hB10.lay.goneO
       have gl:(xV s.gone).length=N:=by simp [xV,hgone.goneLen]
       have hvg:xO 1 (.slice b3 0 N (.exact N)) (.int .i64 (v:Int))=some (.ptr b3 v):=by rw [xM ⟨by omega,by omega⟩]; simp
       have gset:yV (xV s.gone) v [.bool true]=xV (s.gone.set v true):=by
        rw [yQ (by rw [gl]; omega)]
        simp [xV,List.map_set]
       simp (disch:=first | omega | (simp only [xB,xC] <;> omega) | fail) only [vai,xI,xP,Bool.not_true,Bool.not_false,decide_true,decide_false,xH,ho,gO,gl,hvg,hle,gset,Nat.reduceAdd,Nat.reduceMul,Nat.reduceLeDiff,Nat.reduceEqDiff,↓reduceIte]
       rw [hup] at hst
       have k11:Keep (fun j=>j=b3) H10 (H10.upd b3 (some (.cells (xV (s.gone.set v true)) true))):=(Keep.refl (fun j=>j=b3) _).upd (.inr rfl) _
       refine ⟨l.length - (k+1),by omega,k+1,rv,av1,us.set v ur,ds.set v dr,rfl,by omega,rfl,kJ.upd (.inl (by omega)) _,(by first | omega | (simp only [xB,xC]; omega)),?_⟩
       rw [hst]
       simp only
       refine ⟨hB10.upd (Nat.le_refl _) (fun j hj _ _ h6 _ _=>xQ h6) ⟨by rw [xQ (by omega)]; exact hB10.lay.obj,by rw [xQ (by omega)]; exact hB10.lay.curO,xN rfl,hB10.lay.wlt,hB10.lay.clt,hB10.lay.glt,hB10.lay.curLen,by rw [List.length_set]; exact hB10.lay.goneLen⟩ (by rw [xQ (by omega)]; exact hB10.upO) (by rw [xQ (by omega)]; exact hB10.downO) hB10.usl hB10.dsl,
        hrk10.keepM k11 (fun j hj e=>by have:=hrk6' j hj; omega),hrlt,hg10.upd (by omega) _,hl10.M k11 (fun j hj e=>by have:=hlv j hj; omega),hlne10,hu10.M k11 (fun j e=>by omega) (.inl rfl),hd10.M k11 (fun j e=>by omega) (.inl rfl)⟩
    ·simp (disch:=first | omega | (simp only [xB,xC] <;> omega) | fail) only [vai,xI,xP,Bool.not_true,Bool.not_false,decide_true,decide_false,xH,List.replicate,hc2,decide_false,hlen,Nat.reduceAdd,Nat.reduceMul,Nat.reduceLeDiff,Nat.reduceEqDiff,↓reduceIte]
     have hk:k=l.length:=by omega
     subst hk
     have hidx:qA N es=⟨N,es,(zQ N (yG N es) l l.length).rank,(zQ N (yG N es) l l.length).arcs,vH N (zQ N (yG N es) l l.length) (zQ N (yG N es) l l.length).up N,(zQ N (yG N es) l l.length).down⟩:=by
      simp only [qA,uX,hl,hierOf]
     generalize zQ N (yG N es) l l.length=s at *
     refine xS (fun m t H'=>∃ (v:Nat) (us:List AVal),m=N - v∧v≤N∧t=(xP 1 (.ptr H.next 0 :: .ptr b1 0 :: .ptr b4 0 :: xP 8 (.int .i64 v :: xP 154 ([]))):xJ)∧Keep Nothing H H'∧H5.next≤H'.next ∧
      BLay H' H.next b1 b2 b3 b4 H1.next (H1.next+1) N es ev ew rv av s.cur s.gone us ds ∧
      Own (H1.next+2) H' rv 1 (xL s.rank)∧Grown H2.next H' av 7 (xW s.arcs) ∧
      RowsAt H2.next H' av us (vH N s s.up v)∧RowsAt H2.next H' av ds s.down) N ?_ ?_
     ·exact ⟨0,us,rfl,by omega,rfl,kE,Nat.le_refl _,hB,hrk,hga,hup,hdn⟩
     ·have hNN:N*N≤441:=Nat.mul_le_mul hN21 hN21
      have hk25:l.length*(25*(N*N))≤21*11025:=Nat.mul_le_mul (by omega) (by omega)
      have hac:=hgone.count
      have hcurb:∀ x∈s.cur,0≤x∧x≤1000000:=fun x hx=>by
       have:=hgone.good.bd x hx
       simp only at this
       omega
      clear hB hrk hga hup hdn hlr kE
      rintro m t H6 ⟨v,us,rfl,hv1,rfl,kF,hn6,hB,hrk,hga,hup,hdn⟩
      have hnb:=hB.nbox
      have ho:=hB.lay.obj
      have gO:=hB.lay.goneO
      by_cases hc3:(v:Int) < N
      ·have hvN:v < N:=by omega
       have hvg:xO 1 (.slice b3 0 N (.exact N)) (.int .i64 (v:Int))=some (.ptr b3 v):=by rw [xM ⟨by omega,by omega⟩]; simp
       have hvu:xO 1 (.slice H1.next 0 N (.exact N)) (.int .i64 (v:Int))=some (.ptr H1.next v):=by rw [xM ⟨by omega,by omega⟩]; simp
       have hgv:(xV s.gone)[v]? = some (.bool (s.gone.getD v false)):=by
        have:v < s.gone.length:=by rw [hgone.goneLen]; exact hvN
        simp [xV,this]
       have hst:vH N s s.up (v+1)=stayStep N s (vH N s s.up v) v:=rfl
       unfold stayStep at hst
       cases hgd:s.gone.getD v false with
       | true =>
        rw [hgd] at hgv
        rw [if_pos hgd] at hst
        simp (disch:=first | omega | (simp only [xB,xC] <;> omega) | fail) only [vai,xI,xP,Bool.not_true,Bool.not_false,decide_true,decide_false,xH,List.replicate,hc3,decide_true,hnb,ho,gO,hvg,hgv,Bool.not_true,Nat.reduceAdd,Nat.reduceMul,Nat.reduceLeDiff,Nat.reduceEqDiff,↓reduceIte]
        exact ⟨N - (v+1),by omega,v+1,us,rfl,by omega,rfl,kF,by omega,hB,hrk,hga,by rw [hst]; exact hup,hdn⟩
       | false =>
        rw [hgd] at hgv
        rw [if_neg (by rw [hgd]; simp)] at hst
        simp (disch:=first | omega | (simp only [xB,xC] <;> omega) | fail) only [vai,xI,xP,Bool.not_true,Bool.not_false,decide_true,decide_false,xH,List.replicate,hc3,decide_true,hnb,ho,gO,hvg,hgv,Bool.not_false,Nat.reduceAdd,Nat.reduceMul,Nat.reduceLeDiff,Nat.reduceEqDiff,↓reduceIte]
        refine wout_ret hB.lay (by omega) (by omega) hcurb ?_
        intro ur H7 k7 g7
        have hB7:=hB.kept k7
        have n7:=k7.next
        have ho7:=hB7.lay.obj
        have uO:=hB7.upO
        have usl:=hB7.usl
        have cu:=g7.cells
        have hle:v+1≤N:=by omega
        simp (disch:=first | omega | (simp only [xB,xC] <;> omega) | fail) only [vai,xI,xP,Bool.not_true,Bool.not_false,decide_true,decide_false,xH,ho7,uO,usl,hvu,cu,hle,yQ,Nat.reduceAdd,Nat.reduceMul,Nat.reduceLeDiff,Nat.reduceEqDiff,↓reduceIte]
        have k8:Keep (fun j=>j=H1.next) H7 (H7.upd H1.next (some (.cells (us.set v ur) true))):=(Keep.refl (fun j=>j=H1.next) _).upd (.inr rfl) _
        have su:∀ j,sid ur=some j→H6.next≤j∧j < H7.next:=fun j hj=>g7.sid_ge hj
        have havlt:∀ j,sid av=some j→j < H6.next:=fun j hj=>(hga.sid_ge hj).2
        refine ⟨N - (v+1),by omega,v+1,us.set v ur,rfl,by omega,rfl,(kF.trans k7).upd (.inl (by omega)) _,(by first | omega | (simp only [xB,xC]; omega)),?_⟩
        rw [hst]
        exact ⟨hB7.upd (Nat.le_refl _) (fun j hj _ _ _ h6 _=>xQ h6) (hB7.lay.M k8 (by omega) (by omega) (by omega)) (xN rfl) (by rw [xQ (by omega)]; exact hB7.downO) (by rw [List.length_set,usl]) hB7.dsl,
         (hrk.kept k7).keepM k8 (fun j hj e=>by have:=(hrk.sid_ge hj).1; omega),(hga.keep k7.next (fun j _ hj=>k7.old hj)).upd (by omega) _,
         (((hup.M (av':=av) k7 (fun j e=>e.elim) (.inl rfl)).M (av':=av) k8 (fun j e=>by omega) (.inl rfl)).set (g7.row.M k8 (fun j hj e=>by have:=su j hj; omega)) (fun j hj=>⟨by have:=su j hj; omega,fun e=>by have:=su j hj; have:=havlt j e; omega⟩) (by rw [usl,zV,hgone.upLen])),
         ((hdn.M (av':=av) k7 (fun j e=>e.elim) (.inl rfl)).M (av':=av) k8 (fun j e=>by omega) (.inl rfl))⟩
      ·have hv:N=v:=by omega
       subst hv
       have hvar:=hB.var
       have c1:=hB.edges.cells
       have c2:=hrk.cells
       have c3:=hga.cells
       simp (disch:=first | omega | (simp only [xB,xC] <;> omega) | fail) only [vai,xI,xP,Bool.not_true,Bool.not_false,decide_true,decide_false,xH,List.replicate,hc3,decide_false,hnb,ho,hvar,Nat.reduceAdd,Nat.reduceMul,Nat.reduceLeDiff,Nat.reduceEqDiff,↓reduceIte]
       have k8:Keep (fun j=>j=b1) H6 (H6.upd b1 (some (.cells [.int .i64 N,ew,rv,av,.slice H1.next 0 N (.exact N),.slice (H1.next+1) 0 N (.exact N)] true))):=(Keep.refl (fun j=>j=b1) _).upd (.inr rfl) _
       refine hq _ _ _ _ _ _ (kF.upd (.inl (by omega)) _) ?_
       rw [hidx]
       have hwl:=hB.lay.wlt
       obtain ⟨o1,o2,o3,o4,o5,o6,o7⟩:=hB.ord
       have rows:∀ (w:Nat) (vs:List AVal) (ul:List (List Int)),w < H6.next→w≠b1→w < H2.next→H6.obj w=some (.cells vs true)→vs.length=N→ul.length=N→RowsAt H2.next H6 av vs ul→H.next≤w→FromRows H.next (H6.upd b1 (some (.cells [.int .i64 N,ew,rv,av,.slice H1.next 0 N (.exact N),.slice (H1.next+1) 0 N (.exact N)] true))) (.slice w 0 N (.exact N)) ul:=by
        intro w vs ul h1 h2 h3 h4 h5 h6 h7 h8
        refine ⟨vs,⟨.mk (c:=vs) h1 (by rw [cells?_of,xQ h2,h4]; rfl) (by omega) (by simp [← h5]),fun j hj=>by injection hj with hj; omega⟩,by omega,fun i r l e1 e2=>?_⟩
        obtain ⟨g1,g2⟩:=h7 i r l e1 e2
        exact ⟨g1.M k8 (fun j hj e=>by have:=(g2 j hj).1; omega),fun j hj=>by have:=(g2 j hj).1; omega⟩
       exact ⟨⟨hB.edges.M k8 (fun j hj e=>by have:=hB.ewid j hj; omega),fun j hj=>by have:=hB.ewid j hj; omega⟩,⟨hrk.row.M k8 (fun j hj e=>by have:=(hrk.sid_ge hj).1; omega),fun j hj=>by have:=(hrk.sid_ge hj).1; omega⟩,⟨hga.row.M k8 (fun j hj e=>by have:=(hga.sid_ge hj).1; omega),fun j hj=>by have:=(hga.sid_ge hj).1; omega⟩,
        rows _ _ _ (by omega) (by omega) (by omega) hB.upO hB.usl (by rw [zV,hgone.upLen]) hup (by omega),rows _ _ _ (by omega) (by omega) (by omega) hB.downO hB.dsl hgone.downLen hdn (by omega)⟩
theorem build_ret {N:Nat} {ev:AVal} {es:List Edge} {H:AHeap} {Q:AVal→AHeap→Prop} (hr:Row H ev 4 (xG es)) (hnet:NetOk N es) (hN21:N≤21)
  (hq:∀ ew rv av uv dv H',Keep Nothing H H'→IdxAt H' ew rv av uv dv (qA N es)→Q (.agg [.int .i64 N,ew,rv,av,uv,dv]) H'):Ret A 7 [.agg [.int .i64 N,ev]] H Q :=
 buildFrom_ret hr hnet hN21 fun ew rv av uv dv H' k h=>hq ew rv av uv dv H' k h.idx
end Go.Proofs.YtknhlpmmalcchaaGreat

namespace Go.Proofs.YtknhlpmmalcchaaGreat
open Go Go.VAI
set_option linter.unusedSimpArgs false

end Go.Proofs.YtknhlpmmalcchaaGreat

namespace Go.Proofs.YtknhlpmmalcchaaGreat
open Go Go.VAI
set_option linter.unusedSimpArgs false

structure EncAt (H0 H:AHeap) (x:List AVal) (bv:AVal) (bs:List Int):Prop where
 keep:Keep Nothing H0 H
 lt:H0.next+3≤H.next
 box:H.obj H0.next=some (.cells x true)
 w:H.obj (H0.next+1+1)=some (.cells [bv] true)
 own:Own (H0.next+1) H bv 1 (u8s bs)
 ne:sid bv≠some (H0.next+1+1)
theorem EncAt.kept {H0 H H':AHeap} {x:List AVal} {bv:AVal} {bs:List Int} (h:EncAt H0 H x bv bs) (hk:Keep Nothing H H'):EncAt H0 H' x bv bs:=by
 have:=h.lt
 exact ⟨h.keep.trans hk,by have:=hk.next; omega,by rw [hk.old (by omega)]; exact h.box,by rw [hk.old (by omega)]; exact h.w,h.own.kept hk,h.ne⟩
end Go.Proofs.YtknhlpmmalcchaaGreat

namespace Go.Proofs.YtknhlpmmalcchaaGreat
open Go Go.VAI
set_option linter.unusedSimpArgs false

def mkN (size:Int):Nat:=(1+size % 12).toNat
def mkEs (size modes:Int) (xs:List Int):List Edge:=(xs.take 40).map (zK (1+size % 12) modes)
theorem mkN_eq (size:Int):((mkN size:Nat):Int)=1+size % 12:=by unfold mkN; omega
theorem mk_net (size modes:Int) (xs:List Int):NetOk (mkN size:Nat) (mkEs size modes xs):=by
 rw [mkN_eq]
 have h1:0≤size % 12:=by omega
 have h2:size % 12 < 12:=by omega
 refine ⟨by omega,by omega,by simp [mkEs]; omega,fun e he=>?_⟩
 simp only [mkEs,List.mem_map] at he
 obtain ⟨k,_,rfl⟩:=he
 have a1:=Int.emod_nonneg k (show 1+size % 12≠0 by omega)
 have a2:=Int.emod_lt_of_pos k (show 0 < 1+size % 12 by omega)
 have b1:=Int.emod_nonneg (k.tdiv 13) (show 1+size % 12≠0 by omega)
 have b2:=Int.emod_lt_of_pos (k.tdiv 13) (show 0 < 1+size % 12 by omega)
 refine ⟨⟨a1,a2⟩,⟨b1,b2⟩,?_,?_⟩
 ·simp only [zK]
  generalize k % (1+size % 12)+k.tdiv 13 % (1+size % 12)=p
  generalize k.tdiv 170 % 5*(k % (1+size % 12))=q
  split
  ·omega
  ·split <;> omega
 ·simp only [zK]
  split <;> omega
theorem mk_small (size:Int):mkN size≤21:=by unfold mkN; omega
theorem idx_allowed {N:Nat} {es:List Edge} (h:NetOk N es) (hN:N≤21):Allowed (qA N es):=by
 obtain ⟨cur,ex,hb⟩:=built (l:=uX N es) (fun e he=>by
  obtain ⟨a1,a2,a3,a4⟩:=h.2.2.2 e he
  exact ⟨a1,a2,a3,a4.1⟩) (orderOf_ok N es _)
 exact built_allowed h (orderOf_ok N es _) hN hb
end Go.Proofs.YtknhlpmmalcchaaGreat

namespace Go.Proofs.YtknhlpmmalcchaaGreat
open Go Go.VAI
set_option linter.unusedSimpArgs false

structure RS where
 left:List Int
 bad:Bool
 deriving DecidableEq,Inhabited
def Bytes (l:List Int):Prop:=∀ b∈l,0≤b∧b < 256
def RdAt (H:AHeap) (w:Nat) (src:Option Nat) (s:RS):Prop:=∃ lv,H.obj w=some (.cells [lv,.bool s.bad] true)∧RowC H lv 1 (u8s s.left)∧sid lv=src∧w < H.next∧src≠some w∧Bytes s.left∧s.left.length≤4611686018427387904
theorem RdAt.M {M:Nat→Prop} {H H':AHeap} {w:Nat} {src:Option Nat} {s:RS} (h:RdAt H w src s) (hk:Keep M H H') (hw:¬ M w) (hs:∀ j,src=some j→¬ M j):RdAt H' w src s:=by
 obtain ⟨lv,h1,h2,h3,h4,h5,h6,h7⟩:=h
 exact ⟨lv,by rw [hk.obj w h4 hw]; exact h1,h2.M hk (fun j hj=>hs j (by rw [← h3]; exact hj)),h3,by have:=hk.next; omega,h5,h6,h7⟩
theorem RdAt.kept {H H':AHeap} {w:Nat} {src:Option Nat} {s:RS} (h:RdAt H w src s) (hk:Keep Nothing H H'):RdAt H' w src s:=h.M hk (fun h=>h) (fun _ _ h=>h)
end Go.Proofs.YtknhlpmmalcchaaGreat

namespace Go.Proofs.YtknhlpmmalcchaaGreat
open Go Go.VAI
set_option linter.unusedSimpArgs false

theorem RdAt.bytes {H:AHeap} {w:Nat} {src:Option Nat} {s:RS} (h:RdAt H w src s):Bytes s.left:=by
 obtain ⟨lv,h1,h2,h3,h4,h5,h6,h7⟩:=h
 exact h6
theorem RdAt.lt {H:AHeap} {w:Nat} {src:Option Nat} {s:RS} (h:RdAt H w src s):w < H.next:=by
 obtain ⟨lv,h1,h2,h3,h4,h5,h6,h7⟩:=h
 exact h4
structure RW (H0 H:AHeap) (w:Nat) (src:Option Nat) (s:RS) (p q:Nat) (cs zs:List AVal):Prop where
 keep:Keep (fun j=>j=w) H0 H
 rd:RdAt H w src s
 o1:H.obj p=some (.cells cs true)
 o2:H.obj q=some (.cells zs true)
 lp:H0.next≤p∧p < H.next
 lq:H0.next≤q∧q < H.next
 ne:p≠q
 lw:w < H0.next
 ls:∀ j,src=some j→j < H0.next
theorem RW.set {H0 H:AHeap} {w p q:Nat} {src:Option Nat} {s:RS} {cs zs:List AVal} (h:RW H0 H w src s p q cs zs) (cs':List AVal):RW H0 (H.upd p (some (.cells cs' true))) w src s p q cs' zs:=by
 have l1:=h.lp
 have l2:=h.lq
 have l3:=h.lw
 have kk:Keep (fun j=>j=p) H (H.upd p (some (.cells cs' true))):=(Keep.refl (fun j=>j=p) _).upd (.inr rfl) _
 refine ⟨h.keep.upd (.inl l1.1) _,h.rd.M kk (by omega) (fun j hj=>by have:=h.ls j hj; omega),xN rfl,?_,l1,l2,h.ne,h.lw,h.ls⟩
 rw [xQ (fun e=>h.ne e.symm)]; exact h.o2
end Go.Proofs.YtknhlpmmalcchaaGreat

namespace Go.Proofs.YtknhlpmmalcchaaGreat
open Go Go.VAI
set_option linter.unusedSimpArgs false

theorem cloneE_ret {v:AVal} {es:List Edge} {H:AHeap} {Q:AVal→AHeap→Prop} (hr:Row H v 4 (xG es)) (hlen:es.length≤1000000000)
  (hq:∀ v' H',Keep Nothing H H'→Own H.next H' v' 4 (xG es)→Q v' H'):Ret A 31 [v] H Q:=by
 refine Ret.of (fn:=F31) rfl ?_
 rcases hr.nilTest with ⟨rfl,h1,_⟩ | h1
 ·simp (disch:=first | omega | (simp only [nx] <;> omega) | fail) only [vaw,F31,Nat.reduceAdd,Nat.reduceMul,Nat.reduceLeDiff,Nat.reduceEqDiff,↓reduceIte]
  refine hq _ _ (.refl _ _) ?_
  rw [h1]; exact .nil
 ·simp (disch:=first | omega | (simp only [nx] <;> omega) | fail) only [vaw,F31,h1,Nat.reduceAdd,Nat.reduceMul,Nat.reduceLeDiff,Nat.reduceEqDiff,↓reduceIte]
  refine copy_ret (n:=es.length) (by simp (disch:=first | omega | (simp only [nx] <;> omega) | fail) only [xI]) (by first | omega | (simp only [xB,xC]; omega)) (hr.kept ((Keep.refl _ _).new _)) (xU es) (by omega) (by omega) (by omega) ?_
  intro v' H' k' g' s'
  simp (disch:=first | omega | (simp only [nx] <;> omega) | fail) only [vaw,g'.notBot,Nat.reduceAdd,Nat.reduceMul,Nat.reduceLeDiff,Nat.reduceEqDiff,↓reduceIte]
  exact hq _ _ (((Keep.refl _ _).new _).trans k') g'
theorem cloneA_ret {v:AVal} {es:List Arc} {H:AHeap} {Q:AVal→AHeap→Prop} (hr:Row H v 7 (xW es)) (hlen:es.length≤1000000000)
  (hq:∀ v' H',Keep Nothing H H'→Own H.next H' v' 7 (xW es)→Q v' H'):Ret A 37 [v] H Q:=by
 refine Ret.of (fn:=F37) rfl ?_
 rcases hr.nilTest with ⟨rfl,h1,_⟩ | h1
 ·simp (disch:=first | omega | (simp only [nx] <;> omega) | fail) only [vaw,F37,Nat.reduceAdd,Nat.reduceMul,Nat.reduceLeDiff,Nat.reduceEqDiff,↓reduceIte]
  refine hq _ _ (.refl _ _) ?_
  rw [h1]; exact .nil
 ·simp (disch:=first | omega | (simp only [nx] <;> omega) | fail) only [vaw,F37,h1,Nat.reduceAdd,Nat.reduceMul,Nat.reduceLeDiff,Nat.reduceEqDiff,↓reduceIte]
  refine copy_ret (n:=es.length) (by simp (disch:=first | omega | (simp only [nx] <;> omega) | fail) only [xI]) (by first | omega | (simp only [xB,xC]; omega)) (hr.kept ((Keep.refl _ _).new _)) (yJ es) (by omega) (by omega) (by omega) ?_
  intro v' H' k' g' s'
  simp (disch:=first | omega | (simp only [nx] <;> omega) | fail) only [vaw,g'.notBot,Nat.reduceAdd,Nat.reduceMul,Nat.reduceLeDiff,Nat.reduceEqDiff,↓reduceIte]
  exact hq _ _ (((Keep.refl _ _).new _).trans k') g'
theorem cloneI_ret {v:AVal} {es:List Int} {H:AHeap} {Q:AVal→AHeap→Prop} (hr:Row H v 1 (xL es)) (hlen:es.length≤1000000000)
  (hq:∀ v' H',Keep Nothing H H'→Own H.next H' v' 1 (xL es)→Q v' H'):Ret A 67 [v] H Q:=by
 refine Ret.of (fn:=F67) rfl ?_
 rcases hr.nilTest with ⟨rfl,h1,_⟩ | h1
 ·simp (disch:=first | omega | (simp only [nx] <;> omega) | fail) only [vaw,F67,Nat.reduceAdd,Nat.reduceMul,Nat.reduceLeDiff,Nat.reduceEqDiff,↓reduceIte]
  refine hq _ _ (.refl _ _) ?_
  rw [h1]; exact .nil
 ·simp (disch:=first | omega | (simp only [nx] <;> omega) | fail) only [vaw,F67,h1,Nat.reduceAdd,Nat.reduceMul,Nat.reduceLeDiff,Nat.reduceEqDiff,↓reduceIte]
  refine copy_ret (n:=es.length) (by simp (disch:=first | omega | (simp only [nx] <;> omega) | fail) only [xI]) (by first | omega | (simp only [xB,xC]; omega)) (hr.kept ((Keep.refl _ _).new _)) (by rw [xE]; omega) (by omega) (by omega) (by omega) ?_
  intro v' H' k' g' s'
  simp (disch:=first | omega | (simp only [nx] <;> omega) | fail) only [vaw,g'.notBot,Nat.reduceAdd,Nat.reduceMul,Nat.reduceLeDiff,Nat.reduceEqDiff,↓reduceIte]
  exact hq _ _ (((Keep.refl _ _).new _).trans k') g'
end Go.Proofs.YtknhlpmmalcchaaGreat

namespace Go.Proofs.YtknhlpmmalcchaaGreat
open Go Go.VAI
set_option linter.unusedSimpArgs false

def cmpI (x y:Int):Int:=if x < y then -1 else if y < x then 1 else 0
def orOf:List Int→Int
 | []=>0
 | x :: l=>if x≠0 then x else orOf l
theorem isNaN_ret {x:Int} {H:AHeap} {Q:AVal→AHeap→Prop} (hq:Q (.bool false) H):Ret A 91 [.int .i64 x] H Q:=by
 refine Ret.of (fn:=F91) rfl ?_
 simp (disch:=first | omega | (simp only [nx] <;> omega) | fail) only [vaw,F91,ne_eq,not_true_eq_false,Nat.reduceAdd,Nat.reduceMul,Nat.reduceLeDiff,Nat.reduceEqDiff,↓reduceIte]
 exact hq
theorem compare_ret {x y:Int} {H:AHeap} {Q:AVal→AHeap→Prop} (hq:Q (.int .i64 (cmpI x y)) H):Ret A 73 [.int .i64 x,.int .i64 y] H Q:=by
 refine Ret.of (fn:=F73) rfl ?_
 simp (disch:=first | omega | (simp only [nx] <;> omega) | fail) only [vaw,F73,Nat.reduceAdd,Nat.reduceMul,Nat.reduceLeDiff,Nat.reduceEqDiff,↓reduceIte]
 refine isNaN_ret ?_
 simp (disch:=first | omega | (simp only [nx] <;> omega) | fail) only [vaw,Nat.reduceAdd,Nat.reduceMul,Nat.reduceLeDiff,Nat.reduceEqDiff,↓reduceIte]
 refine isNaN_ret ?_
 unfold cmpI at hq
 by_cases h1:x < y
 ·rw [if_pos h1] at hq
  simp (disch:=first | omega | (simp only [nx] <;> omega) | fail) only [vaw,h1,Nat.reduceAdd,Nat.reduceMul,Nat.reduceLeDiff,Nat.reduceEqDiff,↓reduceIte]
  exact hq
 by_cases h2:y < x
 ·rw [if_neg h1,if_pos h2] at hq
  simp (disch:=first | omega | (simp only [nx] <;> omega) | fail) only [vaw,h1,h2,Nat.reduceAdd,Nat.reduceMul,Nat.reduceLeDiff,Nat.reduceEqDiff,↓reduceIte]
  exact hq
 ·rw [if_neg h1,if_neg h2] at hq
  simp (disch:=first | omega | (simp only [nx] <;> omega) | fail) only [vaw,h1,h2,Nat.reduceAdd,Nat.reduceMul,Nat.reduceLeDiff,Nat.reduceEqDiff,↓reduceIte]
  exact hq
theorem orOf_drop {xs:List Int} {i:Nat} {x:Int} (h:xs[i]? = some x):orOf (xs.drop i)=if x≠0 then x else orOf (xs.drop (i+1)):=by
 obtain ⟨h1,h2⟩:=List.getElem?_eq_some_iff.1 h
 rw [List.drop_eq_getElem_cons h1,h2,orOf]
theorem or_ret {v:AVal} {xs:List Int} {H:AHeap} {Q:AVal→AHeap→Prop} (hr:Row H v 1 (xL xs)) (hlen:xs.length≤1000000) (hq:Q (.int .i64 (orOf xs)) H):Ret A 72 [v] H Q:=by
 refine Ret.of (fn:=F72) rfl ?_
 have hl:=hr.len1
 rw [xE] at hl
 simp (disch:=first | omega | (simp only [nx] <;> omega) | fail) only [vaw,F72,hl,Nat.reduceAdd,Nat.reduceMul,Nat.reduceLeDiff,Nat.reduceEqDiff,↓reduceIte]
 refine xS (fun m t H'=>∃ (i:Nat),m=xs.length - i∧i≤xs.length∧t=(xP 3 (.int .i64 0 :: xP 2 (v :: .int .i64 xs.length :: .int .i64 i :: xP 9 ([]))):xJ)∧H'=H∧orOf xs=orOf (xs.drop i)) xs.length ?_ ?_
 ·exact ⟨0,rfl,by omega,rfl,rfl,rfl⟩
 ·rintro m t H1 ⟨i,rfl,hi,rfl,rfl,ho⟩
  by_cases hc:(i:Int) < xs.length
  ·have hil:i < xs.length:=by omega
   have hx:xs[i]? = some xs[i]:=by simp [hil]
   obtain ⟨id,off,e1,e2,e3⟩:=hr.int_at (k:=.i64) hx
   have hd:=orOf_drop hx
   generalize xs[i]=x at *
   by_cases h0:x=0
   ·simp (disch:=first | omega | (simp only [nx] <;> omega) | fail) only [vaw,hc,e1,e3,h0,ne_eq,not_true_eq_false,Nat.reduceAdd,Nat.reduceMul,Nat.reduceLeDiff,Nat.reduceEqDiff,↓reduceIte]
    rw [if_neg (fun h=>h h0)] at hd
    exact ⟨xs.length - (i+1),by omega,i+1,rfl,by omega,rfl,by rw [ho,hd]⟩
   ·simp (disch:=first | omega | (simp only [nx] <;> omega) | fail) only [vaw,hc,e1,e3,h0,ne_eq,not_false_eq_true,Nat.reduceAdd,Nat.reduceMul,Nat.reduceLeDiff,Nat.reduceEqDiff,↓reduceIte]
    rw [if_pos h0] at hd
    rw [← hd,← ho]
    exact hq
  ·have:i=xs.length:=by omega
   subst this
   rw [List.drop_length] at ho
   simp (disch:=first | omega | (simp only [nx] <;> omega) | fail) only [vaw,hc,Nat.reduceAdd,Nat.reduceMul,Nat.reduceLeDiff,Nat.reduceEqDiff,↓reduceIte]
   have:orOf xs=0:=ho
   rw [this] at hq
   exact hq
def yN (a b:Int × Int):Int:=orOf [cmpI a.2 b.2,cmpI a.1 b.1]
def wF (a:Int × Int):List AVal:=[.int .i64 a.1,.int .i64 a.2]
theorem before_ret {a b:Int × Int} {H:AHeap} {Q:AVal→AHeap→Prop} (hq:∀ H',Keep Nothing H H'→Q (.int .i64 (yN a b)) H'):Ret A 63 [.agg (wF a),.agg (wF b)] H Q:=by
 refine Ret.of (fn:=F63) rfl ?_
 unfold wF
 simp (disch:=first | omega | (simp only [nx] <;> omega) | fail) only [vaw,F63,Nat.reduceAdd,Nat.reduceMul,Nat.reduceLeDiff,Nat.reduceEqDiff,↓reduceIte]
 refine compare_ret ?_
 simp (disch:=first | omega | (simp only [nx] <;> omega) | fail) only [vaw,Nat.reduceAdd,Nat.reduceMul,Nat.reduceLeDiff,Nat.reduceEqDiff,↓reduceIte]
 refine compare_ret ?_
 simp (disch:=first | omega | (simp only [nx] <;> omega) | fail) only [vaw,Nat.reduceAdd,Nat.reduceMul,Nat.reduceLeDiff,Nat.reduceEqDiff,↓reduceIte]
 refine or_ret (xs:=[cmpI a.2 b.2,cmpI a.1 b.1]) (.mk (c:=xL [cmpI a.2 b.2,cmpI a.1 b.1]) (by simp only [xB]; omega) (by simp (disch:=first | omega | (simp only [nx] <;> omega) | fail) only [xI]; rfl) (by simp [xE]) rfl) (by simp) ?_
 simp (disch:=first | omega | (simp only [nx] <;> omega) | fail) only [vaw,Nat.reduceAdd,Nat.reduceMul,Nat.reduceLeDiff,Nat.reduceEqDiff,↓reduceIte]
 exact hq _ (((Keep.refl _ _).new _).new _ |>.new _)
theorem rcmp_ret {a b:Int × Int} {H:AHeap} {Q:AVal→AHeap→Prop} (hq:∀ H',Keep Nothing H H'→Q (.int .i64 (yN a b)) H'):Ret A 62 [.agg (wF a),.agg (wF b)] H Q:=by
 refine Ret.of (fn:=F62) rfl ?_
 have e1:(wF a).length=2:=rfl
 have e2:(wF b).length=2:=rfl
 have f1:((wF a).drop 0).take 2=wF a:=rfl
 have f2:((wF b).drop 0).take 2=wF b:=rfl
 simp (disch:=first | omega | (simp only [nx] <;> omega) | fail) only [vaw,F62,e1,e2,f1,f2,Nat.reduceAdd,Nat.reduceMul,Nat.reduceLeDiff,Nat.reduceEqDiff,↓reduceIte]
 refine before_ret fun H1 k1=>?_
 simp (disch:=first | omega | (simp only [nx] <;> omega) | fail) only [vaw,Nat.reduceAdd,Nat.reduceMul,Nat.reduceLeDiff,Nat.reduceEqDiff,↓reduceIte]
 exact hq _ ((((Keep.refl _ _).new _).new _).trans k1)
end Go.Proofs.YtknhlpmmalcchaaGreat

/- Closed facts of the program: what its head says,read as a list of signs (the kernel is slow at a long text's own signs). -/
namespace Go.Proofs.YtknhlpmmalcchaaGreat
open Go Go.ChangeShapes Go.WideShapes Go.ChangeAt Go.RowKit
set_option maxRecDepth 100000
theorem ne1 : ("cut".toList == "gc".toList) = false := by kernel_rfl
theorem own:ownKnob Tryz.prog.godebug=none:=by kernel_rfl
theorem follows:Tryz.prog.follows .mixedOrders=true:=by kernel_rfl
end Go.Proofs.YtknhlpmmalcchaaGreat

/- Sorting a row of keys: the library's own contract,laid at this program (written out by the kit's lay-plain). -/
namespace Go.Proofs
open Go.Shelf
def Tryz.sortKey_ren:Go.Shelf.Ren:=⟨fun | 6=>54 | 15=>71 | 14=>70 | 28=>89 | 29=>90 | 20=>81 | 21=>82 | 22=>83 | 23=>84 | 24=>85 | 25=>86 | 26=>87 | 27=>88 | 46=>102 | 47=>103 | 48=>104 | 49=>105 | 50=>106 | 57=>110 | n=>n,fun | 22=>85 | 24=>67 | 25=>88 | 3=>3 | 39=>101 | 0=>0 | 53=>124 | 55=>126 | 4=>4 | 46=>118 | 45=>117 | 50=>86 | 5=>5 | 9=>9 | 66=>134 | 70=>138 | 76=>142 | 77=>143 | n=>n,fun | n=>n⟩
theorem Tryz.sortKey:Go.Proofs.SlLaysF0.n6 Tryz.prog Tryz.sortKey_ren:={
 mixed:=by kernel_rfl
 f6:=⟨Tryz.f54.name,by decide,Tryz.func54.trans (congrArg some (by kernel_rfl))⟩
 f14:=⟨Tryz.f70.name,by decide,Tryz.func70.trans (congrArg some (by kernel_rfl))⟩
 f15:=Tryz.func71.trans (congrArg some (by kernel_rfl))
 f20:=⟨Tryz.f81.name,by decide,Tryz.func81.trans (congrArg some (by kernel_rfl))⟩
 f21:=⟨Tryz.f82.name,by decide,Tryz.func82.trans (congrArg some (by kernel_rfl))⟩
 f22:=⟨Tryz.f83.name,by decide,Tryz.func83.trans (congrArg some (by kernel_rfl))⟩
 f23:=⟨Tryz.f84.name,by decide,Tryz.func84.trans (congrArg some (by kernel_rfl))⟩
 f24:=⟨Tryz.f85.name,by decide,Tryz.func85.trans (congrArg some (by kernel_rfl))⟩
 f25:=⟨Tryz.f86.name,by decide,Tryz.func86.trans (congrArg some (by kernel_rfl))⟩
 f26:=⟨Tryz.f87.name,by decide,Tryz.func87.trans (congrArg some (by kernel_rfl))⟩
 f27:=⟨Tryz.f88.name,by decide,Tryz.func88.trans (congrArg some (by kernel_rfl))⟩
 f28:=Tryz.func89.trans (congrArg some (by kernel_rfl))
 f29:=Tryz.func90.trans (congrArg some (by kernel_rfl))
 f46:=⟨Tryz.f102.name,by decide,Tryz.func102.trans (congrArg some (by kernel_rfl))⟩
 f47:=Tryz.func103.trans (congrArg some (by kernel_rfl))
 f48:=Tryz.func104.trans (congrArg some (by kernel_rfl))
 f49:=⟨Tryz.f105.name,by decide,Tryz.func105.trans (congrArg some (by kernel_rfl))⟩
 f50:=⟨Tryz.f106.name,by decide,Tryz.func106.trans (congrArg some (by kernel_rfl))⟩
 f57:=⟨Tryz.f110.name,by decide,Tryz.func110.trans (congrArg some (by kernel_rfl))⟩
 t0:=Tryz.underlying0
 a0:=Tryz.isAgg0
 z0:=Tryz.sizeOf0
 v0:=Tryz.zeroValue0
 t3:=Tryz.underlying3
 a3:=Tryz.isAgg3
 z3:=Tryz.sizeOf3
 v3:=Tryz.zeroValue3
 t4:=Tryz.underlying4
 a4:=Tryz.isAgg4
 z4:=Tryz.sizeOf4
 v4:=Tryz.zeroValue4
 t5:=Tryz.underlying5
 a5:=Tryz.isAgg5
 z5:=Tryz.sizeOf5
 v5:=Tryz.zeroValue5
 t9:=Tryz.underlying9
 a9:=Tryz.isAgg9
 z9:=Tryz.sizeOf9
 v9:=Tryz.zeroValue9
 t22:=Tryz.underlying85
 a22:=Tryz.isAgg85
 z22:=Tryz.sizeOf85
 v22:=Tryz.zeroValue85
 t25:=Tryz.underlying88
 a25:=Tryz.isAgg88
 z25:=Tryz.sizeOf88
 v25:=Tryz.zeroValue88
 t39:=Tryz.underlying101
 a39:=Tryz.isAgg101
 z39:=Tryz.sizeOf101
 v39:=Tryz.zeroValue101
 t45:=Tryz.underlying117
 a45:=Tryz.isAgg117
 z45:=Tryz.sizeOf117
 v45:=Tryz.zeroValue117
 t46:=Tryz.underlying118
 a46:=Tryz.isAgg118
 z46:=Tryz.sizeOf118
 v46:=Tryz.zeroValue118
 t50:=Tryz.underlying86
 a50:=Tryz.isAgg86
 z50:=Tryz.sizeOf86
 v50:=Tryz.zeroValue86
 t53:=Tryz.underlying124
 a53:=Tryz.isAgg124
 z53:=Tryz.sizeOf124
 v53:=Tryz.zeroValue124
 t55:=Tryz.underlying126
 a55:=Tryz.isAgg126
 z55:=Tryz.sizeOf126
 v55:=Tryz.zeroValue126
 t66:=Tryz.underlying134
 a66:=Tryz.isAgg134
 z66:=Tryz.sizeOf134
 v66:=Tryz.zeroValue134
 t70:=Tryz.underlying138
 a70:=Tryz.isAgg138
 z70:=Tryz.sizeOf138
 v70:=Tryz.zeroValue138
 t76:=Tryz.underlying142
 a76:=Tryz.isAgg142
 z76:=Tryz.sizeOf142
 v76:=Tryz.zeroValue142
 t77:=Tryz.underlying143
 a77:=Tryz.isAgg143
 z77:=Tryz.sizeOf143
 v77:=Tryz.zeroValue143 }
end Go.Proofs

namespace Go.Proofs.YtknhlpmmalcchaaGreat
open Go Go.VAI
set_option linter.unusedSimpArgs false

theorem keyCmp_or (x y:Key):orOf [cmpI x.1 y.1,cmpI x.2.1 y.2.1,cmpI x.2.2 y.2.2]=uZ x y:=by
 unfold uZ
 simp only [orOf,cmpI]
 repeat' split
 all_goals first | rfl | omega
theorem by_ret {x y:Key} {H:AHeap} {Q:AVal→AHeap→Prop} (hq:∀ H',Keep Nothing H H'→Q (.int .i64 (uZ x y)) H'):Ret A 55 [.agg (yC x),.agg (yC y)] H Q:=by
 refine Ret.of (fn:=F55) rfl ?_
 unfold yC
 simp (disch:=first | omega | (simp only [nx] <;> omega) | fail) only [vaw,F55,Nat.reduceAdd,Nat.reduceMul,Nat.reduceLeDiff,Nat.reduceEqDiff,↓reduceIte]
 refine compare_ret ?_
 simp (disch:=first | omega | (simp only [nx] <;> omega) | fail) only [vaw,Nat.reduceAdd,Nat.reduceMul,Nat.reduceLeDiff,Nat.reduceEqDiff,↓reduceIte]
 refine compare_ret ?_
 simp (disch:=first | omega | (simp only [nx] <;> omega) | fail) only [vaw,Nat.reduceAdd,Nat.reduceMul,Nat.reduceLeDiff,Nat.reduceEqDiff,↓reduceIte]
 refine compare_ret ?_
 simp (disch:=first | omega | (simp only [nx] <;> omega) | fail) only [vaw,Nat.reduceAdd,Nat.reduceMul,Nat.reduceLeDiff,Nat.reduceEqDiff,↓reduceIte]
 refine or_ret (xs:=[cmpI x.1 y.1,cmpI x.2.1 y.2.1,cmpI x.2.2 y.2.2]) (.mk (c:=xL [cmpI x.1 y.1,cmpI x.2.1 y.2.1,cmpI x.2.2 y.2.2]) (by simp only [xB]; omega) (by simp (disch:=first | omega | (simp only [nx] <;> omega) | fail) only [xI]; rfl) (by simp [xE]) rfl) (by simp) ?_
 simp (disch:=first | omega | (simp only [nx] <;> omega) | fail) only [vaw,Nat.reduceAdd,Nat.reduceMul,Nat.reduceLeDiff,Nat.reduceEqDiff,↓reduceIte]
 rw [keyCmp_or]
 exact hq _ (((Keep.refl _ _).new _).new _ |>.new _)
def encK (k:Key):List Value:=[.int .i64 k.1,.int .i64 k.2.1,.int .i64 k.2.2]
theorem by_lays (x y:Key) (W:World):Calls Tryz.prog 55 #[.agg (encK x).toArray,.agg (encK y).toArray] W fun e w'=>e=.returned (.int .i64 (uZ x y))∧∃ q os,w'=Go.Sort.grow (W.drewN q) os:=by
 obtain ⟨n,⟨v,H'⟩,h1,h2⟩:=by_ret (x:=x) (y:=y) (H:=⟨fun _=>none,0⟩) (Q:=fun v _=>v=.int .i64 (uZ x y)) (fun _ _=>rfl)
 simp only at h2
 subst h2
 obtain ⟨_,hc⟩:=callA_ok follows tab_ok A_ok n 55 _ _ _ _ h1
 have hus:VRels (fun _=>none) [AVal.agg (yC x),.agg (yC y)] [.agg (encK x).toArray,.agg (encK y).toArray]:=by
  refine .cons ?_ (.cons ?_ .nil) <;>
  ·simp only [VRel]
   refine ⟨_,rfl,.cons (by simp only [VRel]) (.cons (by simp only [VRel]) (.cons (by simp only [VRel]) .nil)),?_⟩
   intro c hc
   simp only [yC,List.mem_cons,List.not_mem_nil,or_false] at hc
   rcases hc with rfl | rfl | rfl <;> rfl
 refine (hc _ _ W _ (hrel_none W) hus).mono fun e w'=>?_
 rintro ⟨v',rfl,ρ',hv,hs⟩
 simp only [VRel] at hv
 subst hv
 exact ⟨rfl,beneath_grow hs.below⟩
end Go.Proofs.YtknhlpmmalcchaaGreat

namespace Go.Proofs.YtknhlpmmalcchaaGreat
open Go Go.VAI Go.Sort
set_option linter.unusedSimpArgs false

theorem key_at:∀ (ks:List Key) (j:Nat),j < ks.length*3→∃ z,(xZ ks)[j]? = some (.int .i64 z)∧(encK (ks.toArray[j / 3]!))[j % 3]! = .int .i64 z
 | [],j,h=>by simp at h
 | k :: l,0,h=>⟨k.1,rfl,rfl⟩
 | k :: l,1,h=>⟨k.2.1,rfl,rfl⟩
 | k :: l,2,h=>⟨k.2.2,rfl,rfl⟩
 | k :: l,j+3,h=>by
  obtain ⟨z,h1,h2⟩:=key_at l j (by simp at h; omega)
  have e1:(j+3) / 3=j / 3+1:=by omega
  have e2:(j+3) % 3=j % 3:=by omega
  refine ⟨z,h1,?_⟩
  rw [e1,e2]
  have hl:j / 3 < l.length:=by simp at h; omega
  have e3:(k :: l).toArray[j / 3+1]! = l.toArray[j / 3]! := by
   rw [getElem!_pos _ _ (by simp; omega),getElem!_pos _ _ (by simpa using hl)]
   simp
  rw [e3]
  exact h2
theorem yI (ks:List Key):(xZ ks).length=ks.length*3:=by
 induction ks with
 | nil=>rfl
 | cons k l ih =>
  show (yC k++xZ l).length=_
  rw [List.length_append,ih]
  simp [yC]
  omega
theorem ltOf_keyCmp (x y:Key):ltOf uZ x y=keyLt x y:=rfl
theorem keyCmp_neg {x y:Key}:uZ x y < 0↔x.1 < y.1∨(x.1=y.1∧(x.2.1 < y.2.1∨(x.2.1=y.2.1∧x.2.2 < y.2.2))):=by
 unfold uZ
 repeat' split
 all_goals omega
theorem vX {x y:Key}:keyLt x y=true↔x.1 < y.1∨(x.1=y.1∧(x.2.1 < y.2.1∨(x.2.1=y.2.1∧x.2.2 < y.2.2))):=by
 unfold keyLt
 rw [decide_eq_true_iff,keyCmp_neg]
theorem keyLt_not {x y:Key}:keyLt x y=false↔¬ (x.1 < y.1∨(x.1=y.1∧(x.2.1 < y.2.1∨(x.2.1=y.2.1∧x.2.2 < y.2.2)))):=by
 rw [← vX,Bool.not_eq_true]
theorem key_swo:SWO (ltOf uZ) where
 irrefl x:=by rw [ltOf_keyCmp,keyLt_not]; omega
 trans x y z h1 h2:=by rw [ltOf_keyCmp] at *; rw [vX] at *; omega
 ntrans x y z h1 h2:=by rw [ltOf_keyCmp] at *; rw [keyLt_not] at *; omega
theorem key_one (x y:Key) (h1:ltOf uZ x y=false) (h2:ltOf uZ y x=false):x=y:=by
 rw [ltOf_keyCmp,keyLt_not] at h1 h2
 obtain ⟨a,b,c⟩:=x
 obtain ⟨a',b',c'⟩:=y
 simp only at h1 h2
 have:a=a'∧b=b'∧c=c':=by omega
 obtain ⟨rfl,rfl,rfl⟩:=this
 rfl
theorem enters120:∀ (args:Array Value) (w:World),(callFunc 55 args).run Tryz.prog w=.ok (.enter 55 args) w:=enters_of Tryz.func55 (by kernel_rfl) rfl
theorem sort_at {H:AHeap} {id len:Nat} {ks:List Key} {cap:ACap} (ho:H.obj id=some (.cells (xZ ks) true)) (hl:ks.length=len) (h0:0 < len) (hsz:len≤1000000) :
  CallAt Tryz.prog 54 [.slice id 0 len cap,.func (.func 55) [] []] H (.tuple []) (H.upd id (some (.cells (xZ (yF ks)) true))):=by
 refine ⟨⟨_,_,Tryz.func54,rfl,by kernel_rfl⟩,fun ρ B w us hH hus=>?_⟩
 obtain ⟨v1,us1,rfl,r1,hus⟩:=hus.cons_inv
 obtain ⟨v2,us2,rfl,r2,hus⟩:=hus.cons_inv
 have:=hus.nil_inv
 subst this
 simp only [VRel] at r2
 obtain ⟨x,y,rfl,hx,hy⟩:=r2
 have:=hx.nil_inv
 subst this
 have:=hy.nil_inv
 subst this
 have hs:∃ l c,ρ id=some l∧v1=.slice (some ⟨l.b,l.o,none⟩) len c:=by
  obtain ⟨l,p,c,h1,h2,h3,h4⟩:=VRel.slice_inv r1
  have h5:=h4 (by omega)
  subst h5
  exact ⟨l,c,h1,by simpa using h2⟩
 obtain ⟨l,c,hid,rfl⟩:=hs
 obtain ⟨hB,hcr,hfit,arr,E,fz,hblk,hsize,hfz⟩:=hH.obj id l _ hid ho
 have hlt:=(hH.dom id l hid).2
 have hkl:=yI ks
 have hK:HoldsK encK 3 w l.b l.o ks.toArray:=by
  intro j hj
  have hj3:j < ks.length*3:=by simpa using hj
  obtain ⟨z,z1,z2⟩:=key_at ks j hj3
  obtain ⟨u,u1,u2⟩:=hcr.2 j _ z1
  simp only [VRel] at u2
  subst u2
  refine ⟨?_,?_⟩
  ·rw [u1,get_flatK _ _ _ _ (by simpa using hj3)]
   exact congrArg some z2.symm
  ·simp only [World.frozen?,hblk]
   simp only [Bool.and_eq_false_iff,decide_eq_false_iff_not]
   omega
 have hcon:=AnyQ.slices_SortFunc_total Tryz.sortKey 3 Tryz.isAgg67 Tryz.sizeOf67 encK (fun _=>rfl) (fun x v hv=>by simp only [encK,List.mem_cons,List.not_mem_nil,or_false] at hv; rcases hv with rfl | rfl | rfl <;> rfl) uZ key_swo 55 #[] l.b l.o c ks.toArray w enters120 (fun m os dk hdk x y=>by_lays x y _) hK hlt (by simp; omega) key_one
 change Calls Tryz.prog 54 _ _ _ at hcon
 have hsz2:ks.toArray.size=len:=by simp [hl]
 rw [hsz2] at hcon
 refine hcon.mono fun e w'=>?_
 rintro ⟨rfl,n,os,rfl⟩
 refine ⟨_,rfl,ρ,?_,?_⟩
 ·simp only [VRel]
  exact ⟨[],rfl,.nil⟩
 have hto:(ks.toArray.toList.mergeSort fun x y => !ltOf uZ y x).toArray=(yF ks).toArray:=by simp [yF,ltOf_keyCmp]
 rw [hto]
 have hsl:(yF ks).length=ks.length:=by simp [yF]
 have hS:=holdsK_sortWorldK_c encK 3 w l.b l.o ks.toArray (yF ks).toArray n os hK hlt (by simp [hsl])
 have hz:=size_sortWorldK_c encK 3 w l.b l.o n (yF ks).toArray os
 have hold:∀ k,k < w.heap.size→(sortWorldK encK 3 w l.b l.o n (yF ks).toArray os).heap[k]? = (mapBlock w l.b (putCells _root_.id l.o (flatK encK 3 (yF ks).toArray))).heap[k]? := fun k hk=>by
  unfold sortWorldK
  rw [heap_grow_old _ _ (by rw [size_putRowK]; exact hk)]
  rfl
 have hmod:∀ k,(mapBlock w l.b (putCells _root_.id l.o (flatK encK 3 (yF ks).toArray))).heap[k]? = if l.b=k then (w.heap[k]?).map (onCells (putCells _root_.id l.o (flatK encK 3 (yF ks).toArray))) else w.heap[k]? := fun k=>by
  unfold mapBlock
  rw [Array.getElem?_modify]
 refine Step.upd hid (rewrite_rel hH hid ho _ hz (fun k hk hne=>?_) ⟨hB,⟨?_,?_⟩,?_,?_⟩) ⟨⟨rfl,rfl,rfl,hz,fun k hk=>?_⟩,?_⟩
 ·rw [hold k hk,hmod,if_neg (fun e=>hne e.symm)]
 ·intro x hx
  simp only [xZ,List.mem_flatMap,yC,List.mem_cons,List.not_mem_nil,or_false] at hx
  obtain ⟨k,_,rfl | rfl | rfl⟩:=hx <;> rfl
 ·intro i v hv
  have hi:i < (yF ks).length*3:=by
   rw [← yI]
   exact (List.getElem?_eq_some_iff.1 hv).1
  obtain ⟨z,z1,z2⟩:=key_at (yF ks) i hi
  rw [z1] at hv
  injection hv with hv
  subst hv
  refine ⟨.int .i64 z,?_,by simp only [VRel]⟩
  have h:=(hS i (by simpa using hi)).1
  rw [get_flatK _ _ _ _ (by simpa using hi)] at h
  rw [h]
  exact congrArg some z2
 ·rw [yI,hsl,← hkl]; exact hfit
 ·refine ⟨_,E,fz,by rw [hold _ hlt,hmod,if_pos rfl,hblk]; rfl,?_,hfz⟩
  rw [← hsize]
  simp [putCells]
 ·have:=hH.base
  rw [hold k (by omega),hmod,if_neg (by omega)]
 ·show w.drawn≤w.drawn+n
  omega
end Go.Proofs.YtknhlpmmalcchaaGreat

namespace Go.Proofs.YtknhlpmmalcchaaGreat
open Go Go.VAI Go.Sort
set_option linter.unusedSimpArgs false

theorem sort_nil_at {H:AHeap}:CallAt Tryz.prog 54 [.nilSlice,.func (.func 55) [] []] H (.tuple []) H:=by
 refine ⟨⟨_,_,Tryz.func54,rfl,by kernel_rfl⟩,fun ρ B w us hH hus=>?_⟩
 obtain ⟨v1,us1,rfl,r1,hus⟩:=hus.cons_inv
 obtain ⟨v2,us2,rfl,r2,hus⟩:=hus.cons_inv
 have:=hus.nil_inv
 subst this
 simp only [VRel] at r1
 subst r1
 have hcon:=AnyF.slices_SortFunc_none Tryz.sortKey none 0 v2 w
 change Calls Tryz.prog 54 _ _ _ at hcon
 refine hcon.mono fun e w'=>?_
 rintro ⟨rfl,rfl⟩
 refine ⟨_,rfl,ρ,?_,.refl hH⟩
 simp only [VRel]
 exact ⟨[],rfl,.nil⟩
theorem sortKeys_nil:yF []=[]:=by simp [yF]
theorem zZ (ks:List Key):(yF ks).length=ks.length:=by simp [yF]
theorem sortF_slice {H:AHeap} {id len:Nat} {ks:List Key} {cap:ACap} (ho:H.obj id=some (.cells (xZ ks) true)) (hl:ks.length=len) (h0:0 < len) (hsz:len≤1000000):libF 54 55 35 36 64 65 54 [.slice id 0 len cap,.func (.func 55) [] []] H=some (.tuple [],H.upd id (some (.cells (xZ (yF ks)) true))):=by
 simp only [libF,sortF,if_pos,ho,keysOf_cells,bnd,hl]
 rw [if_pos ⟨trivial,h0,hsz⟩]
theorem sortKeys_ret {lo:Nat} {v:AVal} {ks:List Key} {H:AHeap} {Q:AVal→AHeap→Prop} (hv:Own lo H v 3 (xZ ks)) (hn:ks=[]→v=.nilSlice) (hb:ks.length≤1000000)
  (hq:∀ H',H'.next=H.next→(∀ j,sid v≠some j→H'.obj j=H.obj j)→Own lo H' v 3 (xZ (yF ks))→Q (.tuple []) H'):Ret A 54 [v,.func (.func 55) [] []] H Q:=by
 have hkl:=yI ks
 by_cases h0:ks=[]
 ·rw [hn h0]
  refine Ret.lib rfl (show lawful Tryz.prog (libP 61 62 (libF 54 55 35 36 64 65)) 54 _ H=_ from lawful_eq rfl sort_nil_at) ?_
  refine hq H rfl (fun _ _=>rfl) ?_
  subst h0
  rw [sortKeys_nil]
  exact hv
 ·have hpos:0 < ks.length:=List.length_pos_iff.2 h0
  obtain ⟨cs,hcs⟩:∃ cs,cs=xZ ks:=⟨_,rfl⟩
  rw [← hcs] at hv hkl
  cases hv with
  | nil=>simp at hkl; omega
  | @room id len _ _ hlo hhi ho hlen =>
   rw [hcs] at ho
   have hl:ks.length=len:=by omega
   refine Ret.lib rfl (show lawful Tryz.prog (libP 61 62 (libF 54 55 35 36 64 65)) 54 _ H=_ from lawful_eq (sortF_slice (cap:=.room 3) ho hl (by omega) (by omega)) (sort_at (cap:=.room 3) ho hl (by omega) (by omega))) ?_
   refine hq _ rfl (fun j hj=>?_) (.room hlo hhi (xN rfl) (by rw [yI,zZ]; omega))
   exact xQ (fun e=>hj (by rw [e]; rfl))
  | @full id len _ _ hlo hhi ho hlen =>
   rw [hcs] at ho
   have hl:ks.length=len:=by omega
   refine Ret.lib rfl (show lawful Tryz.prog (libP 61 62 (libF 54 55 35 36 64 65)) 54 _ H=_ from lawful_eq (sortF_slice (cap:=.exact len) ho hl (by omega) (by omega)) (sort_at (cap:=.exact len) ho hl (by omega) (by omega))) ?_
   refine hq _ rfl (fun j hj=>?_) (.full hlo hhi (xN rfl) (by rw [yI,zZ]; omega))
   exact xQ (fun e=>hj (by rw [e]; rfl))
end Go.Proofs.YtknhlpmmalcchaaGreat

/- Function 92 (over a map): its pieces,as the interpreter takes them. -/
namespace Go.Proofs.YtknhlpmmalcchaaGreat
open Go Go.VAI Go.Proofs
def cSeq1:Code→Code | .seq a _=>a | _=>.skip
def cSeq2:Code→Code | .seq _ b=>b | _=>.skip
def cIn:Code→Code | .block _ b=>b | .loop b=>b | _=>.skip
def cOps:Code→Array Oper | .region _ ops _=>ops | _=>#[]
noncomputable def m92:Code:=Tryz.f35.body.getD .skip
noncomputable def m92r0:Code:=cSeq1 m92
noncomputable def m92r1:Code:=cSeq1 (cSeq2 m92)
noncomputable def m92tail:Code:=cSeq2 (cSeq2 (cSeq2 m92))
noncomputable def m92range:Code:=cSeq1 (cSeq2 (cSeq2 m92))
noncomputable def m92o2:Array Oper:=cOps (cSeq1 m92range)
noncomputable def m92body:Code:=cIn (cIn (cSeq2 m92range))
noncomputable def m92o3:Array Oper:=cOps (cSeq1 m92body)
noncomputable def m92cnd:Code:=cSeq1 (cSeq2 m92body)
noncomputable def m92in:Code:=cIn (cSeq2 (cSeq2 m92body))
noncomputable def m92o4:Array Oper:=cOps (cSeq1 m92in)
noncomputable def m92rest:Code:=cSeq2 m92in
theorem m92_shape:Tryz.f35.body=some (.seq m92r0 (.seq m92r1 (.seq (.seq (.region 2 m92o2 false) (.block 0 (.loop (.seq (.region 3 m92o3 false) (.seq m92cnd (.block 1 (.seq (.region 4 m92o4 false) m92rest))))))) m92tail))):=by kernel_rfl
def c92r0:ACode :=
  (.region [⟨some 4,(.move (.con .nilSlice)),none⟩])
def c92r1:ACode :=
  (.region [⟨some 5,(.move (.con .nilSlice)),none⟩])
def c92rest:ACode :=
  (.seq (.region [⟨some 19,(.move (.tmp 1)),none⟩,
    ⟨some 20,(.loadN 3 (.tmp 6)),none⟩,
    ⟨some 21,(.callv (.tmp 19) [(.tmp 20)]),none⟩])
  (.cond (.tmp 21)
   (.region [⟨some 22,(.move (.tmp 5)),none⟩,
     ⟨some 23,(.loadN 3 (.tmp 6)),none⟩,
     ⟨some 24,(.buildSlice [(.int .i64 0),(.int .i64 0),(.int .i64 0)] 1 [(0,3,(.tmp 23))]),none⟩,
     ⟨some 25,(.append 3 24 (.tmp 22) (.tmp 24)),none⟩,
     ⟨some 5,(.move (.tmp 25)),none⟩])
   .skip))
def c92cnd:ACode :=
  (.cond (.tmp 16)
   .skip
   (.exit 0))
def c92tail:ACode :=
  (.seq (.region [⟨some 26,(.move (.tmp 5)),none⟩,
    ⟨some 27,(.call 54 [(.tmp 26),(.con (.func (.func 55) [] []))]),none⟩])
  (.seq (.region [⟨some 7,(.move (.con .nilSlice)),none⟩])
  (.seq (.seq (.region [⟨some 28,(.move (.tmp 5)),none⟩,
    ⟨some 29,(.lenS (.tmp 28)),none⟩,
    ⟨some 30,(.move (.con (.int .i64 0))),none⟩])
  (.join [false,false,false,false,true,false,false,true] (.block 2 (.loop [true,false,false,false,false,false,false,true,false,false,false,false,false,false,false,false,false,false,false,false,false,false,false,false,false,false,false,false,true,true,true] [false,false,false,false,true,false,false,true]
     (.seq (.region [⟨some 31,(.bin .lss .prim (.tmp 30) (.tmp 29)),none⟩])
     (.seq (.cond (.tmp 31)
      .skip
      (.exit 2))
     (.seq (.block 3 (.seq (.region [⟨some 32,(.indexAddrS 3 (.tmp 28) (.tmp 30)),none⟩,
        ⟨some 33,(.loadN 3 (.tmp 32)),none⟩,
        ⟨some 9,(.alloc [(.int .i64 0),(.int .i64 0),(.int .i64 0)]),none⟩,
        ⟨none,(.store 3 (.tmp 9) (.tmp 33)),none⟩])
      (.dregion [[],[],[1],[1,2],[2,1,3],[],[5,3,1,2,4],[4,2,1,3,5,6],[6,5,3,1,2,4,7,0],[0,7,4,2,1,3,5,6,8]] [.op 0 ⟨some 34,(.move (.tmp 7)),none⟩,
        .op 1 ⟨some 35,(.move (.tmp 0)),none⟩,
        .op 2 ⟨some 36,(.nilCheck (.tmp 35)),none⟩,
        .op 3 ⟨some 37,(.fieldAddr 6 (.tmp 36)),none⟩,
        .op 4 ⟨some 38,(.load1 (.tmp 37)),none⟩,
        .op 5 ⟨some 39,(.loadN 3 (.tmp 9)),none⟩,
        .op 6 ⟨some 40,(.lookup (.many [.int,.int,.int]) (.int .i64 0) (.tmp 38) (.tmp 39) false),none⟩,
        .op 7 ⟨some 41,(.buildSlice [(.int .i64 0)] 1 [(0,1,(.tmp 40))]),none⟩,
        .op 8 ⟨some 42,(.append 1 8 (.tmp 34) (.tmp 41)),none⟩,
        .op 9 ⟨some 7,(.move (.tmp 42)),none⟩])))
     (.region [⟨some 43,(.bin .add .prim (.tmp 30) (.con (.int .i64 1))),none⟩,
       ⟨some 30,(.move (.tmp 43)),none⟩]))))))))
  (.seq (.region [⟨some 44,(.move (.tmp 7)),none⟩,
    ⟨some 45,(.call 67 [(.tmp 44)]),none⟩,
    ⟨some 4,(.move (.tmp 45)),none⟩])
  .ret))))

theorem c92r0_ok:wI tab c92r0 m92r0=some c92r0:=by kernel_rfl
theorem c92r1_ok:wI tab c92r1 m92r1=some c92r1:=by kernel_rfl
theorem c92rest_ok:wI tab c92rest m92rest=some c92rest:=by kernel_rfl
theorem c92cnd_ok:wI tab c92cnd m92cnd=some c92cnd:=by kernel_rfl
theorem c92tail_ok:wI tab c92tail m92tail=some c92tail:=by kernel_rfl
def a92o2:List AOper:=[⟨some 10,(.move (.tmp 0)),none⟩,⟨some 11,(.nilCheck (.tmp 10)),none⟩,⟨some 12,(.fieldAddr 6 (.tmp 11)),none⟩,⟨some 13,(.load1 (.tmp 12)),none⟩]
theorem a92o2_ok:copers tab m92o2 (m92o2.toList.take 4)=some a92o2:=by kernel_rfl
noncomputable def m92range_o:Oper:=(m92o2.toList.drop 4).headD default
theorem m92o2_rest:m92o2.toList.drop 4=[m92range_o]:=by kernel_rfl
theorem m92range_op:m92range_o.op=.range 61 (.tmp 13):=by kernel_rfl
theorem m92range_dst:m92range_o.dst=some 14:=by kernel_rfl
theorem m92range_guard:m92range_o.guard=none:=by kernel_rfl
noncomputable def m92next_o:Oper:=m92o3.toList.headD default
theorem m92o3_all:m92o3.toList=m92next_o :: m92o3.toList.drop 1:=by kernel_rfl
theorem m92next_op:m92next_o.op=.next (.tmp 14) false:=by kernel_rfl
theorem m92next_dst:m92next_o.dst=some 15:=by kernel_rfl
theorem m92next_guard:m92next_o.guard=none:=by kernel_rfl
def a92o3:List AOper:=[⟨some 16,(.extract (.tmp 15) 0),none⟩]
theorem a92o3_ok:copers tab m92o3 (m92o3.toList.drop 1)=some a92o3:=by kernel_rfl
noncomputable def m92entry_o:Oper:=m92o4.toList.headD default
theorem m92o4_all:m92o4.toList=m92entry_o :: m92o4.toList.drop 1:=by kernel_rfl
theorem m92entry_op:m92entry_o.op=.entry (.tmp 14):=by kernel_rfl
theorem m92entry_dst:m92entry_o.dst=some 17:=by kernel_rfl
theorem m92entry_guard:m92entry_o.guard=none:=by kernel_rfl
def a92o4:List AOper:=[⟨some 18,(.extract (.tmp 17) 0),none⟩,⟨some 6,(.alloc [.int .i64 0,.int .i64 0,.int .i64 0]),none⟩,⟨none,(.store 3 (.tmp 6) (.tmp 18)),none⟩]
theorem a92o4_ok:copers tab m92o4 (m92o4.toList.drop 1)=some a92o4:=by kernel_rfl
theorem f92_results:Tryz.f35.results.toList=[.tmp 4]:=by kernel_rfl
theorem f92_ntmps:Tryz.f35.ntmps=46:=by kernel_rfl
theorem f92_name : (Tryz.f35.name == "runtime.NumGoroutine") = false := by kernel_rfl
theorem under119:Tryz.prog.underlying 61=some (.map 67 3):=by kernel_rfl
end Go.Proofs.YtknhlpmmalcchaaGreat

namespace Go.Proofs.YtknhlpmmalcchaaGreat
open Go Go.VAI
set_option linter.unusedSimpArgs false

theorem wp_of_wpx {hint:ACode} {c:Code} {ac:ACode} (hc:wI tab hint c=some ac) {t:xJ} {H:AHeap} {R:AExit→xJ→AHeap→Prop} {ρ:Ren} {B:Nat} {a:Act} {w:World} {Q:Exit→Act→World→Prop}
  (h:wpx (Ret A) ac t H R) (ht:TRel ρ t a.tmps) (hH:HRel ρ B H w)
  (hQ:∀ e t' H' ρ' a' w',R e t' H'→TRel ρ' t' a'.tmps→Step ρ B H w ρ' H' w'→a'.defers=a.defers→Q (xexit e) a' w'):c.wp Tryz.prog Q a w:=by
 obtain ⟨n,r,h1,h2⟩:=wpx_sound _ h
 refine exec_sound follows tab_ok (callA_ok follows tab_ok A_ok n) hint c ac t H ret3 r ρ B a w Q hc h1 ht hH fun e t' H' ρ' a' w' hk=>?_
 injection hk with hk
 subst hk
 exact hQ e t' H' ρ' a' w' h2
theorem runList_sound {call:zN} (hcall:CallOk Tryz.prog call) {ops:Array Oper} {B:Nat} {Q:Exit→Act→World→Prop} {r:xJ × AHeap} {l2:List Oper} :
  ∀ (l:List Oper) (al:List AOper) (ρ:Ren) (t:xJ) (H:AHeap) (a:Act) (w:World),copers tab ops l=some al→runOps call al t H pair2=some r→TRel ρ t a.tmps→HRel ρ B H w →
   (∀ ρ' a' w',TRel ρ' r.1 a'.tmps→Step ρ B H w ρ' r.2 w'→a'.defers=a.defers→wpList Tryz.prog ops Q l2 a' w')→wpList Tryz.prog ops Q (l++l2) a w
 | [],al,ρ,t,H,a,w,hc,hr,ht,hH,hk=>by
  simp [copers] at hc; subst hc
  have hr:pair2 t H=some r:=hr
  injection hr with hr
  subst hr
  exact hk ρ a w ht (.refl hH) rfl
 | o :: l,al,ρ,t,H,a,w,hc,hr,ht,hH,hk=>by
  obtain ⟨ao,h1,hc⟩:=xA hc
  obtain ⟨al',h2,hc⟩:=xA hc
  injection hc with hc; subst hc
  obtain ⟨⟨v,H1⟩,h3,hr⟩:=xA hr
  have hd:=(uR h1).1
  refine gop_sound tab_ok hcall h1 h3 ht hH (wpList Tryz.prog ops Q (l++l2)) Q (fun v' w'=>?_)
  rintro ⟨ρ',hv,hs⟩
  refine runList_sound hcall l al' ρ' (tput t ao.dst v) H1 (a.put o.dst v') w' h2 hr (by rw [hd]; exact (ht.mono hs.le).put _ hv) hs.heap (fun ρ2 a' w2 g2 g3 g4=>?_)
  exact hk ρ2 a' w2 g2 (hs.trans g3) (by rw [g4,uG])
theorem wpList_of {ops:Array Oper} {l l2:List Oper} {al:List AOper} (hc:copers tab ops l=some al) {t:xJ} {H:AHeap} {R:xJ→AHeap→Prop} {ρ:Ren} {B:Nat} {a:Act} {w:World} {Q:Exit→Act→World→Prop}
  (h:opsW (Ret A) al t H R) (ht:TRel ρ t a.tmps) (hH:HRel ρ B H w)
  (hQ:∀ t' H' ρ' a' w',R t' H'→TRel ρ' t' a'.tmps→Step ρ B H w ρ' H' w'→a'.defers=a.defers→wpList Tryz.prog ops Q l2 a' w'):wpList Tryz.prog ops Q (l++l2) a w:=by
 obtain ⟨n,r,h1,h2⟩:=opsW_sound h
 exact runList_sound (callA_ok follows tab_ok A_ok n) l al ρ t H a w hc h1 ht hH fun ρ' a' w' g1 g2 g3=>hQ _ _ ρ' a' w' h2 g1 g2 g3
theorem wpList_one {ops:Array Oper} {o:Oper} {l:List Oper} {a:Act} {w w':World} {v:Value} {Q:Exit→Act→World→Prop} (hg:o.guard=none) (hr:(execOp a.eval o).run Tryz.prog w=.ok (.value v) w') (hn:wpList Tryz.prog ops Q l (a.put o.dst v) w'):wpList Tryz.prog ops Q (o :: l) a w:=by
 unfold wpList
 rw [if_pos (by simp [Region.wanted,hg])]
 refine .inl ((RunsTo.value hr (R:=fun v1 w1=>v1=v∧w1=w') ⟨rfl,rfl⟩) _ _ fun v1 w1 h=>?_)
 obtain ⟨rfl,rfl⟩:=h
 exact hn

set_option maxHeartbeats 4000000 in
theorem may_ret {down:Bool} {m:Nat} (hm:(m=36∨m=64)∧down=false∨m=65∧down=true) {H H1:AHeap} {caps:List AVal} {k:Key} {p:Bool} (h:mayOf down H caps k=some p)
  (hfr:∀ id c,H.cells? id=some c→id < H1.next∧∃ rw,H1.obj id=some (.cells c rw)) {Q:AVal→AHeap→Prop} (hq:∀ H2,Keep Nothing H1 H2→Q (.bool p) H2):Ret A m (.agg (yC k) :: caps) H1 Q:=by
 unfold mayOf at h
 split at h
 ·rename_i vc vo bc bo
  obtain ⟨c1,g1,h⟩:=xA h
  split at h
  ·rename_i v gv
   obtain ⟨c2,g2,h⟩:=xA h
   split at h
   ·rename_i bb bf gb
    obtain ⟨c3,g3,h⟩:=xA h
    split at h
    ·rename_i g gg
     obtain ⟨n1,rw1,o1⟩:=hfr _ _ g1
     obtain ⟨n2,rw2,o2⟩:=hfr _ _ g2
     obtain ⟨n3,rw3,o3⟩:=hfr _ _ g3
     have gone:∀ i b,goneAt H g i=some b→∃ id off c4 rw4,xO 1 g (.int .i64 i)=some (.ptr id off)∧id < H1.next∧H1.obj id=some (.cells c4 rw4)∧c4[off]? = some (.bool b):=by
      intro i b hg
      unfold goneAt at hg
      split at hg
      ·rename_i id off len cap
       split at hg
       ·rename_i hil
        obtain ⟨c4,g4,hg⟩:=xA hg
        split at hg
        ·rename_i b' gb'
         injection hg with hg; subst hg
         obtain ⟨n4,rw4,o4⟩:=hfr _ _ g4
         exact ⟨id,off+i.toNat,c4,rw4,by rw [xM hil]; simp,n4,o4,gb'⟩
        ·cases hg
       ·cases hg
      ·cases hg
     have e1:(yC k).length=3:=rfl
     obtain ⟨k1,k2,k3⟩:=k
     simp only at h
     rcases hm with ⟨rfl | rfl,rfl⟩ | ⟨rfl,rfl⟩
     ·refine Ret.of (fn:=F36) rfl ?_
      simp only [Bool.false_eq_true,if_false] at h
      unfold yC
      by_cases hv:k1=v
      ·subst hv
       rw [if_pos rfl] at h
       obtain ⟨b,hg,h⟩:=xA h
       injection h with h; subst h
       obtain ⟨id,off,c4,rw4,q1,q2,q3,q4⟩:=gone _ _ hg
       simp (disch:=first | omega | (simp only [nx] <;> omega) | fail) only [vaw,F36,zJ,o1,o2,o3,gv,gb,gg,q1,q3,q4,Nat.reduceAdd,Nat.reduceMul,Nat.reduceLeDiff,Nat.reduceEqDiff,↓reduceIte]
       exact hq _ ((Keep.refl _ _).new _)
      ·rw [if_neg hv] at h
       injection h with h; subst h
       simp (disch:=first | omega | (simp only [nx] <;> omega) | fail) only [vaw,F36,zJ,o1,o2,o3,gv,gb,gg,hv,Nat.reduceAdd,Nat.reduceMul,Nat.reduceLeDiff,Nat.reduceEqDiff,↓reduceIte]
       exact hq _ ((Keep.refl _ _).new _)
     ·refine Ret.of (fn:=F64) rfl ?_
      simp only [Bool.false_eq_true,if_false] at h
      unfold yC
      by_cases hv:k1=v
      ·subst hv
       rw [if_pos rfl] at h
       obtain ⟨b,hg,h⟩:=xA h
       injection h with h; subst h
       obtain ⟨id,off,c4,rw4,q1,q2,q3,q4⟩:=gone _ _ hg
       simp (disch:=first | omega | (simp only [nx] <;> omega) | fail) only [vaw,F64,zJ,o1,o2,o3,gv,gb,gg,q1,q3,q4,Nat.reduceAdd,Nat.reduceMul,Nat.reduceLeDiff,Nat.reduceEqDiff,↓reduceIte]
       exact hq _ ((Keep.refl _ _).new _)
      ·rw [if_neg hv] at h
       injection h with h; subst h
       simp (disch:=first | omega | (simp only [nx] <;> omega) | fail) only [vaw,F64,zJ,o1,o2,o3,gv,gb,gg,hv,Nat.reduceAdd,Nat.reduceMul,Nat.reduceLeDiff,Nat.reduceEqDiff,↓reduceIte]
       exact hq _ ((Keep.refl _ _).new _)
     ·refine Ret.of (fn:=F65) rfl ?_
      simp only [if_true] at h
      unfold yC
      by_cases hv:k2=v
      ·subst hv
       by_cases hw:k1=k2
       ·rw [if_neg (fun e=>e.2 hw)] at h
        injection h with h; subst h
        simp (disch:=first | omega | (simp only [nx] <;> omega) | fail) only [vaw,F65,zJ,o1,o2,o3,gv,gb,gg,hw,ne_eq,not_true_eq_false,Nat.reduceAdd,Nat.reduceMul,Nat.reduceLeDiff,Nat.reduceEqDiff,↓reduceIte]
        exact hq _ ((Keep.refl _ _).new _)
       ·rw [if_pos ⟨rfl,hw⟩] at h
        obtain ⟨b,hg,h⟩:=xA h
        injection h with h; subst h
        obtain ⟨id,off,c4,rw4,q1,q2,q3,q4⟩:=gone _ _ hg
        simp (disch:=first | omega | (simp only [nx] <;> omega) | fail) only [vaw,F65,zJ,o1,o2,o3,gv,gb,gg,hw,ne_eq,not_false_eq_true,q1,q3,q4,Nat.reduceAdd,Nat.reduceMul,Nat.reduceLeDiff,Nat.reduceEqDiff,↓reduceIte]
        exact hq _ ((Keep.refl _ _).new _)
      ·rw [if_neg (fun e=>hv e.1)] at h
       injection h with h; subst h
       simp (disch:=first | omega | (simp only [nx] <;> omega) | fail) only [vaw,F65,zJ,o1,o2,o3,gv,gb,gg,hv,Nat.reduceAdd,Nat.reduceMul,Nat.reduceLeDiff,Nat.reduceEqDiff,↓reduceIte]
       exact hq _ ((Keep.refl _ _).new _)
    ·cases h
   ·cases h
  ·cases h
 ·cases h
end Go.Proofs.YtknhlpmmalcchaaGreat

namespace Go.Proofs.YtknhlpmmalcchaaGreat
open Go Go.VAI
set_option linter.unusedSimpArgs false

def yU (es:List (Key × Int)):List (AVal × AVal):=es.map fun e=>(.agg (yC e.1),.int .i64 e.2)
def wL (k:Key):List (Key × Int)→Nat→Option (Nat × AVal)
 | [],_=>none
 | e :: l,i=>if k=e.1 then some (i,.int .i64 e.2) else wL k l (i+1)
theorem flatEq_keys (k k':Key):yP [.int,.int,.int] (yC k) (yC k')=some (decide (k=k')):=by
 obtain ⟨a,b,c⟩:=k
 obtain ⟨a',b',c'⟩:=k'
 simp [yP,yC,bnd,Bool.decide_and]
theorem keyEq_keys (k k':Key):keyEq (.many [.int,.int,.int]) (.agg (yC k)) (.agg (yC k'))=some (decide (k=k')):=flatEq_keys k k'
theorem findKey_cells (k:Key):∀ (es:List (Key × Int)) (n:Nat),findKey (.many [.int,.int,.int]) (.agg (yC k)) (yU es) n=some (wL k es n)
 | [],n=>rfl
 | e :: l,n=>by
  show bnd (keyEq (.many [.int,.int,.int]) (.agg (yC k)) (.agg (yC e.1))) (fun b=>if b then some (some (n,AVal.int .i64 e.2)) else findKey (.many [.int,.int,.int]) (.agg (yC k)) (yU l) (n+1))=_
  rw [keyEq_keys,findKey_cells k l (n+1),wL]
  by_cases h:k=e.1
  ·simp [bnd,h]
  ·simp [bnd,h]
theorem isKey_key (k:Key):isKey (.many [.int,.int,.int]) (.agg (yC k))=true:=by
 unfold isKey
 rw [keyEq_keys]
 rfl
def yW (es:List (Key × Int)) (k:Key):Bool:=(es.find? fun e=>decide (e.1=k)).isSome
theorem keyFind_val (k:Key):∀ (es:List (Key × Int)) (n:Nat),(wL k es n=none∧yW es k=false∧yZ es k=0)∨(∃ i,wL k es n=some (i,.int .i64 (yZ es k))∧yW es k=true)
 | [],n=>.inl ⟨rfl,rfl,rfl⟩
 | e :: l,n=>by
  by_cases h:k=e.1
  ·subst h
   exact .inr ⟨n,by simp [wL,yZ],by simp [yW]⟩
  ·have h':¬ e.1=k:=fun x=>h x.symm
   have e1:wL k (e :: l) n=wL k l (n+1):=by rw [wL,if_neg h]
   have e2:yW (e :: l) k=yW l k:=by simp [yW,h']
   have e3:yZ (e :: l) k=yZ l k:=by simp [yZ,h']
   rw [e1,e2,e3]
   exact keyFind_val k l (n+1)
theorem qE {H:AHeap} {mid:Nat} {es:List (Key × Int)} (h:H.obj mid=some (.amap (yU es))) (k:Key) (ok:Bool):alookup H (.many [.int,.int,.int]) (.int .i64 0) (.map mid) (.agg (yC k)) ok=some (if ok then .tuple [.int .i64 (yZ es k),.bool (yW es k)] else .int .i64 (yZ es k)):=by
 have hm:H.map? mid=some (yU es):=by unfold AHeap.map?; rw [h]
 unfold alookup
 simp only [isKey_key,Bool.true_eq_false,if_false,hm,bnd,findKey_cells]
 rcases keyFind_val k es 0 with ⟨h1,h2,h3⟩ | ⟨i,h1,h2⟩
 ·rw [h1,h2,h3]
 ·rw [h1,h2]
theorem mayAll_filter {down:Bool} {H:AHeap} {caps:List AVal}:∀ {es sel:List (Key × Int)},mayAll down H caps es=some sel→(∀ e∈es,mayOf down H caps e.1=some ((mayOf down H caps e.1).getD false))∧sel=es.filter fun e=>(mayOf down H caps e.1).getD false
 | [],sel,h=>by
  simp only [mayAll] at h
  injection h with h; subst h
  exact ⟨by simp,rfl⟩
 | e :: l,sel,h=>by
  simp only [mayAll] at h
  obtain ⟨b,h1,h⟩:=xA h
  obtain ⟨r,h2,h⟩:=xA h
  injection h with h; subst h
  obtain ⟨i1,i2⟩:=mayAll_filter h2
  refine ⟨fun x hx=>?_,?_⟩
  ·rcases List.mem_cons.1 hx with rfl | hx
   ·rw [h1]; rfl
   ·exact i1 x hx
  ·rw [List.filter_cons,h1,i2]
   rfl
theorem keyLe_trans (a b c:Key) (h1:(!keyLt b a)=true) (h2:(!keyLt c b)=true):(!keyLt c a)=true:=by
 simp only [Bool.not_eq_true'] at *
 rw [keyLt_not] at *
 omega
theorem keyLe_total (a b:Key):(!keyLt b a || !keyLt a b)=true:=by
 rw [Bool.or_eq_true,Bool.not_eq_true',Bool.not_eq_true',keyLt_not,keyLt_not]
 omega
theorem keyLe_anti (a b:Key) (h1:(!keyLt b a)=true) (h2:(!keyLt a b)=true):a=b:=by
 simp only [Bool.not_eq_true'] at h1 h2
 exact (key_one b a h1 h2).symm
theorem sortKeys_perm {a b:List Key} (h:a.Perm b):yF a=yF b:=by
 refine List.Perm.eq_of_pairwise (fun x y _ _=>keyLe_anti x y) (List.pairwise_mergeSort keyLe_trans keyLe_total a) (List.pairwise_mergeSort keyLe_trans keyLe_total b) ?_
 exact ((List.mergeSort_perm a _).trans h).trans (List.mergeSort_perm b _).symm
theorem cloneNil_ret {H:AHeap} {Q:AVal→AHeap→Prop} (hq:∀ H',Keep Nothing H H'→Q .nilSlice H'):Ret A 67 [.nilSlice] H Q:=by
 refine Ret.of (fn:=F67) rfl ?_
 simp (disch:=first | omega | (simp only [nx] <;> omega) | fail) only [vaw,F67,Nat.reduceAdd,Nat.reduceMul,Nat.reduceLeDiff,Nat.reduceEqDiff,↓reduceIte]
 exact hq _ (.refl _ _)
theorem keyCells_at {ks:List Key} {i:Nat} {k:Key} (h:ks[i]? = some k):((xZ ks).drop (i*3)).take 3=yC k:=by
 induction ks generalizing i with
 | nil=>simp at h
 | cons x l ih =>
  cases i with
  | zero =>
   simp at h; subst h
   show ((yC x++xZ l).drop 0).take 3=_
   rfl
  | succ i =>
   have:=ih (by simpa using h)
   rw [← this]
   have e:(i+1)*3=i*3+3:=by omega
   rw [e]
   rfl
set_option maxHeartbeats 4000000 in
theorem tail92 {lo b mid:Nat} {cb:List AVal} {rwb:Bool} {es:List (Key × Int)} {ks:List Key} {kv:AVal} {H:AHeap} {R:AExit→xJ→AHeap→Prop} {t1:AVal}
  (hb:H.obj b=some (.cells cb rwb)) (hbl:b < lo) (hmb:cb[6]? = some (.map mid)) (hml:mid < lo) (hmap:H.obj mid=some (.amap (yU es))) (hlo:lo≤H.next)
  (hk:Own lo H kv 3 (xZ ks)) (hn:ks=[]→kv=.nilSlice) (hks:ks.length≤100000)
  (hR:∀ v H' t',Own lo H' v 1 (xL ((yF ks).map (yZ es)))→(ks=[]→v=.nilSlice)→(∀ j,j < lo→H'.obj j=H.obj j)→yA t' 4=v→R .ret t' H') :
  wpx (Ret A) c92tail (.ptr b 0 :: t1 :: xP 3 (kv :: xP 40 [])) H R:=by
 have hkl:=yI ks
 simp (disch:=first | omega | (simp only [nx] <;> omega) | fail) only [vaw,c92tail,Nat.reduceAdd,Nat.reduceMul,Nat.reduceLeDiff,Nat.reduceEqDiff,↓reduceIte]
 refine sortKeys_ret hk hn (by omega) fun H1 n1 k1 o1=>?_
 have hsk:∀ j,sid kv=some j→lo≤j:=fun j hj=>(hk.sid_ge hj).1
 have q1:H1.obj b=some (.cells cb rwb):=(k1 b fun e=>by have:=hsk _ e; omega).trans hb
 have q2:H1.obj mid=some (.amap (yU es)):=(k1 mid fun e=>by have:=hsk _ e; omega).trans hmap
 have hsl:=zZ ks
 have hl1:=o1.row.len (by omega) (yI _)
 rw [hsl] at hl1
 have hlt:∀ j,sid kv=some j→j < H1.next:=fun j hj=>(o1.sid_ge hj).2
 simp (disch:=first | omega | (simp only [nx] <;> omega) | fail) only [vaw,hl1,Nat.reduceAdd,Nat.reduceMul,Nat.reduceLeDiff,Nat.reduceEqDiff,↓reduceIte]
 refine xS (fun m t H'=>∃ (i:Nat) (ov:AVal),m=ks.length - i∧i≤ks.length∧t=(.ptr b 0 :: xP 6 (ov :: xP 20 (kv :: .int .i64 ks.length :: .int .i64 i :: xP 15 [])):xJ)∧H1.next≤H'.next∧Own lo H' ov 1 (xL (((yF ks).take i).map (yZ es)))∧Own lo H' kv 3 (xZ (yF ks))∧(∀ j,j < lo→H'.obj j=H1.obj j)∧(∀ j,sid ov=some j→H1.next≤j)∧(i=0→ov=.nilSlice)) ks.length ?_ ?_
 ·exact ⟨0,.nilSlice,rfl,by omega,rfl,Nat.le_refl _,.nil,o1,fun _ _=>rfl,(fun j hj=>by cases hj),fun _=>rfl⟩
 ·rintro m t H2 ⟨i,ov,rfl,hi,rfl,n2,g2,o2,k2,s2,z2⟩
  by_cases hc:(i:Int) < ks.length
  ·have hil:i < (yF ks).length:=by omega
   have hk:(yF ks)[i]? = some (yF ks)[i]:=by simp [hil]
   have htk:=List.take_succ_eq_append_getElem hil
   obtain ⟨id,off,c,h1,h2,h3,h4,h5⟩:=o2.row.at (j:=i) (k:=.i64) (by omega) (by omega) (by rw [yI,Int.toNat_natCast]; omega)
   rw [Int.toNat_natCast,keyCells_at hk] at h5
   rw [cells?_of] at h3
   generalize (yF ks)[i]=k at *
   have hld:(bnd (cellsOf (H2.obj id)) fun c=>if off+3≤c.length then some (AVal.agg ((c.drop off).take 3)) else none)=some (AVal.agg [.int .i64 k.1,.int .i64 k.2.1,.int .i64 k.2.2]):=by
    simp only [h3,bnd,if_pos h4,h5]
    rfl
   have p1:=(k2 b hbl).trans q1
   have p2:=(k2 mid hml).trans q2
   have hlk:=qE (H:=(H2.new (.cells [.int .i64 0,.int .i64 0,.int .i64 0] true)).upd H2.next (some (.cells [.int .i64 k.1,.int .i64 k.2.1,.int .i64 k.2.2] true))) (mid:=mid) (es:=es) (by have:=hlo; rw [xQ (by omega),xX (by omega)]; exact p2) k false
   unfold yC at hlk
   simp (disch:=first | omega | (simp only [nx] <;> omega) | fail) only [vaw,hc,h1,hld,p1,hmb,hlk,Bool.false_eq_true,Nat.reduceAdd,Nat.reduceMul,Nat.reduceLeDiff,Nat.reduceEqDiff,↓reduceIte]
   have hlen:(xL (((yF ks).take i).map (yZ es))).length=i*1:=by
    rw [xE,List.length_map,List.length_take]
    omega
   refine vK (n:=i) (k:=1) g2 (by simp (disch:=first | omega | (simp only [nx] <;> omega) | fail) only [xI]; rfl) rfl (by omega) (by omega) hlen (by omega) (by omega) ?_
   intro v6 H6 n6 k6 g6 s6
   simp only [xB,xC] at n6 k6 s6
   have kM:Keep (fun j=>sid ov=some j) H2 H6:=⟨by omega,fun j hj hM=>by
    rw [k6 j (by omega) hM]
    simp (disch:=first | omega | (simp only [nx] <;> omega) | fail) only [xI]⟩
   have c6:=g6.cells
   simp (disch:=first | omega | (simp only [nx] <;> omega) | fail) only [vaw,c6,Nat.reduceAdd,Nat.reduceMul,Nat.reduceLeDiff,Nat.reduceEqDiff,↓reduceIte]
   refine ⟨ks.length - (i+1),by omega,i+1,v6,rfl,by omega,rfl,by omega,?_,o2.keepM kM (fun j h1 h2=>by have:=hlt j h1; have:=s2 j h2; omega),fun j hj=>?_,fun j hj=>?_,fun h=>by omega⟩
   ·have e:xL (((yF ks).take (i+1)).map (yZ es))=xL (((yF ks).take i).map (yZ es))++[.int .i64 (yZ es k)]:=by
     rw [htk,List.map_append,zF]
     rfl
    rw [e]
    exact g6.own
   ·rw [kM.obj j (by omega) (fun e=>by have:=s2 j e; omega)]
    exact k2 j hj
   ·obtain ⟨y,y1,y2⟩:=s6
    rw [y1] at hj
    injection hj with hj
    omega
  ·have:i=ks.length:=by omega
   subst this
   have htk:(yF ks).take ks.length=yF ks:=List.take_of_length_le (by omega)
   rw [htk] at g2
   simp (disch:=first | omega | (simp only [nx] <;> omega) | fail) only [vaw,hc,Nat.reduceAdd,Nat.reduceMul,Nat.reduceLeDiff,Nat.reduceEqDiff,↓reduceIte]
   by_cases h0:ks=[]
   ·have hov:=z2 (by rw [h0]; rfl)
    subst hov
    refine cloneNil_ret fun H3 k3=>?_
    simp (disch:=first | omega | (simp only [nx] <;> omega) | fail) only [vaw,Nat.reduceAdd,Nat.reduceMul,Nat.reduceLeDiff,Nat.reduceEqDiff,↓reduceIte]
    exact hR .nilSlice H3 _ (by rw [h0,sortKeys_nil]; exact .nil) (fun _=>rfl) (fun j hj=>(k3.old (by omega)).trans ((k2 j hj).trans (k1 j fun e=>by have:=hsk j e; omega))) rfl
   ·refine cloneI_ret g2.row (by rw [List.length_map,zZ]; omega) fun v H3 k3 o3=>?_
    have c3:=o3.cells
    simp (disch:=first | omega | (simp only [nx] <;> omega) | fail) only [vaw,c3,o3.notBot,Nat.reduceAdd,Nat.reduceMul,Nat.reduceLeDiff,Nat.reduceEqDiff,↓reduceIte]
    exact hR v H3 _ (o3.lower (by omega)) (fun h=>absurd h h0) (fun j hj=>(k3.old (by omega)).trans ((k2 j hj).trans (k1 j fun e=>by have:=hsk j e; omega))) rfl
end Go.Proofs.YtknhlpmmalcchaaGreat
