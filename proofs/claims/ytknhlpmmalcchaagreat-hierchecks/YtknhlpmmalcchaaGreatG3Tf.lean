/- Steps of the walk. -/
import Derived.Test.YtknhlpmmalcchaaGreatG3Te
import Derived.Test.YtknhlpmmalcchaaGreatG3Tb
import Derived.Sort.AssemblyPlain
import Derived.Test.YtknhlpmmalcchaaGreatG3Ta
import Derived.Shelf.SlSortCmp.NoneTotal
import Derived.Shelf.SlGeneric
import Derived.Ground.SlsfProg
import Derived.Test.YtknhlpmmalcchaaGreatProg
import Derived.Test.YtknhlpmmalcchaaGreatG3Vba
import Derived.Sort.LotA
set_option linter.all false
set_option linter.unusedVariables false
set_option linter.unusedSimpArgs false
namespace Go.Proofs.YtknhlpmmalcchaaGreat
open Go Go.VAI
set_option linter.unusedSimpArgs false

structure AdjRows (N i:Nat) (es:List Edge) (ls:List (List Int)):Prop where
 len:ls.length=4*N
 bd:∀ l∈ls,l.length≤i
 src:∀ v:Nat,v < N→ls[2*v]? = some (yH (wM v) es i)
 dst:∀ v:Nat,v < N→ls[2*N+2*v]? = some (yH (vB v) es i)
theorem set2_ne {α:Type} {l:List α} {p q i:Nat} {a b:α} (h1:i≠p) (h2:i≠q):((l.set p a).set q b)[i]? = l[i]? := by
 rw [List.getElem?_set,if_neg (fun h=>h2 h.symm),List.getElem?_set,if_neg (fun h=>h1 h.symm)]
theorem AdjRows.step {N i s d:Nat} {es:List Edge} {ls:List (List Int)} {e:Edge} (h:AdjRows N i es ls) (he:es[i]? = some e) (hs:e.src=s) (hd:e.dst=d) (hsN:s < N) (hdN:d < N) {lo li:List Int} (h1:ls[2*s+1]? = some lo) (h2:ls[2*N+2*d+1]? = some li) :
  AdjRows N (i+1) es ((((ls.set (2*s) (yH (wM s) es i++[(i:Int)])).set (2*s+1) (lo++[e.dst])).set (2*N+2*d) (yH (vB d) es i++[(i:Int)])).set (2*N+2*d+1) (li++[e.src])):=by
 have hl:=h.len
 have b1:=h.bd lo (List.mem_of_getElem? h1)
 have b2:=h.bd li (List.mem_of_getElem? h2)
 refine ⟨by simp [hl],fun l hm=>?_,fun v hv=>?_,fun v hv=>?_⟩
 ·rcases List.mem_or_eq_of_mem_set hm with hm | hm
  ·rcases List.mem_or_eq_of_mem_set hm with hm | hm
   ·rcases List.mem_or_eq_of_mem_set hm with hm | hm
    ·rcases List.mem_or_eq_of_mem_set hm with hm | hm
     ·have:=h.bd l hm; omega
     ·subst hm
      have:=@zC (wM s) es i
      simp; omega
    ·subst hm; simp; omega
   ·subst hm
    have:=@zC (vB d) es i
    simp; omega
  ·subst hm; simp; omega
 ·rw [set2_ne (by omega) (by omega),picks_succ he]
  by_cases hvs:v=s
  ·subst hvs
   rw [List.getElem?_set,if_neg (by omega),List.getElem?_set,if_pos rfl,if_pos (by omega),if_pos (by simp [hs])]
  ·rw [set2_ne (by omega) (by omega),h.src v hv,if_neg (by simp [hs]; omega),List.append_nil]
 ·rw [picks_succ he]
  by_cases hvd:v=d
  ·subst hvd
   rw [List.getElem?_set,if_neg (by omega),List.getElem?_set,if_pos rfl,if_pos (by simp; omega),if_pos (by simp [hd])]
  ·rw [set2_ne (by omega) (by omega),set2_ne (by omega) (by omega),h.dst v hv,if_neg (by simp [hd]; omega),List.append_nil]
theorem apart_put {H:AHeap} {rs:List AVal} {w r1' r2':AVal} {p:Nat} (ha:∀ (k:Nat) r j,rs[k]? = some r→sid r=some j→sid w≠some j) (hlo:0≤p) (hw:∀ j,sid w=some j→j < H.next) (hs:∃ y1 y2,sid r1'=some y1∧sid r2'=some y2∧H.next≤y1∧H.next≤y2∧y1≠y2) (hp:p+1 < rs.length) :
  ∀ (k:Nat) r j,((rs.set p r1').set (p+1) r2')[k]? = some r→sid r=some j→sid w≠some j:=by
 obtain ⟨y1,y2,t1,t2,q1,q2,-⟩:=hs
 intro k r j e1 e2 e3
 have:=hw j e3
 rcases set2_at hp e1 with ⟨-,rfl⟩ | ⟨-,rfl⟩ | ⟨-,-,e⟩
 ·rw [t1] at e2; injection e2 with e2; omega
 ·rw [t2] at e2; injection e2 with e2; omega
 ·exact ha k r j e e2 e3
structure NewAt (H0 H:AHeap) (a o q N i:Nat) (es:List Edge) (ew:AVal) (uo ui:List AVal) (ls:List (List Int)):Prop where
 keep:Keep Nothing H0 H
 box:H.obj a=some (.cells [.int .i64 N,ew,.slice o 0 N (.exact N),.slice q 0 N (.exact N)] true)
 ed:Own (a+1) H ew 4 (xG es)
 oo:H.obj o=some (.cells uo true)
 oi:H.obj q=some (.cells ui true)
 lo:uo.length=2*N
 li:ui.length=2*N
 bag:Bag (a+1) H (uo++ui) ls
 rows:AdjRows N i es ls
 ord:H0.next≤o∧o < q∧q < a∧a < H.next
 apart:∀ (k:Nat) r j,(uo++ui)[k]? = some r→sid r=some j→sid ew≠some j
theorem NewAt.kept {H0 H H':AHeap} {a o q N i:Nat} {es:List Edge} {ew:AVal} {uo ui:List AVal} {ls:List (List Int)} (h:NewAt H0 H a o q N i es ew uo ui ls) (hk:Keep Nothing H H'):NewAt H0 H' a o q N i es ew uo ui ls:=by
 have hb:=h.ord
 have hn:=hk.next
 exact ⟨h.keep.trans hk,by rw [hk.old (by omega)]; exact h.box,h.ed.kept hk,by rw [hk.old (by omega)]; exact h.oo,by rw [hk.old (by omega)]; exact h.oi,h.lo,h.li,h.bag.kept hk,h.rows,⟨hb.1,hb.2.1,hb.2.2.1,by omega⟩,h.apart⟩
theorem NewAt.adj {H0 H:AHeap} {a o q N:Nat} {es:List Edge} {ew:AVal} {uo ui:List AVal} {ls:List (List Int)} (h:NewAt H0 H a o q N es.length es ew uo ui ls):AdjAt H a o q N es ew uo ui:=by
 have hb:=h.ord
 have l1:=h.lo
 have l2:=h.li
 have hln:=h.rows.len
 refine ⟨h.box,h.ed.row,h.oo,h.oi,⟨by omega,by omega,by omega⟩,l1,l2,fun v hv=>?_,fun v hv=>?_⟩
 ·have e1:uo[2*v]? = some (uo[2*v]'(by omega)):=by simp
  have e2:uo[2*v+1]? = some (uo[2*v+1]'(by omega)):=by simp
  refine ⟨_,_,e1,e2,(h.bag.rows (2*v) _ _ (by rw [List.getElem?_append_left (by omega)]; exact e1) (h.rows.src v hv)).rowC,?_⟩
  exact (h.bag.rows (2*v+1) _ (ls[2*v+1]'(by omega)) (by rw [List.getElem?_append_left (by omega)]; exact e2) (by simp)).isCell
 ·have e1:ui[2*v]? = some (ui[2*v]'(by omega)):=by simp
  have e2:ui[2*v+1]? = some (ui[2*v+1]'(by omega)):=by simp
  refine ⟨_,_,e1,e2,(h.bag.rows (2*N+2*v) _ _ (by rw [List.getElem?_append_right (by omega),l1,Nat.add_sub_cancel_left]; exact e1) (h.rows.dst v hv)).rowC,?_⟩
  exact (h.bag.rows (2*N+2*v+1) _ (ls[2*N+2*v+1]'(by omega)) (by rw [List.getElem?_append_right (by omega),l1,show 2*N+2*v+1 - 2*N=2*v+1 by omega]; exact e2) (by simp)).isCell
set_option maxRecDepth 20000 in
set_option maxHeartbeats 8000000 in
theorem adjNew_ret {N:Nat} {ev:AVal} {es:List Edge} {H:AHeap} {Q:AVal→AHeap→Prop} (hr:Row H ev 4 (xG es)) (hnet:∀ e∈es,EdgeOk N e) (hN:N≤1000) (hn:es.length≤1000)
  (hq:∀ a o i ew uo ui H',Keep Nothing H H'→AdjAt H' a o i N es ew uo ui→Q (.ptr a 0) H'):Ret A 57 [.agg [.int .i64 N,ev]] H Q:=by
 refine Ret.of (fn:=F57) rfl ?_
 have hl:=hr.len (by omega) (xU es)
 have be:=hr.beq
 have hN0:¬ (N:Int) < 0:=by omega
 have hm1:((N:Nat):Int)*((48:Nat):Int)≤140737488355328:=by omega
 simp (disch:=first | omega | (simp only [nx] <;> omega) | fail) only [vaw,F57,max_two,hN0,zH hm1 (by omega),xF be,Nat.reduceAdd,Nat.reduceMul,Nat.reduceLeDiff,Nat.reduceEqDiff,↓reduceIte]
 rw [reps_two]
 have kN:Keep Nothing H ((((H.new (.cells [.int .i64 N,ev] true)).new (.cells (List.replicate (2*N) .nilSlice) true)).new (.cells (List.replicate (2*N) .nilSlice) true)).new (.cells [.int .i64 0,.nilSlice,.slice (H.next+1) 0 N (.exact N),.slice (H.next+2) 0 N (.exact N)] true)):=((((Keep.refl _ _).new _).new _).new _).new _
 have oN:((((H.new (.cells [.int .i64 N,ev] true)).new (.cells (List.replicate (2*N) .nilSlice) true)).new (.cells (List.replicate (2*N) .nilSlice) true)).new (.cells [.int .i64 0,.nilSlice,.slice (H.next+1) 0 N (.exact N),.slice (H.next+2) 0 N (.exact N)] true)).obj (H.next+3)=some (.cells [.int .i64 0,.nilSlice,.slice (H.next+1) 0 N (.exact N),.slice (H.next+2) 0 N (.exact N)] true):=by simp (disch:=first | omega | (simp only [nx] <;> omega) | fail) only [xI]
 have o0:((((H.new (.cells [.int .i64 N,ev] true)).new (.cells (List.replicate (2*N) .nilSlice) true)).new (.cells (List.replicate (2*N) .nilSlice) true)).new (.cells [.int .i64 0,.nilSlice,.slice (H.next+1) 0 N (.exact N),.slice (H.next+2) 0 N (.exact N)] true)).obj H.next=some (.cells [.int .i64 N,ev] true):=by simp (disch:=first | omega | (simp only [nx] <;> omega) | fail) only [xI]
 have o1:((((H.new (.cells [.int .i64 N,ev] true)).new (.cells (List.replicate (2*N) .nilSlice) true)).new (.cells (List.replicate (2*N) .nilSlice) true)).new (.cells [.int .i64 0,.nilSlice,.slice (H.next+1) 0 N (.exact N),.slice (H.next+2) 0 N (.exact N)] true)).obj (H.next+1)=some (.cells (List.replicate (2*N) .nilSlice) true):=by simp (disch:=first | omega | (simp only [nx] <;> omega) | fail) only [xI]
 have o2:((((H.new (.cells [.int .i64 N,ev] true)).new (.cells (List.replicate (2*N) .nilSlice) true)).new (.cells (List.replicate (2*N) .nilSlice) true)).new (.cells [.int .i64 0,.nilSlice,.slice (H.next+1) 0 N (.exact N),.slice (H.next+2) 0 N (.exact N)] true)).obj (H.next+2)=some (.cells (List.replicate (2*N) .nilSlice) true):=by simp (disch:=first | omega | (simp only [nx] <;> omega) | fail) only [xI]
 have nN:((((H.new (.cells [.int .i64 N,ev] true)).new (.cells (List.replicate (2*N) .nilSlice) true)).new (.cells (List.replicate (2*N) .nilSlice) true)).new (.cells [.int .i64 0,.nilSlice,.slice (H.next+1) 0 N (.exact N),.slice (H.next+2) 0 N (.exact N)] true)).next=H.next+4:=rfl
 generalize (((H.new (.cells [.int .i64 N,ev] true)).new (.cells (List.replicate (2*N) .nilSlice) true)).new (.cells (List.replicate (2*N) .nilSlice) true)).new (.cells [.int .i64 0,.nilSlice,.slice (H.next+1) 0 N (.exact N),.slice (H.next+2) 0 N (.exact N)] true)=HN at *
 refine cloneE_ret (hr.kept kN) (by omega) fun ew H1 k1 g1=>?_
 rw [nN] at g1
 have p3:=(k1.old (i:=H.next+3) (by omega)).trans oN
 have p0:=(k1.old (i:=H.next) (by omega)).trans o0
 have p1:=(k1.old (i:=H.next+1) (by omega)).trans o1
 have p2:=(k1.old (i:=H.next+2) (by omega)).trans o2
 have c1:=g1.cells
 have n1:=k1.next
 simp (disch:=first | omega | (simp only [nx] <;> omega) | fail) only [vaw,p3,p0,c1,hl,Nat.reduceAdd,Nat.reduceMul,Nat.reduceLeDiff,Nat.reduceEqDiff,↓reduceIte]
 have kU:Keep (fun j=>j=H.next+3) H1 (H1.upd (H.next+3) (some (.cells [.int .i64 N,ew,.slice (H.next+1) 0 N (.exact N),.slice (H.next+2) 0 N (.exact N)] true))):=(Keep.refl (fun j=>j=H.next+3) _).upd (.inr rfl) _
 have start:NewAt H (H1.upd (H.next+3) (some (.cells [.int .i64 N,ew,.slice (H.next+1) 0 N (.exact N),.slice (H.next+2) 0 N (.exact N)] true))) (H.next+3) (H.next+1) (H.next+2) N 0 es ew (List.replicate (2*N) .nilSlice) (List.replicate (2*N) .nilSlice) (List.replicate (4*N) []):=by
  refine ⟨(kN.trans k1).upd (.inl (by omega)) _,xN rfl,g1.keepM kU (fun j hj e=>by have:=(g1.sid_ge hj).1; omega),?_,?_,by simp,by simp,⟨by simp; omega,fun i r l e1 e2=>?_,fun i i' r r' j e1 _ e3 _=>?_⟩,⟨by simp,fun l hm=>?_,fun v hv=>?_,fun v hv=>?_⟩,⟨by omega,by omega,by omega,by simp only [xC]; omega⟩,fun k r j e1 e2=>?_⟩
  ·rw [xQ (by omega)]; exact p1
  ·rw [xQ (by omega)]; exact p2
  ·have:=List.mem_of_getElem? e1
   have h2:=List.mem_of_getElem? e2
   simp at this h2
   obtain ⟨-,rfl⟩:=h2
   have:r=.nilSlice:=this.2
   subst this
   exact .nil
  ·have:=List.mem_of_getElem? e1
   simp at this
   have:r=.nilSlice:=this.2
   subst this
   cases e3
  ·simp at hm; simp [hm.2]
  ·rw [List.getElem?_replicate,if_pos (by omega)]; rfl
  ·rw [List.getElem?_replicate,if_pos (by omega)]; rfl
  ·have:=List.mem_of_getElem? e1
   simp at this
   have:r=.nilSlice:=this.2
   subst this
   cases e2
 refine xS (fun m t H'=>∃ (i:Nat) (uo ui:List AVal) (ls:List (List Int)),m=es.length - i∧i≤es.length∧t=(xP 3 (.ptr (H.next+3) 0 :: xP 22 (ev :: .int .i64 es.length :: .int .i64 i :: xP 38 ([]))):xJ)∧NewAt H H' (H.next+3) (H.next+1) (H.next+2) N i es ew uo ui ls) es.length ?_ ?_
 ·exact ⟨0,_,_,_,rfl,by omega,rfl,start⟩
 ·clear start kU
  rintro m t H2 ⟨i,uo,ui,ls,rfl,hi,rfl,g⟩
  by_cases hc:(i:Int) < es.length
  ·have hil:i < es.length:=by omega
   have he:es[i]? = some es[i]:=by simp [hil]
   obtain ⟨id,off,e1,hid2,e2,e3,e4,e5,e6⟩:=vC (hr.kept g.keep) he
   have hmem:=List.getElem_mem hil
   have hok:=hnet _ hmem
   generalize es[i]=e at *
   obtain ⟨⟨s0,s1⟩,⟨d0,d1⟩,-,-⟩:=hok
   simp only [Edge.cells] at e6
   simp (disch:=first | omega | (simp only [nx] <;> omega) | fail) only [vaw,hc,e1,e6,Nat.reduceAdd,Nat.reduceMul,Nat.reduceLeDiff,Nat.reduceEqDiff,↓reduceIte]
   have k3:Keep Nothing H2 ((H2.new (.cells [.int .i64 0,.int .i64 0,.int .i64 0,.int .i64 0] true)).upd H2.next (some (.cells [.int .i64 e.src,.int .i64 e.dst,.int .i64 e.mode,.int .i64 e.cost] true))):=((Keep.refl _ _).new _).upd (.inl (Nat.le_refl _)) _
   have o3:((H2.new (.cells [.int .i64 0,.int .i64 0,.int .i64 0,.int .i64 0] true)).upd H2.next (some (.cells [.int .i64 e.src,.int .i64 e.dst,.int .i64 e.mode,.int .i64 e.cost] true))).obj H2.next=some (.cells [.int .i64 e.src,.int .i64 e.dst,.int .i64 e.mode,.int .i64 e.cost] true):=xN rfl
   have n3:((H2.new (.cells [.int .i64 0,.int .i64 0,.int .i64 0,.int .i64 0] true)).upd H2.next (some (.cells [.int .i64 e.src,.int .i64 e.dst,.int .i64 e.mode,.int .i64 e.cost] true))).next=H2.next+1:=rfl
   generalize (H2.new (.cells [.int .i64 0,.int .i64 0,.int .i64 0,.int .i64 0] true)).upd H2.next (some (.cells [.int .i64 e.src,.int .i64 e.dst,.int .i64 e.mode,.int .i64 e.cost] true))=H3 at *
   have g3:NewAt H H3 (H.next+3) (H.next+1) (H.next+2) N i es ew uo ui ls:=g.kept k3
   obtain ⟨s,hs⟩:=Int.eq_ofNat_of_zero_le s0
   obtain ⟨d,hd⟩:=Int.eq_ofNat_of_zero_le d0
   have sN:s < N:=by omega
   have dN:d < N:=by omega
   rw [hs,hd] at o3
   have bx:=g3.box
   refine adj_is_ret bx fun b sb=>?_
   have hb:b=true:=sb.2 ⟨s0,s1⟩
   subst hb
   simp (disch:=first | omega | (simp only [nx] <;> omega) | fail) only [vaw,o3,Nat.reduceAdd,Nat.reduceMul,Nat.reduceLeDiff,Nat.reduceEqDiff,↓reduceIte]
   refine adj_is_ret bx fun b sb=>?_
   have hb:b=true:=sb.2 ⟨by omega,by omega⟩
   subst hb
   have ms:s*2=2*s:=Nat.mul_comm _ _
   have md:d*2=2*d:=Nat.mul_comm _ _
   simp (disch:=first | omega | (simp only [nx] <;> omega) | fail) only [vaw,o3,bx,ms,Int.toNat_natCast,Nat.reduceAdd,Nat.reduceMul,Nat.reduceLeDiff,Nat.reduceEqDiff,↓reduceIte]
   have ob:=g3.ord
   have l1:=g3.lo
   have l2:=g3.li
   have hln:=g3.rows.len
   obtain ⟨r1,u1⟩:∃ r,uo[2*s]? = some r:=⟨_,List.getElem?_eq_getElem (by omega)⟩
   obtain ⟨r2,u2⟩:∃ r,uo[2*s+1]? = some r:=⟨_,List.getElem?_eq_getElem (by omega)⟩
   obtain ⟨m2,w2⟩:∃ r,ls[2*s+1]? = some r:=⟨_,List.getElem?_eq_getElem (by omega)⟩
   obtain ⟨m4,w4⟩:∃ r,ls[2*N+2*d+1]? = some r:=⟨_,List.getElem?_eq_getElem (by omega)⟩
   have w1:=g3.rows.src s sN
   have w3:=g3.rows.dst d dN
   have v1:(uo++ui)[2*s]? = some r1:=by rw [List.getElem?_append_left (by omega)]; exact u1
   have v2:(uo++ui)[2*s+1]? = some r2:=by rw [List.getElem?_append_left (by omega)]; exact u2
   have b1:=g3.rows.bd _ (List.mem_of_getElem? w1)
   have b2:=g3.rows.bd _ (List.mem_of_getElem? w2)
   have b3:=g3.rows.bd _ (List.mem_of_getElem? w3)
   have b4:=g3.rows.bd _ (List.mem_of_getElem? w4)
   have n2:H.next+3 < H2.next:=g.ord.2.2.2
   have x1:=fun j hj=>(g.bag.rows _ _ _ v1 w1).sid_ge (j:=j) hj
   have x2:=fun j hj=>(g.bag.rows _ _ _ v2 w2).sid_ge (j:=j) hj
   refine ends_add_ret g3.oo u1 u2 (g3.bag.rows _ _ _ v1 w1) (g3.bag.rows _ _ _ v2 w2) (by omega) (by omega) (fun j h h'=>by have:=g3.bag.two _ _ _ _ j v1 v2 h h'; omega) (by omega) (by omega) fun r1' r2' H4 k4 o4 q1 q2 t=>?_
   have bag4:=g3.bag.put v1 v2 (by omega) k4 q1 q2 t
   have ed4:Own (H.next+3+1) H4 ew 4 (xG es):=g3.ed.keepM k4 (fun j hj hm=>by
    rcases hm with hm | hm | hm
    ·have:=(g3.ed.sid_ge hj).1; omega
    ·exact g3.apart _ _ _ v1 hm hj
    ·exact g3.apart _ _ _ v2 hm hj)
   have ap4:=apart_put (w:=ew) g3.apart (by omega) (fun j hj=>(g3.ed.sid_ge hj).2) t (p:=2*s) (by rw [List.length_append]; omega)
   have k4':Keep Nothing H H4:=g3.keep.trans' k4 (fun j hj hm=>by
    rcases hm with hm | hm | hm
    ·omega
    ·have:=(x1 j hm).1; omega
    ·have:=(x2 j hm).1; omega)
   have bx4:=(k4.obj (H.next+3) (by omega) (fun hm=>by
    rcases hm with hm | hm | hm
    ·omega
    ·have:=(x1 _ hm).1; omega
    ·have:=(x2 _ hm).1; omega)).trans bx
   have oi4:=(k4.obj (H.next+2) (by omega) (fun hm=>by
    rcases hm with hm | hm | hm
    ·omega
    ·have:=(x1 _ hm).1; omega
    ·have:=(x2 _ hm).1; omega)).trans g3.oi
   have o34:=(k4.obj H2.next (by omega) (fun hm=>by
    rcases hm with hm | hm | hm
    ·omega
    ·have:=(x1 _ hm).2; omega
    ·have:=(x2 _ hm).2; omega)).trans o3
   have n4:=k4.next
   rw [List.set_append_left _ _ (by omega),List.set_append_left _ _ (by rw [List.length_set]; omega)] at bag4 ap4
   simp (disch:=first | omega | (simp only [nx] <;> omega) | fail) only [vaw,o34,bx4,md,Int.toNat_natCast,Nat.reduceAdd,Nat.reduceMul,Nat.reduceLeDiff,Nat.reduceEqDiff,↓reduceIte]
   obtain ⟨r3,u3⟩:∃ r,ui[2*d]? = some r:=⟨_,List.getElem?_eq_getElem (by omega)⟩
   obtain ⟨r4,u4⟩:∃ r,ui[2*d+1]? = some r:=⟨_,List.getElem?_eq_getElem (by omega)⟩
   have l1':((uo.set (2*s) r1').set (2*s+1) r2').length=2*N:=by simp [l1]
   have L:(((uo.set (2*s) r1').set (2*s+1) r2')++ui).length=4*N:=by rw [List.length_append,l1']; omega
   have v3:(((uo.set (2*s) r1').set (2*s+1) r2')++ui)[2*N+2*d]? = some r3:=by rw [List.getElem?_append_right (by omega),l1',Nat.add_sub_cancel_left]; exact u3
   have v4:(((uo.set (2*s) r1').set (2*s+1) r2')++ui)[2*N+2*d+1]? = some r4:=by rw [List.getElem?_append_right (by omega),l1',show 2*N+2*d+1 - 2*N=2*d+1 by omega]; exact u4
   have w3':((ls.set (2*s) (yH (wM s) es i++[(i:Int)])).set (2*s+1) (m2++[(d:Int)]))[2*N+2*d]? = some (yH (vB d) es i):=by rw [set2_ne (by omega) (by omega)]; exact w3
   have w4':((ls.set (2*s) (yH (wM s) es i++[(i:Int)])).set (2*s+1) (m2++[(d:Int)]))[2*N+2*d+1]? = some m4:=by rw [set2_ne (by omega) (by omega)]; exact w4
   have x3:=fun j hj=>(bag4.rows _ _ _ v3 w3').sid_ge (j:=j) hj
   have x4:=fun j hj=>(bag4.rows _ _ _ v4 w4').sid_ge (j:=j) hj
   refine ends_add_ret oi4 u3 u4 (bag4.rows _ _ _ v3 w3') (bag4.rows _ _ _ v4 w4') (by omega) (by omega) (fun j h h'=>by have:=bag4.two _ _ _ _ j v3 v4 h h'; omega) (by omega) (by omega) fun r3' r4' H5 k5 o5 q3 q4 t5=>?_
   have bag5:=bag4.put v3 v4 (by omega) k5 q3 q4 t5
   have ap5:=apart_put (w:=ew) ap4 (by omega) (fun j hj=>(ed4.sid_ge hj).2) t5 (p:=2*N+2*d) (by omega)
   rw [List.set_append_right _ _ (by omega),l1',Nat.add_sub_cancel_left,List.set_append_right _ _ (by omega),l1',show 2*N+2*d+1 - 2*N=2*d+1 by omega] at bag5 ap5
   have ed5:Own (H.next+3+1) H5 ew 4 (xG es):=ed4.keepM k5 (fun j hj hm=>by
    rcases hm with hm | hm | hm
    ·have:=(ed4.sid_ge hj).1; omega
    ·exact ap4 _ _ _ v3 hm hj
    ·exact ap4 _ _ _ v4 hm hj)
   have k5':Keep Nothing H H5:=k4'.trans' k5 (fun j hj hm=>by
    rcases hm with hm | hm | hm
    ·omega
    ·have:=(x3 j hm).1; omega
    ·have:=(x4 j hm).1; omega)
   have bx5:=(k5.obj (H.next+3) (by omega) (fun hm=>by
    rcases hm with hm | hm | hm
    ·omega
    ·have:=(x3 _ hm).1; omega
    ·have:=(x4 _ hm).1; omega)).trans bx4
   have oo5:=(k5.obj (H.next+1) (by omega) (fun hm=>by
    rcases hm with hm | hm | hm
    ·omega
    ·have:=(x3 _ hm).1; omega
    ·have:=(x4 _ hm).1; omega)).trans o4
   have n5:=k5.next
   have rows5:=g3.rows.step he hs hd sN dN w2 w4
   rw [hs,hd] at rows5
   simp (disch:=first | omega | (simp only [nx] <;> omega) | fail) only [vaw,Nat.reduceAdd,Nat.reduceMul,Nat.reduceLeDiff,Nat.reduceEqDiff,↓reduceIte]
   exact ⟨es.length - (i+1),by omega,i+1,_,_,_,rfl,by omega,rfl,k5',bx5,ed5,oo5,o5,l1',by simp [l2],bag5,rows5,⟨by omega,by omega,by omega,by omega⟩,ap5⟩
  ·have:i=es.length:=by omega
   subst this
   simp (disch:=first | omega | (simp only [nx] <;> omega) | fail) only [vaw,hc,Nat.reduceAdd,Nat.reduceMul,Nat.reduceLeDiff,Nat.reduceEqDiff,↓reduceIte]
   exact hq _ _ _ _ _ _ _ g.keep g.adj
end Go.Proofs.YtknhlpmmalcchaaGreat

namespace Go.Proofs.YtknhlpmmalcchaaGreat
open Go Go.VAI
set_option linter.unusedSimpArgs false

theorem RowC.whole {H:AHeap} {v:AVal} {sz n:Nat} {cs:List AVal} (h:RowC H v sz cs) (hsz:0 < sz) (hn:cs.length=n*sz) {kd:IntKind}:∃ v',wB sz v none (some (.int kd (n:Int))) (some (.int kd (n:Int)))=some v'∧Row H v' sz cs:=by
 obtain ⟨hr,ho⟩:=h
 cases hr with
 | nil =>
  have:n=0:=by
   rcases Nat.eq_zero_or_pos n with h | h
   ·exact h
   ·have:=Nat.mul_pos h hsz; simp at hn; omega
  subst this
  exact ⟨.nilSlice,by simp [wB,wA,bound,bnd],.nil⟩
 | @mk id off len _ cap c _ hid hc hl hcs =>
  subst hcs
  simp only [List.length_take,List.length_drop] at hn
  have:len*sz=n*sz:=by omega
  have hln:=Nat.eq_of_mul_eq_mul_right hsz this
  subst hln
  have e:wB sz (.slice id off len cap) none (some (.int kd (len:Int))) (some (.int kd (len:Int)))=some (.slice id off len (.exact len)):=by
   have hl2:len≤cap.top len:=by
    cases cap with
    | exact m=>exact ho
    | room s=>exact Nat.le_refl _
   have:(len:Int)≤(cap.top len:Int):=by omega
   simp [wB,wA,bound,bnd,this]
  exact ⟨_,e,.mk (c:=c) hid hc (by omega) rfl⟩
theorem side_ret {a o N:Nat} {v:Nat} {h0 h1 h3:AVal} {r r':AVal} {rw':Bool} {so:Nat} {us:List AVal} {H:AHeap} {Q:AVal→AHeap→Prop} (ho:H.obj a=some (.cells [h0,h1,.slice o 0 N (.exact N),h3] rw')) (hal:a < H.next) (hso:so < H.next) (hv:v < N) (hu:H.obj so=some (.cells us true)) (hul:us.length=2*N) (hr:us[2*v]? = some r) (hr':us[2*v+1]? = some r')
  (hq:∀ H',Keep Nothing H H'→Q (.agg [r,r']) H'):Ret A 77 [.ptr a 0,.slice so 0 N (.exact N),.int .i64 v] H Q:=by
 refine Ret.of (fn:=F77) rfl ?_
 simp (disch:=first | omega | (simp only [nx] <;> omega) | fail) only [vaw,F77,Nat.reduceAdd,Nat.reduceMul,Nat.reduceLeDiff,Nat.reduceEqDiff,↓reduceIte]
 have k1:Keep Nothing H (H.new (.cells [.nilSlice,.nilSlice] true)):=(Keep.refl _ _).new _
 have b1:=(k1.old hal).trans ho
 have u1:=(k1.old hso).trans hu
 have f1:(H.new (.cells [.nilSlice,.nilSlice] true)).obj H.next=some (.cells [.nilSlice,.nilSlice] true):=yB rfl
 have n1:(H.new (.cells [.nilSlice,.nilSlice] true)).next=H.next+1:=rfl
 generalize H.new (.cells [.nilSlice,.nilSlice] true)=H1 at *
 refine adj_is_ret b1 fun b sb=>?_
 have hb:b=true:=sb.2 ⟨by omega,by omega⟩
 subst hb
 have mv:v*2=2*v:=Nat.mul_comm _ _
 have hle:2*v+2≤us.length:=by omega
 have d1:(us.drop (2*v)).take 2=[r,r']:=by
  obtain ⟨l1,e1⟩:=List.getElem?_eq_some_iff.1 hr
  obtain ⟨l2,e2⟩:=List.getElem?_eq_some_iff.1 hr'
  rw [List.drop_eq_getElem_cons l1,List.drop_eq_getElem_cons l2,e1,e2]; rfl
 simp (disch:=first | omega | (simp only [nx] <;> omega) | fail) only [vaw,u1,mv,Int.toNat_natCast,hle,d1,f1,Nat.reduceAdd,Nat.reduceMul,Nat.reduceLeDiff,Nat.reduceEqDiff,↓reduceIte]
 exact hq _ (k1.upd (.inl (Nat.le_refl _)) _)
theorem list_ret {r r':AVal} {xs:List Int} {H:AHeap} {Q:AVal→AHeap→Prop} (hr:RowC H r 1 (xL xs)) (hn:xs.length≤1000000) (hq:∀ v' H',Keep Nothing H H'→Own H.next H' v' 1 (xL xs)→Q v' H'):Ret A 76 [.agg [r,r']] H Q:=by
 refine Ret.of (fn:=F76) rfl ?_
 have hl:=hr.1.len1
 rw [xE] at hl
 obtain ⟨v',e1,r1⟩:=RowC.whole hr (n:=xs.length) (kd:=.i64) (by omega) (by rw [xE,Nat.mul_one])
 simp (disch:=first | omega | (simp only [nx] <;> omega) | fail) only [vaw,F76,hl,e1,Nat.reduceAdd,Nat.reduceMul,Nat.reduceLeDiff,Nat.reduceEqDiff,↓reduceIte]
 have k1:Keep Nothing H (H.new (.cells [r,r'] true)):=(Keep.refl _ _).new _
 refine cloneI_ret (r1.kept k1) (by omega) fun v2 H2 k2 g2=>?_
 simp (disch:=first | omega | (simp only [nx] <;> omega) | fail) only [vaw,g2.notBot,Nat.reduceAdd,Nat.reduceMul,Nat.reduceLeDiff,Nat.reduceEqDiff,↓reduceIte]
 exact hq _ _ (k1.trans k2) (g2.lower (by have:=k1.next; omega))
theorem adjOut_ret {a o i N:Nat} {v:Nat} {es:List Edge} {ew:AVal} {uo ui:List AVal} {H:AHeap} {Q:AVal→AHeap→Prop} (h:AdjAt H a o i N es ew uo ui) (hv:v < N) (hn:es.length≤1000)
  (hq:∀ v' H',Keep Nothing H H'→Own H.next H' v' 1 (xL (yH (wM v) es es.length))→Q v' H'):Ret A 58 [.ptr a 0,.int .i64 v] H Q:=by
 refine Ret.of (fn:=F58) rfl ?_
 have bx:=h.box
 obtain ⟨r,r',u1,u2,rc,-⟩:=h.ro v hv
 have hl:=@zC (wM v) es es.length
 simp (disch:=first | omega | (simp only [nx] <;> omega) | fail) only [vaw,F58,bx,Nat.reduceAdd,Nat.reduceMul,Nat.reduceLeDiff,Nat.reduceEqDiff,↓reduceIte]
 refine side_ret bx h.lt.1 h.lt.2.1 hv h.oo h.lo u1 u2 fun H1 k1=>?_
 simp (disch:=first | omega | (simp only [nx] <;> omega) | fail) only [vaw,Nat.reduceAdd,Nat.reduceMul,Nat.reduceLeDiff,Nat.reduceEqDiff,↓reduceIte]
 refine list_ret (RowC.kept rc k1) (by omega) fun v2 H2 k2 g2=>?_
 simp (disch:=first | omega | (simp only [nx] <;> omega) | fail) only [vaw,g2.notBot,Nat.reduceAdd,Nat.reduceMul,Nat.reduceLeDiff,Nat.reduceEqDiff,↓reduceIte]
 exact hq _ _ (k1.trans k2) (g2.lower k1.next)
theorem adjIn_ret {a o i N:Nat} {v:Nat} {es:List Edge} {ew:AVal} {uo ui:List AVal} {H:AHeap} {Q:AVal→AHeap→Prop} (h:AdjAt H a o i N es ew uo ui) (hv:v < N) (hn:es.length≤1000)
  (hq:∀ v' H',Keep Nothing H H'→Own H.next H' v' 1 (xL (yH (vB v) es es.length))→Q v' H'):Ret A 59 [.ptr a 0,.int .i64 v] H Q:=by
 refine Ret.of (fn:=F59) rfl ?_
 have bx:=h.box
 obtain ⟨r,r',u1,u2,rc,-⟩:=h.ri v hv
 have hl:=@zC (vB v) es es.length
 simp (disch:=first | omega | (simp only [nx] <;> omega) | fail) only [vaw,F59,bx,Nat.reduceAdd,Nat.reduceMul,Nat.reduceLeDiff,Nat.reduceEqDiff,↓reduceIte]
 refine side_ret bx h.lt.1 h.lt.2.2 hv h.oi h.li u1 u2 fun H1 k1=>?_
 simp (disch:=first | omega | (simp only [nx] <;> omega) | fail) only [vaw,Nat.reduceAdd,Nat.reduceMul,Nat.reduceLeDiff,Nat.reduceEqDiff,↓reduceIte]
 refine list_ret (RowC.kept rc k1) (by omega) fun v2 H2 k2 g2=>?_
 simp (disch:=first | omega | (simp only [nx] <;> omega) | fail) only [vaw,g2.notBot,Nat.reduceAdd,Nat.reduceMul,Nat.reduceLeDiff,Nat.reduceEqDiff,↓reduceIte]
 exact hq _ _ (k1.trans k2) (g2.lower k1.next)
end Go.Proofs.YtknhlpmmalcchaaGreat

namespace Go.Proofs.YtknhlpmmalcchaaGreat
open Go Go.VAI
set_option linter.unusedSimpArgs false

def Small (y:Idx):Prop:=y.rank.length≤1000∧(∀ l∈y.up,l.length≤1000000)∧∀ l∈y.down,l.length≤1000000
structure Sp (a0 a1 a2 a3 a4 a5:Nat) (H:AHeap) (ew rv av uv dv:AVal) (LE R LA:List Int) (us ds:List AVal) (up down:List (List Int)):Prop where
 er:Own a4 H ew 4 (xL LE)
 ei:In a4 a5 ew
 rr:Own a0 H rv 1 (xL R)
 ri:In a0 a1 rv
 ar:Own a1 H av 7 (xL LA)
 ai:In a1 a2 av
 ur:OwnRows a2 a3 H uv us up
 dr:OwnRows a3 a4 H dv ds down
 o:a0≤a1∧a1≤a2∧a2≤a3∧a3≤a4∧a4≤a5∧a5≤H.next
theorem arc_of:∀ (n:Nat) (L:List Int),L.length=7*n→∃ arcs:List Arc,xW arcs=xL L∧arcs.length=n
 | 0,L,h=>by
  have:=List.eq_nil_of_length_eq_zero (by omega:L.length=0)
  subst this
  exact ⟨[],rfl,rfl⟩
 | n+1,L,h=>by
  match L,h with
  | a :: b :: c :: d :: e :: f :: g :: L',h =>
   obtain ⟨arcs,h1,h2⟩:=arc_of n L' (by simp at h; omega)
   refine ⟨⟨a,b,c,d,e,f,g⟩ :: arcs,?_,by simp [h2]⟩
   have e1:xW (⟨a,b,c,d,e,f,g⟩ :: arcs)=(⟨a,b,c,d,e,f,g⟩:Arc).cells++xW arcs:=by simp [xW]
   rw [e1,h1]
   simp [Arc.cells,xL]
theorem edge_of:∀ (n:Nat) (L:List Int),L.length=4*n→∃ es:List Edge,xG es=xL L∧es.length=n
 | 0,L,h=>by
  have:=List.eq_nil_of_length_eq_zero (by omega:L.length=0)
  subst this
  exact ⟨[],rfl,rfl⟩
 | n+1,L,h=>by
  match L,h with
  | a :: b :: c :: d :: L',h =>
   obtain ⟨es,h1,h2⟩:=edge_of n L' (by simp at h; omega)
   refine ⟨⟨a,b,c,d⟩ :: es,?_,by simp [h2]⟩
   have e1:xG (⟨a,b,c,d⟩ :: es)=(⟨a,b,c,d⟩:Edge).cells++xG es:=by simp [xG]
   rw [e1,h1]
   simp [Edge.cells,xL]
theorem arcs_ints:∀ arcs:List Arc,∃ L:List Int,xW arcs=xL L∧L.length=7*arcs.length
 | []=>⟨[],rfl,rfl⟩
 | a :: arcs=>by
  obtain ⟨L,h1,h2⟩:=arcs_ints arcs
  refine ⟨a.src :: a.dst :: a.mode :: a.cost :: a.edge :: a.a :: a.b :: L,?_,by simp [h2]; omega⟩
  have e1:xW (a :: arcs)=a.cells++xW arcs:=by simp [xW]
  rw [e1,h1]
  simp [Arc.cells,xL]
theorem edges_ints:∀ es:List Edge,∃ L:List Int,xG es=xL L∧L.length=4*es.length
 | []=>⟨[],rfl,rfl⟩
 | a :: es=>by
  obtain ⟨L,h1,h2⟩:=edges_ints es
  refine ⟨a.src :: a.dst :: a.mode :: a.cost :: L,?_,by simp [h2]; omega⟩
  have e1:xG (a :: es)=a.cells++xG es:=by simp [xG]
  rw [e1,h1]
  simp [Edge.cells,xL]
theorem idx_of {lo ne na:Nat} {n:Int} {H:AHeap} {ew rv av uv dv:AVal} {LE R LA:List Int} {up down:List (List Int)} (he:From lo H ew 4 (xL LE)) (hle:LE.length=4*ne) (hr:From lo H rv 1 (xL R)) (ha:From lo H av 7 (xL LA)) (hla:LA.length=7*na) (hu:FromRows lo H uv up) (hd:FromRows lo H dv down) :
  ∃ y:Idx,y.n=n∧y.rank=R∧y.up=up∧y.down=down∧IdxFrom lo H ew rv av uv dv y:=by
 obtain ⟨es,e1,_⟩:=edge_of ne LE hle
 obtain ⟨arcs,e2,_⟩:=arc_of na LA hla
 exact ⟨⟨n,es,R,arcs,up,down⟩,rfl,rfl,rfl,rfl,⟨by rw [e1]; exact he,hr,by rw [e2]; exact ha,hu,hd⟩⟩
theorem Own.slotN {lo sz n:Nat} {H:AHeap} {v:AVal} {cs:List AVal} (h:Own lo H v sz cs) (hsz:0 < sz) (hn:cs.length=n*sz) {j:Nat} (hj:j < n) {k:IntKind}:∃ id,sid v=some id∧lo≤id∧id < H.next∧xO sz v (.int k (j:Int))=some (.ptr id (j*sz))∧H.obj id=some (.cells cs true) ∧
  ∀ (H':AHeap) c',H.next≤H'.next→H'.obj id=some (.cells c' true)→c'.length=cs.length→Own lo H' v sz c':=by
 cases h with
 | nil =>
  have:=Nat.mul_pos (show 0 < n by omega) hsz
  simp at hn; omega
 | @room id len _ _ hlo hhi ho hlen =>
  have:len=n:=Nat.eq_of_mul_eq_mul_right hsz (by omega)
  subst this
  exact ⟨id,rfl,hlo,hhi,by rw [xM ⟨by omega,by omega⟩]; simp,ho,fun H' c' h1 h2 h3=>.room hlo (by omega) h2 (by omega)⟩
 | @full id len _ _ hlo hhi ho hlen =>
  have:len=n:=Nat.eq_of_mul_eq_mul_right hsz (by omega)
  subst this
  exact ⟨id,rfl,hlo,hhi,by rw [xM ⟨by omega,by omega⟩]; simp,ho,fun H' c' h1 h2 h3=>.full hlo (by omega) h2 (by omega)⟩
theorem wQ {L:List Int} {p:Nat} {x:Int} (h:p < L.length):yV (xL L) p [.int .i64 x]=xL (L.set p x):=by
 rw [yQ (by rw [xE]; exact h)]
 simp [xL,List.map_set]
section
variable {a0 a1 a2 a3 a4 a5 ne na:Nat} {H:AHeap} {ew rv av uv dv:AVal} {LE R LA:List Int} {us ds:List AVal} {up down:List (List Int)} {n:Int}
theorem Sp.M (h:Sp a0 a1 a2 a3 a4 a5 H ew rv av uv dv LE R LA us ds up down) {M:Nat→Prop} {H':AHeap} (hk:Keep M H H') (hM:∀ j,M j→j < a0∨a5≤j):Sp a0 a1 a2 a3 a4 a5 H' ew rv av uv dv LE R LA us ds up down:=by
 have o:=h.o
 have nm:∀ j,a0≤j→j < a5→¬ M j:=fun j h1 h2 hm=>by have:=hM j hm; omega
 exact ⟨h.er.keepM hk (fun j hj=>nm j (by have:=h.ei j hj; omega) (by have:=h.ei j hj; omega)),h.ei,h.rr.keepM hk (fun j hj=>nm j (by have:=h.ri j hj; omega) (by have:=h.ri j hj; omega)),h.ri,h.ar.keepM hk (fun j hj=>nm j (by have:=h.ai j hj; omega) (by have:=h.ai j hj; omega)),h.ai,
  h.ur.M hk (fun j h1 h2=>nm j (by omega) (by omega)),h.dr.M hk (fun j h1 h2=>nm j (by omega) (by omega)),by have:=hk.next; omega⟩
theorem Sp.kept (h:Sp a0 a1 a2 a3 a4 a5 H ew rv av uv dv LE R LA us ds up down) {H':AHeap} (hk:Keep Nothing H H'):Sp a0 a1 a2 a3 a4 a5 H' ew rv av uv dv LE R LA us ds up down:=h.M hk (fun _ h=>h.elim)
theorem Sp.end (h:Sp a0 a1 a2 a3 a4 a5 H ew rv av uv dv LE R LA us ds up down) (hle:LE.length=4*ne) (hla:LA.length=7*na):∃ y:Idx,y.n=n∧y.rank=R∧y.up=up∧y.down=down∧IdxFrom a0 H ew rv av uv dv y:=by
 have o:=h.o
 exact idx_of ⟨h.er.row,fun j hj=>by have:=h.ei j hj; omega⟩ hle ⟨h.rr.row,fun j hj=>by have:=h.ri j hj; omega⟩ ⟨h.ar.row,fun j hj=>by have:=h.ai j hj; omega⟩ hla (h.ur.from (by omega)) (h.dr.from (by omega))
theorem Sp.endR (h:Sp a0 a1 a2 a3 a4 a5 H ew rv av uv dv LE R LA us ds up down) (hle:LE.length=4*ne) (hla:LA.length=7*na) {H':AHeap} {rv':AVal} {R':List Int} (hk:Keep (fun j=>a0≤j∧j < a1) H H') (hr:From a0 H' rv' 1 (xL R')):∃ y:Idx,y.n=n∧y.rank=R'∧y.up=up∧y.down=down∧IdxFrom a0 H' ew rv' av uv dv y:=by
 have o:=h.o
 exact idx_of ⟨(h.er.keepM hk (fun j hj e=>by have:=h.ei j hj; omega)).row,fun j hj=>by have:=h.ei j hj; omega⟩ hle hr ⟨(h.ar.keepM hk (fun j hj e=>by have:=h.ai j hj; omega)).row,fun j hj=>by have:=h.ai j hj; omega⟩ hla ((h.ur.M hk (fun j h1 h2 e=>by omega)).from (by omega)) ((h.dr.M hk (fun j h1 h2 e=>by omega)).from (by omega))
theorem Sp.endA (h:Sp a0 a1 a2 a3 a4 a5 H ew rv av uv dv LE R LA us ds up down) (hle:LE.length=4*ne) {H':AHeap} {av':AVal} {LA':List Int} {na':Nat} (hla:LA'.length=7*na') (hk:Keep (fun j=>a1≤j∧j < a2) H H') (hr:From a0 H' av' 7 (xL LA')):∃ y:Idx,y.n=n∧y.rank=R∧y.up=up∧y.down=down∧IdxFrom a0 H' ew rv av' uv dv y:=by
 have o:=h.o
 exact idx_of ⟨(h.er.keepM hk (fun j hj e=>by have:=h.ei j hj; omega)).row,fun j hj=>by have:=h.ei j hj; omega⟩ hle ⟨(h.rr.keepM hk (fun j hj e=>by have:=h.ri j hj; omega)).row,fun j hj=>by have:=h.ri j hj; omega⟩ hr hla ((h.ur.M hk (fun j h1 h2 e=>by omega)).from (by omega)) ((h.dr.M hk (fun j h1 h2 e=>by omega)).from (by omega))
theorem Sp.endE (h:Sp a0 a1 a2 a3 a4 a5 H ew rv av uv dv LE R LA us ds up down) (hla:LA.length=7*na) {H':AHeap} {LE':List Int} (hle:LE'.length=4*ne) (hk:Keep (fun j=>a4≤j∧j < a5) H H') (hr:From a0 H' ew 4 (xL LE')):∃ y:Idx,y.n=n∧y.rank=R∧y.up=up∧y.down=down∧IdxFrom a0 H' ew rv av uv dv y:=by
 have o:=h.o
 exact idx_of hr hle ⟨(h.rr.keepM hk (fun j hj e=>by have:=h.ri j hj; omega)).row,fun j hj=>by have:=h.ri j hj; omega⟩ ⟨(h.ar.keepM hk (fun j hj e=>by have:=h.ai j hj; omega)).row,fun j hj=>by have:=h.ai j hj; omega⟩ hla ((h.ur.M hk (fun j h1 h2 e=>by omega)).from (by omega)) ((h.dr.M hk (fun j h1 h2 e=>by omega)).from (by omega))
theorem Sp.endU (h:Sp a0 a1 a2 a3 a4 a5 H ew rv av uv dv LE R LA us ds up down) (hle:LE.length=4*ne) (hla:LA.length=7*na) {H':AHeap} {uv':AVal} {up':List (List Int)} (hk:Keep (fun j=>a2≤j∧j < a3) H H') (hr:FromRows a0 H' uv' up'):∃ y:Idx,y.n=n∧y.rank=R∧y.up=up'∧y.down=down∧IdxFrom a0 H' ew rv av uv' dv y:=by
 have o:=h.o
 exact idx_of ⟨(h.er.keepM hk (fun j hj e=>by have:=h.ei j hj; omega)).row,fun j hj=>by have:=h.ei j hj; omega⟩ hle ⟨(h.rr.keepM hk (fun j hj e=>by have:=h.ri j hj; omega)).row,fun j hj=>by have:=h.ri j hj; omega⟩ ⟨(h.ar.keepM hk (fun j hj e=>by have:=h.ai j hj; omega)).row,fun j hj=>by have:=h.ai j hj; omega⟩ hla hr ((h.dr.M hk (fun j h1 h2 e=>by omega)).from (by omega))
theorem Sp.endD (h:Sp a0 a1 a2 a3 a4 a5 H ew rv av uv dv LE R LA us ds up down) (hle:LE.length=4*ne) (hla:LA.length=7*na) {H':AHeap} {dv':AVal} {down':List (List Int)} (hk:Keep (fun j=>a3≤j∧j < a4) H H') (hr:FromRows a0 H' dv' down'):∃ y:Idx,y.n=n∧y.rank=R∧y.up=up∧y.down=down'∧IdxFrom a0 H' ew rv av uv dv' y:=by
 have o:=h.o
 exact idx_of ⟨(h.er.keepM hk (fun j hj e=>by have:=h.ei j hj; omega)).row,fun j hj=>by have:=h.ei j hj; omega⟩ hle ⟨(h.rr.keepM hk (fun j hj e=>by have:=h.ri j hj; omega)).row,fun j hj=>by have:=h.ri j hj; omega⟩ ⟨(h.ar.keepM hk (fun j hj e=>by have:=h.ai j hj; omega)).row,fun j hj=>by have:=h.ai j hj; omega⟩ hla ((h.ur.M hk (fun j h1 h2 e=>by omega)).from (by omega)) hr
end
theorem OwnRows.put {a b lo:Nat} {H H':AHeap} {M:Nat→Prop} {av r':AVal} {us:List AVal} {ul:List (List Int)} (h:OwnRows a b H av us ul) (hlo:lo≤a) {k:Nat} {l':List Int} {r:AVal} (hr:us[k]? = some r)
  (hk:Keep M H H') (hM:∀ j,M j→sid r=some j∨sid av=some j) (ho:Own a H' av 1 (us.set k r')) (hn:Row H' r' 1 (xL l')) (hs:∀ j,sid r'=some j→lo≤j):FromRows lo H' av (ul.set k l'):=by
 refine ⟨us.set k r',⟨ho.row,fun j hj=>by have:=(h.inA j hj).1; omega⟩,by simp [h.len],fun i r1 l1 e1 e2=>?_⟩
 by_cases hik:k=i
 ·subst hik
  have h1:k < us.length:=(List.getElem?_eq_some_iff.1 hr).1
  rw [List.getElem?_set,if_pos rfl,if_pos h1] at e1
  rw [List.getElem?_set,if_pos rfl,if_pos (by rw [← h.len]; exact h1)] at e2
  injection e1 with e1; injection e2 with e2
  subst e1; subst e2
  exact ⟨hn,hs⟩
 ·rw [List.getElem?_set,if_neg hik] at e1 e2
  refine ⟨((h.rows i r1 l1 e1 e2).keepM hk (fun j hj hm=>?_)).row,fun j hj=>by have:=(h.inR i r1 e1 j hj).1; omega⟩
  rcases hM j hm with h1 | h1
  ·exact hik (h.two k i r r1 j hr e1 h1 hj)
  ·exact h.apart i r1 j e1 hj h1
end Go.Proofs.YtknhlpmmalcchaaGreat

namespace Go.Proofs.YtknhlpmmalcchaaGreat
open Go Go.VAI Go.Sort
set_option linter.unusedSimpArgs false

section
variable {α:Type} {f:α→List AVal} {n:Nat}
theorem flat_size (hf:∀ a,(f a).length=n) (l:List α):(l.flatMap f).length=l.length*n:=by
 induction l with
 | nil=>simp
 | cons a l ih=>rw [List.flatMap_cons,List.length_append,hf,ih,List.length_cons,Nat.succ_mul]; omega
theorem flat_get (hf:∀ a,(f a).length=n):∀ (l:List α) (i:Nat) (a:α),l[i]? = some a→((l.flatMap f).drop (i*n)).take n=f a
 | [],i,a,h=>by simp at h
 | x :: l,0,a,h=>by
  simp at h; subst h
  have:=hf x
  rw [List.flatMap_cons,Nat.zero_mul,List.drop_zero,List.take_append_of_le_length (by omega),List.take_of_length_le (by omega)]
 | x :: l,i+1,a,h=>by
  have hx:=hf x
  rw [List.flatMap_cons,List.drop_append,List.drop_of_length_le (by rw [hx,Nat.succ_mul]; omega),List.nil_append,hx,Nat.succ_mul,Nat.add_sub_cancel]
  exact flat_get hf l i a (by simpa using h)
def rowOf (f:α→List AVal) (d:Array α):List AVal:=d.toList.flatMap f
theorem rowOf_length (hf:∀ a,(f a).length=n) (d:Array α):(rowOf f d).length=d.size*n:=by
 unfold rowOf; rw [flat_size hf]; simp
theorem rowOf_get [Inhabited α] (hf:∀ a,(f a).length=n) {d:Array α} {i:Nat} (hi:i < d.size):((rowOf f d).drop (i*n)).take n=f d[i]! := by
 unfold rowOf
 refine flat_get hf _ i _ ?_
 rw [Array.getElem?_toList,getElem!_pos d i hi]
 simp [hi]
end
theorem rcells_len (a:Int × Int):(wF a).length=2:=rfl
def ltOf {α:Type} (c:α→α→Int) (x y:α):Bool:=decide (c x y < 0)
end Go.Proofs.YtknhlpmmalcchaaGreat

namespace Go.Proofs.YtknhlpmmalcchaaGreat
open Go Go.VAI Go.Sort
set_option linter.unusedSimpArgs false

theorem ones_ret {n:Nat} (hn:n < 32) {H:AHeap} {Q:AVal→AHeap→Prop} (hq:∀ c:Int,(1 < c↔2≤((List.range 5).filter fun i=>n.testBit i).length)→Q (.int .i64 c) H):Ret A 79 [.int .u64 n] H Q:=by
 have key:∀ c:Int,qD A 5 79 [.int .u64 n] H=some (.int .i64 c,H)→(1 < c↔2≤((List.range 5).filter fun i=>n.testBit i).length)→Ret A 79 [.int .u64 n] H Q:=fun c h1 h2=>⟨5,_,h1,hq c h2⟩
 have h:n=0∨n=1∨n=2∨n=3∨n=4∨n=5∨n=6∨n=7∨n=8∨n=9∨n=10∨n=11∨n=12∨n=13∨n=14∨n=15∨n=16∨n=17∨n=18∨n=19∨n=20∨n=21∨n=22∨n=23∨n=24∨n=25∨n=26∨n=27∨n=28∨n=29∨n=30∨n=31:=by omega
 rcases h with rfl | rfl | rfl | rfl | rfl | rfl | rfl | rfl | rfl | rfl | rfl | rfl | rfl | rfl | rfl | rfl | rfl | rfl | rfl | rfl | rfl | rfl | rfl | rfl | rfl | rfl | rfl | rfl | rfl | rfl | rfl | rfl
 ·exact key 0 (by kernel_rfl) (by decide)
 ·exact key 1 (by kernel_rfl) (by decide)
 ·exact key 1 (by kernel_rfl) (by decide)
 ·exact key 2 (by kernel_rfl) (by decide)
 ·exact key 1 (by kernel_rfl) (by decide)
 ·exact key 2 (by kernel_rfl) (by decide)
 ·exact key 2 (by kernel_rfl) (by decide)
 ·exact key 3 (by kernel_rfl) (by decide)
 ·exact key 1 (by kernel_rfl) (by decide)
 ·exact key 2 (by kernel_rfl) (by decide)
 ·exact key 2 (by kernel_rfl) (by decide)
 ·exact key 3 (by kernel_rfl) (by decide)
 ·exact key 2 (by kernel_rfl) (by decide)
 ·exact key 3 (by kernel_rfl) (by decide)
 ·exact key 3 (by kernel_rfl) (by decide)
 ·exact key 4 (by kernel_rfl) (by decide)
 ·exact key 1 (by kernel_rfl) (by decide)
 ·exact key 2 (by kernel_rfl) (by decide)
 ·exact key 2 (by kernel_rfl) (by decide)
 ·exact key 3 (by kernel_rfl) (by decide)
 ·exact key 2 (by kernel_rfl) (by decide)
 ·exact key 3 (by kernel_rfl) (by decide)
 ·exact key 3 (by kernel_rfl) (by decide)
 ·exact key 4 (by kernel_rfl) (by decide)
 ·exact key 2 (by kernel_rfl) (by decide)
 ·exact key 3 (by kernel_rfl) (by decide)
 ·exact key 3 (by kernel_rfl) (by decide)
 ·exact key 4 (by kernel_rfl) (by decide)
 ·exact key 3 (by kernel_rfl) (by decide)
 ·exact key 4 (by kernel_rfl) (by decide)
 ·exact key 4 (by kernel_rfl) (by decide)
 ·exact key 5 (by kernel_rfl) (by decide)
end Go.Proofs.YtknhlpmmalcchaaGreat

namespace Go.Proofs.YtknhlpmmalcchaaGreat
open Go Go.VAI
set_option linter.unusedSimpArgs false

def zR (es:List Edge):List Int→Nat→Nat
 | [],a=>a
 | x :: l,a=>zR es l (a ||| 1 <<< ((es[x.toNat]?).elim 0 fun e=>e.mode.toNat))
theorem orModes_drop {es:List Edge} {xs:List Int} {i j a:Nat} {e:Edge} (h:xs[i]? = some (j:Int)) (he:es[j]? = some e):zR es (xs.drop i) a=zR es (xs.drop (i+1)) (a ||| 1 <<< e.mode.toNat):=by
 obtain ⟨h1,h2⟩:=List.getElem?_eq_some_iff.1 h
 rw [List.drop_eq_getElem_cons h1,h2,zR,Int.toNat_natCast,he]; rfl
theorem or32:∀ a:Nat,a < 32→∀ m:Nat,m < 5→(orI .i64 (a:Int) (shlI .i64 1 (m:Int))=((a ||| 1 <<< m:Nat):Int)∧a ||| 1 <<< m < 32):=by decide
theorem orModes_lt {es:List Edge} (hm:∀ e∈es,0≤e.mode∧e.mode < 5):∀ (xs:List Int) (a:Nat),a < 32→zR es xs a < 32
 | [],a,h=>h
 | x :: l,a,h=>by
  rw [zR]
  refine orModes_lt hm l _ ?_
  cases he:es[x.toNat]? with
  | none=>exact (or32 a h 0 (by omega)).2
  | some e =>
   have:=hm e (List.mem_of_getElem? he)
   exact (or32 a h e.mode.toNat (by omega)).2
theorem picks_nat {p:Edge→Bool} {es:List Edge} {n:Nat} {x:Int} (h:x∈yH p es n):∃ j:Nat,x=j∧j < n:=by
 simp only [yH,List.mem_map,List.mem_filter,List.mem_range] at h
 obtain ⟨j,⟨h1,_⟩,rfl⟩:=h
 exact ⟨j,rfl,h1⟩
def seenAt (es:List Edge) (v k:Nat):Nat:=if k=0 then 0 else if k=1 then zR es (yH (wM v) es es.length) 0 else zR es (yH (vB v) es es.length) (zR es (yH (wM v) es es.length) 0)
set_option maxRecDepth 20000 in
set_option maxHeartbeats 8000000 in
theorem adjModes_ret {a o q N:Nat} {v:Nat} {es:List Edge} {ew:AVal} {uo ui:List AVal} {H:AHeap} {Q:AVal→AHeap→Prop} (h:AdjAt H a o q N es ew uo ui) (hv:v < N) (hn:es.length≤1000) (hm:∀ e∈es,0≤e.mode∧e.mode < 5)
  (hq:∀ H',Keep Nothing H H'→Q (.int .i64 (zR es (yH (vB v) es es.length) (zR es (yH (wM v) es es.length) 0):Nat)) H'):Ret A 78 [.ptr a 0,.int .i64 v] H Q:=by
 refine Ret.of (fn:=F78) rfl ?_
 have bx:=h.box
 simp (disch:=first | omega | (simp only [nx] <;> omega) | fail) only [vaw,F78,bx,Nat.reduceAdd,Nat.reduceMul,Nat.reduceLeDiff,Nat.reduceEqDiff,↓reduceIte]
 refine xS (fun m t H'=>∃ (k:Nat),m=2 - k∧k≤2∧t=(.ptr a 0 :: .int .i64 v :: xP 3 (.int .i64 (seenAt es v k:Nat) :: xP 12 (.agg [.slice o 0 N (.exact N),.slice q 0 N (.exact N)] :: .int .i64 k :: xP 27 ([]))):xJ)∧Keep Nothing H H') 2 ?_ ?_
 ·exact ⟨0,rfl,by omega,rfl,.refl _ _⟩
 ·rintro m t H1 ⟨k,rfl,hk,rfl,k1⟩
  have g:=h.kept k1
  have bx1:=g.box
  have hk3:k=0∨k=1∨k=2:=by omega
  rcases hk3 with rfl | rfl | rfl
  ·obtain ⟨r,r',u1,u2,rc,-⟩:=g.ro v hv
   have hpl:=@zC (wM v) es es.length
   simp (disch:=first | omega | (simp only [nx] <;> omega) | fail) only [vaw,show ((0:Nat):Int)=0 from rfl,Int.reduceLT,Int.reduceToNat,Nat.reduceAdd,Nat.reduceMul,Nat.reduceLeDiff,Nat.reduceEqDiff,↓reduceIte]
   refine side_ret bx1 g.lt.1 g.lt.2.1 hv g.oo g.lo u1 u2 fun H2 k2=>?_
   have hl:=(RowC.kept rc k2).1.len1
   rw [xE] at hl
   simp (disch:=first | omega | (simp only [nx] <;> omega) | fail) only [vaw,hl,Nat.reduceAdd,Nat.reduceMul,Nat.reduceLeDiff,Nat.reduceEqDiff,↓reduceIte]
   refine xS (fun m t H'=>∃ (i acc:Nat),m=(yH (wM v) es es.length).length - i∧i≤(yH (wM v) es es.length).length∧t=(.ptr a 0 :: .int .i64 v :: xP 3 (.int .i64 (acc:Nat) :: xP 12 (.agg [.slice o 0 N (.exact N),.slice q 0 N (.exact N)] :: .int .i64 0 :: xP 6 (r :: .int .i64 (yH (wM v) es es.length).length :: .int .i64 i :: xP 18 ([])))):xJ)∧Keep Nothing H H'∧Keep Nothing H1 H'∧acc < 32∧zR es ((yH (wM v) es es.length).drop i) acc=seenAt es v (0+1)) (yH (wM v) es es.length).length ?_ ?_
   ·exact ⟨0,seenAt es v 0,rfl,by omega,rfl,k1.trans k2,k2,by show (0:Nat) < 32; decide,rfl⟩
   ·rintro m t H3 ⟨i,acc,rfl,hi,rfl,k3,k3',ha,ho⟩
    by_cases hc:(i:Int) < (yH (wM v) es es.length).length
    ·have hil:i < (yH (wM v) es es.length).length:=by omega
     have hx:(yH (wM v) es es.length)[i]? = some (yH (wM v) es es.length)[i]:=by simp [hil]
     obtain ⟨j,hj,hjn⟩:=picks_nat (List.getElem_mem hil)
     rw [hj] at hx
     have he:es[j]? = some es[j]:=by simp [hjn]
     have hmem:=List.getElem_mem hjn
     have hmo:=hm _ hmem
     have g3:=h.kept k3
     have bx3:=g3.box
     obtain ⟨id,off,e1,hid2,e2,e3,e4,e5,e6⟩:=vC g3.ed he
     obtain ⟨ip,op,p1,p2,p3⟩:=(RowC.kept rc k3').1.int_at (k:=.i64) hx
     rw [orModes_drop hx he] at ho
     generalize es[j]=e at *
     obtain ⟨w,hw⟩:=Int.eq_ofNat_of_zero_le hmo.1
     have hor:=or32 acc ha w (by omega)
     rw [hw,Int.toNat_natCast] at ho
     simp (disch:=first | omega | (simp only [nx] <;> omega) | fail) only [vaw,hc,p1,p3,bx3,e1,e4,hw,hor.1,Nat.reduceAdd,Nat.reduceMul,Nat.reduceLeDiff,Nat.reduceEqDiff,↓reduceIte]
     exact ⟨(yH (wM v) es es.length).length - (i+1),by omega,i+1,acc ||| 1 <<< w,rfl,by omega,rfl,k3,k3',hor.2,ho⟩
    ·have:i=(yH (wM v) es es.length).length:=by omega
     rw [this,List.drop_length] at ho
     have ho':acc=seenAt es v (0+1):=ho
     subst ho'
     simp (disch:=first | omega | (simp only [nx] <;> omega) | fail) only [vaw,hc,Nat.reduceAdd,Nat.reduceMul,Nat.reduceLeDiff,Nat.reduceEqDiff,↓reduceIte]
     exact ⟨2 - (0+1),by omega,0+1,rfl,by omega,rfl,k3⟩
  ·obtain ⟨r,r',u1,u2,rc,-⟩:=g.ri v hv
   have hpl:=@zC (vB v) es es.length
   simp (disch:=first | omega | (simp only [nx] <;> omega) | fail) only [vaw,show ((1:Nat):Int)=1 from rfl,Int.reduceLT,Int.reduceToNat,Nat.reduceAdd,Nat.reduceMul,Nat.reduceLeDiff,Nat.reduceEqDiff,↓reduceIte]
   refine side_ret bx1 g.lt.1 g.lt.2.2 hv g.oi g.li u1 u2 fun H2 k2=>?_
   have hl:=(RowC.kept rc k2).1.len1
   rw [xE] at hl
   simp (disch:=first | omega | (simp only [nx] <;> omega) | fail) only [vaw,hl,Nat.reduceAdd,Nat.reduceMul,Nat.reduceLeDiff,Nat.reduceEqDiff,↓reduceIte]
   refine xS (fun m t H'=>∃ (i acc:Nat),m=(yH (vB v) es es.length).length - i∧i≤(yH (vB v) es es.length).length∧t=(.ptr a 0 :: .int .i64 v :: xP 3 (.int .i64 (acc:Nat) :: xP 12 (.agg [.slice o 0 N (.exact N),.slice q 0 N (.exact N)] :: .int .i64 1 :: xP 6 (r :: .int .i64 (yH (vB v) es es.length).length :: .int .i64 i :: xP 18 ([])))):xJ)∧Keep Nothing H H'∧Keep Nothing H1 H'∧acc < 32∧zR es ((yH (vB v) es es.length).drop i) acc=seenAt es v (1+1)) (yH (vB v) es es.length).length ?_ ?_
   ·exact ⟨0,seenAt es v 1,rfl,by omega,rfl,k1.trans k2,k2,by exact orModes_lt hm _ _ (by omega),rfl⟩
   ·rintro m t H3 ⟨i,acc,rfl,hi,rfl,k3,k3',ha,ho⟩
    by_cases hc:(i:Int) < (yH (vB v) es es.length).length
    ·have hil:i < (yH (vB v) es es.length).length:=by omega
     have hx:(yH (vB v) es es.length)[i]? = some (yH (vB v) es es.length)[i]:=by simp [hil]
     obtain ⟨j,hj,hjn⟩:=picks_nat (List.getElem_mem hil)
     rw [hj] at hx
     have he:es[j]? = some es[j]:=by simp [hjn]
     have hmem:=List.getElem_mem hjn
     have hmo:=hm _ hmem
     have g3:=h.kept k3
     have bx3:=g3.box
     obtain ⟨id,off,e1,hid2,e2,e3,e4,e5,e6⟩:=vC g3.ed he
     obtain ⟨ip,op,p1,p2,p3⟩:=(RowC.kept rc k3').1.int_at (k:=.i64) hx
     rw [orModes_drop hx he] at ho
     generalize es[j]=e at *
     obtain ⟨w,hw⟩:=Int.eq_ofNat_of_zero_le hmo.1
     have hor:=or32 acc ha w (by omega)
     rw [hw,Int.toNat_natCast] at ho
     simp (disch:=first | omega | (simp only [nx] <;> omega) | fail) only [vaw,hc,p1,p3,bx3,e1,e4,hw,hor.1,Nat.reduceAdd,Nat.reduceMul,Nat.reduceLeDiff,Nat.reduceEqDiff,↓reduceIte]
     exact ⟨(yH (vB v) es es.length).length - (i+1),by omega,i+1,acc ||| 1 <<< w,rfl,by omega,rfl,k3,k3',hor.2,ho⟩
    ·have:i=(yH (vB v) es es.length).length:=by omega
     rw [this,List.drop_length] at ho
     have ho':acc=seenAt es v (1+1):=ho
     subst ho'
     simp (disch:=first | omega | (simp only [nx] <;> omega) | fail) only [vaw,hc,Nat.reduceAdd,Nat.reduceMul,Nat.reduceLeDiff,Nat.reduceEqDiff,↓reduceIte]
     exact ⟨2 - (1+1),by omega,1+1,rfl,by omega,rfl,k3⟩
  ·simp (disch:=first | omega | (simp only [nx] <;> omega) | fail) only [vaw,Nat.reduceAdd,Nat.reduceMul,Nat.reduceLeDiff,Nat.reduceEqDiff,↓reduceIte]
   exact hq _ k1
end Go.Proofs.YtknhlpmmalcchaaGreat

namespace Go.Proofs.YtknhlpmmalcchaaGreat
open Go Go.VAI
set_option linter.unusedSimpArgs false

def uP (es:List Edge) (v:Nat):Bool:=decide (2≤((List.range 5).filter fun i=>(zR es (yH (vB v) es es.length) (zR es (yH (wM v) es es.length) 0)).testBit i).length)
theorem reps_oneB (n:Nat) (x:AVal):reps [x] n=List.replicate n x:=by
 induction n with
 | zero=>rfl
 | succ n ih=>rw [reps,ih,List.replicate_succ]; rfl
set_option maxRecDepth 20000 in
set_option maxHeartbeats 8000000 in
theorem linksB_ret {N:Nat} {ev:AVal} {es:List Edge} {H:AHeap} {Q:AVal→AHeap→Prop} (hr:Row H ev 4 (xG es)) (hnet:∀ e∈es,EdgeOk N e) (hN:N≤1000) (hn:es.length≤1000)
  (hq:∀ v' H',Keep Nothing H H'→Own H.next H' v' 1 (xV ((List.range N).map (uP es)))→Q v' H'):Ret A 60 [.agg [.int .i64 N,ev]] H Q:=by
 refine Ret.of (fn:=F60) rfl ?_
 have be:=hr.beq
 have hN0:¬ (N:Int) < 0:=by omega
 have hm1:((N:Nat):Int)*((1:Nat):Int)≤140737488355328:=by omega
 simp (disch:=first | omega | (simp only [nx] <;> omega) | fail) only [vaw,F60,Nat.reduceAdd,Nat.reduceMul,Nat.reduceLeDiff,Nat.reduceEqDiff,↓reduceIte]
 have kN:Keep Nothing H (H.new (.cells [.int .i64 N,ev] true)):=(Keep.refl _ _).new _
 have oN:(H.new (.cells [.int .i64 N,ev] true)).obj H.next=some (.cells [.int .i64 N,ev] true):=yB rfl
 have nN:(H.new (.cells [.int .i64 N,ev] true)).next=H.next+1:=rfl
 generalize H.new (.cells [.int .i64 N,ev] true)=HN at *
 refine adjNew_ret (hr.kept kN) hnet hN hn fun a o q ew uo ui H1 k1 g1=>?_
 have o1:=(k1.old (i:=H.next) (by omega)).trans oN
 have n1:=k1.next
 simp (disch:=first | omega | (simp only [nx] <;> omega) | fail) only [vaw,o1,max_two,hN0,zH hm1 (by omega),Nat.reduceAdd,Nat.reduceMul,Nat.reduceLeDiff,Nat.reduceEqDiff,↓reduceIte]
 rw [reps_oneB]
 have kB:Keep Nothing H1 (H1.new (.cells (List.replicate N (.bool false)) true)):=(Keep.refl _ _).new _
 have oB:(H1.new (.cells (List.replicate N (.bool false)) true)).obj H1.next=some (.cells (List.replicate N (.bool false)) true):=yB rfl
 have nB:(H1.new (.cells (List.replicate N (.bool false)) true)).next=H1.next+1:=rfl
 generalize H1.new (.cells (List.replicate N (.bool false)) true)=HB at *
 refine xS (fun m t H'=>∃ (i:Nat),m=N - i∧i≤N∧t=(xP 3 (.func (.func 78) [.ptr a 0] [] :: .slice H1.next 0 N (.exact N) :: xP 9 (.int .i64 N :: .int .i64 i :: xP 13 ([]))):xJ)∧Keep Nothing H1 H'∧H1.next < H'.next∧H'.obj H1.next=some (.cells (xV ((List.range i).map (uP es))++List.replicate (N - i) (.bool false)) true)) N ?_ ?_
 ·exact ⟨0,rfl,by omega,rfl,kB,by omega,oB⟩
 ·rintro m t H2 ⟨i,rfl,hi,rfl,k2,n2,o2⟩
  by_cases hc:(i:Int) < N
  ·have hiN:i < N:=by omega
   simp (disch:=first | omega | (simp only [nx] <;> omega) | fail) only [vaw,hc,Nat.reduceAdd,Nat.reduceMul,Nat.reduceLeDiff,Nat.reduceEqDiff,↓reduceIte]
   refine adjModes_ret (g1.kept k2) hiN hn (fun e he=>⟨(hnet e he).2.2.1.1,(hnet e he).2.2.1.2⟩) fun H3 k3=>?_
   have hlt:=orModes_lt (es:=es) (fun e he=>⟨(hnet e he).2.2.1.1,(hnet e he).2.2.1.2⟩) (yH (vB i) es es.length) _ (orModes_lt (fun e he=>⟨(hnet e he).2.2.1.1,(hnet e he).2.2.1.2⟩) (yH (wM i) es es.length) 0 (by omega))
   have hlb:uP es i=decide (2≤((List.range 5).filter fun j=>(zR es (yH (vB i) es es.length) (zR es (yH (wM i) es es.length) 0)).testBit j).length):=rfl
   generalize zR es (yH (vB i) es es.length) (zR es (yH (wM i) es es.length) 0)=z at *
   have hw:IntKind.u64.wrap (z:Int)=(z:Int):=by
    show ((z:Int) % 18446744073709551616)=_
    omega
   simp (disch:=first | omega | (simp only [nx] <;> omega) | fail) only [vaw,hw,Nat.reduceAdd,Nat.reduceMul,Nat.reduceLeDiff,Nat.reduceEqDiff,↓reduceIte]
   refine ones_ret hlt fun c hcc=>?_
   have o3:=(k3.old n2).trans o2
   have n3:=k3.next
   have hd:decide (1 < c)=uP es i:=by rw [hlb]; exact decide_eq_decide.2 hcc
   have hbl:(xV ((List.range i).map (uP es))++List.replicate (N - i) (AVal.bool false)).length=N:=by simp [xV]; omega
   have hil:i+1≤(xV ((List.range i).map (uP es))++List.replicate (N - i) (AVal.bool false)).length:=by omega
   have hsp:=yQ (l:=xV ((List.range i).map (uP es))++List.replicate (N - i) (AVal.bool false)) (p:=i) (x:=.bool (uP es i)) (by omega)
   have hset:(xV ((List.range i).map (uP es))++List.replicate (N - i) (AVal.bool false)).set i (AVal.bool (uP es i))=xV ((List.range (i+1)).map (uP es))++List.replicate (N - (i+1)) (AVal.bool false):=by
    rw [List.set_append_right _ _ (by simp [xV]),show N - i=(N - (i+1))+1 by omega,List.replicate_succ]
    simp [xV,List.range_succ]
   rw [hset] at hsp
   simp (disch:=first | omega | (simp only [nx] <;> omega) | fail) only [vaw,hd,o3,hil,hsp,Int.toNat_natCast,Nat.reduceAdd,Nat.reduceMul,Nat.reduceLeDiff,Nat.reduceEqDiff,↓reduceIte]
   exact ⟨N - (i+1),by omega,i+1,rfl,by omega,rfl,(k2.trans k3).upd (.inl (Nat.le_refl _)) _,by omega,rfl⟩
  ·have:i=N:=by omega
   subst this
   rw [Nat.sub_self,List.replicate_zero,List.append_nil] at o2
   simp (disch:=first | omega | (simp only [nx] <;> omega) | fail) only [vaw,hc,Nat.reduceAdd,Nat.reduceMul,Nat.reduceLeDiff,Nat.reduceEqDiff,↓reduceIte]
   refine hq _ _ ((kN.trans k1).trans k2) ?_
   exact .full (by omega) n2 o2 (by simp [xV])
end Go.Proofs.YtknhlpmmalcchaaGreat

/- Sorting a row of keys: the library's own contract,laid at this program (written out by the kit's lay-plain). -/
namespace Go.Proofs
open Go.Shelf
def Tryz.sortRk_ren:Go.Shelf.Ren:=⟨fun | 6=>61 | 15=>71 | 14=>80 | 28=>89 | 29=>90 | 20=>94 | 21=>95 | 22=>96 | 23=>97 | 24=>98 | 25=>99 | 26=>100 | 27=>101 | 46=>107 | 47=>103 | 48=>104 | 49=>108 | 50=>109 | 57=>111 | n=>n,fun | 22=>92 | 24=>94 | 25=>97 | 3=>3 | 39=>101 | 0=>0 | 53=>124 | 55=>126 | 4=>4 | 46=>118 | 45=>117 | 50=>86 | 5=>5 | 9=>9 | 66=>134 | 70=>138 | 76=>142 | 77=>143 | n=>n,fun | n=>n⟩
theorem Tryz.sortRk:Go.Proofs.SlLaysF0.n6 Tryz.prog Tryz.sortRk_ren:={
 mixed:=by kernel_rfl
 f6:=⟨Tryz.f61.name,by decide,Tryz.func61.trans (congrArg some (by kernel_rfl))⟩
 f14:=⟨Tryz.f80.name,by decide,Tryz.func80.trans (congrArg some (by kernel_rfl))⟩
 f15:=Tryz.func71.trans (congrArg some (by kernel_rfl))
 f20:=⟨Tryz.f94.name,by decide,Tryz.func94.trans (congrArg some (by kernel_rfl))⟩
 f21:=⟨Tryz.f95.name,by decide,Tryz.func95.trans (congrArg some (by kernel_rfl))⟩
 f22:=⟨Tryz.f96.name,by decide,Tryz.func96.trans (congrArg some (by kernel_rfl))⟩
 f23:=⟨Tryz.f97.name,by decide,Tryz.func97.trans (congrArg some (by kernel_rfl))⟩
 f24:=⟨Tryz.f98.name,by decide,Tryz.func98.trans (congrArg some (by kernel_rfl))⟩
 f25:=⟨Tryz.f99.name,by decide,Tryz.func99.trans (congrArg some (by kernel_rfl))⟩
 f26:=⟨Tryz.f100.name,by decide,Tryz.func100.trans (congrArg some (by kernel_rfl))⟩
 f27:=⟨Tryz.f101.name,by decide,Tryz.func101.trans (congrArg some (by kernel_rfl))⟩
 f28:=Tryz.func89.trans (congrArg some (by kernel_rfl))
 f29:=Tryz.func90.trans (congrArg some (by kernel_rfl))
 f46:=⟨Tryz.f107.name,by decide,Tryz.func107.trans (congrArg some (by kernel_rfl))⟩
 f47:=Tryz.func103.trans (congrArg some (by kernel_rfl))
 f48:=Tryz.func104.trans (congrArg some (by kernel_rfl))
 f49:=⟨Tryz.f108.name,by decide,Tryz.func108.trans (congrArg some (by kernel_rfl))⟩
 f50:=⟨Tryz.f109.name,by decide,Tryz.func109.trans (congrArg some (by kernel_rfl))⟩
 f57:=⟨Tryz.f111.name,by decide,Tryz.func111.trans (congrArg some (by kernel_rfl))⟩
 t0:=Tryz.underlying0
 a0:=Tryz.isAgg0
 z0:=Tryz.sizeOf0
 v0:=Tryz.zeroValue0
 t3:=Tryz.underlying3
 a3:=Tryz.isAgg3
 z3:=Tryz.sizeOf3
 v3:=Tryz.zeroValue3
 t4:=Tryz.underlying4
 a4:=Tryz.isAgg4
 z4:=Tryz.sizeOf4
 v4:=Tryz.zeroValue4
 t5:=Tryz.underlying5
 a5:=Tryz.isAgg5
 z5:=Tryz.sizeOf5
 v5:=Tryz.zeroValue5
 t9:=Tryz.underlying9
 a9:=Tryz.isAgg9
 z9:=Tryz.sizeOf9
 v9:=Tryz.zeroValue9
 t22:=Tryz.underlying92
 a22:=Tryz.isAgg92
 z22:=Tryz.sizeOf92
 v22:=Tryz.zeroValue92
 t25:=Tryz.underlying97
 a25:=Tryz.isAgg97
 z25:=Tryz.sizeOf97
 v25:=Tryz.zeroValue97
 t39:=Tryz.underlying101
 a39:=Tryz.isAgg101
 z39:=Tryz.sizeOf101
 v39:=Tryz.zeroValue101
 t45:=Tryz.underlying117
 a45:=Tryz.isAgg117
 z45:=Tryz.sizeOf117
 v45:=Tryz.zeroValue117
 t46:=Tryz.underlying118
 a46:=Tryz.isAgg118
 z46:=Tryz.sizeOf118
 v46:=Tryz.zeroValue118
 t50:=Tryz.underlying86
 a50:=Tryz.isAgg86
 z50:=Tryz.sizeOf86
 v50:=Tryz.zeroValue86
 t53:=Tryz.underlying124
 a53:=Tryz.isAgg124
 z53:=Tryz.sizeOf124
 v53:=Tryz.zeroValue124
 t55:=Tryz.underlying126
 a55:=Tryz.isAgg126
 z55:=Tryz.sizeOf126
 v55:=Tryz.zeroValue126
 t66:=Tryz.underlying134
 a66:=Tryz.isAgg134
 z66:=Tryz.sizeOf134
 v66:=Tryz.zeroValue134
 t70:=Tryz.underlying138
 a70:=Tryz.isAgg138
 z70:=Tryz.sizeOf138
 v70:=Tryz.zeroValue138
 t76:=Tryz.underlying142
 a76:=Tryz.isAgg142
 z76:=Tryz.sizeOf142
 v76:=Tryz.zeroValue142
 t77:=Tryz.underlying143
 a77:=Tryz.isAgg143
 z77:=Tryz.sizeOf143
 v77:=Tryz.zeroValue143 }
end Go.Proofs

namespace Go.Proofs.YtknhlpmmalcchaaGreat
open Go Go.VAI Go.Sort
set_option linter.unusedSimpArgs false

theorem cmpI_zero {x y:Int}:cmpI x y=0↔x=y:=by unfold cmpI; split <;> (try split) <;> omega
theorem cmpI_neg {x y:Int}:cmpI x y < 0↔x < y:=by unfold cmpI; split <;> (try split) <;> omega
theorem ranked_lt {a b:Int × Int}:ltOf yN a b=true↔a.2 < b.2∨(a.2=b.2∧a.1 < b.1):=by
 have z:=@cmpI_zero a.2 b.2
 have n:=@cmpI_neg a.2 b.2
 have z1:=@cmpI_zero a.1 b.1
 have n1:=@cmpI_neg a.1 b.1
 unfold ltOf yN
 rw [decide_eq_true_iff]
 simp only [orOf]
 by_cases h:cmpI a.2 b.2=0
 ·rw [if_neg (fun q=>q h)]
  have he:=z.1 h
  by_cases h1:cmpI a.1 b.1=0
  ·rw [if_neg (fun q=>q h1)]
   have:=z1.1 h1
   omega
  ·rw [if_pos h1,n1]
   omega
 ·rw [if_pos h,n]
  have:=fun q=>h (z.2 q)
  omega
theorem ranked_nlt {a b:Int × Int}:ltOf yN a b=false↔b.2 < a.2∨(a.2=b.2∧b.1≤a.1):=by
 rw [← Bool.not_eq_true,ranked_lt]; omega
theorem ranked_swo:SWO (ltOf yN) where
 irrefl x:=by rw [ranked_nlt]; omega
 trans x y z h1 h2:=by rw [ranked_lt] at *; omega
 ntrans x y z h1 h2:=by rw [ranked_nlt] at *; omega
theorem ranked_two (x y:Int × Int) (h1:ltOf yN x y=false) (h2:ltOf yN y x=false):x=y:=by
 rw [ranked_nlt] at h1 h2
 refine Prod.ext ?_ ?_ <;> omega
theorem pr_le (x y:Int × Int):(!ltOf yN y x)=prLe x y:=by
 cases h:ltOf yN y x with
 | true =>
  have:=ranked_lt.1 h
  simp only [prLe,Bool.not_true]
  exact (decide_eq_false (by omega)).symm
 | false =>
  have:=ranked_nlt.1 h
  simp only [prLe,Bool.not_false]
  exact (decide_eq_true (by omega)).symm
theorem ins_prs (d:Array (Int × Int)):(insertionSort (ltOf yN) d 0 d.size).toList=wE d.toList:=by
 have hs:=insertionSort_holds (lt:=ltOf yN) ranked_swo d 0 d.size (by omega) (Nat.le_refl _)
 have hu:=sorted_unique_holds (lt:=ltOf yN) ranked_swo ranked_two
 have a1:=hu _ _ hs.1 hs.2
 rw [a1]
 unfold wE
 congr 1
 funext x y
 exact pr_le x y
end Go.Proofs.YtknhlpmmalcchaaGreat

namespace Go.Proofs.YtknhlpmmalcchaaGreat
open Go Go.VAI
set_option linter.unusedSimpArgs false

def encR (k:Int × Int):List Value:=[.int .i64 k.1,.int .i64 k.2]
theorem rk_lays (x y:Int × Int) (W:World):Calls Tryz.prog 62 #[.agg (encR x).toArray,.agg (encR y).toArray] W fun e w'=>e=.returned (.int .i64 (yN x y))∧∃ q os,w'=Go.Sort.grow (W.drewN q) os:=by
 obtain ⟨n,⟨v,H'⟩,h1,h2⟩:=rcmp_ret (a:=x) (b:=y) (H:=⟨fun _=>none,0⟩) (Q:=fun v _=>v=.int .i64 (yN x y)) (fun _ _=>rfl)
 simp only at h2
 subst h2
 obtain ⟨_,hc⟩:=callA_ok follows tab_ok A_ok n 62 _ _ _ _ h1
 have hus:VRels (fun _=>none) [AVal.agg (wF x),.agg (wF y)] [.agg (encR x).toArray,.agg (encR y).toArray]:=by
  refine .cons ?_ (.cons ?_ .nil) <;>
  ·simp only [VRel]
   refine ⟨_,rfl,.cons (by simp only [VRel]) (.cons (by simp only [VRel]) .nil),?_⟩
   intro c hc
   simp only [wF,List.mem_cons,List.not_mem_nil,or_false] at hc
   rcases hc with rfl | rfl <;> rfl
 refine (hc _ _ W _ (hrel_none W) hus).mono fun e w'=>?_
 rintro ⟨v',rfl,ρ',hv,hs⟩
 simp only [VRel] at hv
 subst hv
 exact ⟨rfl,beneath_grow hs.below⟩
end Go.Proofs.YtknhlpmmalcchaaGreat

namespace Go.Proofs.YtknhlpmmalcchaaGreat
open Go Go.VAI Go.Sort
set_option linter.unusedSimpArgs false

theorem pr_at:∀ (ks:List (Int × Int)) (j:Nat),j < ks.length*2→∃ z,(vS ks)[j]? = some (.int .i64 z)∧(encR (ks.toArray[j / 2]!))[j % 2]! = .int .i64 z
 | [],j,h=>by simp at h
 | k :: l,0,h=>⟨k.1,rfl,rfl⟩
 | k :: l,1,h=>⟨k.2,rfl,rfl⟩
 | k :: l,j+2,h=>by
  obtain ⟨z,h1,h2⟩:=pr_at l j (by simp at h; omega)
  have e1:(j+2) / 2=j / 2+1:=by omega
  have e2:(j+2) % 2=j % 2:=by omega
  refine ⟨z,h1,?_⟩
  rw [e1,e2]
  have hl:j / 2 < l.length:=by simp at h; omega
  have e3:(k :: l).toArray[j / 2+1]! = l.toArray[j / 2]! := by
   rw [getElem!_pos _ _ (by simp; omega),getElem!_pos _ _ (by simpa using hl)]
   simp
  rw [e3]
  exact h2
theorem enters62:∀ (args:Array Value) (w:World),(callFunc 62 args).run Tryz.prog w=.ok (.enter 62 args) w:=enters_of Tryz.func62 (by kernel_rfl) rfl
theorem sortP_at {H:AHeap} {id len:Nat} {ks:List (Int × Int)} {cap:ACap} (ho:H.obj id=some (.cells (vS ks) true)) (hl:ks.length=len) (h0:0 < len) (hsz:len≤1000000) :
  CallAt Tryz.prog 61 [.slice id 0 len cap,.func (.func 62) [] []] H (.tuple []) (H.upd id (some (.cells (vS (wE ks)) true))):=by
 refine ⟨⟨_,_,Tryz.func61,rfl,by kernel_rfl⟩,fun ρ B w us hH hus=>?_⟩
 obtain ⟨v1,us1,rfl,r1,hus⟩:=hus.cons_inv
 obtain ⟨v2,us2,rfl,r2,hus⟩:=hus.cons_inv
 have:=hus.nil_inv
 subst this
 simp only [VRel] at r2
 obtain ⟨x,y,rfl,hx,hy⟩:=r2
 have:=hx.nil_inv
 subst this
 have:=hy.nil_inv
 subst this
 have hs:∃ l c,ρ id=some l∧v1=.slice (some ⟨l.b,l.o,none⟩) len c:=by
  obtain ⟨l,p,c,h1,h2,h3,h4⟩:=VRel.slice_inv r1
  have h5:=h4 (by omega)
  subst h5
  exact ⟨l,c,h1,by simpa using h2⟩
 obtain ⟨l,c,hid,rfl⟩:=hs
 obtain ⟨hB,hcr,hfit,arr,E,fz,hblk,hsize,hfz⟩:=hH.obj id l _ hid ho
 have hlt:=(hH.dom id l hid).2
 have hkl:=vT ks
 have hK:HoldsK encR 2 w l.b l.o ks.toArray:=by
  intro j hj
  have hj3:j < ks.length*2:=by simpa using hj
  obtain ⟨z,z1,z2⟩:=pr_at ks j hj3
  obtain ⟨u,u1,u2⟩:=hcr.2 j _ z1
  simp only [VRel] at u2
  subst u2
  refine ⟨?_,?_⟩
  ·rw [u1,get_flatK _ _ _ _ (by simpa using hj3)]
   exact congrArg some z2.symm
  ·simp only [World.frozen?,hblk]
   simp only [Bool.and_eq_false_iff,decide_eq_false_iff_not]
   omega
 have hcon:=AnyQ.slices_SortFunc_total Tryz.sortRk 2 Tryz.isAgg94 Tryz.sizeOf94 encR (fun _=>rfl) (fun x v hv=>by simp only [encR,List.mem_cons,List.not_mem_nil,or_false] at hv; rcases hv with rfl | rfl <;> rfl) yN ranked_swo 62 #[] l.b l.o c ks.toArray w enters62 (fun m os dk hdk x y=>rk_lays x y _) hK hlt (by simp; omega) ranked_two
 change Calls Tryz.prog 61 _ _ _ at hcon
 have hsz2:ks.toArray.size=len:=by simp [hl]
 rw [hsz2] at hcon
 refine hcon.mono fun e w'=>?_
 rintro ⟨rfl,n,os,rfl⟩
 refine ⟨_,rfl,ρ,?_,?_⟩
 ·simp only [VRel]
  exact ⟨[],rfl,.nil⟩
 have hto:(ks.toArray.toList.mergeSort fun x y => !Go.Proofs.ltOf yN y x).toArray=(wE ks).toArray:=by
  have:(fun x y => !Go.Proofs.ltOf yN y x)=prLe:=by funext x y; exact pr_le x y
  rw [this]
  rfl
 rw [hto]
 have hsl:(wE ks).length=ks.length:=sortPrs_length ks
 have hS:=holdsK_sortWorldK_c encR 2 w l.b l.o ks.toArray (wE ks).toArray n os hK hlt (by simp [hsl])
 have hz:=size_sortWorldK_c encR 2 w l.b l.o n (wE ks).toArray os
 have hold:∀ k,k < w.heap.size→(sortWorldK encR 2 w l.b l.o n (wE ks).toArray os).heap[k]? = (mapBlock w l.b (putCells _root_.id l.o (flatK encR 2 (wE ks).toArray))).heap[k]? := fun k hk=>by
  unfold sortWorldK
  rw [heap_grow_old _ _ (by rw [size_putRowK]; exact hk)]
  rfl
 have hmod:∀ k,(mapBlock w l.b (putCells _root_.id l.o (flatK encR 2 (wE ks).toArray))).heap[k]? = if l.b=k then (w.heap[k]?).map (onCells (putCells _root_.id l.o (flatK encR 2 (wE ks).toArray))) else w.heap[k]? := fun k=>by
  unfold mapBlock
  rw [Array.getElem?_modify]
 refine Step.upd hid (rewrite_rel hH hid ho _ hz (fun k hk hne=>?_) ⟨hB,⟨?_,?_⟩,?_,?_⟩) ⟨⟨rfl,rfl,rfl,hz,fun k hk=>?_⟩,?_⟩
 ·rw [hold k hk,hmod,if_neg (fun e=>hne e.symm)]
 ·intro x hx
  simp only [vS,List.mem_flatMap,prCell,List.mem_cons,List.not_mem_nil,or_false] at hx
  obtain ⟨k,_,rfl | rfl⟩:=hx <;> rfl
 ·intro i v hv
  have hi:i < (wE ks).length*2:=by
   rw [← vT]
   exact (List.getElem?_eq_some_iff.1 hv).1
  obtain ⟨z,z1,z2⟩:=pr_at (wE ks) i hi
  rw [z1] at hv
  injection hv with hv
  subst hv
  refine ⟨.int .i64 z,?_,by simp only [VRel]⟩
  have h:=(hS i (by simpa using hi)).1
  rw [get_flatK _ _ _ _ (by simpa using hi)] at h
  rw [h]
  exact congrArg some z2
 ·rw [vT,hsl,← hkl]; exact hfit
 ·refine ⟨_,E,fz,by rw [hold _ hlt,hmod,if_pos rfl,hblk]; rfl,?_,hfz⟩
  rw [← hsize]
  simp [putCells]
 ·have:=hH.base
  rw [hold k (by omega),hmod,if_neg (by omega)]
 ·show w.drawn≤w.drawn+n
  omega
end Go.Proofs.YtknhlpmmalcchaaGreat

namespace Go.Proofs.YtknhlpmmalcchaaGreat
open Go Go.VAI Go.Sort
set_option linter.unusedSimpArgs false

theorem row_prs (d:Array (Int × Int)):rowOf wF d=vS d.toList:=rfl
theorem sortR2_ret {lo:Nat} {v:AVal} {d:Array (Int × Int)} {H:AHeap} {Q:AVal→AHeap→Prop} (hown:Own lo H v 2 (rowOf wF d)) (h0:0 < d.size) (hd:d.size≤1000000)
  (hq:∀ H',Keep (fun j=>sid v=some j) H H'→Own lo H' v 2 (rowOf wF (insertionSort (ltOf yN) d 0 d.size))→Q (.tuple []) H'):Ret A 61 [v,.func (.func 62) [] []] H Q:=by
 rw [row_prs] at hown
 have hkl:=vT d.toList
 have hsz:d.toList.length=d.size:=by simp
 have hins:rowOf wF (insertionSort (ltOf yN) d 0 d.size)=vS (wE d.toList):=by rw [row_prs,ins_prs]
 rw [hins] at hq
 generalize d.toList=ks at *
 obtain ⟨cs,hcs⟩:∃ cs,cs=vS ks:=⟨_,rfl⟩
 rw [← hcs] at hown hkl
 have hpl:=vT (wE ks)
 have hsl:=sortPrs_length ks
 cases hown with
 | nil=>simp at hkl; omega
 | @room id len _ _ hlo hhi ho hlen =>
  rw [hcs] at ho
  have hl:ks.length=len:=by omega
  refine Ret.lib rfl (show lawful Tryz.prog (libP 61 62 (libF 54 55 35 36 64 65)) 61 _ H=_ from lawful_eq (sortP_slice ho hl (by omega) (by omega)) (sortP_at ho hl (by omega) (by omega))) ?_
  exact hq _ ((Keep.refl (fun j=>sid (AVal.slice id 0 len (.room 2))=some j) _).upd (.inr rfl) _) (.room hlo hhi (xN rfl) (by omega))
 | @full id len _ _ hlo hhi ho hlen =>
  rw [hcs] at ho
  have hl:ks.length=len:=by omega
  refine Ret.lib rfl (show lawful Tryz.prog (libP 61 62 (libF 54 55 35 36 64 65)) 61 _ H=_ from lawful_eq (sortP_slice ho hl (by omega) (by omega)) (sortP_at ho hl (by omega) (by omega))) ?_
  exact hq _ ((Keep.refl (fun j=>sid (AVal.slice id 0 len (.exact len))=some j) _).upd (.inr rfl) _) (.full hlo hhi (xN rfl) (by omega))
end Go.Proofs.YtknhlpmmalcchaaGreat

namespace Go.Proofs.YtknhlpmmalcchaaGreat
open Go Go.VAI Go.Sort
set_option linter.unusedSimpArgs false

def dgB (es:List Edge) (v:Nat):Int:=(yH (wM v) es es.length).length+(yH (vB v) es es.length).length
def rkB (es:List Edge) (n:Nat):List (Int × Int):=((List.range n).filter fun (v:Nat) => !uP es v).map fun (v:Nat)=>((v:Int),dgB es v)
theorem rkB_succ (es:List Edge) (n:Nat):rkB es (n+1)=rkB es n++if uP es n then [] else [((n:Int),dgB es n)]:=by
 simp only [rkB,List.range_succ,List.filter_append,List.map_append,List.filter_cons,List.filter_nil]
 cases uP es n <;> rfl
theorem rkB_len (es:List Edge) (n:Nat):(rkB es n).length≤n:=by
 simp only [rkB,List.length_map]
 exact Nat.le_trans (List.length_filter_le _ _) (by simp)
def odB (es:List Edge) (n:Nat):List Int:=(insertionSort (ltOf yN) (rkB es n).toArray 0 (rkB es n).length).toList.map Prod.fst
theorem aslice_sid {sz:Nat} {v v':AVal} {lo hi mx:Option AVal} (h:wB sz v lo hi mx=some v'):sid v'=sid v:=by
 unfold wB at h
 split at h
 ·split at h
  ·obtain ⟨_,_,h⟩:=xA h
   obtain ⟨_,_,h⟩:=xA h
   obtain ⟨_,_,h⟩:=xA h
   split at h
   ·cases h
   ·injection h with h; subst h; rfl
  ·obtain ⟨_,_,h⟩:=xA h
   obtain ⟨_,_,h⟩:=xA h
   split at h
   ·injection h with h; subst h; rfl
   ·split at h
    ·injection h with h; subst h; rfl
    ·cases h
 ·obtain ⟨_,_,h⟩:=xA h
  obtain ⟨_,_,h⟩:=xA h
  obtain ⟨_,_,h⟩:=xA h
  split at h
  ·cases h
  ·injection h with h; subst h; rfl
 ·cases h
set_option maxRecDepth 20000 in
set_option maxHeartbeats 8000000 in
theorem odBF_ret {N:Nat} {ev:AVal} {es:List Edge} {H:AHeap} {Q:AVal→AHeap→Prop} (hr:Row H ev 4 (xG es)) (hnet:∀ e∈es,EdgeOk N e) (hN:N≤21) (hne:rkB es N≠[]) (hn:es.length≤1000)
  (hq:∀ v' H',Keep Nothing H H'→Row H' v' 1 (xL (odB es N))→(∀ j,sid v'=some j→H.next≤j)→Q v' H'):Ret A 33 [.agg [.int .i64 N,ev]] H Q:=by
 refine Ret.of (fn:=F33) rfl ?_
 have be:=hr.beq
 simp (disch:=first | omega | (simp only [nx] <;> omega) | fail) only [vaw,F33,Nat.reduceAdd,Nat.reduceMul,Nat.reduceLeDiff,Nat.reduceEqDiff,↓reduceIte]
 have kN:Keep Nothing H (H.new (.cells [.int .i64 N,ev] true)):=(Keep.refl _ _).new _
 have oN:(H.new (.cells [.int .i64 N,ev] true)).obj H.next=some (.cells [.int .i64 N,ev] true):=yB rfl
 have nN:(H.new (.cells [.int .i64 N,ev] true)).next=H.next+1:=rfl
 generalize H.new (.cells [.int .i64 N,ev] true)=HN at *
 refine adjNew_ret (hr.kept kN) hnet (by omega) hn fun a o q ew uo ui H1 k1 g1=>?_
 have o1:=(k1.old (i:=H.next) (by omega)).trans oN
 have n1:=k1.next
 simp (disch:=first | omega | (simp only [nx] <;> omega) | fail) only [vaw,o1,Nat.reduceAdd,Nat.reduceMul,Nat.reduceLeDiff,Nat.reduceEqDiff,↓reduceIte]
 refine linksB_ret ((hr.kept kN).kept k1) hnet (by omega) hn fun lv H2 k2 g2=>?_
 have hll:=g2.row.len1
 have hbl:(xV ((List.range N).map (uP es))).length=N:=by simp [xV]
 rw [hbl] at hll
 have ga:=g1.kept k2
 simp (disch:=first | omega | (simp only [nx] <;> omega) | fail) only [vaw,hll,Nat.reduceAdd,Nat.reduceMul,Nat.reduceLeDiff,Nat.reduceEqDiff,↓reduceIte]
 refine xS (fun m t H'=>∃ (i:Nat) (gv:AVal),m=N - i∧i≤N∧t=(xP 4 (.func (.func 58) [.ptr a 0] [] :: .func (.func 59) [.ptr a 0] [] :: gv :: xP 12 (lv :: .int .i64 N :: .int .i64 i :: xP 41 ([]))):xJ)∧Keep Nothing H2 H'∧Own H2.next H' gv 2 ((rkB es i).flatMap wF)) N ?_ ?_
 ·exact ⟨0,.nilSlice,rfl,by omega,rfl,.refl _ _,.nil⟩
 ·rintro m t H3 ⟨i,gv,rfl,hi,rfl,k3,g3⟩
  by_cases hc:(i:Int) < N
  ·have hiN:i < N:=by omega
   have hx:(xV ((List.range N).map (uP es)))[i]? = some (.bool (uP es i)):=by simp [xV,hiN]
   obtain ⟨ip,op,p1,p2,p3⟩:=(g2.row.kept k3).at1 (k:=.i64) (j:=(i:Int)) (by omega) (by rw [Int.toNat_natCast]; exact hx)
   have hsu:=rkB_succ es i
   have gA:=ga.kept k3
   have hrl:=rkB_len es i
   have n3:=k3.next
   cases hb:uP es i with
   | true =>
    rw [hb] at p3 hsu
    simp (disch:=first | omega | (simp only [nx] <;> omega) | fail) only [vaw,hc,p1,p3,Nat.reduceAdd,Nat.reduceMul,Nat.reduceLeDiff,Nat.reduceEqDiff,↓reduceIte]
    refine ⟨N - (i+1),by omega,i+1,gv,rfl,by omega,rfl,k3,?_⟩
    rw [hsu,if_pos rfl,List.append_nil]; exact g3
   | false =>
    rw [hb] at p3 hsu
    simp (disch:=first | omega | (simp only [nx] <;> omega) | fail) only [vaw,hc,p1,p3,Nat.reduceAdd,Nat.reduceMul,Nat.reduceLeDiff,Nat.reduceEqDiff,↓reduceIte]
    refine adjOut_ret gA hiN hn fun v4 H4 k4 g4=>?_
    have l4:=g4.row.len1
    rw [xE] at l4
    have n4:=k4.next
    simp (disch:=first | omega | (simp only [nx] <;> omega) | fail) only [vaw,l4,Nat.reduceAdd,Nat.reduceMul,Nat.reduceLeDiff,Nat.reduceEqDiff,↓reduceIte]
    refine adjIn_ret (gA.kept k4) hiN hn fun v5 H5 k5 g5=>?_
    have l5:=g5.row.len1
    rw [xE] at l5
    have n5:=k5.next
    have e4:=@zC (wM i) es es.length
    have e5:=@zC (vB i) es es.length
    simp (disch:=first | omega | (simp only [nx] <;> omega) | fail) only [vaw,l5,Nat.reduceAdd,Nat.reduceMul,Nat.reduceLeDiff,Nat.reduceEqDiff,↓reduceIte]
    have g35:Own H2.next H5 gv 2 ((rkB es i).flatMap wF):=(g3.kept k4).kept k5
    refine vK (n:=(rkB es i).length) (k:=1) g35 (by simp (disch:=first | omega | (simp only [nx] <;> omega) | fail) only [xI]; rfl) rfl (by omega) (by omega) (by rw [flat_size rcells_len]) (by omega) (by omega) ?_
    intro v6 H6 n6 k6 g6 s6
    simp (disch:=first | omega | (simp only [nx] <;> omega) | fail) only [vaw,g6.notBot,Nat.reduceAdd,Nat.reduceMul,Nat.reduceLeDiff,Nat.reduceEqDiff,↓reduceIte]
    refine ⟨N - (i+1),by omega,i+1,v6,rfl,by omega,rfl,?_,?_⟩
    ·exact (((k3.trans k4).trans k5).new _).trans' (N:=fun j=>sid gv=some j) ⟨n6,k6⟩ (fun j hj hm=>by have:=(g35.sid_ge hm).1; omega)
    ·rw [hsu,if_neg (by decide),List.flatMap_append]
     exact g6.own
  ·have:i=N:=by omega
   subst this
   simp (disch:=first | omega | (simp only [nx] <;> omega) | fail) only [vaw,hc,Nat.reduceAdd,Nat.reduceMul,Nat.reduceLeDiff,Nat.reduceEqDiff,↓reduceIte]
   have hdl:=rkB_len es i
   have g3':Own H2.next H3 gv 2 (rowOf wF (rkB es i).toArray):=by simpa [rowOf] using g3
   refine sortR2_ret g3' (by simpa using List.length_pos_iff.2 hne) (by simp; omega) fun H4 k4 g4=>?_
   have hs1:=g3'.row.len (n:=(rkB es i).length) (by omega) (by rw [rowOf_length rcells_len]; simp)
   have hod:odB es i=(insertionSort (ltOf yN) (rkB es i).toArray 0 (rkB es i).toArray.size).toList.map Prod.fst:=by simp [odB]
   generalize insertionSort (ltOf yN) (rkB es i).toArray 0 (rkB es i).toArray.size=S at *
   have hs2:=g4.row.len (n:=S.size) (by omega) (rowOf_length rcells_len S)
   have hS:S.size≤21:=by
    rw [hs1] at hs2; injection hs2 with hs2; injection hs2 with _ hs2; omega
   have hSl:(S.toList.map Prod.fst).length=S.size:=by simp
   simp (disch:=first | omega | (simp only [nx] <;> omega) | fail) only [vaw,hs2,Nat.reduceAdd,Nat.reduceMul,Nat.reduceLeDiff,Nat.reduceEqDiff,↓reduceIte]
   refine xS (fun m t H'=>∃ (j:Nat) (ov:AVal),m=S.size - j∧j≤S.size∧t=(xP 9 (ov :: xP 35 (gv :: .int .i64 S.size :: .int .i64 j :: xP 15 ([]))):xJ)∧Keep Nothing H4 H'∧Own H4.next H' ov 1 (xL ((S.toList.map Prod.fst).take j))) S.size ?_ ?_
   ·exact ⟨0,.nilSlice,rfl,by omega,rfl,.refl _ _,.nil⟩
   ·rintro m t H5 ⟨j,ov,rfl,hj,rfl,k5,g5⟩
    by_cases hjc:(j:Int) < S.size
    ·have hjS:j < S.size:=by omega
     have hlen:=rowOf_length rcells_len S
     obtain ⟨id,q1,q2,q3,q4,q5,q6⟩:=Own.slotN g4 (n:=S.size) (j:=j) (k:=.i64) (by omega) hlen (by omega)
     have w1:=rowOf_get rcells_len (d:=S) (i:=j) (by omega)
     have w2:(S.toList.map Prod.fst)[j]? = some S[j]!.1:=by
      rw [List.getElem?_map,Array.getElem?_toList,getElem!_pos S j hjS]
      simp [hjS]
     have l1:j*2+2≤(rowOf wF S).length:=by omega
     have q5':=(k5.old q3).trans q5
     have htk:(S.toList.map Prod.fst).take (j+1)=(S.toList.map Prod.fst).take j++[S[j]!.1]:=by
      rw [List.take_succ,w2]; rfl
     generalize S[j]! = x at *
     have w3:wF x=[.int .i64 x.1,.int .i64 x.2]:=rfl
     rw [w3] at w1
     simp (disch:=first | omega | (simp only [nx] <;> omega) | fail) only [vaw,hjc,q4,q5',w1,l1,Nat.reduceAdd,Nat.reduceMul,Nat.reduceLeDiff,Nat.reduceEqDiff,↓reduceIte]
     have n5:=k5.next
     refine vK (n:=j) (k:=1) g5 (by simp (disch:=first | omega | (simp only [nx] <;> omega) | fail) only [xI]; rfl) rfl (by omega) (by omega) (by rw [xE,List.length_take]; omega) (by omega) (by omega) ?_
     intro v6 H6 n6 k6 g6 s6
     simp (disch:=first | omega | (simp only [nx] <;> omega) | fail) only [vaw,g6.notBot,Nat.reduceAdd,Nat.reduceMul,Nat.reduceLeDiff,Nat.reduceEqDiff,↓reduceIte]
     refine ⟨S.size - (j+1),by omega,j+1,v6,rfl,by omega,rfl,?_,?_⟩
     ·refine Keep.trans' (N:=fun j=>sid ov=some j) ?_ ⟨n6,k6⟩ (fun j hj hm=>by have:=(g5.sid_ge hm).1; omega)
      exact ((k5.new _).upd (.inl k5.next) _).new _
     ·rw [htk,zF]
      exact g6.own
    ·have:j=S.size:=by omega
     subst this
     rw [List.take_of_length_le (by omega),← hod] at g5
     have hol:(odB es i).length=S.size:=by rw [hod]; exact hSl
     have hvl:=g5.row.len1
     rw [xE] at hvl
     obtain ⟨v9,z1,z2⟩:=RowC.whole g5.rowC (n:=(odB es i).length) (kd:=.i64) (by omega) (by rw [xE,Nat.mul_one])
     simp (disch:=first | omega | (simp only [nx] <;> omega) | fail) only [vaw,hjc,hvl,z1,z2.notBot,Nat.reduceAdd,Nat.reduceMul,Nat.reduceLeDiff,Nat.reduceEqDiff,↓reduceIte]
     refine hq _ _ ?_ z2 (fun j hj=>by
      rw [aslice_sid z1] at hj
      have:=(g5.sid_ge hj).1
      have:=kN.next
      have:=k1.next
      have:=k2.next
      have:=k3.next
      have:=k4.next
      omega)
     have kk:Keep Nothing H2 H4:=k3.trans' k4 (fun j hj hm=>by have:=(g3.sid_ge hm).1; omega)
     exact (((kN.trans k1).trans k2).trans kk).trans k5
end Go.Proofs.YtknhlpmmalcchaaGreat

namespace Go.Proofs.YtknhlpmmalcchaaGreat
open Go Go.VAI
set_option linter.unusedSimpArgs false

def wayOf (es:List Edge) (x:Int):Nat:=(es[x.toNat]?).elim 0 fun e=>e.mode.toNat
theorem bit_one (m i:Nat):(1 <<< m).testBit i=decide (m=i):=by
 rw [Nat.one_shiftLeft,Nat.testBit_two_pow]
theorem orModes_bit (es:List Edge) (i:Nat):∀ (xs:List Int) (a:Nat),(zR es xs a).testBit i=true↔a.testBit i=true∨∃ x∈xs,wayOf es x=i
 | [],a=>by simp [zR]
 | x :: l,a=>by
  rw [zR,orModes_bit es i l,Nat.testBit_or,bit_one,Bool.or_eq_true,decide_eq_true_iff]
  simp only [List.mem_cons,wayOf]
  constructor
  ·rintro ((h | h) | ⟨y,h1,h2⟩)
   ·exact .inl h
   ·exact .inr ⟨x,.inl rfl,h⟩
   ·exact .inr ⟨y,.inr h1,h2⟩
  ·rintro (h | ⟨y,rfl | h1,h2⟩)
   ·exact .inl (.inl h)
   ·exact .inl (.inr h2)
   ·exact .inr ⟨y,h1,h2⟩
def ways (v:Int) (es:List Edge) (a:Nat):Nat:=es.foldl (fun s e=>if e.src=v∨e.dst=v then s ||| 1 <<< e.mode.toNat else s) a
theorem ways_bit (v:Int) (i:Nat):∀ (es:List Edge) (a:Nat),(ways v es a).testBit i=true↔a.testBit i=true∨∃ e∈es,(e.src=v∨e.dst=v)∧e.mode.toNat=i
 | [],a=>by simp [ways]
 | e :: l,a=>by
  have ih:=ways_bit v i l
  unfold ways at ih ⊢
  rw [List.foldl_cons,ih]
  by_cases h:e.src=v∨e.dst=v
  ·rw [if_pos h,Nat.testBit_or,bit_one,Bool.or_eq_true,decide_eq_true_iff]
   constructor
   ·rintro ((h1 | h1) | ⟨y,h1,h2⟩)
    ·exact .inl h1
    ·exact .inr ⟨e,List.mem_cons_self,h,h1⟩
    ·exact .inr ⟨y,List.mem_cons_of_mem _ h1,h2⟩
   ·rintro (h1 | ⟨y,hy,h1,h2⟩)
    ·exact .inl (.inl h1)
    ·rcases List.mem_cons.1 hy with rfl | hy
     ·exact .inl (.inr h2)
     ·exact .inr ⟨y,hy,h1,h2⟩
  ·rw [if_neg h]
   constructor
   ·rintro (h1 | ⟨y,h1,h2⟩)
    ·exact .inl h1
    ·exact .inr ⟨y,List.mem_cons_of_mem _ h1,h2⟩
   ·rintro (h1 | ⟨y,hy,h1,h2⟩)
    ·exact .inl h1
    ·rcases List.mem_cons.1 hy with rfl | hy
     ·exact absurd h1 h
     ·exact .inr ⟨y,hy,h1,h2⟩
theorem ways_eq (v:Int):∀ (es:List Edge) (a:Nat),(∀ e∈es,0≤e.mode∧e.mode < 5)→a < 32 →
  es.foldl (fun s e=>if e.src=v∨e.dst=v then orI .i64 s (shlI .i64 1 e.mode) else s) (a:Int)=((ways v es a:Nat):Int)∧ways v es a < 32
 | [],a,_,h=>⟨rfl,h⟩
 | e :: l,a,hm,h=>by
  have ih:=ways_eq v l
  unfold ways at ih ⊢
  rw [List.foldl_cons,List.foldl_cons]
  have hme:=hm e List.mem_cons_self
  obtain ⟨m,hm2⟩:=Int.eq_ofNat_of_zero_le hme.1
  have o:=or32 a h m (by omega)
  rw [hm2,Int.toNat_natCast]
  by_cases hs:e.src=v∨e.dst=v
  ·rw [if_pos hs,if_pos hs,o.1]
   exact ih _ (fun e he=>hm e (List.mem_cons_of_mem _ he)) o.2
  ·rw [if_neg hs,if_neg hs]
   exact ih _ (fun e he=>hm e (List.mem_cons_of_mem _ he)) h
theorem count32:∀ z:Nat,z < 32→(2≤((List.range 5).filter fun i=>z.testBit i).length↔2≤modesIn (z:Int) 5):=by decide
theorem picks_mem {p:Edge→Bool} {es:List Edge} {x:Int}:x∈yH p es es.length↔∃ (j:Nat) (e:Edge),x=j∧es[j]? = some e∧p e=true:=by
 simp only [yH,List.mem_map,List.mem_filter,List.mem_range]
 constructor
 ·rintro ⟨j,⟨h1,h2⟩,rfl⟩
  rw [List.getElem?_eq_getElem h1] at h2
  exact ⟨j,es[j],rfl,List.getElem?_eq_getElem h1,h2⟩
 ·rintro ⟨j,e,rfl,h1,h2⟩
  refine ⟨j,⟨(List.getElem?_eq_some_iff.1 h1).1,?_⟩,rfl⟩
  rw [h1]; exact h2
theorem linkB_eq {es:List Edge} (hm:∀ e∈es,0≤e.mode∧e.mode < 5) (v:Nat):uP es v=linkAt es (v:Int):=by
 obtain ⟨h1,h2⟩:=ways_eq (v:Int) es 0 hm (by decide)
 have hz:zR es (yH (vB v) es es.length) (zR es (yH (wM v) es es.length) 0)=ways v es 0:=by
  refine Nat.eq_of_testBit_eq fun i=>?_
  rw [Bool.eq_iff_iff,orModes_bit,orModes_bit,ways_bit]
  simp only [Nat.zero_testBit,Bool.false_eq_true,false_or,picks_mem]
  constructor
  ·rintro (⟨x,⟨j,e,rfl,h3,h4⟩,h5⟩ | ⟨x,⟨j,e,rfl,h3,h4⟩,h5⟩)
   ·refine ⟨e,List.mem_of_getElem? h3,.inl (by simpa using h4),?_⟩
    simpa [wayOf,h3] using h5
   ·refine ⟨e,List.mem_of_getElem? h3,.inr (by simpa using h4),?_⟩
    simpa [wayOf,h3] using h5
  ·rintro ⟨e,he,h3,h4⟩
   obtain ⟨j,hj⟩:=List.mem_iff_getElem?.1 he
   rcases h3 with h3 | h3
   ·exact .inl ⟨j,⟨j,e,rfl,hj,by simpa using h3⟩,by simpa [wayOf,hj] using h4⟩
   ·exact .inr ⟨j,⟨j,e,rfl,hj,by simpa using h3⟩,by simpa [wayOf,hj] using h4⟩
 have e1:uP es v=decide (2≤((List.range 5).filter fun i=>(ways v es 0).testBit i).length):=by unfold uP; rw [hz]
 have e2:linkAt es (v:Int)=decide (2≤modesIn ((ways v es 0:Nat):Int) 5):=by
  unfold linkAt uY
  have h1':es.foldl (fun s e=>if e.src=(v:Int)∨e.dst=(v:Int) then orI .i64 s (shlI .i64 1 e.mode) else s) 0=((ways v es 0:Nat):Int):=h1
  rw [h1']
 rw [e1,e2]
 exact decide_eq_decide.2 (count32 _ h2)
theorem dgB_eq (es:List Edge) (v:Nat):dgB es v=(degree es (v:Int):Nat):=by
 exact (Int.natCast_add _ _).symm
end Go.Proofs.YtknhlpmmalcchaaGreat

namespace Go.Proofs.YtknhlpmmalcchaaGreat
open Go Go.VAI Go.Sort
set_option linter.unusedSimpArgs false

def pairRow (es:List Edge) (d:Int) (n:Nat):List (Int × Int):=((List.range n).filter fun (v:Nat) => !linkAt es v && decide ((degree es v:Int)=d)).map fun (v:Nat)=>((v:Int),d)
def uE (N:Nat) (es:List Edge) (k:Nat):List (Int × Int):=(List.range k).flatMap fun (d:Nat)=>pairRow es d N
theorem pairs_fst (N:Nat) (es:List Edge) (k:Nat):(uE N es k).map Prod.fst=wK N es k:=by
 unfold uE wK
 rw [List.map_flatMap]
 congr 1
 funext d
 simp [pairRow,wS,List.map_map,Function.comp_def]
theorem pairs_sorted (N:Nat) (es:List Edge) (k:Nat):(uE N es k).Pairwise fun a b=>a.2 < b.2∨(a.2=b.2∧a.1 < b.1):=by
 unfold uE
 rw [List.pairwise_flatMap]
 refine ⟨fun d _=>?_,?_⟩
 ·unfold pairRow
  rw [List.pairwise_map]
  refine (List.pairwise_lt_range.filter _).imp fun h=>.inr ⟨rfl,by simpa using h⟩
 ·refine List.pairwise_lt_range.imp fun {d d'} h=>?_
  intro x hx y hy
  simp only [pairRow,List.mem_map] at hx hy
  obtain ⟨v,_,rfl⟩:=hx
  obtain ⟨v',_,rfl⟩:=hy
  exact .inl (by simpa using h)
theorem pairs_perm (N:Nat) (es:List Edge) (hm:∀ e∈es,0≤e.mode∧e.mode < 5):(uE N es (2*es.length+1)).Perm (rkB es N):=by
 have nd1:(uE N es (2*es.length+1)).Nodup:=(pairs_sorted N es _).imp fun {a b} h e=>by subst e; omega
 have nd2:(rkB es N).Nodup:=by
  unfold rkB
  rw [List.nodup_iff_pairwise_ne,List.pairwise_map]
  refine (List.pairwise_lt_range.filter _).imp fun {a b} h e=>?_
  have:=congrArg Prod.fst e
  simp at this
  omega
 refine (List.perm_ext_iff_of_nodup nd1 nd2).2 fun x=>?_
 simp only [uE,pairRow,rkB,List.mem_flatMap,List.mem_map,List.mem_filter,List.mem_range,Bool.and_eq_true,decide_eq_true_iff]
 constructor
 ·rintro ⟨d,hd,v,⟨hv,hl,hdg⟩,rfl⟩
  refine ⟨v,⟨hv,by rw [linkB_eq hm]; exact hl⟩,?_⟩
  rw [dgB_eq,hdg]
 ·rintro ⟨v,⟨hv,hl⟩,rfl⟩
  refine ⟨degree es v,?_,v,⟨hv,by rw [← linkB_eq hm]; exact hl,rfl⟩,?_⟩
  ·have h1:=@zC (fun e=>decide (e.src=(v:Int))) es es.length
   have h2:=@zC (fun e=>decide (e.dst=(v:Int))) es es.length
   unfold degree
   omega
  ·rw [dgB_eq]
theorem odB_eq {N:Nat} {es:List Edge} (hm:∀ e∈es,0≤e.mode∧e.mode < 5):odB es N=wK N es (2*es.length+1):=by
 have hs:=insertionSort_holds (lt:=ltOf yN) ranked_swo (rkB es N).toArray 0 (rkB es N).toArray.size (by omega) (Nat.le_refl _)
 have hu:=sorted_unique_holds (lt:=ltOf yN) ranked_swo ranked_two
 have a1:=hu _ _ hs.1 hs.2
 have hp:=pairs_perm N es hm
 have hl:=hp.length_eq
 have a2:=hu (rkB es N).toArray (uE N es (2*es.length+1)).toArray ⟨by simp [hl],fun i h=>by
   have hi:(rkB es N).length≤i:=by simp at h; omega
   rw [getElem!_neg _ _ (by simp; omega),getElem!_neg _ _ (by simp; omega)],by
    have ht:(uE N es (2*es.length+1)).take (rkB es N).length=uE N es (2*es.length+1):=List.take_of_length_le (by omega)
    simpa [ht] using hp⟩ (fun i j _ hij hj=>by
   have hj':j < (uE N es (2*es.length+1)).length:=by simp at hj; omega
   have:=List.pairwise_iff_getElem.1 (pairs_sorted N es (2*es.length+1)) i j (by omega) hj' hij
   rw [ranked_nlt,getElem!_pos _ _ (by simp; omega),getElem!_pos _ _ (by simp; omega)]
   simp only [List.getElem_toArray]
   omega)
 have e:(insertionSort (ltOf yN) (rkB es N).toArray 0 (rkB es N).toArray.size).toList=uE N es (2*es.length+1):=by rw [a1,← a2]
 have e0:odB es N=(insertionSort (ltOf yN) (rkB es N).toArray 0 (rkB es N).toArray.size).toList.map Prod.fst:=by simp [odB]
 rw [e0,e,pairs_fst]
end Go.Proofs.YtknhlpmmalcchaaGreat
