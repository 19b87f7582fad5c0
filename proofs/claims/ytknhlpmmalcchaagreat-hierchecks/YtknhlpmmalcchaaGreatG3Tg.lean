/- Steps of the walk. -/
import Derived.Test.YtknhlpmmalcchaaGreatG3Td
import Derived.Test.YtknhlpmmalcchaaGreatG3Tf
import Derived.Test.YtknhlpmmalcchaaGreatG3Te
import Derived.Test.YtknhlpmmalcchaaGreatG3Tb
set_option linter.all false
set_option linter.unusedVariables false
set_option linter.unusedSimpArgs false
namespace Go.Proofs.YtknhlpmmalcchaaGreat
open Go Go.VAI
set_option linter.unusedSimpArgs false

theorem HLay.ranks {H:AHeap} {b mid rid uid did gid N:Nat} {es:List Edge} {ew av:AVal} {ms:List (Key × Int)} {arcs:List Arc} {gone:List Bool} {rank:List Int} {us ds:List AVal} (h:HLay H b mid rid uid did gid N es ew av ms arcs gone rank us ds) {rank':List Int} (hg:rank'.length=N) :
  HLay (H.upd rid (some (.cells (xL rank') true))) b mid rid uid did gid N es ew av ms arcs gone rank' us ds:=by
 obtain ⟨o1,o2,o3,o4,o5,o6⟩:=h.ord
 have kM:Keep (fun j=>j=rid) H (H.upd rid (some (.cells (xL rank') true))):=(Keep.refl (fun j=>j=rid) _).upd (.inr rfl) _
 exact ⟨(kM.obj _ (by omega) (by omega)).trans h.bo,(kM.obj _ (by omega) (by omega)).trans h.mo,xN rfl,(kM.obj _ (by omega) (by omega)).trans h.uo,(kM.obj _ (by omega) (by omega)).trans h.dO,(kM.obj _ (by omega) (by omega)).trans h.go,⟨o1,o2,o3,o4,o5,o6⟩,h.ewid,h.edges.M kM (fun j hj e=>by have:=h.ewid j hj; omega),h.arcsO.keepM kM (fun j hj e=>by have:=(h.arcsO.sid_ge hj).1; omega),hg,h.ul,h.dl,h.gl⟩
theorem HLay.ups {H:AHeap} {b mid rid uid did gid N:Nat} {es:List Edge} {ew av:AVal} {ms:List (Key × Int)} {arcs:List Arc} {gone:List Bool} {rank:List Int} {us ds:List AVal} (h:HLay H b mid rid uid did gid N es ew av ms arcs gone rank us ds) {us':List AVal} (hg:us'.length=N) :
  HLay (H.upd uid (some (.cells us' true))) b mid rid uid did gid N es ew av ms arcs gone rank us' ds:=by
 obtain ⟨o1,o2,o3,o4,o5,o6⟩:=h.ord
 have kM:Keep (fun j=>j=uid) H (H.upd uid (some (.cells us' true))):=(Keep.refl (fun j=>j=uid) _).upd (.inr rfl) _
 exact ⟨(kM.obj _ (by omega) (by omega)).trans h.bo,(kM.obj _ (by omega) (by omega)).trans h.mo,(kM.obj _ (by omega) (by omega)).trans h.ro,xN rfl,(kM.obj _ (by omega) (by omega)).trans h.dO,(kM.obj _ (by omega) (by omega)).trans h.go,⟨o1,o2,o3,o4,o5,o6⟩,h.ewid,h.edges.M kM (fun j hj e=>by have:=h.ewid j hj; omega),h.arcsO.keepM kM (fun j hj e=>by have:=(h.arcsO.sid_ge hj).1; omega),h.rl,hg,h.dl,h.gl⟩
theorem RowsAt.M' {lo:Nat} {M:Nat→Prop} {H H':AHeap} {av av':AVal} {us:List AVal} {ul:List (List Int)} (h:RowsAt lo H av us ul) (hk:Keep M H H') (hM:∀ j,M j→j < lo∨sid av=some j) (ha:∀ j,sid av'=some j→sid av=some j∨H.next≤j):RowsAt lo H' av' us ul:=by
 intro v r l h1 h2
 obtain ⟨h3,h4⟩:=h v r l h1 h2
 refine ⟨h3.M hk (fun j hj hm=>?_),fun j hj=>⟨(h4 j hj).1,fun e=>?_⟩⟩
 ·rcases hM j hm with h | h
  ·have:=(h4 j hj).1; omega
  ·exact (h4 j hj).2 h
 ·rcases ha j e with ha | ha
  ·exact (h4 j hj).2 ha
  ·have:=h3.sid_lt hj
   omega
theorem order_few {N:Nat} {l:List Int} (h:OrderOk N l):l.length≤N:=by
 have:=wO N l h.nodup h.bd
 exact this
theorem rowsAt_nil {lo:Nat} {H:AHeap} {av:AVal} (N:Nat):RowsAt lo H av (List.replicate N .nilSlice) (List.replicate N []):=by
 intro v r l h1 h2
 have e1:=List.eq_of_mem_replicate (List.mem_of_getElem? h1)
 have e2:=List.eq_of_mem_replicate (List.mem_of_getElem? h2)
 subst e1; subst e2
 exact ⟨.nil,fun j hj=>by cases hj⟩
theorem ints_set (l:List Int) (i:Nat) (x:Int):(xL l).set i (.int .i64 x)=xL (l.set i x):=by simp [xL,List.map_set]
set_option maxRecDepth 20000 in
set_option maxHeartbeats 8000000 in
theorem hbuild_ret {N:Nat} {ev:AVal} {es:List Edge} {H:AHeap} {Q:AVal→AHeap→Prop} (hr:Row H ev 4 (xG es)) (hnet:NetOk N es) (hN:N≤21) (hne:rkB es N≠[])
  (hq:∀ ew rv av uv dv H',Keep Nothing H H'→IdxFrom H.next H' ew rv av uv dv (qA N es)→Q (.agg [.int .i64 N,ew,rv,av,uv,dv]) H'):Ret A 13 [.agg [.int .i64 N,ev]] H Q:=by
 obtain ⟨hN1,hN2,hn,hok⟩:=hnet
 refine Ret.of (fn:=F13) rfl ?_
 have hcells:=hr.cells
 have hg1:(N:Int)*((1:Nat):Int)≤140737488355328:=by omega
 have hg8:(N:Int)*((8:Nat):Int)≤140737488355328:=by omega
 have hg2:(N:Int)≤9223372036854775807:=by omega
 have hg3:(N:Int)*((24:Nat):Int)≤140737488355328:=by omega
 simp (disch:=first | omega | (simp only [nx] <;> omega) | fail) only [vaw,F13,Nat.reduceAdd,Nat.reduceMul,Nat.reduceLeDiff,Nat.reduceEqDiff,↓reduceIte]
 have k0:Keep Nothing H ((H.new (.cells [.int .i64 N,ev] true)).new (.cells [.int .i64 0,.nilSlice,.nilSlice,.nilSlice,.nilSlice,.nilSlice] true)):=((Keep.refl _ _).new _).new _
 have z1:((H.new (.cells [.int .i64 N,ev] true)).new (.cells [.int .i64 0,.nilSlice,.nilSlice,.nilSlice,.nilSlice,.nilSlice] true)).obj H.next=some (.cells [.int .i64 N,ev] true):=by simp (disch:=first | omega | (simp only [nx] <;> omega) | fail) only [xI]
 have z2:((H.new (.cells [.int .i64 N,ev] true)).new (.cells [.int .i64 0,.nilSlice,.nilSlice,.nilSlice,.nilSlice,.nilSlice] true)).obj (H.next+1)=some (.cells [.int .i64 0,.nilSlice,.nilSlice,.nilSlice,.nilSlice,.nilSlice] true):=yB rfl
 have nz:((H.new (.cells [.int .i64 N,ev] true)).new (.cells [.int .i64 0,.nilSlice,.nilSlice,.nilSlice,.nilSlice,.nilSlice] true)).next=H.next+2:=rfl
 generalize (H.new (.cells [.int .i64 N,ev] true)).new (.cells [.int .i64 0,.nilSlice,.nilSlice,.nilSlice,.nilSlice,.nilSlice] true)=HZ at *
 refine cloneE_ret (hr.kept k0) (by omega) fun ew H1 k1 g1=>?_
 have n1:=k1.next
 have y1:=(k1.old (by omega)).trans z1
 have y2:=(k1.old (by omega)).trans z2
 have cw:=g1.cells
 have hew:∀ j,sid ew=some j→H.next+2≤j∧j < H1.next:=fun j hj=>by have:=g1.sid_ge hj; omega
 have hcm:∀ i,(AVal.map i).cells=some [AVal.map i]:=fun _=>rfl
 simp (disch:=first | omega | (simp only [nx] <;> omega) | fail) only [vaw,y1,y2,cw,zH hg1 hg2,zH hg8 hg2,zH hg3 hg2,hcm,reps_oneB,Nat.reduceAdd,Nat.reduceMul,Nat.reduceLeDiff,Nat.reduceEqDiff,↓reduceIte]
 have hXK:Keep (fun j=>j=H.next) H1 (((((((((H1.upd H.next (some (.cells [.int .i64 N,ew] true))).new (.cells (List.replicate N (.int .i64 0)) true)).new (.cells (List.replicate N .nilSlice) true)).new (.cells (List.replicate N .nilSlice) true)).new (.amap [])).new (.cells (List.replicate N (.bool false)) true)).new (.cells [.int .i64 N,ew,.slice H1.next 0 N (.exact N),.nilSlice,.slice (H1.next+1) 0 N (.exact N),.slice (H1.next+1+1) 0 N (.exact N),.map (H1.next+1+1+1),.slice (H1.next+1+1+1+1) 0 N (.exact N)] true)).new (.cells [.nilPtr] true)).upd (H1.next+1+1+1+1+1+1) (some (.cells [.ptr (H1.next+1+1+1+1+1) 0] true))):=((((((((Keep.refl (fun j=>j=H.next) H1).upd (.inr rfl) _).new _).new _).new _).new _).new _).new _).new _ |>.upd (.inl (by first | omega | (simp only [xB,xC]; omega))) _
 have hXH:HLay (((((((((H1.upd H.next (some (.cells [.int .i64 N,ew] true))).new (.cells (List.replicate N (.int .i64 0)) true)).new (.cells (List.replicate N .nilSlice) true)).new (.cells (List.replicate N .nilSlice) true)).new (.amap [])).new (.cells (List.replicate N (.bool false)) true)).new (.cells [.int .i64 N,ew,.slice H1.next 0 N (.exact N),.nilSlice,.slice (H1.next+1) 0 N (.exact N),.slice (H1.next+1+1) 0 N (.exact N),.map (H1.next+1+1+1),.slice (H1.next+1+1+1+1) 0 N (.exact N)] true)).new (.cells [.nilPtr] true)).upd (H1.next+1+1+1+1+1+1) (some (.cells [.ptr (H1.next+1+1+1+1+1) 0] true))) (H1.next+1+1+1+1+1) (H1.next+1+1+1) H1.next (H1.next+1) (H1.next+1+1) (H1.next+1+1+1+1) N es ew .nilSlice [] [] (List.replicate N false) (List.replicate N 0) (List.replicate N .nilSlice) (List.replicate N .nilSlice):=by
  have e1:xV (List.replicate N false)=List.replicate N (.bool false):=by simp [xV]
  have e2:xL (List.replicate N 0)=List.replicate N (.int .i64 0):=by simp [xL]
  refine ⟨by simp (disch:=first | omega | (simp only [nx] <;> omega) | fail) only [xI],by simp (disch:=first | omega | (simp only [nx] <;> omega) | fail) only [xI]; rfl,by simp (disch:=first | omega | (simp only [nx] <;> omega) | fail) only [xI]; rw [e2],by simp (disch:=first | omega | (simp only [nx] <;> omega) | fail) only [xI],by simp (disch:=first | omega | (simp only [nx] <;> omega) | fail) only [xI],by simp (disch:=first | omega | (simp only [nx] <;> omega) | fail) only [xI]; rw [e1],⟨by omega,by omega,by omega,by omega,by omega,(by first | omega | (simp only [xB,xC]; omega))⟩,fun j hj=>(hew j hj).2,g1.row.M hXK (fun j hj e=>by have:=hew j hj; omega),.nil,by simp,by simp,by simp,by simp⟩
 have hXc:(((((((((H1.upd H.next (some (.cells [.int .i64 N,ew] true))).new (.cells (List.replicate N (.int .i64 0)) true)).new (.cells (List.replicate N .nilSlice) true)).new (.cells (List.replicate N .nilSlice) true)).new (.amap [])).new (.cells (List.replicate N (.bool false)) true)).new (.cells [.int .i64 N,ew,.slice H1.next 0 N (.exact N),.nilSlice,.slice (H1.next+1) 0 N (.exact N),.slice (H1.next+1+1) 0 N (.exact N),.map (H1.next+1+1+1),.slice (H1.next+1+1+1+1) 0 N (.exact N)] true)).new (.cells [.nilPtr] true)).upd (H1.next+1+1+1+1+1+1) (some (.cells [.ptr (H1.next+1+1+1+1+1) 0] true))).obj (H1.next+1+1+1+1+1+1)=some (.cells [.ptr (H1.next+1+1+1+1+1) 0] true):=xN rfl
 have hXn:(((((((((H1.upd H.next (some (.cells [.int .i64 N,ew] true))).new (.cells (List.replicate N (.int .i64 0)) true)).new (.cells (List.replicate N .nilSlice) true)).new (.cells (List.replicate N .nilSlice) true)).new (.amap [])).new (.cells (List.replicate N (.bool false)) true)).new (.cells [.int .i64 N,ew,.slice H1.next 0 N (.exact N),.nilSlice,.slice (H1.next+1) 0 N (.exact N),.slice (H1.next+1+1) 0 N (.exact N),.map (H1.next+1+1+1),.slice (H1.next+1+1+1+1) 0 N (.exact N)] true)).new (.cells [.nilPtr] true)).upd (H1.next+1+1+1+1+1+1) (some (.cells [.ptr (H1.next+1+1+1+1+1) 0] true))).obj H.next=some (.cells [.int .i64 N,ew] true):=by simp (disch:=first | omega | (simp only [nx] <;> omega) | fail) only [xI]
 have hX2:=(hXK.obj (H.next+1) (by omega) (by omega)).trans y2
 have hXN:(((((((((H1.upd H.next (some (.cells [.int .i64 N,ew] true))).new (.cells (List.replicate N (.int .i64 0)) true)).new (.cells (List.replicate N .nilSlice) true)).new (.cells (List.replicate N .nilSlice) true)).new (.amap [])).new (.cells (List.replicate N (.bool false)) true)).new (.cells [.int .i64 N,ew,.slice H1.next 0 N (.exact N),.nilSlice,.slice (H1.next+1) 0 N (.exact N),.slice (H1.next+1+1) 0 N (.exact N),.map (H1.next+1+1+1),.slice (H1.next+1+1+1+1) 0 N (.exact N)] true)).new (.cells [.nilPtr] true)).upd (H1.next+1+1+1+1+1+1) (some (.cells [.ptr (H1.next+1+1+1+1+1) 0] true))).next=H1.next+7:=rfl
 generalize ((((((((H1.upd H.next (some (.cells [.int .i64 N,ew] true))).new (.cells (List.replicate N (.int .i64 0)) true)).new (.cells (List.replicate N .nilSlice) true)).new (.cells (List.replicate N .nilSlice) true)).new (.amap [])).new (.cells (List.replicate N (.bool false)) true)).new (.cells [.int .i64 N,ew,.slice H1.next 0 N (.exact N),.nilSlice,.slice (H1.next+1) 0 N (.exact N),.slice (H1.next+1+1) 0 N (.exact N),.map (H1.next+1+1+1),.slice (H1.next+1+1+1+1) 0 N (.exact N)] true)).new (.cells [.nilPtr] true)).upd (H1.next+1+1+1+1+1+1) (some (.cells [.ptr (H1.next+1+1+1+1+1) 0] true))=HX at *
 generalize hec:H1.next+1+1+1+1+1+1=c at *
 generalize heb:H1.next+1+1+1+1+1=b at *
 generalize heg:H1.next+1+1+1+1=gid at *
 generalize hem:H1.next+1+1+1=mid at *
 generalize hed:H1.next+1+1=did at *
 generalize heu:H1.next+1=uid at *
 generalize her:H1.next=rid at *
 refine xS (fun m t H'=>∃ (i:Nat),m=N - i∧i≤N∧t=(xP 1 (.ptr H.next 0 :: .ptr (H.next+1) 0 :: .ptr c 0 :: xP 33 (.int .i64 N :: .int .i64 i :: xP 70 ([]))):xJ)∧Keep (fun j=>j=rid) HX H'∧HLay H' b mid rid uid did gid N es ew .nilSlice [] [] (List.replicate N false) (List.replicate i (-1)++List.replicate (N - i) 0) (List.replicate N .nilSlice) (List.replicate N .nilSlice)) N ?_ ?_
 ·exact ⟨0,rfl,by omega,rfl,.refl _ _,hXH⟩
 ·rintro m t H2 ⟨i,rfl,hi,rfl,k2,h2⟩
  have c2:=(k2.obj c (by omega) (by omega)).trans hXc
  by_cases hc:(i:Int) < N
  ·have hiN:i < N:=by omega
   have hix:xO 1 (.slice rid 0 N (.exact N)) (.int .i64 (i:Int))=some (.ptr rid i):=by rw [xM ⟨by omega,by omega⟩]; simp
   have hrl:(xL (List.replicate i (-1)++List.replicate (N - i) 0)).length=N:=by rw [xE]; exact h2.rl
   have hle:i+1≤N:=hiN
   have hsp:yV (xL (List.replicate i (-1)++List.replicate (N - i) 0)) i [.int .i64 (-1)]=xL (List.replicate (i+1) (-1)++List.replicate (N - (i+1)) 0):=by
    rw [yQ (by rw [hrl]; exact hiN),ints_set]
    congr 1
    rw [List.set_append_right _ _ (by simp),show N - i=(N - (i+1))+1 by omega,List.replicate_succ]
    simp [List.replicate_succ']
   simp (disch:=first | omega | (simp only [nx] <;> omega) | fail) only [vaw,hc,c2,h2.bo,h2.ro,hix,hrl,hle,hsp,Nat.reduceAdd,Nat.reduceMul,Nat.reduceLeDiff,Nat.reduceEqDiff,↓reduceIte]
   exact ⟨N - (i+1),by omega,i+1,rfl,by omega,rfl,k2.upd (.inr rfl) _,h2.ranks (by simp; omega)⟩
  ·have:i=N:=by omega
   subst this
   rw [Nat.sub_self,List.replicate_zero,List.append_nil] at h2
   simp (disch:=first | omega | (simp only [nx] <;> omega) | fail) only [vaw,hc,c2,Nat.reduceAdd,Nat.reduceMul,Nat.reduceLeDiff,Nat.reduceEqDiff,↓reduceIte]
   refine first_ret h2 hok hn (by omega) fun H3 av3 ms3 k3 h3 c3 s3=>?_
   have nb3:H3.obj H.next=some (.cells [.int .i64 i,ew] true):=(k3.obj _ (by have:=k2.next; omega) (fun e=>by rcases e with e | e | e <;> first | omega | cases e)).trans ((k2.obj _ (by omega) (by omega)).trans hXn)
   have cc3:=(k3.obj c (by have:=k2.next; omega) (fun e=>by rcases e with e | e | e <;> first | omega | cases e)).trans c2
   have rs3:=(k3.obj (H.next+1) (by have:=k2.next; omega) (fun e=>by rcases e with e | e | e <;> first | omega | cases e)).trans ((k2.obj _ (by omega) (by omega)).trans hX2)
   simp (disch:=first | omega | (simp only [nx] <;> omega) | fail) only [vaw,nb3,Nat.reduceAdd,Nat.reduceMul,Nat.reduceLeDiff,Nat.reduceEqDiff,↓reduceIte]
   refine odBF_ret (N:=i) h3.edges hok hN hne (by omega) fun lv H4 k4 r4 lo4=>?_
   have hmo:∀ e∈es,0≤e.mode∧e.mode < 5:=fun e he=>⟨(hok e he).2.2.1.1,(hok e he).2.2.1.2⟩
   rw [odB_eq hmo] at r4
   have hlo:OrderOk i (wK i es (2*es.length+1)):=orderOf_ok i es _
   have hoa:uX i es=wK i es (2*es.length+1):=rfl
   have hidx:qA i es=⟨i,es,(hierOf i es (uX i es)).rank,(hierOf i es (uX i es)).arcs,(hierOf i es (uX i es)).up,(hierOf i es (uX i es)).down⟩:=rfl
   have hlN:=order_few hlo
   rw [← hoa] at r4 hlo hlN
   generalize uX i es=l at *
   have hedg:EdgesOk i es:=fun e he=>⟨(hok e he).1,(hok e he).2.1,(hok e he).2.2.1,(hok e he).2.2.2.1⟩
   have hcost:∀ e∈es,0≤e.cost∧e.cost≤2147483647:=fun e he=>(hok e he).2.2.2
   have n2:=k2.next
   have n3:=k3.next
   have n4:=k4.next
   have h4:=h3.kept k4
   have cc4:=(k4.old (by omega)).trans cc3
   have rs4:=(k4.old (by omega)).trans rs3
   have ll:=r4.len1
   rw [xE] at ll
   have sa3:∀ j,sid av3=some j→c < j∧j < H3.next:=fun j hj=>by
    have h1:=h3.arcsO.sid_ge hj
    rcases s3 j hj with e | e
    ·cases e
    ·omega
   simp (disch:=first | omega | (simp only [nx] <;> omega) | fail) only [vaw,ll,Nat.reduceAdd,Nat.reduceMul,Nat.reduceLeDiff,Nat.reduceEqDiff,↓reduceIte]
   refine xS (fun m t H'=>∃ (k:Nat) (av':AVal) (ms':List (Key × Int)) (us ds:List AVal),m=l.length - k∧k≤l.length∧t=(xP 2 (.ptr (H.next+1) 0 :: .ptr c 0 :: xP 48 (lv :: .int .i64 l.length :: .int .i64 k :: xP 54 ([]))):xJ)∧Keep (fun j=>j=b∨j=mid∨j=uid∨j=did∨j=gid∨j=rid∨sid av3=some j) H4 H' ∧
    HLay H' b mid rid uid did gid i es ew av' ms' (zQ i (yG i es) l k).arcs (zQ i (yG i es) l k).gone (zQ i (yG i es) l k).rank us ds∧MapCur i ms' (zQ i (yG i es) l k).cur∧RowsAt (c+1) H' av' us (zQ i (yG i es) l k).up∧RowsAt (c+1) H' av' ds (zQ i (yG i es) l k).down∧(∀ j,sid av'=some j→sid av3=some j∨H4.next≤j)) l.length ?_ ?_
   ·exact ⟨0,av3,ms3,_,_,rfl,by omega,rfl,.refl _ _,h4,c3,rowsAt_nil i,rowsAt_nil i,fun j hj=>.inl hj⟩
   ·rintro m t H5 ⟨k,av5,ms5,us,ds,rfl,hk,rfl,k5,h5,c5,ru5,rd5,s5⟩
    have cc5:=(k5.obj c (by omega) (fun e=>by rcases e with e | e | e | e | e | e | e <;> first | omega | (have:=sa3 _ e; omega))).trans cc4
    have rs5:=(k5.obj (H.next+1) (by omega) (fun e=>by rcases e with e | e | e | e | e | e | e <;> first | omega | (have:=sa3 _ e; omega))).trans rs4
    have n5:=k5.next
    by_cases hc2:(k:Int) < l.length
    ·have hkl:k < l.length:=by omega
     have hv:l[k]? = some l[k]:=by simp [hkl]
     have hbd:=hlo.bd _ (List.getElem_mem hkl)
     have hgd:l.getD k 0=l[k]:=yS hv
     have hgs:zQ i (yG i es) l (k+1)=vR i (zQ i (yG i es) l k) k (l.getD k 0).toNat:=rfl
     rw [hgd] at hgs
     have r5:=(r4.M k5 (fun j hj e=>by
      have:=r4.sid_lt hj
      have:=lo4 j hj
      rcases e with e | e | e | e | e | e | e <;> first | omega | (have:=sa3 _ e; omega)))
     obtain ⟨i1,f1,d1,d2,d3⟩:=r5.int_at (k:=.i64) hv
     obtain ⟨ex,hgo⟩:=go_gone hedg hlo k hk
     generalize l[k]=vi at *
     obtain ⟨v,rfl⟩:=Int.eq_ofNat_of_zero_le hbd.1
     rw [Int.toNat_natCast] at hgs
     have hvN:v < i:=by omega
     generalize zQ i (yG i es) l k=s at *
     have hix:xO 1 (.slice rid 0 i (.exact i)) (.int .i64 (v:Int))=some (.ptr rid v):=by rw [xM ⟨by omega,by omega⟩]; simp
     have hrl:(xL s.rank).length=i:=by rw [xE]; exact h5.rl
     have hle:v+1≤i:=hvN
     have hsp:yV (xL s.rank) v [.int .i64 (k:Int)]=xL (s.rank.set v (k:Int)):=by
      rw [yQ (by rw [hrl]; exact hvN),ints_set]
     have h6:=h5.ranks (rank':=s.rank.set v (k:Int)) (by rw [List.length_set]; exact h5.rl)
     have k6:Keep (fun j=>j=rid) H5 (H5.upd rid (some (.cells (xL (s.rank.set v (k:Int))) true))):=(Keep.refl (fun j=>j=rid) _).upd (.inr rfl) _
     have cc6:=(k6.obj c (by omega) (by omega)).trans cc5
     simp (disch:=first | omega | (simp only [nx] <;> omega) | fail) only [vaw,hc2,d1,d3,cc5,h5.bo,h5.ro,hix,hrl,hle,hsp,Nat.reduceAdd,Nat.reduceMul,Nat.reduceLeDiff,Nat.reduceEqDiff,↓reduceIte]
     have ru6:=ru5.M' k6 (fun j hj=>.inl (by omega)) (fun j hj=>.inl hj)
     have rd6:=rd5.M' k6 (fun j hj=>.inl (by omega)) (fun j hj=>.inl hj)
     have n6:(H5.upd rid (some (.cells (xL (s.rank.set v (k:Int))) true))).next=H5.next:=rfl
     generalize H5.upd rid (some (.cells (xL (s.rank.set v (k:Int))) true))=H6 at *
     refine goes_ret h6 c5 hcost hlo hgo (by omega) hv hvN (by omega) fun H7 av7 ms7 ur dr k7 h7 c7 g7 q7 s7 w7 x7=>?_
     simp (disch:=first | omega | (simp only [nx] <;> omega) | fail) only [vaw,Nat.reduceAdd,Nat.reduceMul,Nat.reduceLeDiff,Nat.reduceEqDiff,↓reduceIte]
     have sa5:∀ j,sid av5=some j→c < j:=fun j hj=>by
      rcases s5 j hj with e | e
      ·exact (sa3 j e).1
      ·omega
     have ru7:=(ru6.M' k7 (fun j hj=>by rcases hj with e | e | e | e | e | e <;> first | exact .inl (by omega) | exact .inr e) (fun j hj=>s7 j hj)).set (v:=v) (l:=zM i s.cur s.gone v i) g7.row (fun j hj=>⟨by have:=(g7.sid_ge hj).1; omega,w7 j hj⟩) (by rw [h5.ul,hgo.upLen])
     have rd7:=(rd6.M' k7 (fun j hj=>by rcases hj with e | e | e | e | e | e <;> first | exact .inl (by omega) | exact .inr e) (fun j hj=>s7 j hj)).set (v:=v) (l:=vI i s.cur s.gone v i) q7.row (fun j hj=>⟨by have:=(q7.sid_ge hj).1; omega,x7 j hj⟩) (by rw [h5.dl,hgo.downLen])
     have kF:Keep (fun j=>j=b∨j=mid∨j=uid∨j=did∨j=gid∨j=rid∨sid av3=some j) H4 H7:=(k5.trans' k6 (fun j hj e=>by simp [e])).trans' k7 (fun j hj e=>by
      rcases e with e | e | e | e | e | e
      ·simp [e]
      ·simp [e]
      ·simp [e]
      ·simp [e]
      ·simp [e]
      ·rcases s5 j e with e2 | e2
       ·simp [e2]
       ·omega)
     refine ⟨l.length - (k+1),by omega,k+1,av7,ms7,us.set v ur,ds.set v dr,rfl,by omega,rfl,kF,by rw [hgs]; exact h7,by rw [hgs]; exact c7,by rw [hgs]; exact ru7,by rw [hgs]; exact rd7,fun j hj=>?_⟩
     rcases s7 j hj with e | e
     ·exact s5 j e
     ·exact .inr (by omega)
    ·have:k=l.length:=by omega
     subst this
     obtain ⟨ex,hgo⟩:=go_gone hedg hlo l.length (Nat.le_refl _)
     simp only [hierOf] at hidx
     simp (disch:=first | omega | (simp only [nx] <;> omega) | fail) only [vaw,hc2,cc5,h5.bo,Nat.reduceAdd,Nat.reduceMul,Nat.reduceLeDiff,Nat.reduceEqDiff,↓reduceIte]
     generalize zQ i (yG i es) l l.length=s at *
     obtain ⟨o1,o2,o3,o4,o5,o6⟩:=h5.ord
     have sa5:∀ j,sid av5=some j→c < j:=fun j hj=>by
      rcases s5 j hj with e | e
      ·exact (sa3 j e).1
      ·omega
     refine xS (fun m t H'=>∃ (v:Nat) (us:List AVal),m=i - v∧v≤i∧t=(xP 2 (.ptr (H.next+1) 0 :: .ptr c 0 :: xP 71 (.slice rid 0 i (.exact i) :: .int .i64 i :: .int .i64 v :: xP 31 ([]))):xJ)∧Keep (fun j=>j=uid) H5 H' ∧
      HLay H' b mid rid uid did gid i es ew av5 ms5 s.arcs s.gone s.rank us ds∧RowsAt (c+1) H' av5 us (vH i s s.up v)∧RowsAt (c+1) H' av5 ds s.down) i ?_ ?_
     ·exact ⟨0,us,rfl,by omega,rfl,.refl _ _,h5,ru5,rd5⟩
     ·rintro m t H6 ⟨v,us6,rfl,hv1,rfl,k6,h6,ru6,rd6⟩
      have n6:=k6.next
      have cc6:=(k6.obj c (by omega) (by omega)).trans cc5
      have rs6:=(k6.obj (H.next+1) (by omega) (by omega)).trans rs5
      by_cases hc3:(v:Int) < i
      ·have hvN:v < i:=by omega
       have hix:xO 1 (.slice rid 0 i (.exact i)) (.int .i64 (v:Int))=some (.ptr rid v):=by rw [xM ⟨by omega,by omega⟩]; simp
       have hst:vH i s s.up (v+1)=stayStep i s (vH i s s.up v) v:=rfl
       unfold stayStep at hst
       have kB:Keep Nothing H6 ((H6.new (.cells [.int .i64 0] true)).upd H6.next (some (.cells [.int .i64 v] true))):=((Keep.refl _ _).new _).upd (.inl (Nat.le_refl _)) _
       have qv:((H6.new (.cells [.int .i64 0] true)).upd H6.next (some (.cells [.int .i64 v] true))).obj H6.next=some (.cells [.int .i64 v] true):=xN rfl
       have nB:((H6.new (.cells [.int .i64 0] true)).upd H6.next (some (.cells [.int .i64 v] true))).next=H6.next+1:=rfl
       have hneg:(-1:Int) < 0:=by decide
       cases hgd:s.gone.getD v false with
       | true =>
        obtain ⟨j,hj,hlj⟩:=(hgo.gone v hvN).1 hgd
        have hrj:=hgo.ranked j _ hj hlj
        rw [Int.toNat_natCast] at hrj
        have hrj2:(xL s.rank)[v]? = some (.int .i64 (j:Int)):=by simp [xL,hrj]
        have hjn:¬ ((j:Int) < 0):=by omega
        rw [if_pos hgd] at hst
        simp (disch:=first | omega | (simp only [nx] <;> omega) | fail) only [vaw,hc3,hix,h6.ro,hrj2,hjn,Nat.reduceAdd,Nat.reduceMul,Nat.reduceLeDiff,Nat.reduceEqDiff,↓reduceIte]
        exact ⟨i - (v+1),by omega,v+1,us6,rfl,by omega,rfl,k6.trans' kB (fun j hj e=>e.elim),h6.kept kB,by rw [hst]; exact ru6.M' kB (fun j hj=>hj.elim) (fun j hj=>.inl hj),rd6.M' kB (fun j hj=>hj.elim) (fun j hj=>.inl hj)⟩
       | false =>
        have hrj:=hgo.unranked v hvN (fun h=>by have:=(hgo.gone v hvN).2 h; rw [hgd] at this; cases this)
        have hrj2:(xL s.rank)[v]? = some (.int .i64 (-1)):=by simp [xL,hrj]
        rw [if_neg (by rw [hgd]; simp)] at hst
        have hB:=h6.kept kB
        have qc:=(kB.old (by omega)).trans cc6
        simp (disch:=first | omega | (simp only [nx] <;> omega) | fail) only [vaw,hc3,hix,h6.ro,hrj2,hneg,cc6,h6.bo,Nat.reduceAdd,Nat.reduceMul,Nat.reduceLeDiff,Nat.reduceEqDiff,↓reduceIte]
        generalize ((H6.new (.cells [.int .i64 0] true)).upd H6.next (some (.cells [.int .i64 v] true)))=HB at *
        have hfew:=c5.few
        have hN2:i*i≤21*21:=Nat.mul_le_mul hN hN
        have hm1:=fun (e:Key × Int) (he:e∈ms5)=>mayOf_of qv qc hB.bo rfl hB.go h6.gl (k:=e.1) (c5.rng e he).1 (c5.rng e he).2.1
        refine arcs_ret (down:=false) (es:=ms5) (sel:=upSel ms5 s.gone v) (.inl ⟨.inl rfl,rfl⟩) hB.bo rfl hB.mo (mayAll_of fun e he=>(hm1 e he).1) (by omega) c5.nodup fun ur H7 k7 g7=>?_
        rw [up_eq c5 s.gone hvN] at g7
        have n7:=k7.next
        have h7:=hB.kept k7
        have qv7:=(k7.old (by omega)).trans qv
        have cc7:=(k7.old (by omega)).trans qc
        have cu:=g7.cells
        have hvu:xO 1 (.slice uid 0 i (.exact i)) (.int .i64 (v:Int))=some (.ptr uid v):=by rw [xM ⟨by omega,by omega⟩]; simp
        have hle:v+1≤i:=hvN
        have hul:=h6.ul
        simp (disch:=first | omega | (simp only [nx] <;> omega) | fail) only [vaw,qv7,cc7,h7.bo,h7.uo,hvu,cu,hul,hle,g7.notBot,yQ,Nat.reduceAdd,Nat.reduceMul,Nat.reduceLeDiff,Nat.reduceEqDiff,↓reduceIte]
        have h8:=h7.ups (us':=us6.set v ur) (by rw [List.length_set]; exact hul)
        have k8:Keep (fun j=>j=uid) H7 (H7.upd uid (some (.cells (us6.set v ur) true))):=(Keep.refl (fun j=>j=uid) _).upd (.inr rfl) _
        have k68:Keep (fun j=>j=uid) H6 (H7.upd uid (some (.cells (us6.set v ur) true))):=((kB.trans k7).mono (fun j hj e=>e.elim)).trans' k8 (fun j hj e=>e)
        refine ⟨i - (v+1),by omega,v+1,us6.set v ur,rfl,by omega,rfl,k6.trans' k68 (fun j hj e=>e),h8,?_,rd6.M' k68 (fun j hj=>.inl (by omega)) (fun j hj=>.inl hj)⟩
        rw [hst]
        exact (ru6.M' k68 (fun j hj=>.inl (by omega)) (fun j hj=>.inl hj)).set (g7.row.M k8 (fun j hj e=>by have:=(g7.sid_ge hj).1; omega)) (fun j hj=>⟨by have:=(g7.sid_ge hj).1; omega,fun e=>by have:=(g7.sid_ge hj).1; have:=(h6.arcsO.sid_ge e).2; omega⟩) (by rw [hul,zV,hgo.upLen])
      ·have:i=v:=by omega
       subst this
       simp (disch:=first | omega | (simp only [nx] <;> omega) | fail) only [vaw,hc3,cc6,h6.bo,Nat.reduceAdd,Nat.reduceMul,Nat.reduceLeDiff,Nat.reduceEqDiff,↓reduceIte]
       refine cloneA_ret h6.arcsO.row (by have:=hgo.count; have hNN:i*i≤21*21:=Nat.mul_le_mul hN hN; have hk25:l.length*(25*(i*i))≤21*(25*(21*21)):=Nat.mul_le_mul (by omega) (by omega); omega) fun v7 H7 k7 g7=>?_
       have h7:=h6.kept k7
       have cc7:=(k7.old (by omega)).trans cc6
       have rs7:=(k7.old (by omega)).trans rs6
       have c7:=g7.cells
       have c1:=h7.edges.cells
       simp (disch:=first | omega | (simp only [nx] <;> omega) | fail) only [vaw,cc7,h7.bo,rs7,c7,c1,Nat.reduceAdd,Nat.reduceMul,Nat.reduceLeDiff,Nat.reduceEqDiff,↓reduceIte]
       have n7:=k7.next
       obtain ⟨hend,hhe⟩:∃ x,x=((H7.upd b (some (.cells [.int .i64 i,ew,.slice rid 0 i (.exact i),v7,.slice uid 0 i (.exact i),.slice did 0 i (.exact i),.map mid,.slice gid 0 i (.exact i)] true))).upd (H.next+1) (some (.cells [.int .i64 i,ew,.slice rid 0 i (.exact i),v7,.slice uid 0 i (.exact i),.slice did 0 i (.exact i)] true))):=⟨_,rfl⟩
       rw [← hhe]
       have k8:Keep (fun j=>j=b∨j=H.next+1) H7 hend:=by rw [hhe]; exact ((Keep.refl (fun j=>j=b∨j=H.next+1) _).upd (.inr (.inl rfl)) _).upd (.inr (.inr rfl)) _
       have n8:=k8.next
       have kk:Keep Nothing H hend:=by
        refine (((((((((k0.trans k1).trans' hXK ?_).trans' k2 ?_).trans' k3 ?_).trans' k4 ?_).trans' k5 ?_).trans' k6 ?_).trans' k7 ?_).trans' k8 ?_) <;> intro j hj e
        ·omega
        ·omega
        ·rcases e with e | e | e <;> first | omega | cases e
        ·exact e
        ·rcases e with e | e | e | e | e | e | e <;> first | omega | (have:=sa3 _ e; omega)
        ·omega
        ·exact e
        ·omega
       clear hhe
       refine hq _ _ _ _ _ _ kk ?_
       rw [hidx]
       have rows:∀ (w:Nat) (vs:List AVal) (ul:List (List Int)),w < b→H.next+1 < w→H7.obj w=some (.cells vs true)→vs.length=i→ul.length=i→RowsAt (c+1) H6 av5 vs ul→FromRows H.next hend (.slice w 0 i (.exact i)) ul:=by
        intro w vs ul h1 h2 h4 h5 h6 h7
        refine ⟨vs,⟨.mk (c:=vs) (by omega) (by rw [cells?_of,k8.obj w (by omega) (by omega),h4]; rfl) (by omega) (by simp [← h5]),fun j hj=>by injection hj with hj; omega⟩,by omega,fun i r l e1 e2=>?_⟩
        obtain ⟨g1,g2⟩:=h7 i r l e1 e2
        exact ⟨(g1.kept k7).M k8 (fun j hj e=>by have:=(g2 j hj).1; omega),fun j hj=>by have:=(g2 j hj).1; omega⟩
       refine ⟨⟨h7.edges.M k8 (fun j hj e=>by have:=hew j hj; have:=h7.ewid j hj; omega),fun j hj=>by have:=hew j hj; omega⟩,⟨.mk (c:=xL s.rank) (by omega) (by rw [cells?_of,k8.obj rid (by omega) (by omega),h7.ro]; rfl) (by rw [xE,h7.rl]; omega) (by rw [List.drop_zero,List.take_of_length_le (by rw [xE,h7.rl]; omega)]),fun j hj=>by injection hj with hj; omega⟩,⟨g7.row.M k8 (fun j hj e=>by have:=(g7.sid_ge hj).1; omega),fun j hj=>by have:=(g7.sid_ge hj).1; omega⟩,
        rows _ _ _ (by omega) (by omega) h7.uo h7.ul (by rw [zV,hgo.upLen]) ru6,rows _ _ _ (by omega) (by omega) h7.dO h7.dl hgo.downLen rd6⟩
end Go.Proofs.YtknhlpmmalcchaaGreat

namespace Go.Proofs.YtknhlpmmalcchaaGreat
open Go Go.VAI
set_option linter.unusedSimpArgs false

def knownH:List Edge:=[⟨0,1,0,3⟩]
theorem known_one:qA 1 []=⟨1,[],[0],[],[[]],[[]]⟩:=by decide +kernel
theorem known_two:(qA 2 knownH).arcs.length=1∧(qA 2 knownH).rank.length=2:=by decide +kernel
set_option maxRecDepth 20000 in
set_option maxHeartbeats 8000000 in
theorem known47_ret {H:AHeap} {Q:AVal→AHeap→Prop} (hq:∀ H',Keep Nothing H H'→Q (.bool true) H'):Ret A 5 [] H Q:=by
 refine Ret.of (fn:=F5) rfl ?_
 have hn1:NetOk (1:Nat) []:=⟨by omega,by omega,by simp,by simp⟩
 have hn2:NetOk (2:Nat) knownH:=⟨by omega,by omega,by decide,fun e he=>by simp only [knownH,List.mem_cons,List.not_mem_nil,or_false] at he; subst he; unfold EdgeOk; simp⟩
 simp (disch:=first | omega | (simp only [nx] <;> omega) | fail) only [vaw,F5,Nat.reduceAdd,Nat.reduceMul,Nat.reduceLeDiff,Nat.reduceEqDiff,↓reduceIte]
 refine hbuild_ret (N:=1) (es:=[]) .nil hn1 (by omega) (by decide) fun ew rv av uv dv H1 k1 h1=>?_
 have n1:=k1.next
 have kA:Keep Nothing H1 ((H1.new (.cells [.int .i64 0,.nilSlice,.nilSlice,.nilSlice,.nilSlice,.nilSlice] true)).upd H1.next (some (.cells [.int .i64 1,ew,rv,av,uv,dv] true))):=((Keep.refl _ _).new _).upd (.inl (Nat.le_refl _)) _
 have oA:((H1.new (.cells [.int .i64 0,.nilSlice,.nilSlice,.nilSlice,.nilSlice,.nilSlice] true)).upd H1.next (some (.cells [.int .i64 1,ew,rv,av,uv,dv] true))).obj H1.next=some (.cells [.int .i64 1,ew,rv,av,uv,dv] true):=xN rfl
 have nA:((H1.new (.cells [.int .i64 0,.nilSlice,.nilSlice,.nilSlice,.nilSlice,.nilSlice] true)).upd H1.next (some (.cells [.int .i64 1,ew,rv,av,uv,dv] true))).next=H1.next+1:=rfl
 rw [known_one] at h1
 have c1:=h1.es.1.cells
 have c2:=h1.rank.1.cells
 have c3:=h1.arcs.1.cells
 have c4:=h1.up.rows.cells
 have c5:=h1.down.rows.cells
 simp (disch:=first | omega | (simp only [nx] <;> omega) | fail) only [vaw,c1,c2,c3,c4,c5,Nat.reduceAdd,Nat.reduceMul,Nat.reduceLeDiff,Nat.reduceEqDiff,↓reduceIte]
 generalize ((H1.new (.cells [.int .i64 0,.nilSlice,.nilSlice,.nilSlice,.nilSlice,.nilSlice] true)).upd H1.next (some (.cells [.int .i64 1,ew,rv,av,uv,dv] true)))=HA at *
 refine hbuild_ret (N:=2) (es:=knownH) (.mk (c:=xG knownH) (by simp only [xB]; omega) (by simp (disch:=first | omega | (simp only [nx] <;> omega) | fail) only [xI]; rfl) (by decide) rfl) hn2 (by omega) (by decide) fun ew2 rv2 av2 uv2 dv2 H2 k2 h2=>?_
 have n2:=k2.next
 simp only [xB] at n2
 have o2:=(k2.old (i:=H1.next) (by simp only [xB]; omega)).trans ((xX (by omega)).trans oA)
 have kB:Keep Nothing H2 ((H2.new (.cells [.int .i64 0,.nilSlice,.nilSlice,.nilSlice,.nilSlice,.nilSlice] true)).upd H2.next (some (.cells [.int .i64 2,ew2,rv2,av2,uv2,dv2] true))):=((Keep.refl _ _).new _).upd (.inl (Nat.le_refl _)) _
 have oB:((H2.new (.cells [.int .i64 0,.nilSlice,.nilSlice,.nilSlice,.nilSlice,.nilSlice] true)).upd H2.next (some (.cells [.int .i64 2,ew2,rv2,av2,uv2,dv2] true))).obj H2.next=some (.cells [.int .i64 2,ew2,rv2,av2,uv2,dv2] true):=xN rfl
 have nB:((H2.new (.cells [.int .i64 0,.nilSlice,.nilSlice,.nilSlice,.nilSlice,.nilSlice] true)).upd H2.next (some (.cells [.int .i64 2,ew2,rv2,av2,uv2,dv2] true))).next=H2.next+1:=rfl
 have oB1:=(kB.old (by omega)).trans o2
 have d1:=h2.es.1.cells
 have d2:=h2.rank.1.cells
 have d3:=h2.arcs.1.cells
 have d4:=h2.up.rows.cells
 have d5:=h2.down.rows.cells
 simp (disch:=first | omega | (simp only [nx] <;> omega) | fail) only [vaw,d1,d2,d3,d4,d5,Nat.reduceAdd,Nat.reduceMul,Nat.reduceLeDiff,Nat.reduceEqDiff,↓reduceIte]
 generalize ((H2.new (.cells [.int .i64 0,.nilSlice,.nilSlice,.nilSlice,.nilSlice,.nilSlice] true)).upd H2.next (some (.cells [.int .i64 2,ew2,rv2,av2,uv2,dv2] true)))=HB at *
 have h1':=((h1.kept (kA.trans ((Keep.refl _ _).new _))).kept k2).kept kB
 have h2':=h2.kept kB
 have al1:=idx_allowed hn1 (by omega)
 have al2:=idx_allowed hn2 (by omega)
 rw [known_one] at al1
 have l1:=h1'.arcs.1.len (n:=0) (by omega) rfl
 have l2:=h1'.rank.1.len1
 obtain ⟨i1,f1,p1,p2,p3⟩:=h1'.rank.1.int_at (k:=.i64) (j:=0) (x:=0) rfl
 have l3:=h2'.arcs.1.len (n:=1) (by omega) (by rw [yJ,known_two.1])
 have l4:=h2'.rank.1.len1
 rw [xE,known_two.2] at l4
 have q3:((0:Nat):Int)=0:=rfl
 rw [q3] at p1
 have l1':alenS av=some (.int .i64 0):=l1
 have l2':alenS rv=some (.int .i64 1):=l2
 have l3':alenS av2=some (.int .i64 1):=l3
 have l4':alenS rv2=some (.int .i64 2):=l4
 have e0:(0:Int)=0:=rfl
 simp (disch:=first | omega | (simp only [nx] <;> omega) | fail) only [vaw,o2,oB1,oB,l1',l2',l3',l4',p1,p3,Nat.reduceAdd,Nat.reduceMul,Nat.reduceLeDiff,Nat.reduceEqDiff,↓reduceIte]
 refine check_ret (x:=⟨1,[],[0],[],[[]],[[]]⟩) h1'.idx (by simp) (by simp) fun b H3 k3 s3=>?_
 have:=s3.2 al1
 subst this
 have n3:=k3.next
 have o3:=(k3.old (by omega)).trans oB
 simp (disch:=first | omega | (simp only [nx] <;> omega) | fail) only [vaw,o3,Nat.reduceAdd,Nat.reduceMul,Nat.reduceLeDiff,Nat.reduceEqDiff,↓reduceIte]
 obtain ⟨hs1,hs2⟩:=allowed_short al2
 obtain ⟨_,_,_,_,s5,s6⟩:=hs1
 refine check_ret (x:=qA 2 knownH) (h2'.kept k3).idx s5 s6 fun b H4 k4 s4=>?_
 have:=s4.2 al2
 subst this
 simp (disch:=first | omega | (simp only [nx] <;> omega) | fail) only [vaw,Nat.reduceAdd,Nat.reduceMul,Nat.reduceLeDiff,Nat.reduceEqDiff,↓reduceIte]
 refine hq _ ?_
 exact ((((k1.trans kA).trans ((Keep.refl _ _).new _)).trans k2).trans kB).trans k3 |>.trans k4
end Go.Proofs.YtknhlpmmalcchaaGreat

namespace Go.Proofs.YtknhlpmmalcchaaGreat
open Go Go.VAI
set_option linter.unusedSimpArgs false

theorem allowed_rows {x:Idx} (h:Allowed x):(∀ l∈x.up,l.length≤300000)∧∀ l∈x.down,l.length≤300000:=by
 have hac:=h.count
 constructor
 ·intro l hl
  obtain ⟨v,hv,e⟩:=List.getElem_of_mem hl
  obtain ⟨h1,h2⟩:=h.up v l (by rw [List.getElem?_eq_getElem hv,e])
  have:=wO x.arcs.length l h1 (fun y hy=>by
   obtain ⟨h3,a,h4,_⟩:=h2 y hy
   have:=(List.getElem?_eq_some_iff.1 h4).1
   omega)
  omega
 ·intro l hl
  obtain ⟨v,hv,e⟩:=List.getElem_of_mem hl
  obtain ⟨h1,h2⟩:=h.down v l (by rw [List.getElem?_eq_getElem hv,e])
  have:=wO x.arcs.length l h1 (fun y hy=>by
   obtain ⟨h3,a,h4,_⟩:=h2 y hy
   have:=(List.getElem?_eq_some_iff.1 h4).1
   omega)
  omega
set_option maxRecDepth 20000 in
set_option maxHeartbeats 20000000 in
theorem spoilt_ret {ew0 rv0 av0 uv0 dv0:AVal} {x:Idx} {which at_ v:Int} {H:AHeap} {Q:AVal→AHeap→Prop} (hx:IdxAt H ew0 rv0 av0 uv0 dv0 x) (hal:Allowed x) (hv:I64 v)
  (hq:∀ y ew rv av uv dv H',Keep Nothing H H'→IdxAt H' ew rv av uv dv y→y.n=x.n→Small y→Q (.agg [.int .i64 x.n,ew,rv,av,uv,dv]) H'):Ret A 9 [.agg [.int .i64 x.n,ew0,rv0,av0,uv0,dv0],.int .i64 which,.int .i64 at_,.int .i64 v] H Q:=by
 refine Ret.of (fn:=F9) rfl ?_
 obtain ⟨LE,hE,hEl⟩:=edges_ints x.es
 obtain ⟨LA,hA,hAl⟩:=arcs_ints x.arcs
 have re0:Row H ew0 4 (xL LE):=by rw [← hE]; exact hx.es
 have ra0:Row H av0 7 (xL LA):=by rw [← hA]; exact hx.arcs
 obtain ⟨b1,b2,b3,_⟩:=hal.net
 have b4:=hal.rankLen
 have b5:=hal.upLen
 have b6:=hal.downLen
 have b7:=hal.count
 obtain ⟨b8,b9⟩:=allowed_rows hal
 have bu0:=hx.up.beq
 have bd0:=hx.down.beq
 simp (disch:=first | omega | (simp only [nx] <;> omega) | fail) only [vaw,F9,Nat.reduceAdd,Nat.reduceMul,Nat.reduceLeDiff,Nat.reduceEqDiff,↓reduceIte]
 have k3:Keep Nothing H (((H.new (.cells [.int .i64 x.n,ew0,rv0,av0,uv0,dv0] true)).new (.cells [.int .i64 0,.nilSlice,.nilSlice,.nilSlice,.nilSlice,.nilSlice] true)).new (.cells [] true)):=(((Keep.refl _ _).new _).new _).new _
 have ob3:(((H.new (.cells [.int .i64 x.n,ew0,rv0,av0,uv0,dv0] true)).new (.cells [.int .i64 0,.nilSlice,.nilSlice,.nilSlice,.nilSlice,.nilSlice] true)).new (.cells [] true)).obj H.next=some (.cells [.int .i64 x.n,ew0,rv0,av0,uv0,dv0] true):=by simp (disch:=first | omega | (simp only [nx] <;> omega) | fail) only [xI]
 have or3:(((H.new (.cells [.int .i64 x.n,ew0,rv0,av0,uv0,dv0] true)).new (.cells [.int .i64 0,.nilSlice,.nilSlice,.nilSlice,.nilSlice,.nilSlice] true)).new (.cells [] true)).obj (H.next+1)=some (.cells [.int .i64 0,.nilSlice,.nilSlice,.nilSlice,.nilSlice,.nilSlice] true):=by simp (disch:=first | omega | (simp only [nx] <;> omega) | fail) only [xI]
 have oe3:(((H.new (.cells [.int .i64 x.n,ew0,rv0,av0,uv0,dv0] true)).new (.cells [.int .i64 0,.nilSlice,.nilSlice,.nilSlice,.nilSlice,.nilSlice] true)).new (.cells [] true)).obj (H.next+1+1)=some (.cells [] true):=by simp (disch:=first | omega | (simp only [nx] <;> omega) | fail) only [xI]
 have n3:(((H.new (.cells [.int .i64 x.n,ew0,rv0,av0,uv0,dv0] true)).new (.cells [.int .i64 0,.nilSlice,.nilSlice,.nilSlice,.nilSlice,.nilSlice] true)).new (.cells [] true)).next=H.next+3:=rfl
 generalize ((H.new (.cells [.int .i64 x.n,ew0,rv0,av0,uv0,dv0] true)).new (.cells [.int .i64 0,.nilSlice,.nilSlice,.nilSlice,.nilSlice,.nilSlice] true)).new (.cells [] true)=H3 at *
 refine copy_ret (n:=x.rank.length) oe3 (by omega) (hx.rank.kept k3) (by rw [xE]; omega) (by omega) (by omega) (by omega) ?_
 intro rv H4 k4 g4 s4
 have n4:=k4.next
 have ob4:=(k4.old (i:=H.next) (by omega)).trans ob3
 have or4:=(k4.old (i:=H.next+1) (by omega)).trans or3
 have c4:=g4.cells
 have k34:=k3.trans k4
 simp (disch:=first | omega | (simp only [nx] <;> omega) | fail) only [vaw,ob4,c4,Nat.reduceAdd,Nat.reduceMul,Nat.reduceLeDiff,Nat.reduceEqDiff,↓reduceIte]
 have k5:Keep Nothing H ((H4.upd H.next (some (.cells [.int .i64 x.n,ew0,rv,av0,uv0,dv0] true))).new (.cells [] true)):=(k34.upd (.inl (by omega)) _).new _
 have ob5:((H4.upd H.next (some (.cells [.int .i64 x.n,ew0,rv,av0,uv0,dv0] true))).new (.cells [] true)).obj H.next=some (.cells [.int .i64 x.n,ew0,rv,av0,uv0,dv0] true):=by simp (disch:=first | omega | (simp only [nx] <;> omega) | fail) only [xI]
 have or5:((H4.upd H.next (some (.cells [.int .i64 x.n,ew0,rv,av0,uv0,dv0] true))).new (.cells [] true)).obj (H.next+1)=some (.cells [.int .i64 0,.nilSlice,.nilSlice,.nilSlice,.nilSlice,.nilSlice] true):=by simp (disch:=first | omega | (simp only [nx] <;> omega) | fail) only [xI]; exact or4
 have oe5:((H4.upd H.next (some (.cells [.int .i64 x.n,ew0,rv,av0,uv0,dv0] true))).new (.cells [] true)).obj H4.next=some (.cells [] true):=by simp (disch:=first | omega | (simp only [nx] <;> omega) | fail) only [xI]
 have n5:((H4.upd H.next (some (.cells [.int .i64 x.n,ew0,rv,av0,uv0,dv0] true))).new (.cells [] true)).next=H4.next+1:=rfl
 have g5:Own (H.next+1+1) ((H4.upd H.next (some (.cells [.int .i64 x.n,ew0,rv,av0,uv0,dv0] true))).new (.cells [] true)) rv 1 (xL x.rank):=(g4.upd (fun j hj=>by have:=(g4.sid_ge hj).1; omega) _).new _
 have i5:In (H.next+1+1) H4.next rv:=fun j hj=>g4.sid_ge hj
 clear k4 g4 ob4 or4 k34 ob3 or3 oe3
 generalize (H4.upd H.next (some (.cells [.int .i64 x.n,ew0,rv,av0,uv0,dv0] true))).new (.cells [] true)=H5 at *
 refine copy_ret (n:=x.arcs.length) oe5 (by omega) (ra0.kept k5) (by rw [xE]; omega) (by omega) (by omega) (by omega) ?_
 intro av H6 k6 g6 s6
 have n6:=k6.next
 have ob6:=(k6.old (i:=H.next) (by omega)).trans ob5
 have or6:=(k6.old (i:=H.next+1) (by omega)).trans or5
 have c6:=g6.cells
 have g56:=g5.kept k6
 simp (disch:=first | omega | (simp only [nx] <;> omega) | fail) only [vaw,ob6,c6,Nat.reduceAdd,Nat.reduceMul,Nat.reduceLeDiff,Nat.reduceEqDiff,↓reduceIte]
 have k7:Keep Nothing H (H6.upd H.next (some (.cells [.int .i64 x.n,ew0,rv,av,uv0,dv0] true))):=(k5.trans k6).upd (.inl (by omega)) _
 have ob7:(H6.upd H.next (some (.cells [.int .i64 x.n,ew0,rv,av,uv0,dv0] true))).obj H.next=some (.cells [.int .i64 x.n,ew0,rv,av,uv0,dv0] true):=xN rfl
 have or7:(H6.upd H.next (some (.cells [.int .i64 x.n,ew0,rv,av,uv0,dv0] true))).obj (H.next+1)=some (.cells [.int .i64 0,.nilSlice,.nilSlice,.nilSlice,.nilSlice,.nilSlice] true):=by rw [xQ (by omega)]; exact or6
 have n7:(H6.upd H.next (some (.cells [.int .i64 x.n,ew0,rv,av,uv0,dv0] true))).next=H6.next:=rfl
 have g7:Own (H.next+1+1) (H6.upd H.next (some (.cells [.int .i64 x.n,ew0,rv,av,uv0,dv0] true))) rv 1 (xL x.rank):=g56.upd (fun j hj=>by have:=(g56.sid_ge hj).1; omega) _
 have h7:Own H4.next (H6.upd H.next (some (.cells [.int .i64 x.n,ew0,rv,av,uv0,dv0] true))) av 7 (xL LA):=g6.upd (fun j hj=>by have:=(g6.sid_ge hj).1; omega) _
 have i7:In H4.next H6.next av:=fun j hj=>g6.sid_ge hj
 clear k6 g6 ob6 or6 g56 g5 ob5 or5 oe5
 generalize H6.upd H.next (some (.cells [.int .i64 x.n,ew0,rv,av,uv0,dv0] true))=H7 at *
 refine rows_ret (hx.up.kept k7) (by omega) (fun l hl=>by have:=b8 l hl; omega) fun uv us H8 k8 g8=>?_
 have n8:=k8.next
 have ob8:=(k8.old (i:=H.next) (by omega)).trans ob7
 have or8:=(k8.old (i:=H.next+1) (by omega)).trans or7
 simp (disch:=first | omega | (simp only [nx] <;> omega) | fail) only [vaw,ob8,xF bd0,Nat.reduceAdd,Nat.reduceMul,Nat.reduceLeDiff,Nat.reduceEqDiff,↓reduceIte]
 refine rows_ret (hx.down.kept (k7.trans k8)) (by omega) (fun l hl=>by have:=b9 l hl; omega) fun dv ds H9 k9 g9=>?_
 have n9:=k9.next
 have ob9:=(k9.old (i:=H.next) (by omega)).trans ob8
 have or9:=(k9.old (i:=H.next+1) (by omega)).trans or8
 have cu:=g8.own.cells
 have cd:=g9.own.cells
 have k79:=k8.trans k9
 simp (disch:=first | omega | (simp only [nx] <;> omega) | fail) only [vaw,ob9,cu,cd,Nat.reduceAdd,Nat.reduceMul,Nat.reduceLeDiff,Nat.reduceEqDiff,↓reduceIte]
 have kA9:Keep (fun j=>j=H.next) H9 (((H9.upd H.next (some (.cells [.int .i64 x.n,ew0,rv,av,uv,dv0] true))).upd H.next (some (.cells [.int .i64 x.n,ew0,rv,av,uv,dv] true))).new (.cells [] true)):=(((Keep.refl (fun j=>j=H.next) _).upd (.inr rfl) _).upd (.inr rfl) _).new _
 have kA:Keep Nothing H (((H9.upd H.next (some (.cells [.int .i64 x.n,ew0,rv,av,uv,dv0] true))).upd H.next (some (.cells [.int .i64 x.n,ew0,rv,av,uv,dv] true))).new (.cells [] true)):=((((k7.trans k8).trans k9).upd (.inl (by omega)) _).upd (.inl (by omega)) _).new _
 have obA:(((H9.upd H.next (some (.cells [.int .i64 x.n,ew0,rv,av,uv,dv0] true))).upd H.next (some (.cells [.int .i64 x.n,ew0,rv,av,uv,dv] true))).new (.cells [] true)).obj H.next=some (.cells [.int .i64 x.n,ew0,rv,av,uv,dv] true):=by simp (disch:=first | omega | (simp only [nx] <;> omega) | fail) only [xI]
 have orA:(((H9.upd H.next (some (.cells [.int .i64 x.n,ew0,rv,av,uv,dv0] true))).upd H.next (some (.cells [.int .i64 x.n,ew0,rv,av,uv,dv] true))).new (.cells [] true)).obj (H.next+1)=some (.cells [.int .i64 0,.nilSlice,.nilSlice,.nilSlice,.nilSlice,.nilSlice] true):=by simp (disch:=first | omega | (simp only [nx] <;> omega) | fail) only [xI]; exact or9
 have oeA:(((H9.upd H.next (some (.cells [.int .i64 x.n,ew0,rv,av,uv,dv0] true))).upd H.next (some (.cells [.int .i64 x.n,ew0,rv,av,uv,dv] true))).new (.cells [] true)).obj H9.next=some (.cells [] true):=by simp (disch:=first | omega | (simp only [nx] <;> omega) | fail) only [xI]
 have nA:(((H9.upd H.next (some (.cells [.int .i64 x.n,ew0,rv,av,uv,dv0] true))).upd H.next (some (.cells [.int .i64 x.n,ew0,rv,av,uv,dv] true))).new (.cells [] true)).next=H9.next+1:=rfl
 generalize ((H9.upd H.next (some (.cells [.int .i64 x.n,ew0,rv,av,uv,dv0] true))).upd H.next (some (.cells [.int .i64 x.n,ew0,rv,av,uv,dv] true))).new (.cells [] true)=HA at *
 refine copy_ret (n:=x.es.length) oeA (by omega) (re0.kept kA) (by rw [xE]; omega) (by omega) (by omega) (by omega) ?_
 intro ew H11 k11 g11 s11
 have n11:=k11.next
 have obB:=(k11.old (i:=H.next) (by omega)).trans obA
 have orB:=(k11.old (i:=H.next+1) (by omega)).trans orA
 have c11:=g11.cells
 simp (disch:=first | omega | (simp only [nx] <;> omega) | fail) only [vaw,obB,c11,Nat.reduceAdd,Nat.reduceMul,Nat.reduceLeDiff,Nat.reduceEqDiff,↓reduceIte]
 have kB9:Keep (fun j=>j=H.next) H9 (H11.upd H.next (some (.cells [.int .i64 x.n,ew,rv,av,uv,dv] true))):=(kA9.trans k11.any).upd (.inr rfl) _
 have kB:Keep Nothing H (H11.upd H.next (some (.cells [.int .i64 x.n,ew,rv,av,uv,dv] true))):=(kA.trans k11).upd (.inl (by omega)) _
 have kB1:Keep (fun j=>j=H.next) H11 (H11.upd H.next (some (.cells [.int .i64 x.n,ew,rv,av,uv,dv] true))):=(Keep.refl (fun j=>j=H.next) _).upd (.inr rfl) _
 have ob:(H11.upd H.next (some (.cells [.int .i64 x.n,ew,rv,av,uv,dv] true))).obj H.next=some (.cells [.int .i64 x.n,ew,rv,av,uv,dv] true):=xN rfl
 have or:(H11.upd H.next (some (.cells [.int .i64 x.n,ew,rv,av,uv,dv] true))).obj (H.next+1)=some (.cells [.int .i64 0,.nilSlice,.nilSlice,.nilSlice,.nilSlice,.nilSlice] true):=by rw [xQ (by omega)]; exact orB
 have nB:(H11.upd H.next (some (.cells [.int .i64 x.n,ew,rv,av,uv,dv] true))).next=H11.next:=rfl
 have S:Sp (H.next+1+1) H4.next H7.next H8.next H9.next H11.next (H11.upd H.next (some (.cells [.int .i64 x.n,ew,rv,av,uv,dv] true))) ew rv av uv dv LE x.rank LA us ds x.up x.down :=
  ⟨g11.keepM kB1 (fun j hj e=>by have:=(g11.sid_ge hj).1; omega),fun j hj=>g11.sid_ge hj,(g7.kept k79).keepM kB9 (fun j hj e=>by have:=(g7.sid_ge hj).1; omega),i5,(h7.kept k79).keepM kB9 (fun j hj e=>by have:=(h7.sid_ge hj).1; omega),fun j hj=>by have:=i7 j hj; omega,
   (g8.M k9 (fun _ _ _ h=>h)).M kB9 (fun j h1 h2 e=>by omega),g9.M kB9 (fun j h1 h2 e=>by omega),by omega⟩
 clear kA9 kA obA orA oeA k11 g11 obB orB kB1 kB9 g8 g9 k79 k8 k9 ob8 or8 ob9 or9 h7 g7 i7 i5 k7 ob7 or7 hx re0 ra0 c11 cu cd c4 c6 bu0 bd0 s11 s4 s6 k3 k5
 generalize H11.upd H.next (some (.cells [.int .i64 x.n,ew,rv,av,uv,dv] true))=H12 at *
 generalize ha1:H4.next=a1 at *
 generalize ha2:H7.next=a2 at *
 generalize ha3:H8.next=a3 at *
 generalize ha4:H9.next=a4 at *
 generalize ha5:H11.next=a5 at *
 have So:=S.o
 have lR:=S.rr.row.len1
 rw [xE] at lR
 have lA:=S.ar.row.len (n:=x.arcs.length) (by omega) (by rw [xE]; omega)
 have lE:=S.er.row.len (n:=x.es.length) (by omega) (by rw [xE]; omega)
 have lU:=S.ur.own.row.len1
 have lUs:=S.ur.len
 have lD:=S.dr.own.row.len1
 have lDs:=S.dr.len
 have be:=S.er.beq
 have br:=S.rr.beq
 have ba:=S.ar.beq
 have bu:=S.ur.own.beq
 have bd:=S.dr.own.beq
 have small:∀ y:Idx,y.rank=x.rank→y.up=x.up→y.down=x.down→Small y:=fun y e1 e2 e3=>⟨by rw [e1]; omega,by rw [e2]; exact fun l hl=>by have:=b8 l hl; omega,by rw [e3]; exact fun l hl=>by have:=b9 l hl; omega⟩
 have fin:∀ (Hf:AHeap) (ew rv av uv dv:AVal) (y:Idx),Keep Nothing H Hf→IdxFrom (H.next+1+1) Hf ew rv av uv dv y→y.n=x.n→Small y→Q (.agg [.int .i64 x.n,ew,rv,av,uv,dv]) (Hf.upd (H.next+1) (some (.cells [.int .i64 x.n,ew,rv,av,uv,dv] true))):=fun Hf ew rv av uv dv y h1 h2 h3 h4 =>
  hq y ew rv av uv dv _ (h1.upd (.inl (by omega)) _) (h2.M (M:=fun j=>j=H.next+1) ((Keep.refl (fun j=>j=H.next+1) _).upd (.inr rfl) _) (fun j e=>by omega)).idx h3 h4
 simp (disch:=first | omega | (simp only [nx] <;> omega) | fail) only [vaw,lR,Nat.reduceAdd,Nat.reduceMul,Nat.reduceLeDiff,Nat.reduceEqDiff,↓reduceIte]
 refine yE (n:=x.rank.length) rfl (by omega) (by omega) ?_
 have e1:=Int.emod_nonneg at_ (show (x.rank.length:Int)≠0 by omega)
 have e2:=Int.emod_lt_of_pos at_ (show 0 < (x.rank.length:Int) by omega)
 obtain ⟨k,hk⟩:∃ k:Nat,at_ % (x.rank.length:Int)=k:=⟨(at_ % (x.rank.length:Int)).toNat,by omega⟩
 rw [hk] at e2 ⊢
 have hkl:k < x.rank.length:=by omega
 simp (disch:=first | omega | (simp only [nx] <;> omega) | fail) only [vaw,ob,lA,Nat.reduceAdd,Nat.reduceMul,Nat.reduceLeDiff,Nat.reduceEqDiff,↓reduceIte]
 refine condK_cut (fun t H'=>∃ ai:Nat,t=xP 1 (.int .i64 which :: .int .i64 at_ :: .int .i64 v :: .ptr H.next 0 :: xP 3 (.ptr (H.next+1) 0 :: .int .i64 k :: .int .i64 ai :: xP 340 []))∧H'=H12∧((0:Int) < x.arcs.length→ai < x.arcs.length)) ?_ ?_
 ·refine condK_split (fun h=>?_) (fun h=>?_)
  ·simp (disch:=first | omega | (simp only [nx] <;> omega) | fail) only [vaw,ob,lA,Nat.reduceAdd,Nat.reduceMul,Nat.reduceLeDiff,Nat.reduceEqDiff,↓reduceIte]
   refine yE (n:=x.arcs.length) rfl (by omega) (by omega) ?_
   have e1:=Int.emod_nonneg at_ (show (x.arcs.length:Int)≠0 by omega)
   have e2:=Int.emod_lt_of_pos at_ (show 0 < (x.arcs.length:Int) by omega)
   obtain ⟨ai,hai⟩:∃ ai:Nat,at_ % (x.arcs.length:Int)=ai:=⟨(at_ % (x.arcs.length:Int)).toNat,by omega⟩
   rw [hai] at e2 ⊢
   simp (disch:=first | omega | (simp only [nx] <;> omega) | fail) only [vaw,zJ,Nat.reduceAdd,Nat.reduceMul,Nat.reduceLeDiff,Nat.reduceEqDiff,↓reduceIte]
   exact ⟨ai,rfl,fun _=>by omega⟩
  ·simp (disch:=first | omega | (simp only [nx] <;> omega) | fail) only [vaw,zJ,Nat.reduceAdd,Nat.reduceMul,Nat.reduceLeDiff,Nat.reduceEqDiff,↓reduceIte]
   exact ⟨0,rfl,fun h2=>absurd h2 h⟩
 ·rintro t H12 ⟨ai,rfl,rfl,hai⟩
  simp (disch:=first | omega | (simp only [nx] <;> omega) | fail) only [vaw,ob,lA,Nat.reduceAdd,Nat.reduceMul,Nat.reduceLeDiff,Nat.reduceEqDiff,↓reduceIte]
  refine yE (n:=16) rfl (by omega) (by omega) ?_
  have same:Q (.agg [.int .i64 x.n,ew,rv,av,uv,dv]) (H12.upd (H.next+1) (some (.cells [.int .i64 x.n,ew,rv,av,uv,dv] true))):=by
   obtain ⟨y,y1,y2,y3,y4,y5⟩:=S.end (n:=x.n) hEl hAl
   exact fin _ _ _ _ _ _ y kB y5 y1 (small y y2 y3 y4)
  have hz:which % 16=0∨which % 16=1∨which % 16=2∨which % 16=3∨which % 16=4∨which % 16=5∨which % 16=6∨which % 16=7∨which % 16=8∨which % 16=9∨which % 16=10∨which % 16=11∨which % 16=12∨which % 16=13∨which % 16=14∨which % 16=15:=by omega
  have hna:(0:Int) < x.arcs.length∨¬ (0:Int) < x.arcs.length:=by omega
  have lLA:(xL LA).length=LA.length:=xE _
  have lLE:(xL LE).length=LE.length:=xE _
  have lLR:(xL x.rank).length=x.rank.length:=xE _
  rcases hz with h | h | h | h | h | h | h | h | h | h | h | h | h | h | h | h
  ·simp (disch:=first | omega | (simp only [nx] <;> omega) | fail) only [vaw,h,Int.reduceEq,zJ,ob,lR,Nat.reduceAdd,Nat.reduceMul,Nat.reduceLeDiff,Nat.reduceEqDiff,↓reduceIte]
   refine yE (n:=(x.rank.length:Int)+2) rfl (by omega) (by omega) ?_
   have z1:=Int.emod_nonneg v (show (x.rank.length:Int)+2≠0 by omega)
   have z2:=Int.emod_lt_of_pos v (show 0 < (x.rank.length:Int)+2 by omega)
   generalize v % ((x.rank.length:Int)+2)=z at *
   obtain ⟨id,q1,q2,q3,q4,q5,q6⟩:=Own.slotN S.rr (n:=x.rank.length) (j:=k) (k:=.i64) (by omega) (by rw [xE]; omega) hkl
   rw [Nat.mul_one] at q4
   have hid:=S.ri id q1
   have hle:k+1≤x.rank.length:=hkl
   have hset:=wQ (L:=x.rank) (p:=k) (x:=z - 1) hkl
   simp (disch:=first | omega | (simp only [nx] <;> omega) | fail) only [vaw,ob,or,xF br,q4,q5,lLR,hle,hset,Nat.reduceAdd,Nat.reduceMul,Nat.reduceLeDiff,Nat.reduceEqDiff,↓reduceIte]
   have gN:=q6 (H12.upd id (some (.cells (xL (x.rank.set k (z - 1))) true))) _ (by simp only [xC]; omega) (xN rfl) (by rw [xE,List.length_set,xE])
   have kU:Keep (fun j=>H.next+1+1≤j∧j < a1) H12 (H12.upd id (some (.cells (xL (x.rank.set k (z - 1))) true))):=(Keep.refl (fun j=>H.next+1+1≤j∧j < a1) _).upd (.inr hid) _
   obtain ⟨y,y1,y2,y3,y4,y5⟩:=S.endR (n:=x.n) hEl hAl kU ⟨gN.row,fun j hj=>(S.ri j hj).1⟩
   exact fin _ _ _ _ _ _ y (kB.upd (.inl (by omega)) _) y5 y1 ⟨by rw [y2,List.length_set]; omega,by rw [y3]; exact fun l hl=>by have:=b8 l hl; omega,by rw [y4]; exact fun l hl=>by have:=b9 l hl; omega⟩
  ·rcases hna with hna | hna
   rotate_left
   ·simp (disch:=first | omega | (simp only [nx] <;> omega) | fail) only [vaw,h,Int.reduceEq,zJ,hna,ob,or,Nat.reduceAdd,Nat.reduceMul,Nat.reduceLeDiff,Nat.reduceEqDiff,↓reduceIte]
    exact same
   have hal':=hai hna
   simp (disch:=first | omega | (simp only [nx] <;> omega) | fail) only [vaw,h,Int.reduceEq,zJ,hna,ob,lR,lA,lE,Nat.reduceAdd,Nat.reduceMul,Nat.reduceLeDiff,Nat.reduceEqDiff,↓reduceIte]
   refine yE (n:=(x.rank.length:Int)+1) rfl (by omega) (by omega) ?_
   have z1:=Int.emod_nonneg v (show (x.rank.length:Int)+1≠0 by omega)
   have z2:=Int.emod_lt_of_pos v (show 0 < (x.rank.length:Int)+1 by omega)
   generalize v % ((x.rank.length:Int)+1)=z at *
   obtain ⟨id,q1,q2,q3,q4,q5,q6⟩:=Own.slotN S.ar (n:=x.arcs.length) (j:=ai) (k:=.i64) (by omega) (by rw [xE]; omega) hal'
   have hid:=S.ai id q1
   have hle:ai*7+1≤LA.length:=by omega
   have hset:=wQ (L:=LA) (p:=ai*7) (x:=z) (by omega)
   simp (disch:=first | omega | (simp only [nx] <;> omega) | fail) only [vaw,ob,or,xF ba,q4,q5,lLA,hle,hset,Nat.reduceAdd,Nat.reduceMul,Nat.reduceLeDiff,Nat.reduceEqDiff,↓reduceIte]
   have gN:=q6 (H12.upd id (some (.cells (xL (LA.set (ai*7) (z))) true))) _ (by simp only [xC]; omega) (xN rfl) (by rw [xE,List.length_set,xE])
   have kU:Keep (fun j=>a1≤j∧j < a2) H12 (H12.upd id (some (.cells (xL (LA.set (ai*7) (z))) true))):=(Keep.refl (fun j=>a1≤j∧j < a2) _).upd (.inr hid) _
   obtain ⟨y,y1,y2,y3,y4,y5⟩:=S.endA (n:=x.n) hEl (na':=x.arcs.length) (LA':=LA.set (ai*7) (z)) (by rw [List.length_set]; exact hAl) kU ⟨gN.row,fun j hj=>by have:=S.ai j hj; omega⟩
   exact fin _ _ _ _ _ _ y (kB.upd (.inl (by omega)) _) y5 y1 (small y y2 y3 y4)
  ·rcases hna with hna | hna
   rotate_left
   ·simp (disch:=first | omega | (simp only [nx] <;> omega) | fail) only [vaw,h,Int.reduceEq,zJ,hna,ob,or,Nat.reduceAdd,Nat.reduceMul,Nat.reduceLeDiff,Nat.reduceEqDiff,↓reduceIte]
    exact same
   have hal':=hai hna
   simp (disch:=first | omega | (simp only [nx] <;> omega) | fail) only [vaw,h,Int.reduceEq,zJ,hna,ob,lR,lA,lE,Nat.reduceAdd,Nat.reduceMul,Nat.reduceLeDiff,Nat.reduceEqDiff,↓reduceIte]
   refine yE (n:=(x.rank.length:Int)+1) rfl (by omega) (by omega) ?_
   have z1:=Int.emod_nonneg v (show (x.rank.length:Int)+1≠0 by omega)
   have z2:=Int.emod_lt_of_pos v (show 0 < (x.rank.length:Int)+1 by omega)
   generalize v % ((x.rank.length:Int)+1)=z at *
   obtain ⟨id,q1,q2,q3,q4,q5,q6⟩:=Own.slotN S.ar (n:=x.arcs.length) (j:=ai) (k:=.i64) (by omega) (by rw [xE]; omega) hal'
   have hid:=S.ai id q1
   have hle:ai*7+1+1≤LA.length:=by omega
   have hset:=wQ (L:=LA) (p:=ai*7+1) (x:=z - 1) (by omega)
   simp (disch:=first | omega | (simp only [nx] <;> omega) | fail) only [vaw,ob,or,xF ba,q4,q5,lLA,hle,hset,Nat.reduceAdd,Nat.reduceMul,Nat.reduceLeDiff,Nat.reduceEqDiff,↓reduceIte]
   have gN:=q6 (H12.upd id (some (.cells (xL (LA.set (ai*7+1) (z - 1))) true))) _ (by simp only [xC]; omega) (xN rfl) (by rw [xE,List.length_set,xE])
   have kU:Keep (fun j=>a1≤j∧j < a2) H12 (H12.upd id (some (.cells (xL (LA.set (ai*7+1) (z - 1))) true))):=(Keep.refl (fun j=>a1≤j∧j < a2) _).upd (.inr hid) _
   obtain ⟨y,y1,y2,y3,y4,y5⟩:=S.endA (n:=x.n) hEl (na':=x.arcs.length) (LA':=LA.set (ai*7+1) (z - 1)) (by rw [List.length_set]; exact hAl) kU ⟨gN.row,fun j hj=>by have:=S.ai j hj; omega⟩
   exact fin _ _ _ _ _ _ y (kB.upd (.inl (by omega)) _) y5 y1 (small y y2 y3 y4)
  ·rcases hna with hna | hna
   rotate_left
   ·simp (disch:=first | omega | (simp only [nx] <;> omega) | fail) only [vaw,h,Int.reduceEq,zJ,hna,ob,or,Nat.reduceAdd,Nat.reduceMul,Nat.reduceLeDiff,Nat.reduceEqDiff,↓reduceIte]
    exact same
   have hal':=hai hna
   simp (disch:=first | omega | (simp only [nx] <;> omega) | fail) only [vaw,h,Int.reduceEq,zJ,hna,ob,lR,lA,lE,Nat.reduceAdd,Nat.reduceMul,Nat.reduceLeDiff,Nat.reduceEqDiff,↓reduceIte]
   refine yE (n:=(7:Int)) rfl (by omega) (by omega) ?_
   have z1:=Int.emod_nonneg v (show (7:Int)≠0 by omega)
   have z2:=Int.emod_lt_of_pos v (show 0 < (7:Int) by omega)
   generalize v % ((7:Int))=z at *
   obtain ⟨id,q1,q2,q3,q4,q5,q6⟩:=Own.slotN S.ar (n:=x.arcs.length) (j:=ai) (k:=.i64) (by omega) (by rw [xE]; omega) hal'
   have hid:=S.ai id q1
   have hle:ai*7+2+1≤LA.length:=by omega
   have hset:=wQ (L:=LA) (p:=ai*7+2) (x:=z - 1) (by omega)
   simp (disch:=first | omega | (simp only [nx] <;> omega) | fail) only [vaw,ob,or,xF ba,q4,q5,lLA,hle,hset,Nat.reduceAdd,Nat.reduceMul,Nat.reduceLeDiff,Nat.reduceEqDiff,↓reduceIte]
   have gN:=q6 (H12.upd id (some (.cells (xL (LA.set (ai*7+2) (z - 1))) true))) _ (by simp only [xC]; omega) (xN rfl) (by rw [xE,List.length_set,xE])
   have kU:Keep (fun j=>a1≤j∧j < a2) H12 (H12.upd id (some (.cells (xL (LA.set (ai*7+2) (z - 1))) true))):=(Keep.refl (fun j=>a1≤j∧j < a2) _).upd (.inr hid) _
   obtain ⟨y,y1,y2,y3,y4,y5⟩:=S.endA (n:=x.n) hEl (na':=x.arcs.length) (LA':=LA.set (ai*7+2) (z - 1)) (by rw [List.length_set]; exact hAl) kU ⟨gN.row,fun j hj=>by have:=S.ai j hj; omega⟩
   exact fin _ _ _ _ _ _ y (kB.upd (.inl (by omega)) _) y5 y1 (small y y2 y3 y4)
  ·rcases hna with hna | hna
   rotate_left
   ·simp (disch:=first | omega | (simp only [nx] <;> omega) | fail) only [vaw,h,Int.reduceEq,zJ,hna,ob,or,Nat.reduceAdd,Nat.reduceMul,Nat.reduceLeDiff,Nat.reduceEqDiff,↓reduceIte]
    exact same
   have hal':=hai hna
   obtain ⟨id,q1,q2,q3,q4,q5,q6⟩:=Own.slotN S.ar (n:=x.arcs.length) (j:=ai) (k:=.i64) (by omega) (by rw [xE]; omega) hal'
   have hid:=S.ai id q1
   have hle:ai*7+3+1≤LA.length:=by omega
   obtain ⟨cst,hcst⟩:∃ c,(xL LA)[ai*7+3]? = some (.int .i64 c):=⟨LA[ai*7+3],by simp [xL]⟩
   simp (disch:=first | omega | (simp only [nx] <;> omega) | fail) only [vaw,h,Int.reduceEq,zJ,hna,ob,q4,q5,hcst,Nat.reduceAdd,Nat.reduceMul,Nat.reduceLeDiff,Nat.reduceEqDiff,↓reduceIte]
   refine yE (n:=4) rfl (by omega) (by omega) ?_
   obtain ⟨z,hz⟩:∃ z:Nat,v % 4=z:=⟨(v % 4).toNat,by omega⟩
   have hz4:z < 4:=by omega
   rw [hz]
   have hidn:id≠H12.next:=by omega
   have hix:xO 1 (.slice H12.next 0 4 (.exact 4)) (.int .i64 (z:Int))=some (.ptr H12.next z):=by rw [xM ⟨by omega,by omega⟩]; simp
   obtain ⟨u,hu⟩:∃ u:Int,([.int .i64 0,.int .i64 v,.int .i64 (IntKind.i64.wrap (cst+1)),.int .i64 (-1)]:List AVal)[z]? = some (.int .i64 u):=by
    match z,hz4 with
    | 0,_=>exact ⟨_,rfl⟩
    | 1,_=>exact ⟨_,rfl⟩
    | 2,_=>exact ⟨_,rfl⟩
    | 3,_=>exact ⟨_,rfl⟩
   have hset:=wQ (L:=LA) (p:=ai*7+3) (x:=u) (by omega)
   simp (disch:=first | omega | (simp only [nx] <;> omega) | fail) only [vaw,ob,or,xF ba,q4,q5,hcst,hix,hu,hidn,lLA,hle,hset,Nat.reduceAdd,Nat.reduceMul,Nat.reduceLeDiff,Nat.reduceEqDiff,↓reduceIte]
   have gN:=q6 ((H12.new (.cells [.int .i64 0,.int .i64 v,.int .i64 (IntKind.i64.wrap (cst+1)),.int .i64 (-1)] true)).upd id (some (.cells (xL (LA.set (ai*7+3) u)) true))) _ (by simp only [xC,xB]; omega) (xN rfl) (by rw [xE,List.length_set,xE])
   have kU:Keep (fun j=>a1≤j∧j < a2) H12 ((H12.new (.cells [.int .i64 0,.int .i64 v,.int .i64 (IntKind.i64.wrap (cst+1)),.int .i64 (-1)] true)).upd id (some (.cells (xL (LA.set (ai*7+3) u)) true))):=((Keep.refl (fun j=>a1≤j∧j < a2) _).new _).upd (.inr hid) _
   obtain ⟨y,y1,y2,y3,y4,y5⟩:=S.endA (n:=x.n) hEl (na':=x.arcs.length) (LA':=LA.set (ai*7+3) u) (by rw [List.length_set]; exact hAl) kU ⟨gN.row,fun j hj=>by have:=S.ai j hj; omega⟩
   exact fin _ _ _ _ _ _ y ((kB.new _).upd (.inl (by omega)) _) y5 y1 (small y y2 y3 y4)
  ·rcases hna with hna | hna
   rotate_left
   ·simp (disch:=first | omega | (simp only [nx] <;> omega) | fail) only [vaw,h,Int.reduceEq,zJ,hna,ob,or,Nat.reduceAdd,Nat.reduceMul,Nat.reduceLeDiff,Nat.reduceEqDiff,↓reduceIte]
    exact same
   have hal':=hai hna
   simp (disch:=first | omega | (simp only [nx] <;> omega) | fail) only [vaw,h,Int.reduceEq,zJ,hna,ob,lR,lA,lE,Nat.reduceAdd,Nat.reduceMul,Nat.reduceLeDiff,Nat.reduceEqDiff,↓reduceIte]
   refine yE (n:=(x.es.length:Int)+2) rfl (by omega) (by omega) ?_
   have z1:=Int.emod_nonneg v (show (x.es.length:Int)+2≠0 by omega)
   have z2:=Int.emod_lt_of_pos v (show 0 < (x.es.length:Int)+2 by omega)
   generalize v % ((x.es.length:Int)+2)=z at *
   obtain ⟨id,q1,q2,q3,q4,q5,q6⟩:=Own.slotN S.ar (n:=x.arcs.length) (j:=ai) (k:=.i64) (by omega) (by rw [xE]; omega) hal'
   have hid:=S.ai id q1
   have hle:ai*7+4+1≤LA.length:=by omega
   have hset:=wQ (L:=LA) (p:=ai*7+4) (x:=z - 1) (by omega)
   simp (disch:=first | omega | (simp only [nx] <;> omega) | fail) only [vaw,ob,or,xF ba,q4,q5,lLA,hle,hset,Nat.reduceAdd,Nat.reduceMul,Nat.reduceLeDiff,Nat.reduceEqDiff,↓reduceIte]
   have gN:=q6 (H12.upd id (some (.cells (xL (LA.set (ai*7+4) (z - 1))) true))) _ (by simp only [xC]; omega) (xN rfl) (by rw [xE,List.length_set,xE])
   have kU:Keep (fun j=>a1≤j∧j < a2) H12 (H12.upd id (some (.cells (xL (LA.set (ai*7+4) (z - 1))) true))):=(Keep.refl (fun j=>a1≤j∧j < a2) _).upd (.inr hid) _
   obtain ⟨y,y1,y2,y3,y4,y5⟩:=S.endA (n:=x.n) hEl (na':=x.arcs.length) (LA':=LA.set (ai*7+4) (z - 1)) (by rw [List.length_set]; exact hAl) kU ⟨gN.row,fun j hj=>by have:=S.ai j hj; omega⟩
   exact fin _ _ _ _ _ _ y (kB.upd (.inl (by omega)) _) y5 y1 (small y y2 y3 y4)
  ·rcases hna with hna | hna
   rotate_left
   ·simp (disch:=first | omega | (simp only [nx] <;> omega) | fail) only [vaw,h,Int.reduceEq,zJ,hna,ob,or,Nat.reduceAdd,Nat.reduceMul,Nat.reduceLeDiff,Nat.reduceEqDiff,↓reduceIte]
    exact same
   have hal':=hai hna
   simp (disch:=first | omega | (simp only [nx] <;> omega) | fail) only [vaw,h,Int.reduceEq,zJ,hna,ob,lR,lA,lE,Nat.reduceAdd,Nat.reduceMul,Nat.reduceLeDiff,Nat.reduceEqDiff,↓reduceIte]
   refine yE (n:=(x.arcs.length:Int)+1) rfl (by omega) (by omega) ?_
   have z1:=Int.emod_nonneg v (show (x.arcs.length:Int)+1≠0 by omega)
   have z2:=Int.emod_lt_of_pos v (show 0 < (x.arcs.length:Int)+1 by omega)
   generalize v % ((x.arcs.length:Int)+1)=z at *
   obtain ⟨id,q1,q2,q3,q4,q5,q6⟩:=Own.slotN S.ar (n:=x.arcs.length) (j:=ai) (k:=.i64) (by omega) (by rw [xE]; omega) hal'
   have hid:=S.ai id q1
   have hle:ai*7+5+1≤LA.length:=by omega
   have hset:=wQ (L:=LA) (p:=ai*7+5) (x:=z) (by omega)
   simp (disch:=first | omega | (simp only [nx] <;> omega) | fail) only [vaw,ob,or,xF ba,q4,q5,lLA,hle,hset,Nat.reduceAdd,Nat.reduceMul,Nat.reduceLeDiff,Nat.reduceEqDiff,↓reduceIte]
   have gN:=q6 (H12.upd id (some (.cells (xL (LA.set (ai*7+5) (z))) true))) _ (by simp only [xC]; omega) (xN rfl) (by rw [xE,List.length_set,xE])
   have kU:Keep (fun j=>a1≤j∧j < a2) H12 (H12.upd id (some (.cells (xL (LA.set (ai*7+5) (z))) true))):=(Keep.refl (fun j=>a1≤j∧j < a2) _).upd (.inr hid) _
   obtain ⟨y,y1,y2,y3,y4,y5⟩:=S.endA (n:=x.n) hEl (na':=x.arcs.length) (LA':=LA.set (ai*7+5) (z)) (by rw [List.length_set]; exact hAl) kU ⟨gN.row,fun j hj=>by have:=S.ai j hj; omega⟩
   exact fin _ _ _ _ _ _ y (kB.upd (.inl (by omega)) _) y5 y1 (small y y2 y3 y4)
  ·rcases hna with hna | hna
   rotate_left
   ·simp (disch:=first | omega | (simp only [nx] <;> omega) | fail) only [vaw,h,Int.reduceEq,zJ,hna,ob,or,Nat.reduceAdd,Nat.reduceMul,Nat.reduceLeDiff,Nat.reduceEqDiff,↓reduceIte]
    exact same
   have hal':=hai hna
   simp (disch:=first | omega | (simp only [nx] <;> omega) | fail) only [vaw,h,Int.reduceEq,zJ,hna,ob,lR,lA,lE,Nat.reduceAdd,Nat.reduceMul,Nat.reduceLeDiff,Nat.reduceEqDiff,↓reduceIte]
   refine yE (n:=(x.arcs.length:Int)+2) rfl (by omega) (by omega) ?_
   have z1:=Int.emod_nonneg v (show (x.arcs.length:Int)+2≠0 by omega)
   have z2:=Int.emod_lt_of_pos v (show 0 < (x.arcs.length:Int)+2 by omega)
   generalize v % ((x.arcs.length:Int)+2)=z at *
   obtain ⟨id,q1,q2,q3,q4,q5,q6⟩:=Own.slotN S.ar (n:=x.arcs.length) (j:=ai) (k:=.i64) (by omega) (by rw [xE]; omega) hal'
   have hid:=S.ai id q1
   have hle:ai*7+6+1≤LA.length:=by omega
   have hset:=wQ (L:=LA) (p:=ai*7+6) (x:=z - 1) (by omega)
   simp (disch:=first | omega | (simp only [nx] <;> omega) | fail) only [vaw,ob,or,xF ba,q4,q5,lLA,hle,hset,Nat.reduceAdd,Nat.reduceMul,Nat.reduceLeDiff,Nat.reduceEqDiff,↓reduceIte]
   have gN:=q6 (H12.upd id (some (.cells (xL (LA.set (ai*7+6) (z - 1))) true))) _ (by simp only [xC]; omega) (xN rfl) (by rw [xE,List.length_set,xE])
   have kU:Keep (fun j=>a1≤j∧j < a2) H12 (H12.upd id (some (.cells (xL (LA.set (ai*7+6) (z - 1))) true))):=(Keep.refl (fun j=>a1≤j∧j < a2) _).upd (.inr hid) _
   obtain ⟨y,y1,y2,y3,y4,y5⟩:=S.endA (n:=x.n) hEl (na':=x.arcs.length) (LA':=LA.set (ai*7+6) (z - 1)) (by rw [List.length_set]; exact hAl) kU ⟨gN.row,fun j hj=>by have:=S.ai j hj; omega⟩
   exact fin _ _ _ _ _ _ y (kB.upd (.inl (by omega)) _) y5 y1 (small y y2 y3 y4)
  ·have hcase:True:=trivial
   obtain ⟨idu,q1,q2,q3,q4,q5,q6⟩:=Own.slotN S.ur.own (n:=x.rank.length) (j:=k) (k:=.i64) (by omega) (by omega) hkl
   rw [Nat.mul_one] at q4
   have hidu:=S.ur.inA idu q1
   obtain ⟨r,hr⟩:∃ r,us[k]? = some r:=⟨us[k]'(by omega),by simp⟩
   obtain ⟨l,hl⟩:∃ l,x.up[k]? = some l:=⟨x.up[k]'(by omega),by simp⟩
   have hml:=List.mem_of_getElem? hl
   have gr:=S.ur.rows k r l hr hl
   have ir:=S.ur.inR k r hr
   have lr:=gr.row.len1
   rw [xE] at lr
   have brr:=gr.beq
   have hap:=S.ur.apart k r
   have hll:=b8 l hml
   simp (disch:=first | omega | (simp only [nx] <;> omega) | fail) only [vaw,h,Int.reduceEq,zJ,ob,lA,q4,q5,hr,Nat.reduceAdd,Nat.reduceMul,Nat.reduceLeDiff,Nat.reduceEqDiff,↓reduceIte]
   refine yE (n:=(x.arcs.length:Int)+2) rfl (by omega) (by omega) ?_
   have z1:=Int.emod_nonneg v (show (x.arcs.length:Int)+2≠0 by omega)
   have z2:=Int.emod_lt_of_pos v (show 0 < (x.arcs.length:Int)+2 by omega)
   generalize v % ((x.arcs.length:Int)+2)=z at *
   simp (disch:=first | omega | (simp only [nx] <;> omega) | fail) only [vaw,ob,q4,q5,hr,xF bu,xF brr,Nat.reduceAdd,Nat.reduceMul,Nat.reduceLeDiff,Nat.reduceEqDiff,↓reduceIte]
   have kN:Keep Nothing H12 (H12.new (.cells [.int .i64 (z - 1)] true)):=(Keep.refl _ _).new _
   refine vK (n:=l.length) (k:=1) (gr.kept kN) (y:=H12.next) (by simp (disch:=first | omega | (simp only [nx] <;> omega) | fail) only [xI]; rfl) rfl (by omega) (by omega) (by rw [xE]; omega) (by omega) (by omega) ?_ (by first | omega | (simp only [xB,xC]; omega)) (Nat.le_refl _) (fun _ _ _=>rfl)
   intro r' H14 n14 k14 g14 s14
   obtain ⟨y',s14,hy'⟩:=s14
   simp only [xB] at n14 k14 hy'
   have cr:=g14.cells
   have k14':∀ j,j < H12.next→sid r≠some j→H14.obj j=H12.obj j:=fun j h1 h2=>by rw [k14 j (by omega) h2,xX (by omega)]
   have ob14:H14.obj H.next=some (.cells [.int .i64 x.n,ew,rv,av,uv,dv] true):=by rw [k14' _ (by omega) (fun e=>by have:=ir _ e; omega)]; exact ob
   have or14:=(k14' (H.next+1) (by omega) (fun e=>by have:=ir _ e; omega)).trans or
   have q5':H14.obj idu=some (.cells us true):=by rw [k14' _ (by omega) (fun e=>hap idu hr e q1)]; exact q5
   have hle:k+1≤us.length:=by omega
   have hsp:=yQ (l:=us) (p:=k) (x:=r') (by omega)
   simp (disch:=first | omega | (simp only [nx] <;> omega) | fail) only [vaw,ob14,or14,q5',q4,cr,hle,hsp,xF bu,Nat.reduceAdd,Nat.reduceMul,Nat.reduceLeDiff,Nat.reduceEqDiff,↓reduceIte]
   have gN:=q6 (H14.upd idu (some (.cells (us.set k r') true))) _ (by simp only [xC]; omega) (xN rfl) (by rw [List.length_set])
   have kU:Keep (fun j=>sid r=some j∨sid uv=some j) H12 (H14.upd idu (some (.cells (us.set k r') true))):=⟨by simp only [xC]; omega,fun j hj hm=>by rw [xQ (fun e=>hm (.inr (by rw [e]; exact q1))),k14' j hj (fun e=>hm (.inl e))]⟩
   have hnew:Row (H14.upd idu (some (.cells (us.set k r') true))) r' 1 (xL (l++[z - 1])):=by
    rw [zF]
    exact g14.row.M (M:=fun j=>j=idu) ((Keep.refl (fun j=>j=idu) _).upd (.inr rfl) _) (fun j hj e=>by rw [s14] at hj; injection hj with hj; omega)
   have hrows:=S.ur.put (lo:=H.next+1+1) (by omega) hr kU (fun j h=>h) gN hnew (fun j hj=>by rw [s14] at hj; injection hj with hj; omega)
   have kV:Keep (fun j=>a2≤j∧j < a3) H12 (H14.upd idu (some (.cells (us.set k r') true))):=kU.mono (fun j _ h=>by rcases h with h | h; exact ir j h; exact S.ur.inA j h)
   obtain ⟨y,y1,y2,y3,y4,y5⟩:=S.endU (n:=x.n) hEl hAl kV hrows
   have hset:∀ l'∈x.up.set k (l++[z - 1]),l'.length≤1000000:=fun l' h'=>by
    rcases List.mem_or_eq_of_mem_set h' with h' | h'
    ·have:=b8 l' h'; omega
    ·subst h'; simp; omega
   exact fin _ _ _ _ _ _ y ⟨by have:=kB.next; simp only [xC]; omega,fun j hj _=>by rw [kU.obj j (by have:=kB.next; omega) (fun e=>by rcases e with e | e; have:=ir _ e; omega; have:=S.ur.inA _ e; omega),kB.old hj]⟩ y5 y1 ⟨by rw [y2]; omega,by rw [y3]; exact hset,by rw [y4]; exact fun l hl=>by have:=b9 l hl; omega⟩
  ·have hcase:True:=trivial
   obtain ⟨idu,q1,q2,q3,q4,q5,q6⟩:=Own.slotN S.dr.own (n:=x.rank.length) (j:=k) (k:=.i64) (by omega) (by omega) hkl
   rw [Nat.mul_one] at q4
   have hidu:=S.dr.inA idu q1
   obtain ⟨r,hr⟩:∃ r,ds[k]? = some r:=⟨ds[k]'(by omega),by simp⟩
   obtain ⟨l,hl⟩:∃ l,x.down[k]? = some l:=⟨x.down[k]'(by omega),by simp⟩
   have hml:=List.mem_of_getElem? hl
   have gr:=S.dr.rows k r l hr hl
   have ir:=S.dr.inR k r hr
   have lr:=gr.row.len1
   rw [xE] at lr
   have brr:=gr.beq
   have hap:=S.dr.apart k r
   have hll:=b9 l hml
   simp (disch:=first | omega | (simp only [nx] <;> omega) | fail) only [vaw,h,Int.reduceEq,zJ,ob,lA,q4,q5,hr,Nat.reduceAdd,Nat.reduceMul,Nat.reduceLeDiff,Nat.reduceEqDiff,↓reduceIte]
   refine yE (n:=(x.arcs.length:Int)+2) rfl (by omega) (by omega) ?_
   have z1:=Int.emod_nonneg v (show (x.arcs.length:Int)+2≠0 by omega)
   have z2:=Int.emod_lt_of_pos v (show 0 < (x.arcs.length:Int)+2 by omega)
   generalize v % ((x.arcs.length:Int)+2)=z at *
   simp (disch:=first | omega | (simp only [nx] <;> omega) | fail) only [vaw,ob,q4,q5,hr,xF bd,xF brr,Nat.reduceAdd,Nat.reduceMul,Nat.reduceLeDiff,Nat.reduceEqDiff,↓reduceIte]
   have kN:Keep Nothing H12 (H12.new (.cells [.int .i64 (z - 1)] true)):=(Keep.refl _ _).new _
   refine vK (n:=l.length) (k:=1) (gr.kept kN) (y:=H12.next) (by simp (disch:=first | omega | (simp only [nx] <;> omega) | fail) only [xI]; rfl) rfl (by omega) (by omega) (by rw [xE]; omega) (by omega) (by omega) ?_ (by first | omega | (simp only [xB,xC]; omega)) (Nat.le_refl _) (fun _ _ _=>rfl)
   intro r' H14 n14 k14 g14 s14
   obtain ⟨y',s14,hy'⟩:=s14
   simp only [xB] at n14 k14 hy'
   have cr:=g14.cells
   have k14':∀ j,j < H12.next→sid r≠some j→H14.obj j=H12.obj j:=fun j h1 h2=>by rw [k14 j (by omega) h2,xX (by omega)]
   have ob14:H14.obj H.next=some (.cells [.int .i64 x.n,ew,rv,av,uv,dv] true):=by rw [k14' _ (by omega) (fun e=>by have:=ir _ e; omega)]; exact ob
   have or14:=(k14' (H.next+1) (by omega) (fun e=>by have:=ir _ e; omega)).trans or
   have q5':H14.obj idu=some (.cells ds true):=by rw [k14' _ (by omega) (fun e=>hap idu hr e q1)]; exact q5
   have hle:k+1≤ds.length:=by omega
   have hsp:=yQ (l:=ds) (p:=k) (x:=r') (by omega)
   simp (disch:=first | omega | (simp only [nx] <;> omega) | fail) only [vaw,ob14,or14,q5',q4,cr,hle,hsp,xF bd,Nat.reduceAdd,Nat.reduceMul,Nat.reduceLeDiff,Nat.reduceEqDiff,↓reduceIte]
   have gN:=q6 (H14.upd idu (some (.cells (ds.set k r') true))) _ (by simp only [xC]; omega) (xN rfl) (by rw [List.length_set])
   have kU:Keep (fun j=>sid r=some j∨sid dv=some j) H12 (H14.upd idu (some (.cells (ds.set k r') true))):=⟨by simp only [xC]; omega,fun j hj hm=>by rw [xQ (fun e=>hm (.inr (by rw [e]; exact q1))),k14' j hj (fun e=>hm (.inl e))]⟩
   have hnew:Row (H14.upd idu (some (.cells (ds.set k r') true))) r' 1 (xL (l++[z - 1])):=by
    rw [zF]
    exact g14.row.M (M:=fun j=>j=idu) ((Keep.refl (fun j=>j=idu) _).upd (.inr rfl) _) (fun j hj e=>by rw [s14] at hj; injection hj with hj; omega)
   have hrows:=S.dr.put (lo:=H.next+1+1) (by omega) hr kU (fun j h=>h) gN hnew (fun j hj=>by rw [s14] at hj; injection hj with hj; omega)
   have kV:Keep (fun j=>a3≤j∧j < a4) H12 (H14.upd idu (some (.cells (ds.set k r') true))):=kU.mono (fun j _ h=>by rcases h with h | h; exact ir j h; exact S.dr.inA j h)
   obtain ⟨y,y1,y2,y3,y4,y5⟩:=S.endD (n:=x.n) hEl hAl kV hrows
   have hset:∀ l'∈x.down.set k (l++[z - 1]),l'.length≤1000000:=fun l' h'=>by
    rcases List.mem_or_eq_of_mem_set h' with h' | h'
    ·have:=b9 l' h'; omega
    ·subst h'; simp; omega
   exact fin _ _ _ _ _ _ y ⟨by have:=kB.next; simp only [xC]; omega,fun j hj _=>by rw [kU.obj j (by have:=kB.next; omega) (fun e=>by rcases e with e | e; have:=ir _ e; omega; have:=S.dr.inA _ e; omega),kB.old hj]⟩ y5 y1 ⟨by rw [y2]; omega,by rw [y3]; exact fun l hl=>by have:=b8 l hl; omega,by rw [y4]; exact hset⟩
  ·have hcase:True:=trivial
   obtain ⟨idu,q1,q2,q3,q4,q5,q6⟩:=Own.slotN S.ur.own (n:=x.rank.length) (j:=k) (k:=.i64) (by omega) (by omega) hkl
   rw [Nat.mul_one] at q4
   have hidu:=S.ur.inA idu q1
   obtain ⟨r,hr⟩:∃ r,us[k]? = some r:=⟨us[k]'(by omega),by simp⟩
   obtain ⟨l,hl⟩:∃ l,x.up[k]? = some l:=⟨x.up[k]'(by omega),by simp⟩
   have hml:=List.mem_of_getElem? hl
   have gr:=S.ur.rows k r l hr hl
   have ir:=S.ur.inR k r hr
   have lr:=gr.row.len1
   rw [xE] at lr
   have brr:=gr.beq
   have hap:=S.ur.apart k r
   have hll:=b8 l hml
   have hpos:(0:Int) < l.length∨¬ (0:Int) < l.length:=by omega
   rcases hpos with hpos | hpos
   rotate_left
   ·simp (disch:=first | omega | (simp only [nx] <;> omega) | fail) only [vaw,h,Int.reduceEq,zJ,ob,or,q4,q5,hr,lr,hpos,Nat.reduceAdd,Nat.reduceMul,Nat.reduceLeDiff,Nat.reduceEqDiff,↓reduceIte]
    exact same
   obtain ⟨r',t1,t2,t3⟩:=gr.rowC.from (n:=l.length) (k:=1) (kd:=.i64) (by omega) (by rw [xE]; omega) (by omega)
   have t1':wB 1 r (some (.int .i64 1)) none none=some r':=t1
   have t2':Row H12 r' 1 (xL (l.drop 1)):=by have:=t2.1; simpa [xL,List.map_drop] using this
   have cr:=t2'.cells
   have hle:k+1≤us.length:=by omega
   have hsp:=yQ (l:=us) (p:=k) (x:=r') (by omega)
   have hnb:idu≠H.next:=by omega
   have hnb1:idu≠H.next+1:=by omega
   simp (disch:=first | omega | (simp only [nx] <;> omega) | fail) only [vaw,h,Int.reduceEq,zJ,ob,or,q4,q5,hr,lr,hpos,t1',cr,hle,hsp,hnb,hnb1,xF bu,xF brr,Nat.reduceAdd,Nat.reduceMul,Nat.reduceLeDiff,Nat.reduceEqDiff,↓reduceIte]
   have gN:=q6 (H12.upd idu (some (.cells (us.set k r') true))) _ (by simp only [xC]; omega) (xN rfl) (by rw [List.length_set])
   have kU:Keep (fun j=>sid r=some j∨sid uv=some j) H12 (H12.upd idu (some (.cells (us.set k r') true))):=(Keep.refl (fun j=>sid r=some j∨sid uv=some j) _).upd (.inr (.inr q1)) _
   have hnew:Row (H12.upd idu (some (.cells (us.set k r') true))) r' 1 (xL (l.drop 1)):=t2'.M (M:=fun j=>j=idu) ((Keep.refl (fun j=>j=idu) _).upd (.inr rfl) _) (fun j hj e=>by rw [t3] at hj; exact hap j hr hj (by rw [e]; exact q1))
   have hrows:=S.ur.put (lo:=H.next+1+1) (by omega) hr kU (fun j h=>h) gN hnew (fun j hj=>by rw [t3] at hj; have:=ir j hj; omega)
   have kV:Keep (fun j=>a2≤j∧j < a3) H12 (H12.upd idu (some (.cells (us.set k r') true))):=kU.mono (fun j _ h=>by rcases h with h | h; exact ir j h; exact S.ur.inA j h)
   obtain ⟨y,y1,y2,y3,y4,y5⟩:=S.endU (n:=x.n) hEl hAl kV hrows
   have hset:∀ l'∈x.up.set k (l.drop 1),l'.length≤1000000:=fun l' h'=>by
    rcases List.mem_or_eq_of_mem_set h' with h' | h'
    ·have:=b8 l' h'; omega
    ·subst h'; simp; omega
   exact fin _ _ _ _ _ _ y ⟨by have:=kB.next; simp only [xC]; omega,fun j hj _=>by rw [kU.obj j (by have:=kB.next; omega) (fun e=>by rcases e with e | e; have:=ir _ e; omega; have:=S.ur.inA _ e; omega),kB.old hj]⟩ y5 y1 ⟨by rw [y2]; omega,by rw [y3]; exact hset,by rw [y4]; exact fun l hl=>by have:=b9 l hl; omega⟩
  ·have hcase:True:=trivial
   obtain ⟨idu,q1,q2,q3,q4,q5,q6⟩:=Own.slotN S.dr.own (n:=x.rank.length) (j:=k) (k:=.i64) (by omega) (by omega) hkl
   rw [Nat.mul_one] at q4
   have hidu:=S.dr.inA idu q1
   obtain ⟨r,hr⟩:∃ r,ds[k]? = some r:=⟨ds[k]'(by omega),by simp⟩
   obtain ⟨l,hl⟩:∃ l,x.down[k]? = some l:=⟨x.down[k]'(by omega),by simp⟩
   have hml:=List.mem_of_getElem? hl
   have gr:=S.dr.rows k r l hr hl
   have ir:=S.dr.inR k r hr
   have lr:=gr.row.len1
   rw [xE] at lr
   have brr:=gr.beq
   have hap:=S.dr.apart k r
   have hll:=b9 l hml
   have hpos:(0:Int) < l.length∨¬ (0:Int) < l.length:=by omega
   rcases hpos with hpos | hpos
   rotate_left
   ·simp (disch:=first | omega | (simp only [nx] <;> omega) | fail) only [vaw,h,Int.reduceEq,zJ,ob,or,q4,q5,hr,lr,hpos,Nat.reduceAdd,Nat.reduceMul,Nat.reduceLeDiff,Nat.reduceEqDiff,↓reduceIte]
    exact same
   obtain ⟨m,hm⟩:∃ m:Nat,(l.length:Int) - 1=m:=⟨l.length - 1,by omega⟩
   obtain ⟨r',t1,t2,t3⟩:=gr.rowC.upto (n:=l.length) (k:=m) (kd:=.i64) (by omega) (by rw [xE]; omega) (by omega)
   have t1':wB 1 r none (some (.int .i64 ((l.length:Int) - 1))) none=some r':=by rw [hm]; exact t1
   have t2':Row H12 r' 1 (xL (l.take m)):=by have:=t2.1; simpa [xL,List.map_take] using this
   have cr:=t2'.cells
   have hle:k+1≤ds.length:=by omega
   have hsp:=yQ (l:=ds) (p:=k) (x:=r') (by omega)
   have hnb:idu≠H.next:=by omega
   have hnb1:idu≠H.next+1:=by omega
   simp (disch:=first | omega | (simp only [nx] <;> omega) | fail) only [vaw,h,Int.reduceEq,zJ,ob,or,q4,q5,hr,lr,hpos,t1',cr,hle,hsp,hnb,hnb1,xF bd,xF brr,Nat.reduceAdd,Nat.reduceMul,Nat.reduceLeDiff,Nat.reduceEqDiff,↓reduceIte]
   have gN:=q6 (H12.upd idu (some (.cells (ds.set k r') true))) _ (by simp only [xC]; omega) (xN rfl) (by rw [List.length_set])
   have kU:Keep (fun j=>sid r=some j∨sid dv=some j) H12 (H12.upd idu (some (.cells (ds.set k r') true))):=(Keep.refl (fun j=>sid r=some j∨sid dv=some j) _).upd (.inr (.inr q1)) _
   have hnew:Row (H12.upd idu (some (.cells (ds.set k r') true))) r' 1 (xL (l.take m)):=t2'.M (M:=fun j=>j=idu) ((Keep.refl (fun j=>j=idu) _).upd (.inr rfl) _) (fun j hj e=>by rw [t3] at hj; exact hap j hr hj (by rw [e]; exact q1))
   have hrows:=S.dr.put (lo:=H.next+1+1) (by omega) hr kU (fun j h=>h) gN hnew (fun j hj=>by rw [t3] at hj; have:=ir j hj; omega)
   have kV:Keep (fun j=>a3≤j∧j < a4) H12 (H12.upd idu (some (.cells (ds.set k r') true))):=kU.mono (fun j _ h=>by rcases h with h | h; exact ir j h; exact S.dr.inA j h)
   obtain ⟨y,y1,y2,y3,y4,y5⟩:=S.endD (n:=x.n) hEl hAl kV hrows
   have hset:∀ l'∈x.down.set k (l.take m),l'.length≤1000000:=fun l' h'=>by
    rcases List.mem_or_eq_of_mem_set h' with h' | h'
    ·have:=b9 l' h'; omega
    ·subst h'; simp; omega
   exact fin _ _ _ _ _ _ y ⟨by have:=kB.next; simp only [xC]; omega,fun j hj _=>by rw [kU.obj j (by have:=kB.next; omega) (fun e=>by rcases e with e | e; have:=ir _ e; omega; have:=S.dr.inA _ e; omega),kB.old hj]⟩ y5 y1 ⟨by rw [y2]; omega,by rw [y3]; exact fun l hl=>by have:=b8 l hl; omega,by rw [y4]; exact hset⟩
  ·obtain ⟨m,hm⟩:∃ m:Nat,(us.length:Int) - 1=m:=⟨us.length - 1,by omega⟩
   obtain ⟨uv2,t1,t2,t3⟩:=S.ur.own.rowC.upto (n:=us.length) (k:=m) (kd:=.i64) (by omega) (by omega) (by omega)
   rw [Nat.mul_one] at t2
   have t1':wB 1 uv none (some (.int .i64 ((us.length:Int) - 1))) none=some uv2:=by rw [hm]; exact t1
   have c2:=t2.1.cells
   simp (disch:=first | omega | (simp only [nx] <;> omega) | fail) only [vaw,h,Int.reduceEq,zJ,ob,or,lU,t1',c2,Nat.reduceAdd,Nat.reduceMul,Nat.reduceLeDiff,Nat.reduceEqDiff,↓reduceIte]
   have kU:Keep (fun j=>a2≤j∧j < a3) H12 H12:=Keep.refl _ _
   have hrows:FromRows (H.next+1+1) H12 uv2 (x.up.take m):=by
    refine ⟨us.take m,⟨t2.1,fun j hj=>by rw [t3] at hj; have:=S.ur.inA j hj; omega⟩,by simp; omega,fun i r l e1 e2=>?_⟩
    rw [List.getElem?_take] at e1 e2
    split at e1
    ·rename_i him
     rw [if_pos him] at e2
     exact ⟨(S.ur.rows i r l e1 e2).row,fun j hj=>by have:=S.ur.inR i r e1 j hj; omega⟩
    ·cases e1
   obtain ⟨y,y1,y2,y3,y4,y5⟩:=S.endU (n:=x.n) hEl hAl kU hrows
   have y6:=y5.M (M:=fun j=>j=H.next) ((Keep.refl (fun j=>j=H.next) _).upd (.inr rfl) (some (.cells [.int .i64 x.n,ew,rv,av,uv2,dv] true))) (fun j e=>by omega)
   exact fin _ _ _ _ _ _ y (kB.upd (.inl (by omega)) _) y6 y1 ⟨by rw [y2]; omega,by rw [y3]; exact fun l hl=>by have:=b8 l (List.mem_of_mem_take hl); omega,by rw [y4]; exact fun l hl=>by have:=b9 l hl; omega⟩
  ·simp (disch:=first | omega | (simp only [nx] <;> omega) | fail) only [vaw,h,Int.reduceEq,zJ,ob,Nat.reduceAdd,Nat.reduceMul,Nat.reduceLeDiff,Nat.reduceEqDiff,↓reduceIte]
   have kN:Keep Nothing H12 (H12.new (.cells [.int .i64 (-1)] true)):=(Keep.refl _ _).new _
   refine vK (n:=x.rank.length) (k:=1) (S.rr.kept kN) (y:=H12.next) (by simp (disch:=first | omega | (simp only [nx] <;> omega) | fail) only [xI]; rfl) rfl (by omega) (by omega) (by rw [xE]; omega) (by omega) (by omega) ?_ (by first | omega | (simp only [xB,xC]; omega)) (Nat.le_refl _) (fun _ _ _=>rfl)
   intro rv2 H14 n14 k14 g14 s14
   obtain ⟨y',s14,hy'⟩:=s14
   simp only [xB] at n14 k14 hy'
   have cr:=g14.cells
   have k14':∀ j,j < H12.next→sid rv≠some j→H14.obj j=H12.obj j:=fun j h1 h2=>by rw [k14 j (by omega) h2,xX (by omega)]
   have ob14:H14.obj H.next=some (.cells [.int .i64 x.n,ew,rv,av,uv,dv] true):=by rw [k14' _ (by omega) (fun e=>by have:=S.ri _ e; omega)]; exact ob
   have or14:=(k14' (H.next+1) (by omega) (fun e=>by have:=S.ri _ e; omega)).trans or
   simp (disch:=first | omega | (simp only [nx] <;> omega) | fail) only [vaw,ob14,or14,cr,Nat.reduceAdd,Nat.reduceMul,Nat.reduceLeDiff,Nat.reduceEqDiff,↓reduceIte]
   have kU:Keep (fun j=>H.next+1+1≤j∧j < a1) H12 H14:=⟨by omega,fun j hj hm=>k14' j hj (fun e=>hm (S.ri j e))⟩
   obtain ⟨y,y1,y2,y3,y4,y5⟩:=S.endR (n:=x.n) (R':=x.rank++[-1]) hEl hAl kU ⟨by rw [zF]; exact g14.row,fun j hj=>by rw [s14] at hj; injection hj with hj; omega⟩
   have y6:=y5.M (M:=fun j=>j=H.next) ((Keep.refl (fun j=>j=H.next) _).upd (.inr rfl) (some (.cells [.int .i64 x.n,ew,rv2,av,uv,dv] true))) (fun j e=>by omega)
   exact fin _ _ _ _ _ _ y ((Keep.mk (by have:=kB.next; omega) (fun j hj _=>by rw [k14' j (by have:=kB.next; omega) (fun e=>by have:=S.ri _ e; omega),kB.old hj]):Keep Nothing H H14).upd (.inl (by omega)) _) y6 y1 ⟨by rw [y2]; simp; omega,by rw [y3]; exact fun l hl=>by have:=b8 l hl; omega,by rw [y4]; exact fun l hl=>by have:=b9 l hl; omega⟩
  ·rcases hna with hna | hna
   rotate_left
   ·simp (disch:=first | omega | (simp only [nx] <;> omega) | fail) only [vaw,h,Int.reduceEq,zJ,hna,ob,or,Nat.reduceAdd,Nat.reduceMul,Nat.reduceLeDiff,Nat.reduceEqDiff,↓reduceIte]
    exact same
   have hal':=hai hna
   obtain ⟨id,q1,q2,q3,q4,q5,q6⟩:=Own.slotN S.ar (n:=x.arcs.length) (j:=ai) (k:=.i64) (by omega) (by rw [xE]; omega) hal'
   have hle:ai*7+7≤LA.length:=by omega
   have hvl:(((xL LA).drop (ai*7)).take 7).length=7:=by simp [xL]; omega
   have hcut:((xL LA).drop (ai*7)).take 7=xL ((LA.drop (ai*7)).take 7):=by simp [xL,List.map_drop,List.map_take]
   have hsp:yV [.int .i64 0,.int .i64 0,.int .i64 0,.int .i64 0,.int .i64 0,.int .i64 0,.int .i64 0] 0 (((xL LA).drop (ai*7)).take 7)=((xL LA).drop (ai*7)).take 7:=by unfold yV; rw [hvl]; simp
   generalize hvs:((xL LA).drop (ai*7)).take 7=vs at *
   simp (disch:=first | omega | (simp only [nx] <;> omega) | fail) only [vaw,h,Int.reduceEq,zJ,hna,ob,q4,q5,lLA,hle,hvs,hvl,hsp,xF ba,Nat.reduceAdd,Nat.reduceMul,Nat.reduceLeDiff,Nat.reduceEqDiff,↓reduceIte]
   have kN:Keep Nothing H12 (H12.new (.cells vs true)):=(Keep.refl _ _).new _
   refine vK (n:=x.arcs.length) (k:=1) (S.ar.kept kN) (y:=H12.next) (by simp (disch:=first | omega | (simp only [nx] <;> omega) | fail) only [xI]; rfl) (by rw [hvl]) (by omega) (by omega) (by rw [xE]; omega) (by omega) (by omega) ?_ (by first | omega | (simp only [xB,xC]; omega)) (Nat.le_refl _) (fun _ _ _=>rfl)
   intro av2 H14 n14 k14 g14 s14
   obtain ⟨y',s14,hy'⟩:=s14
   simp only [xB] at n14 k14 hy'
   have cr:=g14.cells
   have k14':∀ j,j < H12.next→sid av≠some j→H14.obj j=H12.obj j:=fun j h1 h2=>by rw [k14 j (by omega) h2,xX (by omega)]
   have ob14:H14.obj H.next=some (.cells [.int .i64 x.n,ew,rv,av,uv,dv] true):=by rw [k14' _ (by omega) (fun e=>by have:=S.ai _ e; omega)]; exact ob
   have or14:=(k14' (H.next+1) (by omega) (fun e=>by have:=S.ai _ e; omega)).trans or
   simp (disch:=first | omega | (simp only [nx] <;> omega) | fail) only [vaw,ob14,or14,cr,Nat.reduceAdd,Nat.reduceMul,Nat.reduceLeDiff,Nat.reduceEqDiff,↓reduceIte]
   have kU:Keep (fun j=>a1≤j∧j < a2) H12 H14:=⟨by omega,fun j hj hm=>k14' j hj (fun e=>hm (S.ai j e))⟩
   obtain ⟨y,y1,y2,y3,y4,y5⟩:=S.endA (n:=x.n) hEl (na':=x.arcs.length+1) (LA':=LA++(LA.drop (ai*7)).take 7) (by simp; omega) kU ⟨by rw [zF,← hcut]; exact g14.row,fun j hj=>by rw [s14] at hj; injection hj with hj; omega⟩
   have y6:=y5.M (M:=fun j=>j=H.next) ((Keep.refl (fun j=>j=H.next) _).upd (.inr rfl) (some (.cells [.int .i64 x.n,ew,rv,av2,uv,dv] true))) (fun j e=>by omega)
   exact fin _ _ _ _ _ _ y ((Keep.mk (by have:=kB.next; omega) (fun j hj _=>by rw [k14' j (by have:=kB.next; omega) (fun e=>by have:=S.ai _ e; omega),kB.old hj]):Keep Nothing H H14).upd (.inl (by omega)) _) y6 y1 (small y y2 y3 y4)
  ·have hpos:(0:Int) < x.es.length∨¬ (0:Int) < x.es.length:=by omega
   rcases hpos with hpos | hpos
   rotate_left
   ·simp (disch:=first | omega | (simp only [nx] <;> omega) | fail) only [vaw,h,Int.reduceEq,zJ,ob,or,lE,hpos,Nat.reduceAdd,Nat.reduceMul,Nat.reduceLeDiff,Nat.reduceEqDiff,↓reduceIte]
    exact same
   simp (disch:=first | omega | (simp only [nx] <;> omega) | fail) only [vaw,h,Int.reduceEq,zJ,ob,lE,hpos,Nat.reduceAdd,Nat.reduceMul,Nat.reduceLeDiff,Nat.reduceEqDiff,↓reduceIte]
   refine yE (n:=x.es.length) rfl (by omega) (by omega) ?_
   have e1:=Int.emod_nonneg at_ (show (x.es.length:Int)≠0 by omega)
   have e2:=Int.emod_lt_of_pos at_ (show 0 < (x.es.length:Int) by omega)
   obtain ⟨ei,hei⟩:∃ ei:Nat,at_ % (x.es.length:Int)=ei:=⟨(at_ % (x.es.length:Int)).toNat,by omega⟩
   rw [hei] at e2 ⊢
   simp (disch:=first | omega | (simp only [nx] <;> omega) | fail) only [vaw,ob,xF be,Nat.reduceAdd,Nat.reduceMul,Nat.reduceLeDiff,Nat.reduceEqDiff,↓reduceIte]
   refine yE (n:=9) rfl (by omega) (by omega) ?_
   generalize v % 9=z at *
   obtain ⟨id,q1,q2,q3,q4,q5,q6⟩:=Own.slotN S.er (n:=x.es.length) (j:=ei) (k:=.i64) (by omega) (by rw [xE]; omega) (by omega)
   have hid:=S.ei id q1
   have hle:ei*4+3+1≤LE.length:=by omega
   have hset:=wQ (L:=LE) (p:=ei*4+3) (x:=z) (by omega)
   simp (disch:=first | omega | (simp only [nx] <;> omega) | fail) only [vaw,ob,or,xF be,q4,q5,lLE,hle,hset,Nat.reduceAdd,Nat.reduceMul,Nat.reduceLeDiff,Nat.reduceEqDiff,↓reduceIte]
   have gN:=q6 (H12.upd id (some (.cells (xL (LE.set (ei*4+3) z)) true))) _ (by simp only [xC]; omega) (xN rfl) (by rw [xE,List.length_set,xE])
   have kU:Keep (fun j=>a4≤j∧j < a5) H12 (H12.upd id (some (.cells (xL (LE.set (ei*4+3) z)) true))):=(Keep.refl (fun j=>a4≤j∧j < a5) _).upd (.inr hid) _
   obtain ⟨y,y1,y2,y3,y4,y5⟩:=S.endE (n:=x.n) (ne:=x.es.length) hAl (LE':=LE.set (ei*4+3) z) (by rw [List.length_set]; exact hEl) kU ⟨gN.row,fun j hj=>by have:=S.ei j hj; omega⟩
   exact fin _ _ _ _ _ _ y (kB.upd (.inl (by omega)) _) y5 y1 (small y y2 y3 y4)
end Go.Proofs.YtknhlpmmalcchaaGreat

namespace Go.Proofs.YtknhlpmmalcchaaGreat
open Go Go.VAI
set_option linter.unusedSimpArgs false

theorem few1_ret {n:Int} {ev:AVal} {es:List Edge} {H:AHeap} {Q:AVal→AHeap→Prop} (hr:Row H ev 4 (xG es))
  (hq:∀ b H',Keep Nothing H H'→Q (.bool b) H'):Ret A 15 [.agg [.int .i64 n,ev]] H Q:=by
 refine Ret.of (fn:=F15) rfl ?_
 have hl:=hr.len (n:=es.length) (by omega) (xU es)
 simp (disch:=first | omega | (simp only [nx] <;> omega) | fail) only [vaw,F15,hl,Nat.reduceAdd,Nat.reduceMul,Nat.reduceLeDiff,Nat.reduceEqDiff,↓reduceIte]
 exact hq _ _ ((Keep.refl _ _).new _)
set_option maxRecDepth 20000 in
set_option maxHeartbeats 8000000 in
theorem few_ret {ew rv av uv dv:AVal} {x:Idx} {H:AHeap} {Q:AVal→AHeap→Prop} (hx:IdxAt H ew rv av uv dv x) (hu:x.up.length≤9223372036854775807) (hd:x.down.length≤9223372036854775807)
  (hq:∀ b H',Keep Nothing H H'→(b=true→x.rank.length≤100∧(∀ l∈x.up,l.length≤60)∧∀ l∈x.down,l.length≤60)→Q (.bool b) H'):Ret A 6 [.agg [.int .i64 x.n,ew,rv,av,uv,dv]] H Q:=by
 refine Ret.of (fn:=F6) rfl ?_
 simp (disch:=first | omega | (simp only [nx] <;> omega) | fail) only [vaw,F6,Nat.reduceAdd,Nat.reduceMul,Nat.reduceLeDiff,Nat.reduceEqDiff,↓reduceIte]
 have k0:Keep Nothing H (H.new (.cells [.int .i64 x.n,ew,rv,av,uv,dv] true)):=(Keep.refl _ _).new _
 have o0:(H.new (.cells [.int .i64 x.n,ew,rv,av,uv,dv] true)).obj H.next=some (.cells [.int .i64 x.n,ew,rv,av,uv,dv] true):=yB rfl
 have hx0:=hx.kept k0
 have n0:(H.new (.cells [.int .i64 x.n,ew,rv,av,uv,dv] true)).next=H.next+1:=rfl
 generalize H.new (.cells [.int .i64 x.n,ew,rv,av,uv,dv] true)=H0 at *
 have lu:=hx0.up.len
 have ld:=hx0.down.len
 refine xS (fun m t H'=>∃ (i:Nat),m=x.up.length - i∧i≤x.up.length∧(∀ (j:Nat) l,j < i→x.up[j]? = some l→l.length≤60)∧t=(xP 1 (.ptr H.next 0 :: xP 1 (.int .i64 i :: xP 56 ([]))):xJ)∧H0=H') x.up.length ?_ ?_
 ·exact ⟨0,rfl,by omega,fun j l h=>absurd h (by omega),rfl,rfl⟩
 ·rintro m t H' ⟨i,rfl,hi,hus,rfl,rfl⟩
  by_cases hc:(i:Int) < x.up.length
  ·obtain ⟨l,hl⟩:∃ l,x.up[i]? = some l:=⟨_,List.getElem?_eq_getElem (by omega)⟩
   obtain ⟨j,g,r,b1,b2,b3,b4⟩:=hx0.up.at hl (k:=.i64)
   have ll:=b4.len1
   rw [xE] at ll
   by_cases h60:(60:Int) < l.length
   ·simp (disch:=first | omega | (simp only [nx] <;> omega) | fail) only [vaw,hc,lu,o0,b1,b3,ll,h60,gt_iff_lt,Nat.reduceAdd,Nat.reduceMul,Nat.reduceLeDiff,Nat.reduceEqDiff,↓reduceIte]
    exact hq false _ k0 (fun h=>by cases h)
   ·simp (disch:=first | omega | (simp only [nx] <;> omega) | fail) only [vaw,hc,lu,o0,b1,b3,ll,h60,gt_iff_lt,Nat.reduceAdd,Nat.reduceMul,Nat.reduceLeDiff,Nat.reduceEqDiff,↓reduceIte]
    have hus1:∀ (j:Nat) l,j < i+1→x.up[j]? = some l→l.length≤60:=fun j l' hj e=>by
     by_cases hji:j=i
     ·subst hji; rw [hl] at e; injection e with e; subst e; omega
     ·exact hus j l' (by omega) e
    first | exact ⟨x.up.length - (i+1),by omega,i+1,rfl,by omega,hus1,rfl,rfl⟩ | exact ⟨x.up.length - (i+1),by omega,i+1,rfl,by omega,hus1,rfl⟩
  ·have husA:∀ l∈x.up,l.length≤60:=fun l hl=>by
    obtain ⟨j,hj⟩:=List.getElem?_of_mem hl
    exact hus j l (by have:=(List.getElem?_eq_some_iff.1 hj).1; omega) hj
   simp (disch:=first | omega | (simp only [nx] <;> omega) | fail) only [vaw,hc,lu,o0,Nat.reduceAdd,Nat.reduceMul,Nat.reduceLeDiff,Nat.reduceEqDiff,↓reduceIte]
   refine xS (fun m t H'=>∃ (i:Nat),m=x.down.length - i∧i≤x.down.length∧(∀ (j:Nat) l,j < i→x.down[j]? = some l→l.length≤60)∧t=(xP 1 (.ptr H.next 0 :: xP 2 (.int .i64 i :: xP 55 ([]))):xJ)∧H0=H') x.down.length ?_ ?_
   ·exact ⟨0,rfl,by omega,fun j l h=>absurd h (by omega),rfl,rfl⟩
   ·rintro m t H' ⟨i,rfl,hi,hds,rfl,rfl⟩
    by_cases hc:(i:Int) < x.down.length
    ·obtain ⟨l,hl⟩:∃ l,x.down[i]? = some l:=⟨_,List.getElem?_eq_getElem (by omega)⟩
     obtain ⟨j,g,r,b1,b2,b3,b4⟩:=hx0.down.at hl (k:=.i64)
     have ll:=b4.len1
     rw [xE] at ll
     by_cases h60:(60:Int) < l.length
     ·simp (disch:=first | omega | (simp only [nx] <;> omega) | fail) only [vaw,hc,ld,o0,b1,b3,ll,h60,gt_iff_lt,Nat.reduceAdd,Nat.reduceMul,Nat.reduceLeDiff,Nat.reduceEqDiff,↓reduceIte]
      exact hq false _ k0 (fun h=>by cases h)
     ·simp (disch:=first | omega | (simp only [nx] <;> omega) | fail) only [vaw,hc,ld,o0,b1,b3,ll,h60,gt_iff_lt,Nat.reduceAdd,Nat.reduceMul,Nat.reduceLeDiff,Nat.reduceEqDiff,↓reduceIte]
      have hds1:∀ (j:Nat) l,j < i+1→x.down[j]? = some l→l.length≤60:=fun j l' hj e=>by
       by_cases hji:j=i
       ·subst hji; rw [hl] at e; injection e with e; subst e; omega
       ·exact hds j l' (by omega) e
      first | exact ⟨x.down.length - (i+1),by omega,i+1,rfl,by omega,hds1,rfl,rfl⟩ | exact ⟨x.down.length - (i+1),by omega,i+1,rfl,by omega,hds1,rfl⟩
    ·have hdsA:∀ l∈x.down,l.length≤60:=fun l hl=>by
      obtain ⟨j,hj⟩:=List.getElem?_of_mem hl
      exact hds j l (by have:=(List.getElem?_eq_some_iff.1 hj).1; omega) hj
     simp (disch:=first | omega | (simp only [nx] <;> omega) | fail) only [vaw,hc,ld,o0,Nat.reduceAdd,Nat.reduceMul,Nat.reduceLeDiff,Nat.reduceEqDiff,↓reduceIte]
     refine few1_ret hx0.es fun b1 H1 k1=>?_
     have o1:=(k1.old (by omega)).trans o0
     have hx1:=hx0.kept k1
     have lr:=hx1.rank.len1
     rw [xE] at lr
     have la:=hx1.arcs.len (n:=x.arcs.length) (by omega) (yJ x.arcs)
     have lu1:=hx1.up.len
     have ld1:=hx1.down.len
     have kk:=k0.trans k1
     cases b1 with
     | false =>
      simp (disch:=first | omega | (simp only [nx] <;> omega) | fail) only [vaw,Nat.reduceAdd,Nat.reduceMul,Nat.reduceLeDiff,Nat.reduceEqDiff,↓reduceIte]
      exact hq false _ kk (fun h=>by cases h)
     | true =>
      by_cases t1:(x.rank.length:Int)≤100
      ·by_cases t2:(x.arcs.length:Int)≤200
       ·by_cases t3:(x.up.length:Int)≤100
        ·simp (disch:=first | omega | (simp only [nx] <;> omega) | fail) only [vaw,o1,lr,la,lu1,ld1,t1,t2,t3,Nat.reduceAdd,Nat.reduceMul,Nat.reduceLeDiff,Nat.reduceEqDiff,↓reduceIte]
         exact hq _ _ kk (fun _=>⟨by omega,husA,hdsA⟩)
        ·simp (disch:=first | omega | (simp only [nx] <;> omega) | fail) only [vaw,o1,lr,la,lu1,ld1,t1,t2,t3,Nat.reduceAdd,Nat.reduceMul,Nat.reduceLeDiff,Nat.reduceEqDiff,↓reduceIte]
         exact hq false _ kk (fun h=>by cases h)
       ·simp (disch:=first | omega | (simp only [nx] <;> omega) | fail) only [vaw,o1,lr,la,lu1,ld1,t1,t2,Nat.reduceAdd,Nat.reduceMul,Nat.reduceLeDiff,Nat.reduceEqDiff,↓reduceIte]
        exact hq false _ kk (fun h=>by cases h)
      ·simp (disch:=first | omega | (simp only [nx] <;> omega) | fail) only [vaw,o1,lr,la,lu1,ld1,t1,Nat.reduceAdd,Nat.reduceMul,Nat.reduceLeDiff,Nat.reduceEqDiff,↓reduceIte]
       exact hq false _ kk (fun h=>by cases h)
theorem says_eq {a b:Bool} {p:Prop} (h1:Says a p) (h2:Says b p):a=b:=by
 cases a with
 | true=>exact (h2.2 (h1.1 rfl)).symm
 | false =>
  cases b with
  | false=>rfl
  | true=>exact h1.2 (h2.1 rfl)

set_option maxRecDepth 20000 in
set_option maxHeartbeats 8000000 in
theorem hierChecks_ret {raw:Idx} {ew0 rv0 av0 uv0 dv0:AVal} {size modes which at_ v:Int} {ns:AVal} {xs:List Int} {H:AHeap} (hraw:IdxAt H ew0 rv0 av0 uv0 dv0 raw) (hu:raw.up.length≤9223372036854775807) (hd:raw.down.length≤9223372036854775807)
  (_:I64 size) (hr:Row H ns 1 (xL xs)) (hx:∀ x∈xs,I64 x) (hx2:xs.length≤9223372036854775807) (_:I64 modes) (_:I64 which) (_:I64 at_) (hv:I64 v) :
  Ret A 3 [.agg [.int .i64 raw.n,ew0,rv0,av0,uv0,dv0],.int .i64 size,ns,.int .i64 modes,.int .i64 which,.int .i64 at_,.int .i64 v] H (fun v _=>v=.bool true):=by
 refine Ret.of (fn:=F3) rfl ?_
 have c0:=hraw.es.cells
 have hbq:=hraw.beq (n:=raw.n)
 simp (disch:=first | omega | (simp only [nx] <;> omega) | fail) only [vaw,F3,Nat.reduceAdd,Nat.reduceMul,Nat.reduceLeDiff,Nat.reduceEqDiff,↓reduceIte]
 have k0:Keep Nothing H (H.new (.cells [.int .i64 raw.n,ew0,rv0,av0,uv0,dv0] true)):=(Keep.refl _ _).new _
 have o0:(H.new (.cells [.int .i64 raw.n,ew0,rv0,av0,uv0,dv0] true)).obj H.next=some (.cells [.int .i64 raw.n,ew0,rv0,av0,uv0,dv0] true):=yB rfl
 have n0:(H.new (.cells [.int .i64 raw.n,ew0,rv0,av0,uv0,dv0] true)).next=H.next+1:=rfl
 generalize H.new (.cells [.int .i64 raw.n,ew0,rv0,av0,uv0,dv0] true)=H0 at *
 have hraw:=hraw.kept k0
 have hr:=hr.kept k0
 generalize H.next=p at *
 refine known47_ret fun H1 k1=>?_
 have o1:=(k1.old (by omega)).trans o0
 have n1:=k1.next
 simp (disch:=first | omega | (simp only [nx] <;> omega) | fail) only [vaw,Bool.not_true,o1,Nat.reduceAdd,Nat.reduceMul,Nat.reduceLeDiff,Nat.reduceEqDiff,↓reduceIte]
 refine few_ret (hraw.kept k1) hu hd fun b H2 k2 hb=>?_
 have o2:=(k2.old (by omega)).trans o1
 have n2:=k2.next
 cases b with
 | false=>simp (disch:=first | omega | (simp only [nx] <;> omega) | fail) only [vaw,Nat.reduceAdd,Nat.reduceMul,Nat.reduceLeDiff,Nat.reduceEqDiff,↓reduceIte]
 | true =>
  obtain ⟨hrk,hnu,hnd⟩:=hb rfl
  have hnu:∀ l∈raw.up,l.length≤4611686018427387904:=fun l hl=>Nat.le_trans (hnu l hl) (by omega)
  have hnd:∀ l∈raw.down,l.length≤4611686018427387904:=fun l hl=>Nat.le_trans (hnd l hl) (by omega)
  simp (disch:=first | omega | (simp only [nx] <;> omega) | fail) only [vaw,Nat.reduceAdd,Nat.reduceMul,Nat.reduceLeDiff,Nat.reduceEqDiff,↓reduceIte]
  refine mk_ret ((hr.kept k1).kept k2) hx hx2 fun ev H3 k3 g3=>?_
  have hnet:=mk_net size modes xs
  have hsm:=mk_small size
  generalize mkEs size modes xs=es at *
  generalize mkN size=N at *
  have n3:=k3.next
  simp (disch:=first | omega | (simp only [nx] <;> omega) | fail) only [vaw,Nat.reduceAdd,Nat.reduceMul,Nat.reduceLeDiff,Nat.reduceEqDiff,↓reduceIte]
  refine build_ret g3.row hnet hsm fun ew rv av uv dv H4 k4 h4=>?_
  have n4:=k4.next
  have hal:=idx_allowed hnet hsm
  obtain ⟨sh1,sh2⟩:=allowed_short hal
  have o4:=(k4.old (by omega)).trans ((k3.old (by omega)).trans o2)
  simp (disch:=first | omega | (simp only [nx] <;> omega) | fail) only [vaw,Nat.reduceAdd,Nat.reduceMul,Nat.reduceLeDiff,Nat.reduceEqDiff,↓reduceIte]
  have kC:Keep Nothing H4 ((H4.new (.cells [.int .i64 0,.nilSlice,.nilSlice,.nilSlice,.nilSlice,.nilSlice] true)).upd H4.next (some (.cells [.int .i64 N,ew,rv,av,uv,dv] true))):=((Keep.refl _ _).new _).upd (.inl (Nat.le_refl _)) _
  have oC:((H4.new (.cells [.int .i64 0,.nilSlice,.nilSlice,.nilSlice,.nilSlice,.nilSlice] true)).upd H4.next (some (.cells [.int .i64 N,ew,rv,av,uv,dv] true))).obj H4.next=some (.cells [.int .i64 N,ew,rv,av,uv,dv] true):=xN rfl
  have nC:((H4.new (.cells [.int .i64 0,.nilSlice,.nilSlice,.nilSlice,.nilSlice,.nilSlice] true)).upd H4.next (some (.cells [.int .i64 N,ew,rv,av,uv,dv] true))).next=H4.next+1:=rfl
  generalize (H4.new (.cells [.int .i64 0,.nilSlice,.nilSlice,.nilSlice,.nilSlice,.nilSlice] true)).upd H4.next (some (.cells [.int .i64 N,ew,rv,av,uv,dv] true))=HC at *
  have h5:=h4.kept kC
  refine spoilt_ret (x:=qA N es) h5 hal hv fun y ew2 rv2 av2 uv2 dv2 H5 k5 h6 hyn hys=>?_
  have n5:=k5.next
  have o5:=(k5.old (by omega)).trans ((kC.old (by omega)).trans o4)
  have oC5:=(k5.old (by omega)).trans oC
  simp (disch:=first | omega | (simp only [nx] <;> omega) | fail) only [vaw,Nat.reduceAdd,Nat.reduceMul,Nat.reduceLeDiff,Nat.reduceEqDiff,↓reduceIte]
  have kD:Keep Nothing H5 ((H5.new (.cells [.int .i64 0,.nilSlice,.nilSlice,.nilSlice,.nilSlice,.nilSlice] true)).upd H5.next (some (.cells [.int .i64 (qA N es).n,ew2,rv2,av2,uv2,dv2] true))):=((Keep.refl _ _).new _).upd (.inl (Nat.le_refl _)) _
  have oD:((H5.new (.cells [.int .i64 0,.nilSlice,.nilSlice,.nilSlice,.nilSlice,.nilSlice] true)).upd H5.next (some (.cells [.int .i64 (qA N es).n,ew2,rv2,av2,uv2,dv2] true))).obj H5.next=some (.cells [.int .i64 (qA N es).n,ew2,rv2,av2,uv2,dv2] true):=xN rfl
  have nD:((H5.new (.cells [.int .i64 0,.nilSlice,.nilSlice,.nilSlice,.nilSlice,.nilSlice] true)).upd H5.next (some (.cells [.int .i64 (qA N es).n,ew2,rv2,av2,uv2,dv2] true))).next=H5.next+1:=rfl
  have oCD:=(kD.old (by omega)).trans oC5
  have oRD:=(kD.old (by omega)).trans o5
  simp (disch:=first | omega | (simp only [nx] <;> omega) | fail) only [vaw,o5,Nat.reduceAdd,Nat.reduceMul,Nat.reduceLeDiff,Nat.reduceEqDiff,↓reduceIte]
  generalize (H5.new (.cells [.int .i64 0,.nilSlice,.nilSlice,.nilSlice,.nilSlice,.nilSlice] true)).upd H5.next (some (.cells [.int .i64 (qA N es).n,ew2,rv2,av2,uv2,dv2] true))=HD at *
  have rD:=((((((hraw.kept k1).kept k2).kept k3).kept k4).kept kC).kept k5).kept kD
  have xD:=(h5.kept k5).kept kD
  have yD:=h6.kept kD
  obtain ⟨sh3,sh4,sh5,sh6,sh7,sh8⟩:=sh1
  obtain ⟨ys1,ys2,ys3⟩:=hys
  have hb2:=xD.beq (n:=(N:Int))
  have hb3:=yD.beq (n:=(qA N es).n)
  refine check_ret rD hnu hnd fun b1 H6 k6 s6=>?_
  have n6:=k6.next
  have oR6:=(k6.old (by omega)).trans oRD
  simp (disch:=first | omega | (simp only [nx] <;> omega) | fail) only [vaw,oR6,xF hbq,Nat.reduceAdd,Nat.reduceMul,Nat.reduceLeDiff,Nat.reduceEqDiff,↓reduceIte]
  refine refcheck_ret (rD.kept k6) (by omega) hnu hnd fun b2 H7 k7 s7=>?_
  have n7:=k7.next
  have e12:=says_eq s6 s7
  subst e12
  have oC7:=(k7.old (by omega)).trans ((k6.old (by omega)).trans oCD)
  have oD7:=(k7.old (by omega)).trans ((k6.old (by omega)).trans oD)
  simp (disch:=first | omega | (simp only [nx] <;> omega) | fail) only [vaw,zJ,beq_self_eq_true,oC7,Nat.reduceAdd,Nat.reduceMul,Nat.reduceLeDiff,Nat.reduceEqDiff,↓reduceIte]
  refine check_ret (x:=qA N es) ((xD.kept k6).kept k7) sh7 sh8 fun b3 H8 k8 s8=>?_
  have:=s8.2 hal
  subst this
  have n8:=k8.next
  have oD8:=(k8.old (by omega)).trans oD7
  simp (disch:=first | omega | (simp only [nx] <;> omega) | fail) only [vaw,zJ,oD8,Nat.reduceAdd,Nat.reduceMul,Nat.reduceLeDiff,Nat.reduceEqDiff,↓reduceIte]
  rw [← hyn] at hb3 oD8 ⊢
  refine check_ret (((yD.kept k6).kept k7).kept k8) (fun l hl=>by have:=ys2 l hl; omega) (fun l hl=>by have:=ys3 l hl; omega) fun b4 H9 k9 s9=>?_
  have n9:=k9.next
  have oD9:=(k9.old (by omega)).trans oD8
  simp (disch:=first | omega | (simp only [nx] <;> omega) | fail) only [vaw,zJ,oD9,xF hb3,Nat.reduceAdd,Nat.reduceMul,Nat.reduceLeDiff,Nat.reduceEqDiff,↓reduceIte]
  refine refcheck_ret ((((yD.kept k6).kept k7).kept k8).kept k9) (by omega) (fun l hl=>by have:=ys2 l hl; omega) (fun l hl=>by have:=ys3 l hl; omega) fun b5 H10 k10 s10=>?_
  have e45:=says_eq s9 s10
  subst e45
  simp (disch:=first | omega | (simp only [nx] <;> omega) | fail) only [vaw,zJ,beq_self_eq_true,Nat.reduceAdd,Nat.reduceMul,Nat.reduceLeDiff,Nat.reduceEqDiff,↓reduceIte]
end Go.Proofs.YtknhlpmmalcchaaGreat
