/- Steps of the walk. -/
import Derived.Test.YtknhlpmmalcchaaGreatG3Tc
import Derived.Test.YtknhlpmmalcchaaGreatG3Tb
set_option linter.all false
set_option linter.unusedVariables false
set_option linter.unusedSimpArgs false
namespace Go.Proofs.YtknhlpmmalcchaaGreat
open Go Go.VAI
set_option linter.unusedSimpArgs false

theorem cast3 {N:Nat} {e:Edge} (h:(0≤e.src∧e.src < N)∧(0≤e.dst∧e.dst < N)∧(0≤e.mode∧e.mode < 5)):((((e.src.toNat:Nat):Int),((e.dst.toNat:Nat):Int),((e.mode.toNat:Nat):Int)):Key)=(e.src,e.dst,e.mode):=by
 rw [Int.toNat_of_nonneg h.1.1,Int.toNat_of_nonneg h.2.1.1,Int.toNat_of_nonneg h.2.2.1]
theorem mapCur_nil (N:Nat):MapCur N [] (List.replicate (N*N*5) 0):=by
 refine ⟨by simp,List.nodup_nil,by simp,fun u v m hu hv hm=>?_⟩
 have:=vE hu hv hm
 simp [cv,yW,this]
set_option maxRecDepth 20000 in
set_option maxHeartbeats 4000000 in
theorem first_ret {H:AHeap} {b mid rid uid did gid N:Nat} {es:List Edge} {ew av:AVal} {gone:List Bool} {rank:List Int} {us ds:List AVal} {Q:AVal→AHeap→Prop}
  (h:HLay H b mid rid uid did gid N es ew av [] [] gone rank us ds) (hok:∀ e∈es,EdgeOk N e) (hn:es.length≤400) (hN:N≤21)
  (hq:∀ H' av' ms',Keep (fun j=>j=b∨j=mid∨sid av=some j) H H'→HLay H' b mid rid uid did gid N es ew av' ms' (zD N es (List.replicate (N*N*5) 0) (yO N es es.length)).1 gone rank us ds→MapCur N ms' (zD N es (List.replicate (N*N*5) 0) (yO N es es.length)).2→(∀ j,sid av'=some j→sid av=some j∨H.next≤j)→Q (.tuple []) H') :
  Ret A 32 [.ptr b 0] H Q:=by
 refine Ret.of (fn:=F32) rfl ?_
 obtain ⟨o1,o2,o3,o4,o5,o6⟩:=h.ord
 have hN2:N*N≤21*21:=Nat.mul_le_mul hN hN
 have hle:=h.edges.len (by omega) (xU es)
 have hsa:∀ j,sid av=some j→b+1≤j∧j < H.next:=fun j hj=>h.arcsO.sid_ge hj
 simp (disch:=first | omega | (simp only [nx] <;> omega) | fail) only [vaw,F32,h.bo,hle,Nat.reduceAdd,Nat.reduceMul,Nat.reduceLeDiff,Nat.reduceEqDiff,↓reduceIte]
 have kM:Keep Nothing H (H.new (.amap [])):=(Keep.refl _ _).new _
 have oM:(H.new (.amap [])).obj H.next=some (.amap (yU [])):=yB rfl
 have nM:(H.new (.amap [])).next=H.next+1:=rfl
 generalize H.new (.amap [])=HM at *
 refine xS (fun m t H'=>∃ (i:Nat) (kv:AVal) (lm:List (Key × Int)),m=es.length - i∧i≤es.length∧t=(.ptr b 0 :: xP 1 (.map H.next :: kv :: xP 14 (ew :: .int .i64 es.length :: .int .i64 i :: xP 78 ([]))):xJ)∧Keep Nothing H H'∧H.next < H'.next∧H'.obj H.next=some (.amap (yU lm))∧MapCur N lm (yO N es i)∧Own (H.next+1) H' kv 3 (xZ (lm.map Prod.fst))∧(lm=[]→kv=.nilSlice)) es.length ?_ ?_
 ·exact ⟨0,.nilSlice,[],rfl,by omega,rfl,kM,by omega,oM,mapCur_nil N,.nil,fun _=>rfl⟩
 ·clear oM nM kM
  rintro m t H1 ⟨i,kv,lm,rfl,hi,rfl,k1,n1,m1,c1,g1,z1⟩
  by_cases hc:(i:Int) < es.length
  ·have hil:i < es.length:=by omega
   have he:es[i]? = some es[i]:=by simp [hil]
   have heok:=hok _ (List.getElem_mem hil)
   have hgd:es.getD i default=es[i]:=yS he
   have hbs:yO N es (i+1)=uD N es (yO N es i) i (es.getD i default):=rfl
   rw [hgd] at hbs
   obtain ⟨id1,f1,a1,a2,_,_,_,_,a6⟩:=vC (h.edges.kept k1) he
   generalize es[i]=e at *
   unfold Edge.cells at a6
   have hkid:∀ j,sid kv=some j→H.next+1≤j∧j < H1.next:=fun j hj=>g1.sid_ge hj
   have kA:Keep Nothing H1 ((((H1.new (.cells [.int .i64 0,.int .i64 0,.int .i64 0,.int .i64 0] true)).upd H1.next (some (.cells [.int .i64 e.src,.int .i64 e.dst,.int .i64 e.mode,.int .i64 e.cost] true))).new (.cells [.int .i64 0,.int .i64 0,.int .i64 0] true)).upd (H1.next+1) (some (.cells [.int .i64 e.src,.int .i64 e.dst,.int .i64 e.mode] true))):=((((Keep.refl _ _).new _).upd (.inl (Nat.le_refl _)) _).new _).upd (.inl (by omega)) _
   have oX:((((H1.new (.cells [.int .i64 0,.int .i64 0,.int .i64 0,.int .i64 0] true)).upd H1.next (some (.cells [.int .i64 e.src,.int .i64 e.dst,.int .i64 e.mode,.int .i64 e.cost] true))).new (.cells [.int .i64 0,.int .i64 0,.int .i64 0] true)).upd (H1.next+1) (some (.cells [.int .i64 e.src,.int .i64 e.dst,.int .i64 e.mode] true))).obj H1.next=some (.cells [.int .i64 e.src,.int .i64 e.dst,.int .i64 e.mode,.int .i64 e.cost] true):=by simp (disch:=first | omega | (simp only [nx] <;> omega) | fail) only [xI]
   have oY:((((H1.new (.cells [.int .i64 0,.int .i64 0,.int .i64 0,.int .i64 0] true)).upd H1.next (some (.cells [.int .i64 e.src,.int .i64 e.dst,.int .i64 e.mode,.int .i64 e.cost] true))).new (.cells [.int .i64 0,.int .i64 0,.int .i64 0] true)).upd (H1.next+1) (some (.cells [.int .i64 e.src,.int .i64 e.dst,.int .i64 e.mode] true))).obj (H1.next+1)=some (.cells [.int .i64 e.src,.int .i64 e.dst,.int .i64 e.mode] true):=xN rfl
   have nA:((((H1.new (.cells [.int .i64 0,.int .i64 0,.int .i64 0,.int .i64 0] true)).upd H1.next (some (.cells [.int .i64 e.src,.int .i64 e.dst,.int .i64 e.mode,.int .i64 e.cost] true))).new (.cells [.int .i64 0,.int .i64 0,.int .i64 0] true)).upd (H1.next+1) (some (.cells [.int .i64 e.src,.int .i64 e.dst,.int .i64 e.mode] true))).next=H1.next+2:=rfl
   have hlk:=qE (H:=(((H1.new (.cells [.int .i64 0,.int .i64 0,.int .i64 0,.int .i64 0] true)).upd H1.next (some (.cells [.int .i64 e.src,.int .i64 e.dst,.int .i64 e.mode,.int .i64 e.cost] true))).new (.cells [.int .i64 0,.int .i64 0,.int .i64 0] true)).upd (H1.next+1) (some (.cells [.int .i64 e.src,.int .i64 e.dst,.int .i64 e.mode] true))) (mid:=H.next) (es:=lm) (by rw [kA.old n1]; exact m1) (e.src,e.dst,e.mode) true
   unfold yC at hlk
   simp (disch:=first | omega | (simp only [nx] <;> omega) | fail) only [vaw,hc,a1,a6,hlk,Nat.reduceAdd,Nat.reduceMul,Nat.reduceLeDiff,Nat.reduceEqDiff,↓reduceIte]
   generalize (((H1.new (.cells [.int .i64 0,.int .i64 0,.int .i64 0,.int .i64 0] true)).upd H1.next (some (.cells [.int .i64 e.src,.int .i64 e.dst,.int .i64 e.mode,.int .i64 e.cost] true))).new (.cells [.int .i64 0,.int .i64 0,.int .i64 0] true)).upd (H1.next+1) (some (.cells [.int .i64 e.src,.int .i64 e.dst,.int .i64 e.mode] true))=HA at *
   have mA:=(kA.old n1).trans m1
   have boA:=(kA.old (i:=b) (by have:=k1.next; omega)).trans ((k1.old (by omega)).trans h.bo)
   have eA:=(h.edges.kept k1).kept kA
   have gA:=g1.kept kA
   have hr3:(0≤e.src∧e.src < N)∧(0≤e.dst∧e.dst < N)∧(0≤e.mode∧e.mode < 5):=⟨heok.1,heok.2.1,heok.2.2.1⟩
   have hc3:=cast3 hr3
   have hat:=c1.at_ e.src.toNat e.dst.toNat e.mode.toNat (by omega) (by omega) (by omega)
   rw [hc3] at hat
   unfold cv at hat
   have hset:=c1.set (u:=e.src.toNat) (v:=e.dst.toNat) (m:=e.mode.toNat) (by omega) (by omega) (by omega) (x:=(i:Int)) (by omega)
   rw [hc3] at hset
   have hkeys:=setKey_keys (e.src,e.dst,e.mode) (i:Int) lm
   have hfew:=c1.few
   have hne:zO (e.src,e.dst,e.mode) (i:Int) lm≠[]:=fun h0=>by
    have:=(setKey_val (e.src,e.dst,e.mode) (i:Int) (e.src,e.dst,e.mode) lm).2
    rw [h0] at this
    simp [yW] at this
   cases hk:yW lm (e.src,e.dst,e.mode) with
   | false =>
    have hnm:¬ (e.src,e.dst,e.mode)∈lm.map Prod.fst:=fun hm=>by rw [uI.2 hm] at hk; cases hk
    rw [if_neg hnm] at hkeys
    rw [hk,if_neg (by simp)] at hat
    have hb1:yO N es (i+1)=(yO N es i).set (xR N e.src.toNat e.dst.toNat e.mode.toNat) (i+1):=by
     rw [hbs]
     unfold uD
     simp only
     rw [if_pos (.inl hat)]
    simp (disch:=first | omega | (simp only [nx] <;> omega) | fail) only [vaw,oX,oY,Nat.reduceAdd,Nat.reduceMul,Nat.reduceLeDiff,Nat.reduceEqDiff,↓reduceIte]
    refine vK (n:=lm.length) (k:=1) gA (by simp (disch:=first | omega | (simp only [nx] <;> omega) | fail) only [xI]; rfl) rfl (by omega) (by omega) (by rw [yI,List.length_map]) (by omega) (by omega) ?_
    intro v6 H6 n6 k6 g6 s6
    simp only [xB] at n6 k6 s6
    have old6:∀ j,j < HA.next→sid kv≠some j→H6.obj j=HA.obj j:=fun j hj hs=>by
     rw [k6 j (by omega) hs]
     simp (disch:=first | omega | (simp only [nx] <;> omega) | fail) only [xI]
    have m6:=(old6 H.next (by omega) (fun e=>by have:=hkid _ e; omega)).trans mA
    have x6:=(old6 H1.next (by omega) (fun e=>by have:=hkid _ e; omega)).trans oX
    have y6:=(old6 (H1.next+1) (by omega) (fun e=>by have:=hkid _ e; omega)).trans oY
    have hup:=amapUpdate_keys m6 (e.src,e.dst,e.mode) (i:Int)
    unfold yC at hup
    have c6:=g6.cells
    simp (disch:=first | omega | (simp only [nx] <;> omega) | fail) only [vaw,zJ,c6,x6,y6,hup,Nat.reduceAdd,Nat.reduceMul,Nat.reduceLeDiff,Nat.reduceEqDiff,↓reduceIte]
    have hkc:xZ ((zO (e.src,e.dst,e.mode) (i:Int) lm).map Prod.fst)=xZ (lm.map Prod.fst)++[.int .i64 e.src,.int .i64 e.dst,.int .i64 e.mode]:=by
     rw [hkeys]
     simp [xZ,yC]
    refine ⟨es.length - (i+1),by omega,i+1,v6,zO (e.src,e.dst,e.mode) (i:Int) lm,rfl,by omega,rfl,⟨by have:=k1.next; first | omega | (simp only [xC]; omega),fun j hj _=>?_⟩,by first | omega | (simp only [xC]; omega),rfl,by rw [hb1]; exact hset,?_,fun h0=>absurd h0 hne⟩
    ·rw [xQ (by omega),old6 j (by have:=k1.next; omega) (fun e=>by have:=hkid _ e; omega),kA.old (by have:=k1.next; omega),k1.old hj]
    ·rw [hkc]
     exact g6.own.upd (fun j hj=>by
      obtain ⟨y,y1,y2⟩:=s6
      rw [y1] at hj
      injection hj with hj
      omega) _
   | true =>
    have hm:(e.src,e.dst,e.mode)∈lm.map Prod.fst:=uI.1 hk
    rw [if_pos hm] at hkeys
    rw [hk,if_pos rfl] at hat
    have hv0:=(c1.rng _ (valAt_of hk)).2.2.2
    simp only at hv0
    obtain ⟨n,hnv⟩:=Int.eq_ofNat_of_zero_le hv0
    rw [hnv] at hat
    have hbm:((n:Int)+1)∈yO N es i:=by
     rw [← hat,List.getD_eq_getElem?_getD]
     have hl:=vE (N:=N) (u:=e.src.toNat) (v:=e.dst.toNat) (m:=e.mode.toNat) (by omega) (by omega) (by omega)
     rw [List.getElem?_eq_getElem (by rw [c1.len]; exact hl)]
     exact List.getElem_mem _
    have hbb:=bestOf_bd N es i hi _ hbm
    have hz:es[n]? = some es[n]:=by rw [List.getElem?_eq_getElem]
    obtain ⟨id2,f2,b1,b2,_,_,_,b5,_⟩:=vC eA hz
    have hgn:es.getD (((n:Int)+1).toNat - 1) default=es[n]:=by
     have e1:((n:Int)+1).toNat - 1=n:=by omega
     rw [e1]
     exact yS hz
    generalize es[n]'(by omega)=z at *
    have hne0:¬ ((n:Int)+1=0):=by omega
    by_cases hlt:e.cost < z.cost
    ·have hb1:yO N es (i+1)=(yO N es i).set (xR N e.src.toNat e.dst.toNat e.mode.toNat) (i+1):=by
      rw [hbs]
      unfold uD
      simp only
      rw [hat,hgn,if_pos (.inr hlt)]
     have hup:=amapUpdate_keys mA (e.src,e.dst,e.mode) (i:Int)
     unfold yC at hup
     simp (disch:=first | omega | (simp only [nx] <;> omega) | fail) only [vaw,zJ,oX,oY,boA,hnv,b1,b5,hlt,hup,Nat.reduceAdd,Nat.reduceMul,Nat.reduceLeDiff,Nat.reduceEqDiff,↓reduceIte]
     refine ⟨es.length - (i+1),by omega,i+1,kv,zO (e.src,e.dst,e.mode) (i:Int) lm,rfl,by omega,rfl,(k1.trans kA).upd (.inl (Nat.le_refl _)) _,by first | omega | (simp only [xC]; omega),rfl,by rw [hb1]; exact hset,?_,fun h0=>absurd h0 hne⟩
     rw [hkeys]
     exact gA.upd (fun j hj=>by have:=hkid j hj; omega) _
    ·have hb1:yO N es (i+1)=yO N es i:=by
      rw [hbs]
      unfold uD
      simp only
      rw [hat,hgn,if_neg (fun h=>h.elim hne0 hlt)]
     simp (disch:=first | omega | (simp only [nx] <;> omega) | fail) only [vaw,zJ,oX,oY,boA,hnv,b1,b5,hlt,Nat.reduceAdd,Nat.reduceMul,Nat.reduceLeDiff,Nat.reduceEqDiff,↓reduceIte]
     exact ⟨es.length - (i+1),by omega,i+1,kv,lm,rfl,by omega,rfl,k1.trans kA,by omega,mA,by rw [hb1]; exact c1,gA,z1⟩
  ·have:i=es.length:=by omega
   subst this
   simp (disch:=first | omega | (simp only [nx] <;> omega) | fail) only [vaw,hc,Nat.reduceAdd,Nat.reduceMul,Nat.reduceLeDiff,Nat.reduceEqDiff,↓reduceIte]
   have hkid:∀ j,sid kv=some j→H.next+1≤j∧j < H1.next:=fun j hj=>g1.sid_ge hj
   have hfew:=c1.few
   refine sortKeys_ret g1 (fun h0=>z1 (by simpa using h0)) (by rw [List.length_map]; omega) fun H2 n2 k2 g2=>?_
   rw [first_keys c1] at g2
   have hfl:=fun p (hp:p∈wY (yO N es es.length))=>first_val c1 hp
   have hbd:=bestOf_bd N es es.length (Nat.le_refl _)
   have hlen2:(wY (yO N es es.length)).length=lm.length:=by
    have:=congrArg List.length (first_keys c1)
    rw [zZ,List.length_map,List.length_map] at this
    exact this.symm
   have hbeg:=begin_eq N es (List.replicate (N*N*5) 0) (yO N es es.length)
   have hl2:=g2.row.len (by omega) (yI _)
   rw [List.length_map] at hl2
   have kK:Keep Nothing H H2:=⟨by have:=k1.next; omega,fun j hj _=>by
    rw [k2 j (fun e=>by have:=hkid j e; omega)]
    exact k1.old hj⟩
   have m2:H2.obj H.next=some (.amap (yU lm)):=(k2 _ (fun e=>by have:=hkid _ e; omega)).trans m1
   have h2:=h.kept kK
   rw [hbeg] at hq
   generalize yO N es es.length=best at *
   simp (disch:=first | omega | (simp only [nx] <;> omega) | fail) only [vaw,hl2,Nat.reduceAdd,Nat.reduceMul,Nat.reduceLeDiff,Nat.reduceEqDiff,↓reduceIte]
   have kvid:∀ j,sid kv=some j→H.next+1≤j∧j < H2.next:=fun j hj=>g2.sid_ge hj
   refine xS (fun m t H'=>∃ (j:Nat) (av':AVal) (ms':List (Key × Int)),m=lm.length - j∧j≤lm.length∧t=(.ptr b 0 :: xP 1 (.map H.next :: xP 64 (kv :: .int .i64 lm.length :: .int .i64 j :: xP 29 ([]))):xJ)∧Keep (fun i=>i=b∨i=mid∨sid av=some i) H2 H' ∧
    HLay H' b mid rid uid did gid N es ew av' ms' (((wY best).take j).foldl (firstS N es best) ([],List.replicate (N*N*5) 0)).1 gone rank us ds∧MapCur N ms' (((wY best).take j).foldl (firstS N es best) ([],List.replicate (N*N*5) 0)).2∧(((wY best).take j).foldl (firstS N es best) ([],List.replicate (N*N*5) 0)).1.length=j∧(∀ i,sid av'=some i→sid av=some i∨H2.next≤i)) lm.length ?_ ?_
   ·exact ⟨0,av,[],rfl,by omega,by rw [hlen2]; rfl,.refl _ _,h2,mapCur_nil N,rfl,fun i hi=>.inl hi⟩
   ·rintro m t H3 ⟨j,av1,ms1,rfl,hj,rfl,k3,h3,c3,l3,s3⟩
    have n3:=k3.next
    have knext:=kK.next
    by_cases hc2:(j:Int) < lm.length
    ·have hjl:j < (wY best).length:=by omega
     have htk:=List.take_succ_eq_append_getElem hjl
     have hp:(wY best)[j]? = some (wY best)[j]:=by simp [hjl]
     obtain ⟨p1,p2,p3⟩:=hfl _ (List.getElem_mem hjl)
     have g3:=g2.keepM k3 (fun i hi e=>by have:=kvid i hi; rcases e with e | e | e <;> first | omega | (have:=hsa i e; omega))
     have hkp:((wY best).map (wH N))[j]? = some (wH N (wY best)[j]):=by rw [List.getElem?_map,hp]; rfl
     obtain ⟨id1,f1,cc,a1,a2,a3,a4,a5⟩:=g3.row.at (j:=j) (k:=.i64) (by omega) (by omega) (by rw [yI,List.length_map,Int.toNat_natCast]; omega)
     rw [Int.toNat_natCast,keyCells_at hkp] at a5
     rw [cells?_of] at a3
     have hbb:=hbd _ p3
     have hS:((wY best).take (j+1)).foldl (firstS N es best) ([],List.replicate (N*N*5) 0)=firstS N es best (((wY best).take j).foldl (firstS N es best) ([],List.replicate (N*N*5) 0)) (wY best)[j]:=by
      rw [htk,List.foldl_append]
      rfl
     generalize (wY best)[j]=p at *
     generalize ((wY best).take j).foldl (firstS N es best) ([],List.replicate (N*N*5) 0)=S at *
     have hld:(bnd (cellsOf (H3.obj id1)) fun c=>if f1+3≤c.length then some (AVal.agg ((c.drop f1).take 3)) else none)=some (AVal.agg [.int .i64 (wH N p).1,.int .i64 (wH N p).2.1,.int .i64 (wH N p).2.2]):=by
      simp only [a3,bnd,if_pos a4,a5]
      rfl
     obtain ⟨n,hnv⟩:=Int.eq_ofNat_of_zero_le (a:=best.getD p 0 - 1) (by omega)
     rw [hnv] at p2
     have hnl:n < es.length:=by omega
     have hz:es[n]? = some es[n]:=by simp [hnl]
     have hzok:=hok _ (List.getElem_mem hnl)
     have harc:vG es (best.getD p 0)=⟨es[n].src,es[n].dst,es[n].mode,es[n].cost,(n:Int),0,0⟩:=by
      have e1:(best.getD p 0).toNat - 1=n:=by omega
      unfold vG
      rw [e1,yS hz,hnv]
     generalize es[n]=z at *
     have kA:Keep Nothing H3 ((H3.new (.cells [.int .i64 0,.int .i64 0,.int .i64 0] true)).upd H3.next (some (.cells [.int .i64 (wH N p).1,.int .i64 (wH N p).2.1,.int .i64 (wH N p).2.2] true))):=((Keep.refl _ _).new _).upd (.inl (Nat.le_refl _)) _
     have kB:Keep Nothing H3 ((((H3.new (.cells [.int .i64 0,.int .i64 0,.int .i64 0] true)).upd H3.next (some (.cells [.int .i64 (wH N p).1,.int .i64 (wH N p).2.1,.int .i64 (wH N p).2.2] true))).new (.cells [.int .i64 0,.int .i64 0,.int .i64 0,.int .i64 0] true)).upd (H3.next+1) (some (.cells [.int .i64 z.src,.int .i64 z.dst,.int .i64 z.mode,.int .i64 z.cost] true))):=((kA.new _)).upd (.inl (by omega)) _
     have m3:=(k3.obj H.next (by omega) (fun e=>by rcases e with e | e | e <;> first | omega | (have:=hsa _ e; omega))).trans m2
     have mA:=(kA.old (by omega)).trans m3
     have mB:=(kB.old (by omega)).trans m3
     have oY:((((H3.new (.cells [.int .i64 0,.int .i64 0,.int .i64 0] true)).upd H3.next (some (.cells [.int .i64 (wH N p).1,.int .i64 (wH N p).2.1,.int .i64 (wH N p).2.2] true))).new (.cells [.int .i64 0,.int .i64 0,.int .i64 0,.int .i64 0] true)).upd (H3.next+1) (some (.cells [.int .i64 z.src,.int .i64 z.dst,.int .i64 z.mode,.int .i64 z.cost] true))).obj H3.next=some (.cells [.int .i64 (wH N p).1,.int .i64 (wH N p).2.1,.int .i64 (wH N p).2.2] true):=by simp (disch:=first | omega | (simp only [nx] <;> omega) | fail) only [xI]
     have oZ:((((H3.new (.cells [.int .i64 0,.int .i64 0,.int .i64 0] true)).upd H3.next (some (.cells [.int .i64 (wH N p).1,.int .i64 (wH N p).2.1,.int .i64 (wH N p).2.2] true))).new (.cells [.int .i64 0,.int .i64 0,.int .i64 0,.int .i64 0] true)).upd (H3.next+1) (some (.cells [.int .i64 z.src,.int .i64 z.dst,.int .i64 z.mode,.int .i64 z.cost] true))).obj (H3.next+1)=some (.cells [.int .i64 z.src,.int .i64 z.dst,.int .i64 z.mode,.int .i64 z.cost] true):=xN rfl
     have hlA:=qE mA (wH N p) false
     have hlB:=qE mB (wH N p) false
     rw [p2] at hlA hlB
     unfold yC at hlA hlB
     have boA:=(kA.old (i:=b) (by omega)).trans h3.bo
     obtain ⟨id2,f2,b1,b2,_,_,_,_,b6⟩:=vC h3.edges hz
     unfold Edge.cells at b6
     have hB:=h3.kept kB
     have nB:((((H3.new (.cells [.int .i64 0,.int .i64 0,.int .i64 0] true)).upd H3.next (some (.cells [.int .i64 (wH N p).1,.int .i64 (wH N p).2.1,.int .i64 (wH N p).2.2] true))).new (.cells [.int .i64 0,.int .i64 0,.int .i64 0,.int .i64 0] true)).upd (H3.next+1) (some (.cells [.int .i64 z.src,.int .i64 z.dst,.int .i64 z.mode,.int .i64 z.cost] true))).next=H3.next+2:=rfl
     simp (disch:=first | omega | (simp only [nx] <;> omega) | fail) only [vaw,hc2,a1,hld,h3.bo,hlA,b1,b6,Bool.false_eq_true,hlB,Nat.reduceAdd,Nat.reduceMul,Nat.reduceLeDiff,Nat.reduceEqDiff,↓reduceIte]
     refine add_ret hB ⟨z.src,z.dst,z.mode,z.cost,(n:Int),0,0⟩ (by omega) fun H4 av2 k4 h4 s4=>?_
     simp (disch:=first | omega | (simp only [nx] <;> omega) | fail) only [vaw,Nat.reduceAdd,Nat.reduceMul,Nat.reduceLeDiff,Nat.reduceEqDiff,↓reduceIte]
     have hz3:(0≤z.src∧z.src < N)∧(0≤z.dst∧z.dst < N)∧(0≤z.mode∧z.mode < 5):=⟨hzok.1,hzok.2.1,hzok.2.2.1⟩
     have cS:=c3.set (u:=z.src.toNat) (v:=z.dst.toNat) (m:=z.mode.toNat) (by omega) (by omega) (by omega) (x:=(S.1.length:Int)) (by omega)
     rw [cast3 hz3] at cS
     have hfs:firstS N es best S p=(S.1++[⟨z.src,z.dst,z.mode,z.cost,(n:Int),0,0⟩],S.2.set (xR N z.src.toNat z.dst.toNat z.mode.toNat) ((S.1.length:Int)+1)):=by
      unfold firstS vL
      rw [harc]
     rw [hfs] at hS
     have k7:=k3.trans' ((kB.any (M:=fun i=>i=b∨i=mid∨sid av1=some i)).trans' k4 (fun _ _ e=>e)) (N:=fun i=>i=b∨i=mid∨sid av1=some i) (fun i hi e=>by
      rcases e with e | e | e
      ·exact .inl e
      ·exact .inr (.inl e)
      ·rcases s3 i e with e2 | e2
       ·exact .inr (.inr e2)
       ·omega)
     refine ⟨lm.length - (j+1),by omega,j+1,av2,_,rfl,by omega,rfl,k7,by rw [hS]; exact h4,by rw [hS]; exact cS,by rw [hS]; simp [l3],fun i hi=>?_⟩
     obtain ⟨y,y1,y2⟩:=s4
     rw [y1] at hi
     injection hi with hi
     exact .inr (by omega)
    ·have:j=lm.length:=by omega
     subst this
     rw [List.take_of_length_le (by omega)] at h3 c3
     simp (disch:=first | omega | (simp only [nx] <;> omega) | fail) only [vaw,hc2,Nat.reduceAdd,Nat.reduceMul,Nat.reduceLeDiff,Nat.reduceEqDiff,↓reduceIte]
     exact hq H3 av1 ms1 ((kK.any).trans' k3 (fun _ _ e=>e)) h3 c3 (fun i hi=>by rcases s3 i hi with e | e; exact .inl e; exact .inr (by omega))
end Go.Proofs.YtknhlpmmalcchaaGreat

namespace Go.Proofs.YtknhlpmmalcchaaGreat
open Go Go.VAI
set_option linter.unusedSimpArgs false

def Says (b:Bool) (p:Prop):Prop:=b=true↔p
theorem xK {p:Prop} (h:¬ p):Says false p:=⟨fun e=>(by cases e),fun e=>absurd e h⟩
theorem zP {p:Prop} (h:p):Says true p:=⟨fun _=>h,fun _=>rfl⟩
theorem vertex_ret {n v:Int} {H:AHeap} {Q:AVal→AHeap→Prop} (hq:∀ b H',Keep Nothing H H'→Says b (0≤v∧v < n)→Q (.bool b) H'):Ret A 69 [.agg [.int .i64 n],.int .i64 v] H Q:=by
 refine Ret.of (fn:=F69) rfl ?_
 have kk:Keep Nothing H (H.new (.cells [.int .i64 n] true)):=(Keep.refl _ _).new _
 by_cases h1:0≤v
 ·by_cases h2:v < n
  ·simp (disch:=first | omega | (simp only [nx] <;> omega) | fail) only [vaw,F69,h1,h2,decide_true,Nat.reduceAdd,Nat.reduceMul,Nat.reduceLeDiff,Nat.reduceEqDiff,↓reduceIte]
   exact hq _ _ kk (zP ⟨h1,h2⟩)
  ·simp (disch:=first | omega | (simp only [nx] <;> omega) | fail) only [vaw,F69,h1,h2,decide_true,decide_false,Nat.reduceAdd,Nat.reduceMul,Nat.reduceLeDiff,Nat.reduceEqDiff,↓reduceIte]
   exact hq _ _ kk (xK (by omega))
 ·simp (disch:=first | omega | (simp only [nx] <;> omega) | fail) only [vaw,F69,h1,decide_false,Nat.reduceAdd,Nat.reduceMul,Nat.reduceLeDiff,Nat.reduceEqDiff,↓reduceIte]
  exact hq _ _ kk (xK (by omega))
set_option maxRecDepth 20000 in
theorem nedge_ret {n:Int} {e:Edge} {H:AHeap} {Q:AVal→AHeap→Prop} (hq:∀ b H',Keep Nothing H H'→Says b (EdgeOk n e)→Q (.bool b) H'):Ret A 46 [.agg [.int .i64 n],.agg e.cells] H Q:=by
 refine Ret.of (fn:=F46) rfl ?_
 simp (disch:=first | omega | (simp only [nx] <;> omega) | fail) only [vaw,F46,Edge.cells,Nat.reduceAdd,Nat.reduceMul,Nat.reduceLeDiff,Nat.reduceEqDiff,↓reduceIte]
 have k0:Keep Nothing H ((H.new (.cells [.int .i64 n] true)).new (.cells [.int .i64 e.src,.int .i64 e.dst,.int .i64 e.mode,.int .i64 e.cost] true)):=((Keep.refl _ _).new _).new _
 refine vertex_ret fun b1 H1 k1 s1=>?_
 have o1:H1.obj (H.next+1)=some (.cells [.int .i64 e.src,.int .i64 e.dst,.int .i64 e.mode,.int .i64 e.cost] true):=by rw [k1.old (by first | omega | (simp only [xB,xC]; omega))]; simp (disch:=first | omega | (simp only [nx] <;> omega) | fail) only [xI]
 have n1:=k1.next
 simp only [xB] at n1
 have kA:=k0.trans k1
 cases b1 with
 | false =>
  simp (disch:=first | omega | (simp only [nx] <;> omega) | fail) only [vaw,Nat.reduceAdd,Nat.reduceMul,Nat.reduceLeDiff,Nat.reduceEqDiff,↓reduceIte]
  refine hq _ _ kA (xK fun h=>?_)
  have:=s1.2 h.1
  cases this
 | true =>
  have p1:=s1.1 rfl
  simp (disch:=first | omega | (simp only [nx] <;> omega) | fail) only [vaw,o1,Nat.reduceAdd,Nat.reduceMul,Nat.reduceLeDiff,Nat.reduceEqDiff,↓reduceIte]
  refine vertex_ret fun b2 H2 k2 s2=>?_
  have o2:=(k2.old (i:=H.next+1) (by omega)).trans o1
  have kB:=kA.trans k2
  cases b2 with
  | false =>
   simp (disch:=first | omega | (simp only [nx] <;> omega) | fail) only [vaw,Nat.reduceAdd,Nat.reduceMul,Nat.reduceLeDiff,Nat.reduceEqDiff,↓reduceIte]
   refine hq _ _ kB (xK fun h=>?_)
   have:=s2.2 h.2.1
   cases this
  | true =>
   have p2:=s2.1 rfl
   by_cases h1:0≤e.mode
   ·by_cases h2:e.mode < 5
    ·by_cases h3:0≤e.cost
     ·by_cases h4:e.cost≤2147483647
      ·simp (disch:=first | omega | (simp only [nx] <;> omega) | fail) only [vaw,o2,h1,h2,h3,h4,decide_true,Nat.reduceAdd,Nat.reduceMul,Nat.reduceLeDiff,Nat.reduceEqDiff,↓reduceIte]
       exact hq _ _ kB (zP ⟨p1,p2,⟨h1,h2⟩,h3,h4⟩)
      ·simp (disch:=first | omega | (simp only [nx] <;> omega) | fail) only [vaw,o2,h1,h2,h3,h4,decide_true,decide_false,Nat.reduceAdd,Nat.reduceMul,Nat.reduceLeDiff,Nat.reduceEqDiff,↓reduceIte]
       exact hq _ _ kB (xK fun h=>by have:=h.2.2.2; omega)
     ·simp (disch:=first | omega | (simp only [nx] <;> omega) | fail) only [vaw,o2,h1,h2,h3,decide_true,decide_false,Nat.reduceAdd,Nat.reduceMul,Nat.reduceLeDiff,Nat.reduceEqDiff,↓reduceIte]
      exact hq _ _ kB (xK fun h=>by have:=h.2.2.2; omega)
    ·simp (disch:=first | omega | (simp only [nx] <;> omega) | fail) only [vaw,o2,h1,h2,decide_true,decide_false,Nat.reduceAdd,Nat.reduceMul,Nat.reduceLeDiff,Nat.reduceEqDiff,↓reduceIte]
     exact hq _ _ kB (xK fun h=>by have:=h.2.2.1; omega)
   ·simp (disch:=first | omega | (simp only [nx] <;> omega) | fail) only [vaw,o2,h1,decide_false,Nat.reduceAdd,Nat.reduceMul,Nat.reduceLeDiff,Nat.reduceEqDiff,↓reduceIte]
    exact hq _ _ kB (xK fun h=>by have:=h.2.2.1; omega)
theorem netcheck_ret {n:Int} {ev:AVal} {es:List Edge} {H:AHeap} {Q:AVal→AHeap→Prop} (hr:Row H ev 4 (xG es)) (hq:∀ b H',Keep Nothing H H'→Says b (NetOk n es)→Q (.bool b) H'):Ret A 23 [.agg [.int .i64 n,ev]] H Q:=by
 refine Ret.of (fn:=F23) rfl ?_
 have hl:=hr.len (by omega) (xU es)
 have hce:=hr.cells
 have k0:Keep Nothing H (H.new (.cells [.int .i64 n,ev] true)):=(Keep.refl _ _).new _
 by_cases h1:n < 1
 ·simp (disch:=first | omega | (simp only [nx] <;> omega) | fail) only [vaw,F23,hce,h1,decide_true,Nat.reduceAdd,Nat.reduceMul,Nat.reduceLeDiff,Nat.reduceEqDiff,↓reduceIte]
  exact hq _ _ k0 (xK fun h=>by have:=h.1; omega)
 by_cases h2:60 < n
 ·simp (disch:=first | omega | (simp only [nx] <;> omega) | fail) only [vaw,F23,hce,h1,h2,decide_true,decide_false,Nat.reduceAdd,Nat.reduceMul,Nat.reduceLeDiff,Nat.reduceEqDiff,↓reduceIte]
  exact hq _ _ k0 (xK fun h=>by have:=h.2.1; omega)
 by_cases h3:400 < (es.length:Int)
 ·simp (disch:=first | omega | (simp only [nx] <;> omega) | fail) only [vaw,F23,hce,hl,h1,h2,h3,decide_true,decide_false,Nat.reduceAdd,Nat.reduceMul,Nat.reduceLeDiff,Nat.reduceEqDiff,↓reduceIte]
  exact hq _ _ k0 (xK fun h=>by have:=h.2.2.1; omega)
 simp (disch:=first | omega | (simp only [nx] <;> omega) | fail) only [vaw,F23,hce,hl,h1,h2,h3,decide_true,decide_false,Nat.reduceAdd,Nat.reduceMul,Nat.reduceLeDiff,Nat.reduceEqDiff,↓reduceIte]
 refine xS (fun m t H'=>∃ (i:Nat),m=es.length - i∧i≤es.length∧t=(xP 3 (.func (.func 46) [.agg [.int .i64 n]] [] :: xP 21 (ev :: .int .i64 es.length :: .int .i64 i :: xP 8 ([]))):xJ)∧Keep Nothing H H'∧∀ e∈es.take i,EdgeOk n e) es.length ?_ ?_
 ·exact ⟨0,rfl,by omega,rfl,k0,by simp⟩
 ·rintro m t H1 ⟨i,rfl,hi,rfl,k1,ha⟩
  by_cases hc:(i:Int) < es.length
  ·have hil:i < es.length:=by omega
   have he:es[i]? = some es[i]:=by simp [hil]
   obtain ⟨id,off,e1,hid2,e2,e3,e4,e5,e6⟩:=vC (hr.kept k1) he
   have htk:=List.take_succ_eq_append_getElem hil
   have hmem:=List.getElem_mem hil
   generalize es[i]=e at *
   simp only [Edge.cells] at e6
   simp (disch:=first | omega | (simp only [nx] <;> omega) | fail) only [vaw,hc,decide_true,e1,e6,Nat.reduceAdd,Nat.reduceMul,Nat.reduceLeDiff,Nat.reduceEqDiff,↓reduceIte]
   have k2:Keep Nothing H ((H1.new (.cells [.int .i64 0,.int .i64 0,.int .i64 0,.int .i64 0] true)).upd H1.next (some (.cells e.cells true))):=(k1.new _).upd (.inl (by have:=k1.next; omega)) _
   simp only [Edge.cells] at k2
   refine nedge_ret fun b H2 k3 s=>?_
   have kk:=k2.trans k3
   cases b with
   | false =>
    simp (disch:=first | omega | (simp only [nx] <;> omega) | fail) only [vaw,Nat.reduceAdd,Nat.reduceMul,Nat.reduceLeDiff,Nat.reduceEqDiff,↓reduceIte]
    refine hq _ _ kk (xK fun h=>?_)
    have:=s.2 (h.2.2.2 e hmem)
    cases this
   | true =>
    simp (disch:=first | omega | (simp only [nx] <;> omega) | fail) only [vaw,Nat.reduceAdd,Nat.reduceMul,Nat.reduceLeDiff,Nat.reduceEqDiff,↓reduceIte]
    refine ⟨es.length - (i+1),by omega,i+1,rfl,by omega,rfl,kk,?_⟩
    intro x hx
    rw [htk] at hx
    rcases List.mem_append.1 hx with hx | hx
    ·exact ha x hx
    ·simp at hx; subst hx; exact s.1 rfl
  ·have hi:i=es.length:=by omega
   rw [hi,List.take_length] at ha
   simp (disch:=first | omega | (simp only [nx] <;> omega) | fail) only [vaw,hc,decide_false,Nat.reduceAdd,Nat.reduceMul,Nat.reduceLeDiff,Nat.reduceEqDiff,↓reduceIte]
   exact hq _ _ k1 (zP ⟨by omega,by omega,by omega,ha⟩)
end Go.Proofs.YtknhlpmmalcchaaGreat

namespace Go.Proofs.YtknhlpmmalcchaaGreat
open Go Go.VAI
set_option linter.unusedSimpArgs false

theorem run_le {rank:List Int} {k:Nat} (h:∀ j:Nat,j < k→(j:Int)∈rank):k≤rank.length:=by
 have:∀ n:Nat,n≤k→∃ l:List Int,l.Nodup∧l.length=n∧∀ y∈l,y∈rank∧0≤y∧y < n:=by
  intro n
  induction n with
  | zero=>intro _; exact ⟨[],by simp,rfl,fun y hy=>by simp at hy⟩
  | succ n ih =>
   intro hn
   obtain ⟨l,l1,l2,l3⟩:=ih (by omega)
   refine ⟨(n:Int) :: l,List.nodup_cons.2 ⟨fun hm=>by have:=(l3 _ hm).2.2; omega,l1⟩,by simp [l2],fun y hy=>?_⟩
   rcases List.mem_cons.1 hy with rfl | hy
   ·exact ⟨h n (by omega),by omega,by omega⟩
   ·have:=l3 y hy
    exact ⟨this.1,by omega,by omega⟩
 obtain ⟨l,l1,l2,l3⟩:=this k (Nat.le_refl _)
 rw [← l2]
 exact l1.length_le_of_subset (fun y hy=>(l3 y hy).1)
theorem ranks_lt {rank:List Int} (h:RanksOk rank) {r:Int} (hr:r∈rank) : -1≤r∧r < rank.length:=by
 obtain ⟨k,k1,k2⟩:=h.run
 have:=run_le k2
 have hpos:0 < rank.length:=List.length_pos_of_mem hr
 rcases k1 r hr with h | h <;> omega
theorem max_two {k:IntKind} {x y:Int}:afolds amax2 [.int k x,.int k y]=some (.int k (if x < y then y else x)):=rfl
structure SeenAt (l:List Int) (i:Nat) (S:List Bool) (most:Int):Prop where
 len:S.length=l.length
 seen:∀ j:Nat,j < l.length→(S[j]? = some true↔(j:Int)∈l.take i)
 mem:most = -1∨(0≤most∧most∈l.take i)
 top:∀ r∈l.take i,r≤most
 bd:∀ r∈l.take i,r = -1∨(0≤r∧r < l.length)
 own:∀ (a b:Nat) r,a < i→b < i→0≤r→l[a]? = some r→l[b]? = some r→a=b
theorem SeenAt.most_lt {l:List Int} {i:Nat} {S:List Bool} {most:Int} (h:SeenAt l i S most) : -1≤most∧most < l.length∨most = -1:=by
 rcases h.mem with h1 | ⟨h1,h2⟩
 ·exact .inr h1
 ·rcases h.bd _ h2 with h3 | h3 <;> omega
theorem SeenAt.minus {l:List Int} {i:Nat} {S:List Bool} {most:Int} (h:SeenAt l i S most) (hr:l[i]? = some (-1)):SeenAt l (i+1) S most:=by
 have hil:=(List.getElem?_eq_some_iff.1 hr).1
 have htk:l.take (i+1)=l.take i++[-1]:=by
  rw [List.take_succ_eq_append_getElem hil]
  rw [(List.getElem?_eq_some_iff.1 hr).2]
 have hm:=h.most_lt
 refine ⟨h.len,fun j hj=>?_,?_,fun r hx=>?_,fun r hx=>?_,fun a b r ha hb h0 h1 h2=>?_⟩
 ·rw [h.seen j hj,htk]; simp
 ·rcases h.mem with h1 | ⟨h1,h2⟩
  ·exact .inl h1
  ·exact .inr ⟨h1,by rw [htk]; simp [h2]⟩
 ·rw [htk] at hx
  rcases List.mem_append.1 hx with hx | hx
  ·exact h.top r hx
  ·simp at hx; omega
 ·rw [htk] at hx
  rcases List.mem_append.1 hx with hx | hx
  ·exact h.bd r hx
  ·simp at hx; exact .inl hx
 ·have na:a≠i:=fun e=>by subst e; rw [hr] at h1; injection h1 with h1; omega
  have nb:b≠i:=fun e=>by subst e; rw [hr] at h2; injection h2 with h2; omega
  exact h.own a b r (by omega) (by omega) h0 h1 h2
theorem SeenAt.more {l:List Int} {i:Nat} {S:List Bool} {most:Int} (h:SeenAt l i S most) {r:Nat} (hr:l[i]? = some (r:Int)) (hrl:r < l.length) (hs:S[r]? ≠ some true):SeenAt l (i+1) (S.set r true) (if most < r then r else most):=by
 have hil:=(List.getElem?_eq_some_iff.1 hr).1
 have htk:l.take (i+1)=l.take i++[(r:Int)]:=by
  rw [List.take_succ_eq_append_getElem hil]
  rw [(List.getElem?_eq_some_iff.1 hr).2]
 have hnot:(r:Int) ∉ l.take i:=fun hm=>hs ((h.seen r hrl).2 hm)
 refine ⟨by simp [h.len],fun j hj=>?_,?_,fun x hx=>?_,fun x hx=>?_,fun a b x ha hb h0 h1 h2=>?_⟩
 ·rw [htk,List.getElem?_set]
  by_cases hjr:r=j
  ·subst hjr
   rw [if_pos rfl,if_pos (by rw [h.len]; exact hj)]
   simp
  ·rw [if_neg hjr,h.seen j hj]; simp; omega
 ·right
  split
  ·exact ⟨by omega,by rw [htk]; simp⟩
  ·rcases h.mem with h1 | ⟨h1,h2⟩
   ·omega
   ·exact ⟨h1,by rw [htk]; simp [h2]⟩
 ·rw [htk] at hx
  rcases List.mem_append.1 hx with hx | hx
  ·have:=h.top x hx; split <;> omega
  ·simp at hx; subst hx; split <;> omega
 ·rw [htk] at hx
  rcases List.mem_append.1 hx with hx | hx
  ·exact h.bd x hx
  ·simp at hx; subst hx; right; omega
 ·have hmem:∀ c,c < i→l[c]? = some (r:Int)→False:=fun c hc h=>hnot (List.mem_of_getElem? (by rw [List.getElem?_take,if_pos hc]; exact h))
  by_cases ea:a=i
  ·by_cases eb:b=i
   ·omega
   ·subst ea; rw [hr] at h1; injection h1 with h1; subst h1; exact (hmem b (by omega) h2).elim
  ·by_cases eb:b=i
   ·subst eb; rw [hr] at h2; injection h2 with h2; subst h2; exact (hmem a (by omega) h1).elim
   ·exact h.own a b x (by omega) (by omega) h0 h1 h2
theorem SeenAt.yes {l:List Int} {S:List Bool} {most:Int} (h:SeenAt l l.length S most) (ha:∀ j:Nat,(j:Int) < most+1→S[j]? = some true):RanksOk l:=by
 have hm:=h.most_lt
 have e:=h.seen
 have h5:=h.bd
 have h6:=h.top
 rw [List.take_length] at h5 h6
 refine ⟨⟨(most+1).toNat,fun r hr=>?_,fun j hj=>?_⟩,fun i j r h0 h1 h2=>h.own i j r (List.getElem?_eq_some_iff.1 h1).1 (List.getElem?_eq_some_iff.1 h2).1 h0 h1 h2⟩
 ·rcases h5 r hr with h | h
  ·exact .inl h
  ·have:=h6 r hr
   exact .inr (by omega)
 ·have:=(e j (by omega)).1 (ha j (by omega))
  rwa [List.take_length] at this
theorem SeenAt.no {l:List Int} {S:List Bool} {most:Int} (h:SeenAt l l.length S most) {j:Nat} (hj:(j:Int) < most+1) (hs:S[j]? ≠ some true):¬ RanksOk l:=by
 intro hr
 obtain ⟨k,k1,k2⟩:=hr.run
 rcases h.mem with h1 | ⟨h1,h2⟩
 ·omega
 ·rw [List.take_length] at h2
  rcases k1 most h2 with h3 | h3
  ·omega
  ·have hm:=h.most_lt
   have hk:=run_le k2
   refine hs ((h.seen j (by omega)).2 ?_)
   rw [List.take_length]
   exact k2 j (by omega)
set_option maxHeartbeats 1000000 in
theorem ranks_ret {lv:AVal} {l:List Int} {H:AHeap} {Q:AVal→AHeap→Prop} (hr:Row H lv 1 (xL l)) (hlen:l.length≤1000000000) (hq:∀ b H',Keep Nothing H H'→Says b (RanksOk l)→Q (.bool b) H'):Ret A 24 [lv] H Q:=by
 refine Ret.of (fn:=F24) rfl ?_
 have hl:=hr.len1
 rw [xE] at hl
 have hm1:((l.length:Nat):Int)*((1:Nat):Int)≤140737488355328:=by omega
 simp (disch:=first | omega | (simp only [nx] <;> omega) | fail) only [vaw,F24,hl,zH hm1 (by omega),Nat.reduceAdd,Nat.reduceMul,Nat.reduceLeDiff,Nat.reduceEqDiff,↓reduceIte]
 rw [reps_false]
 have k0:Keep Nothing H (H.new (.cells (xV (List.replicate l.length false)) true)):=(Keep.refl _ _).new _
 refine xS (fun m t H'=>∃ (i:Nat) (S:List Bool) (most:Int),m=l.length - i∧i≤l.length∧t=(lv :: xP 2 (.slice H.next 0 l.length (.exact l.length) :: .int .i64 most :: xP 7 (lv :: .int .i64 l.length :: .int .i64 i :: xP 42 ([]))):xJ)∧Keep Nothing H H'∧H.next < H'.next∧H'.obj H.next=some (.cells (xV S) true)∧SeenAt l i S most) l.length ?_ ?_
 ·refine ⟨0,List.replicate l.length false,-1,rfl,by omega,rfl,k0,by simp only [xB]; omega,yB rfl,⟨by simp,fun j hj=>?_,.inl rfl,by simp,by simp,fun a b r ha=>by omega⟩⟩
  simp [hj]
 ·rintro m t H1 ⟨i,S,most,rfl,hi,rfl,k1,n1,o1,hS⟩
  have hml:=hS.most_lt
  by_cases hc:(i:Int) < l.length
  ·have hil:i < l.length:=by omega
   have he:l[i]? = some l[i]:=by simp [hil]
   obtain ⟨id,off,e1,e2,e3⟩:=(hr.kept k1).int_at (k:=.i64) he
   have hmem:=List.getElem_mem hil
   generalize l[i]=r at *
   by_cases h1:r < -1
   ·simp (disch:=first | omega | (simp only [nx] <;> omega) | fail) only [vaw,hc,e1,e3,h1,Nat.reduceAdd,Nat.reduceMul,Nat.reduceLeDiff,Nat.reduceEqDiff,↓reduceIte]
    exact hq _ _ k1 (xK fun h=>by have:=ranks_lt h hmem; omega)
   by_cases h2:(l.length:Int)≤r
   ·simp (disch:=first | omega | (simp only [nx] <;> omega) | fail) only [vaw,hc,e1,e3,h1,hl,h2,Nat.reduceAdd,Nat.reduceMul,Nat.reduceLeDiff,Nat.reduceEqDiff,↓reduceIte]
    exact hq _ _ k1 (xK fun h=>by have:=ranks_lt h hmem; omega)
   by_cases h3:0≤r
   ·obtain ⟨rn,rfl⟩:∃ n:Nat,r=n:=⟨r.toNat,by omega⟩
    have hrn:rn < l.length:=by omega
    have hsl:rn < S.length:=by rw [hS.len]; exact hrn
    have hix:xO 1 (.slice H.next 0 l.length (.exact l.length)) (.int .i64 (rn:Int))=some (.ptr H.next rn):=by rw [xM ⟨by omega,by omega⟩]; simp
    have hat:(xV S)[rn]? = some (.bool S[rn]):=by simp [xV,hsl]
    cases hb:S[rn] with
    | true =>
     rw [hb] at hat
     simp (disch:=first | omega | (simp only [nx] <;> omega) | fail) only [vaw,hc,e1,e3,h1,hl,h2,h3,hix,o1,hat,Nat.reduceAdd,Nat.reduceMul,Nat.reduceLeDiff,Nat.reduceEqDiff,↓reduceIte]
     refine hq _ _ k1 (xK fun h=>?_)
     have hin:=(hS.seen rn hrn).1 (by rw [List.getElem?_eq_getElem hsl,hb])
     obtain ⟨c,hcl,hce⟩:=List.getElem_of_mem hin
     simp at hcl
     have:=h.own i c rn (by omega) he (by rw [List.getElem?_eq_getElem (by omega)]; rw [← hce]; simp)
     omega
    | false =>
     rw [hb] at hat
     have hbl:(xV S).length=l.length:=by simp [xV,hS.len]
     have hle:rn+1≤l.length:=hrn
     have hset:yV (xV S) rn [.bool true]=xV (S.set rn true):=by
      rw [yQ (by rw [hbl]; exact hrn)]
      simp [xV,List.map_set]
     simp (disch:=first | omega | (simp only [nx] <;> omega) | fail) only [vaw,hc,e1,e3,h1,hl,h2,h3,hix,o1,hat,hbl,hle,hset,max_two,Nat.reduceAdd,Nat.reduceMul,Nat.reduceLeDiff,Nat.reduceEqDiff,↓reduceIte]
     refine ⟨l.length - (i+1),by omega,i+1,S.set rn true,_,rfl,by omega,rfl,k1.upd (.inl (by omega)) _,n1,rfl,?_⟩
     exact hS.more he hrn (by rw [List.getElem?_eq_getElem hsl,hb]; simp)
   ·have hr1:r = -1:=by omega
    subst hr1
    have hmx:¬ most < -1:=by omega
    simp (disch:=first | omega | (simp only [nx] <;> omega) | fail) only [vaw,hc,e1,e3,h1,hl,h2,h3,max_two,hmx,Nat.reduceAdd,Nat.reduceMul,Nat.reduceLeDiff,Nat.reduceEqDiff,↓reduceIte]
    exact ⟨l.length - (i+1),by omega,i+1,S,most,rfl,by omega,rfl,k1,n1,o1,hS.minus he⟩
  ·have hi:i=l.length:=by omega
   subst hi
   have hown:Own H.next H1 (.slice H.next 0 l.length (.exact l.length)) 1 (xV S):=.full (Nat.le_refl _) n1 o1 (by simp [xV,hS.len])
   obtain ⟨k,hk⟩:∃ k:Nat,most+1=k:=⟨(most+1).toNat,by omega⟩
   have hkl:k≤l.length:=by omega
   obtain ⟨v2,g1,g2,g3⟩:=hown.rowC.upto (n:=l.length) (k:=k) (kd:=.i64) (by omega) (by simp [xV,hS.len]) hkl
   rw [Nat.mul_one] at g2
   have gl:=g2.1.len1
   have gl2:((xV S).take k).length=k:=by simp [xV,hS.len]; omega
   rw [gl2] at gl
   simp (disch:=first | omega | (simp only [nx] <;> omega) | fail) only [vaw,hc,hk,g1,gl,Nat.reduceAdd,Nat.reduceMul,Nat.reduceLeDiff,Nat.reduceEqDiff,↓reduceIte]
   refine xS (fun m t H'=>∃ (j:Nat),m=k - j∧j≤k∧t=(xP 48 (v2 :: .int .i64 k :: .int .i64 j :: xP 6 ([])):xJ)∧H'=H1∧∀ c:Nat,c < j→S[c]? = some true) k ?_ ?_
   ·exact ⟨0,rfl,by omega,rfl,rfl,fun c hc=>by omega⟩
   ·rintro m t H2 ⟨j,rfl,hj,rfl,rfl,hall⟩
    by_cases hc2:(j:Int) < k
    ·have hjs:j < S.length:=by rw [hS.len]; omega
     obtain ⟨id,off,e1,e2,e3⟩:=g2.1.at1 (j:=(j:Int)) (x:=.bool S[j]) (k:=.i64) (by omega) (by rw [Int.toNat_natCast,List.getElem?_take,if_pos (by omega)]; simp [xV,hjs])
     cases hb:S[j] with
     | true =>
      rw [hb] at e3
      simp (disch:=first | omega | (simp only [nx] <;> omega) | fail) only [vaw,hc2,e1,e3,Nat.reduceAdd,Nat.reduceMul,Nat.reduceLeDiff,Nat.reduceEqDiff,↓reduceIte]
      refine ⟨k - (j+1),by omega,j+1,rfl,by omega,rfl,?_⟩
      intro c hcj
      by_cases hcj2:c=j
      ·subst hcj2; rw [List.getElem?_eq_getElem hjs,hb]
      ·exact hall c (by omega)
     | false =>
      rw [hb] at e3
      simp (disch:=first | omega | (simp only [nx] <;> omega) | fail) only [vaw,hc2,e1,e3,Nat.reduceAdd,Nat.reduceMul,Nat.reduceLeDiff,Nat.reduceEqDiff,↓reduceIte]
      exact hq _ _ k1 (xK (hS.no (j:=j) (by omega) (by rw [List.getElem?_eq_getElem hjs,hb]; simp)))
    ·simp (disch:=first | omega | (simp only [nx] <;> omega) | fail) only [vaw,hc2,Nat.reduceAdd,Nat.reduceMul,Nat.reduceLeDiff,Nat.reduceEqDiff,↓reduceIte]
     exact hq _ _ k1 (zP (hS.yes (fun c hc=>hall c (by omega))))
end Go.Proofs.YtknhlpmmalcchaaGreat

namespace Go.Proofs.YtknhlpmmalcchaaGreat
open Go Go.VAI
set_option linter.unusedSimpArgs false

theorem flat4 {a b c d e f g h:Int}:wW .eql (.flat [.int,.int,.int,.int]) (.agg [.int .i64 a,.int .i64 b,.int .i64 c,.int .i64 d]) (.agg [.int .i64 e,.int .i64 f,.int .i64 g,.int .i64 h])=some (.bool (decide (a=e) && (decide (b=f) && (decide (c=g) && (decide (d=h) && true))))):=rfl
set_option maxRecDepth 20000 in
theorem hedge_ret {n:Int} {ew rv av uv dv:AVal} {es:List Edge} {a:Arc} {H:AHeap} {Q:AVal→AHeap→Prop} (hr:Row H ew 4 (xG es)) (hq:∀ b H',Keep Nothing H H'→Says b (IsEdge es a)→Q (.bool b) H'):Ret A 47 [.agg [.int .i64 n,ew,rv,av,uv,dv],.agg a.cells] H Q:=by
 refine Ret.of (fn:=F47) rfl ?_
 have hl:=hr.len (by omega) (xU es)
 have k0:Keep Nothing H ((H.new (.cells [.int .i64 n,ew,rv,av,uv,dv] true)).new (.cells [.int .i64 a.src,.int .i64 a.dst,.int .i64 a.mode,.int .i64 a.cost,.int .i64 a.edge,.int .i64 a.a,.int .i64 a.b] true)):=((Keep.refl _ _).new _).new _
 have lenE:IsEdge es a→a.edge < es.length:=fun h=>by
  have:=(List.getElem?_eq_some_iff.1 h.2.2.2).1
  have:=h.1
  omega
 by_cases h1:a.edge < 0
 ·simp (disch:=first | omega | (simp only [nx] <;> omega) | fail) only [vaw,F47,Arc.cells,h1,Nat.reduceAdd,Nat.reduceMul,Nat.reduceLeDiff,Nat.reduceEqDiff,↓reduceIte]
  exact hq _ _ (((Keep.refl _ _).new _).new _) (xK fun h=>by have:=h.1; omega)
 by_cases h2:(es.length:Int)≤a.edge
 ·simp (disch:=first | omega | (simp only [nx] <;> omega) | fail) only [vaw,F47,Arc.cells,h1,hl,h2,Nat.reduceAdd,Nat.reduceMul,Nat.reduceLeDiff,Nat.reduceEqDiff,↓reduceIte]
  exact hq _ _ (((Keep.refl _ _).new _).new _) (xK fun h=>by have:=lenE h; omega)
 by_cases h3:a.a=0
 ·by_cases h4:a.b=0
  ·have hil:a.edge.toNat < es.length:=by omega
   have he:es[a.edge.toNat]? = some es[a.edge.toNat]:=by simp [hil]
   obtain ⟨id,off,e1,hid2,e2,e3,e4,e5,e6⟩:=vC hr he
   rw [Int.toNat_of_nonneg (by omega)] at e1
   have hbq:AVal.beq ew ew=true:=hr.beq
   have key:IsEdge es a↔es[a.edge.toNat]=⟨a.src,a.dst,a.mode,a.cost⟩:=by
    unfold IsEdge
    rw [he]
    constructor
    ·rintro ⟨_,_,_,h⟩; injection h
    ·intro h; exact ⟨by omega,h3,h4,by rw [h]⟩
   generalize es[a.edge.toNat]=e at *
   simp only [Edge.cells] at e6
   simp (disch:=first | omega | (simp only [nx] <;> omega) | fail) only [vaw,F47,Arc.cells,h1,hl,h2,h3,h4,e1,e6,ne_eq,not_true_eq_false,flat4,Nat.reduceAdd,Nat.reduceMul,Nat.reduceLeDiff,Nat.reduceEqDiff,↓reduceIte]
   refine hq _ _ (((Keep.refl _ _).new _).new _) ?_
   unfold Says
   rw [key]
   obtain ⟨p,q,r,s⟩:=e
   simp
  ·simp (disch:=first | omega | (simp only [nx] <;> omega) | fail) only [vaw,F47,Arc.cells,h1,hl,h2,h3,h4,ne_eq,not_true_eq_false,not_false_eq_true,Nat.reduceAdd,Nat.reduceMul,Nat.reduceLeDiff,Nat.reduceEqDiff,↓reduceIte]
   exact hq _ _ (((Keep.refl _ _).new _).new _) (xK fun h=>h4 h.2.2.1)
 ·simp (disch:=first | omega | (simp only [nx] <;> omega) | fail) only [vaw,F47,Arc.cells,h1,hl,h2,h3,ne_eq,not_false_eq_true,Nat.reduceAdd,Nat.reduceMul,Nat.reduceLeDiff,Nat.reduceEqDiff,↓reduceIte]
  exact hq _ _ (((Keep.refl _ _).new _).new _) (xK fun h=>h3 h.2.1)
set_option maxRecDepth 20000 in
set_option maxHeartbeats 2000000 in
theorem htwo_ret {n:Int} {ew rv av uv dv:AVal} {arcs:List Arc} {i:Nat} {a:Arc} {H:AHeap} {Q:AVal→AHeap→Prop} (hr:Row H av 7 (xW arcs)) (ha:arcs[i]? = some a) (hlen:arcs.length≤1000000000)
  (hc:∀ (j:Nat) p,j < i→arcs[j]? = some p→0≤p.cost∧p.cost≤4398046511104) (hq:∀ b H',Keep Nothing H H'→Says b (IsTwo arcs i a)→Q (.bool b) H'):Ret A 48 [.agg [.int .i64 n,ew,rv,av,uv,dv],.int .i64 i] H Q:=by
 refine Ret.of (fn:=F48) rfl ?_
 obtain ⟨id,off,e1,hid,e2,e3⟩:=vZ hr ha
 have hil:=(List.getElem?_eq_some_iff.1 ha).1
 simp only [Arc.cells] at e3
 have hbq:AVal.beq av av=true:=hr.beq
 simp (disch:=first | omega | (simp only [nx] <;> omega) | fail) only [vaw,F48,e1,e3,Nat.reduceAdd,Nat.reduceMul,Nat.reduceLeDiff,Nat.reduceEqDiff,↓reduceIte]
 by_cases h1:a.edge = -1
 ·by_cases h2:a.a < 0
  ·simp (disch:=first | omega | (simp only [nx] <;> omega) | fail) only [vaw,h1,h2,ne_eq,not_true_eq_false,not_false_eq_true,Nat.reduceAdd,Nat.reduceMul,Nat.reduceLeDiff,Nat.reduceEqDiff,↓reduceIte]
   exact hq _ _ ((((Keep.refl _ _).new _).new _).upd (.inl (by omega)) _) (xK fun h=>by have:=h.2.1; omega)
  by_cases h3:(i:Int)≤a.a
  ·simp (disch:=first | omega | (simp only [nx] <;> omega) | fail) only [vaw,h1,h2,h3,ne_eq,not_true_eq_false,not_false_eq_true,Nat.reduceAdd,Nat.reduceMul,Nat.reduceLeDiff,Nat.reduceEqDiff,↓reduceIte]
   exact hq _ _ ((((Keep.refl _ _).new _).new _).upd (.inl (by omega)) _) (xK fun h=>by have:=h.2.2.1; omega)
  by_cases h4:a.b < 0
  ·simp (disch:=first | omega | (simp only [nx] <;> omega) | fail) only [vaw,h1,h2,h3,h4,ne_eq,not_true_eq_false,not_false_eq_true,Nat.reduceAdd,Nat.reduceMul,Nat.reduceLeDiff,Nat.reduceEqDiff,↓reduceIte]
   exact hq _ _ ((((Keep.refl _ _).new _).new _).upd (.inl (by omega)) _) (xK fun h=>by have:=h.2.2.2.1; omega)
  by_cases h5:(i:Int)≤a.b
  ·simp (disch:=first | omega | (simp only [nx] <;> omega) | fail) only [vaw,h1,h2,h3,h4,h5,ne_eq,not_true_eq_false,not_false_eq_true,Nat.reduceAdd,Nat.reduceMul,Nat.reduceLeDiff,Nat.reduceEqDiff,↓reduceIte]
   exact hq _ _ ((((Keep.refl _ _).new _).new _).upd (.inl (by omega)) _) (xK fun h=>by have:=h.2.2.2.2.1; omega)
  have hpa:a.a.toNat < arcs.length:=by omega
  have hpb:a.b.toNat < arcs.length:=by omega
  have hp:arcs[a.a.toNat]? = some arcs[a.a.toNat]:=by simp [hpa]
  have hqq:arcs[a.b.toNat]? = some arcs[a.b.toNat]:=by simp [hpb]
  have bp:=hc _ _ (by omega) hp
  have bq:=hc _ _ (by omega) hqq
  generalize arcs[a.a.toNat]=p at *
  generalize arcs[a.b.toNat]=q at *
  have key:IsTwo arcs i a↔(p.mode=a.mode∧q.mode=a.mode∧p.src=a.src∧p.dst=q.src∧q.dst=a.dst∧a.cost=p.cost+q.cost):=by
   unfold IsTwo
   rw [hp,hqq]
   constructor
   ·rintro ⟨_,_,_,_,_,p',q',g1,g2,g3⟩
    injection g1 with g1; injection g2 with g2
    subst g1; subst g2; exact g3
   ·intro g
    exact ⟨h1,by omega,by omega,by omega,by omega,p,q,rfl,rfl,g⟩
  obtain ⟨ip,op,p1,p2,p3,p4⟩:=vZ hr hp
  obtain ⟨iq,oq,q1,q2,q3,q4⟩:=vZ hr hqq
  rw [Int.toNat_of_nonneg (by omega)] at p1 q1
  simp only [Arc.cells] at p4 q4
  have hbp:AVal.beq (.agg [.int .i64 q.src,.int .i64 q.dst,.int .i64 q.mode,.int .i64 q.cost,.int .i64 q.edge,.int .i64 q.a,.int .i64 q.b]) (.agg [.int .i64 q.src,.int .i64 q.dst,.int .i64 q.mode,.int .i64 q.cost,.int .i64 q.edge,.int .i64 q.a,.int .i64 q.b])=true:=by simp [AVal.beq,AVal.beqs]
  simp (disch:=first | omega | (simp only [nx] <;> omega) | fail) only [vaw,h1,h2,h3,h4,h5,ne_eq,not_true_eq_false,not_false_eq_true,p1,p4,q1,q4,xF hbq,xF hbp,Nat.reduceAdd,Nat.reduceMul,Nat.reduceLeDiff,Nat.reduceEqDiff,↓reduceIte]
  by_cases g1:p.mode=a.mode
  ·by_cases g2:q.mode=a.mode
   ·by_cases g3:p.src=a.src
    ·by_cases g4:p.dst=q.src
     ·by_cases g5:q.dst=a.dst
      ·by_cases g6:a.cost=p.cost+q.cost
       ·simp (disch:=first | omega | (simp only [nx] <;> omega) | fail) only [vaw,g1,g2,g3,g4,g5,g6,Nat.reduceAdd,Nat.reduceMul,Nat.reduceLeDiff,Nat.reduceEqDiff,↓reduceIte]
        exact hq _ _ ((((((((Keep.refl _ _).new _).new _).upd (.inl (by omega)) _).new _).new _).upd (.inl (by omega)) _).upd (.inl (by omega)) _) (by unfold Says; rw [key]; simp [g1,g2,g3,g4,g5,g6])
       ·simp (disch:=first | omega | (simp only [nx] <;> omega) | fail) only [vaw,g1,g2,g3,g4,g5,g6,Nat.reduceAdd,Nat.reduceMul,Nat.reduceLeDiff,Nat.reduceEqDiff,↓reduceIte]
        exact hq _ _ ((((((((Keep.refl _ _).new _).new _).upd (.inl (by omega)) _).new _).new _).upd (.inl (by omega)) _).upd (.inl (by omega)) _) (xK fun h=>g6 (key.1 h).2.2.2.2.2)
      ·simp (disch:=first | omega | (simp only [nx] <;> omega) | fail) only [vaw,g1,g2,g3,g4,g5,Nat.reduceAdd,Nat.reduceMul,Nat.reduceLeDiff,Nat.reduceEqDiff,↓reduceIte]
       exact hq _ _ ((((((((Keep.refl _ _).new _).new _).upd (.inl (by omega)) _).new _).new _).upd (.inl (by omega)) _).upd (.inl (by omega)) _) (xK fun h=>g5 (key.1 h).2.2.2.2.1)
     ·simp (disch:=first | omega | (simp only [nx] <;> omega) | fail) only [vaw,g1,g2,g3,g4,Nat.reduceAdd,Nat.reduceMul,Nat.reduceLeDiff,Nat.reduceEqDiff,↓reduceIte]
      exact hq _ _ ((((((((Keep.refl _ _).new _).new _).upd (.inl (by omega)) _).new _).new _).upd (.inl (by omega)) _).upd (.inl (by omega)) _) (xK fun h=>g4 (key.1 h).2.2.2.1)
    ·simp (disch:=first | omega | (simp only [nx] <;> omega) | fail) only [vaw,g1,g2,g3,Nat.reduceAdd,Nat.reduceMul,Nat.reduceLeDiff,Nat.reduceEqDiff,↓reduceIte]
     exact hq _ _ ((((((((Keep.refl _ _).new _).new _).upd (.inl (by omega)) _).new _).new _).upd (.inl (by omega)) _).upd (.inl (by omega)) _) (xK fun h=>g3 (key.1 h).2.2.1)
   ·simp (disch:=first | omega | (simp only [nx] <;> omega) | fail) only [vaw,g1,g2,Nat.reduceAdd,Nat.reduceMul,Nat.reduceLeDiff,Nat.reduceEqDiff,↓reduceIte]
    exact hq _ _ ((((((((Keep.refl _ _).new _).new _).upd (.inl (by omega)) _).new _).new _).upd (.inl (by omega)) _).upd (.inl (by omega)) _) (xK fun h=>g2 (key.1 h).2.1)
  ·simp (disch:=first | omega | (simp only [nx] <;> omega) | fail) only [vaw,g1,Nat.reduceAdd,Nat.reduceMul,Nat.reduceLeDiff,Nat.reduceEqDiff,↓reduceIte]
   exact hq _ _ ((((((((Keep.refl _ _).new _).new _).upd (.inl (by omega)) _).new _).new _).upd (.inl (by omega)) _).upd (.inl (by omega)) _) (xK fun h=>g1 (key.1 h).1)
 ·simp (disch:=first | omega | (simp only [nx] <;> omega) | fail) only [vaw,h1,ne_eq,not_true_eq_false,not_false_eq_true,Nat.reduceAdd,Nat.reduceMul,Nat.reduceLeDiff,Nat.reduceEqDiff,↓reduceIte]
  exact hq _ _ ((((Keep.refl _ _).new _).new _).upd (.inl (by omega)) _) (xK fun h=>h1 h.1)
end Go.Proofs.YtknhlpmmalcchaaGreat

namespace Go.Proofs.YtknhlpmmalcchaaGreat
open Go Go.VAI
set_option linter.unusedSimpArgs false

theorem sizesOf_take (arcs:List Arc) (i:Nat):(xY arcs).take i=xY (arcs.take i):=by
 have h:xY arcs=xY (arcs.take i++arcs.drop i):=by rw [List.take_append_drop]
 have key:∀ (b s:List Arc),(∃ t,xY (b++s)=xY b++t):=by
  intro b s
  have:=foldl_inv (P:=fun (d:List Arc) (x:List Int)=>∃ t,x=xY b++t) (f:=sizeStep) s [] (xY b) ⟨[],by simp⟩ (by
   rintro d c x _ ⟨t,rfl⟩
   exact ⟨t++[_],by unfold sizeStep; rw [List.append_assoc]⟩)
  obtain ⟨t,ht⟩:=this
  exact ⟨t,by unfold xY at ht ⊢; rw [List.foldl_append]; exact ht⟩
 obtain ⟨t,ht⟩:=key (arcs.take i) (arcs.drop i)
 have hl:=zE _ (arcs.take i) rfl
 by_cases hi:i≤arcs.length
 ·rw [h,ht]
  have:(xY (arcs.take i)).length=i:=by rw [hl]; simp; omega
  rw [List.take_append_of_le_length (by omega),List.take_of_length_le (by omega)]
 ·rw [List.take_of_length_le (l:=arcs) (by omega)]
  exact List.take_of_length_le (by rw [zE _ arcs rfl]; omega)
theorem sizesOf_at {arcs:List Arc} {i:Nat} {a:Arc} (ha:arcs[i]? = some a) (h:a.edge = -1→0≤a.a∧a.a < i∧0≤a.b∧a.b < i):(xY arcs)[i]? = some (if a.edge = -1 then (xY arcs).getD a.a.toNat 0+(xY arcs).getD a.b.toNat 0 else 1):=by
 obtain ⟨hi,hai⟩:=List.getElem?_eq_some_iff.1 ha
 have e1:=sizesOf_take arcs (i+1)
 rw [List.take_succ_eq_append_getElem hi,hai,sizesOf_append,← sizesOf_take] at e1
 have hl:=zE _ arcs rfl
 have e2:((xY arcs).take (i+1))[i]? = (xY arcs)[i]? := by rw [List.getElem?_take,if_pos (by omega)]
 rw [← e2,e1,sizeStep]
 have hlt:((xY arcs).take i).length=i:=by rw [List.length_take,hl]; omega
 rw [List.getElem?_append_right (by omega),hlt,Nat.sub_self]
 simp only [List.getElem?_cons_zero]
 congr 1
 split
 ·rename_i he
  have hh:=h he
  have g:∀ j:Nat,j < i→((xY arcs).take i).getD j 0=(xY arcs).getD j 0:=fun j hj=>by
   rw [List.getD_eq_getElem?_getD,List.getD_eq_getElem?_getD,List.getElem?_take,if_pos hj]
  rw [g _ (by omega),g _ (by omega)]
 ·rfl
def zS (arcs:List Arc) (i:Nat):List Int:=(xY arcs).take i++List.replicate (arcs.length - i) 0
theorem sizesTo_length {arcs:List Arc} {i:Nat} (hi:i≤arcs.length):(zS arcs i).length=arcs.length:=by
 simp [zS,zE _ arcs rfl]; omega
theorem sizesTo_lt {arcs:List Arc} {i j:Nat} (hi:i≤arcs.length) (hj:j < i):(zS arcs i)[j]? = some ((xY arcs).getD j 0):=by
 have hl:=zE _ arcs rfl
 have:j < ((xY arcs).take i).length:=by rw [List.length_take,hl]; omega
 rw [zS,List.getElem?_append_left this,List.getElem?_take,if_pos hj,List.getElem?_eq_getElem (by omega),List.getD_eq_getElem?_getD,List.getElem?_eq_getElem (by omega)]
 rfl
theorem sizesTo_here {arcs:List Arc} {i:Nat} (hi:i < arcs.length):(zS arcs i)[i]? = some 0:=by
 have hl:=zE _ arcs rfl
 have:((xY arcs).take i).length=i:=by rw [List.length_take,hl]; omega
 rw [zS,List.getElem?_append_right (by omega),this,Nat.sub_self]
 have:0 < arcs.length - i:=by omega
 simp [this]
theorem sizesTo_set {arcs:List Arc} {i:Nat} {v:Int} (hi:i < arcs.length) (hv:(xY arcs)[i]? = some v):(zS arcs i).set i v=zS arcs (i+1):=by
 have hl:=zE _ arcs rfl
 have h1:((xY arcs).take i).length=i:=by rw [List.length_take,hl]; omega
 obtain ⟨h2,h3⟩:=List.getElem?_eq_some_iff.1 hv
 obtain ⟨k,hk⟩:∃ k,arcs.length - i=k+1:=⟨arcs.length - i - 1,by omega⟩
 have hk2:arcs.length - (i+1)=k:=by omega
 rw [zS,zS,List.take_succ_eq_append_getElem h2,h3,hk,hk2,List.replicate_succ,List.set_append_right _ _ (by omega),h1,Nat.sub_self]
 simp
theorem sizes_pos {es:List Edge} {arcs:List Arc} {m:Nat} (h:∀ (i:Nat) a,i < m→arcs[i]? = some a→ArcOk es arcs i a) (n:Nat):∀ i,i < n→i < m→i < arcs.length→1≤(xY arcs).getD i 0:=by
 induction n with
 | zero=>intro i hi; omega
 | succ n ih =>
  intro i hi him hil
  have ha:arcs[i]? = some arcs[i]:=by simp [hil]
  have hok:=h i _ him ha
  have hat:=sizesOf_at ha (fun he=>by
   rcases hok.2 with h1 | h1
   ·have:=h1.1; omega
   ·exact ⟨h1.2.1,h1.2.2.1,h1.2.2.2.1,h1.2.2.2.2.1⟩)
  rw [List.getD_eq_getElem?_getD,hat]
  simp only [Option.getD_some]
  split
  ·rename_i he
   rcases hok.2 with h1 | h1
   ·have:=h1.1; omega
   ·have a1:=ih arcs[i].a.toNat (by have:=h1.2.1; have:=h1.2.2.1; omega) (by have:=h1.2.1; have:=h1.2.2.1; omega) (by have:=h1.2.1; have:=h1.2.2.1; omega)
    have a2:=ih arcs[i].b.toNat (by have:=h1.2.2.2.1; have:=h1.2.2.2.2.1; omega) (by have:=h1.2.2.2.1; have:=h1.2.2.2.2.1; omega) (by have:=h1.2.2.2.1; have:=h1.2.2.2.2.1; omega)
    omega
  ·omega
def ArcsOk (es:List Edge) (arcs:List Arc):Prop:=(∀ (i:Nat) a,arcs[i]? = some a→ArcOk es arcs i a)∧∀ s∈xY arcs,s≤1000
theorem size_mem {arcs:List Arc} {i:Nat} (hi:i < arcs.length):(xY arcs).getD i 0∈xY arcs:=by
 have hl:=zE _ arcs rfl
 rw [List.getD_eq_getElem?_getD,List.getElem?_eq_getElem (by omega)]
 exact List.getElem_mem _
set_option maxRecDepth 20000 in
set_option maxHeartbeats 4000000 in
theorem harcs_ret {n:Int} {ew rv av uv dv:AVal} {es:List Edge} {arcs:List Arc} {H:AHeap} {Q:AVal→AHeap→Prop} (he:Row H ew 4 (xG es)) (hr:Row H av 7 (xW arcs)) (hlen:arcs.length≤1000000) (hq:∀ b H',Keep Nothing H H'→Says b (ArcsOk es arcs)→Q (.bool b) H'):Ret A 25 [.agg [.int .i64 n,ew,rv,av,uv,dv]] H Q:=by
 refine Ret.of (fn:=F25) rfl ?_
 have hl:=hr.len (by omega) (yJ arcs)
 have hm1:((arcs.length:Nat):Int)*((8:Nat):Int)≤140737488355328:=by omega
 have hbx:AVal.beq (.agg [.int .i64 n,ew,rv,av,uv,dv]) (.agg [.int .i64 n,ew,rv,av,uv,dv])=true∨True:=.inr trivial
 simp (disch:=first | omega | (simp only [nx] <;> omega) | fail) only [vaw,F25,hl,zH hm1 (by omega),Nat.reduceAdd,Nat.reduceMul,Nat.reduceLeDiff,Nat.reduceEqDiff,↓reduceIte]
 rw [reps_zero]
 have z0:zS arcs 0=List.replicate arcs.length 0:=by simp [zS]
 rw [← z0]
 refine xS (fun m t H'=>∃ (i:Nat),m=arcs.length - i∧i≤arcs.length∧t=(xP 3 (.func (.func 47) [.agg [.int .i64 n,ew,rv,av,uv,dv]] [] :: .func (.func 48) [.agg [.int .i64 n,ew,rv,av,uv,dv]] [] :: .slice (H.next+1) 0 arcs.length (.exact arcs.length) :: xP 13 (av :: .int .i64 arcs.length :: .int .i64 i :: xP 50 ([]))):xJ)∧Keep Nothing H H'∧H.next+1 < H'.next ∧
  H'.obj (H.next+1)=some (.cells (xL (zS arcs i)) true)∧(∀ (j:Nat) a,j < i→arcs[j]? = some a→ArcOk es arcs j a)∧∀ j:Nat,j < i→(xY arcs).getD j 0≤1000) arcs.length ?_ ?_
 ·exact ⟨0,rfl,by omega,rfl,((Keep.refl _ _).new _).new _,by simp only [xB]; omega,by simp (disch:=first | omega | (simp only [nx] <;> omega) | fail) only [xI],fun j a hj=>by omega,fun j hj=>by omega⟩
 ·rintro m t H1 ⟨i,rfl,hi,rfl,k1,n1,o1,hok,hsz⟩
  by_cases hc:(i:Int) < arcs.length
  ·have hil:i < arcs.length:=by omega
   have ha:arcs[i]? = some arcs[i]:=by simp [hil]
   obtain ⟨id,off,e1,e2,e3,e4⟩:=vZ (hr.kept k1) ha
   have hat:=fun h=>sizesOf_at ha h
   generalize arcs[i]=a at *
   simp only [Arc.cells] at e4
   have no:∀ H',Keep Nothing H H'→¬ ArcOk es arcs i a→Q (.bool false) H':=fun H' k h=>hq _ _ k (xK fun hh=>h (hh.1 i a ha))
   simp (disch:=first | omega | (simp only [nx] <;> omega) | fail) only [vaw,hc,e1,e4,Nat.reduceAdd,Nat.reduceMul,Nat.reduceLeDiff,Nat.reduceEqDiff,↓reduceIte]
   have k2:Keep Nothing H1 ((H1.new (.cells [.int .i64 0,.int .i64 0,.int .i64 0,.int .i64 0,.int .i64 0,.int .i64 0,.int .i64 0] true)).upd H1.next (some (.cells [.int .i64 a.src,.int .i64 a.dst,.int .i64 a.mode,.int .i64 a.cost,.int .i64 a.edge,.int .i64 a.a,.int .i64 a.b] true))):=((Keep.refl _ _).new _).upd (.inl (Nat.le_refl _)) _
   have q2:((H1.new (.cells [.int .i64 0,.int .i64 0,.int .i64 0,.int .i64 0,.int .i64 0,.int .i64 0,.int .i64 0] true)).upd H1.next (some (.cells [.int .i64 a.src,.int .i64 a.dst,.int .i64 a.mode,.int .i64 a.cost,.int .i64 a.edge,.int .i64 a.a,.int .i64 a.b] true))).obj H1.next=some (.cells [.int .i64 a.src,.int .i64 a.dst,.int .i64 a.mode,.int .i64 a.cost,.int .i64 a.edge,.int .i64 a.a,.int .i64 a.b] true):=xN rfl
   have o2:=(k2.old n1).trans o1
   have n2:=k2.next
   have n2':H1.next < ((H1.new (.cells [.int .i64 0,.int .i64 0,.int .i64 0,.int .i64 0,.int .i64 0,.int .i64 0,.int .i64 0] true)).upd H1.next (some (.cells [.int .i64 a.src,.int .i64 a.dst,.int .i64 a.mode,.int .i64 a.cost,.int .i64 a.edge,.int .i64 a.a,.int .i64 a.b] true))).next:=by simp only [xC,xB]; omega
   have kA:=k1.trans k2
   by_cases h1:a.cost < 0
   ·simp (disch:=first | omega | (simp only [nx] <;> omega) | fail) only [vaw,h1,Nat.reduceAdd,Nat.reduceMul,Nat.reduceLeDiff,Nat.reduceEqDiff,↓reduceIte]
    exact no _ kA (fun h=>by have:=h.1; omega)
   by_cases h2:4398046511104 < a.cost
   ·simp (disch:=first | omega | (simp only [nx] <;> omega) | fail) only [vaw,h1,h2,Nat.reduceAdd,Nat.reduceMul,Nat.reduceLeDiff,Nat.reduceEqDiff,↓reduceIte]
    exact no _ kA (fun h=>by have:=h.1; omega)
   simp (disch:=first | omega | (simp only [nx] <;> omega) | fail) only [vaw,h1,h2,Nat.reduceAdd,Nat.reduceMul,Nat.reduceLeDiff,Nat.reduceEqDiff,↓reduceIte]
   generalize (H1.new (.cells [.int .i64 0,.int .i64 0,.int .i64 0,.int .i64 0,.int .i64 0,.int .i64 0,.int .i64 0] true)).upd H1.next (some (.cells [.int .i64 a.src,.int .i64 a.dst,.int .i64 a.mode,.int .i64 a.cost,.int .i64 a.edge,.int .i64 a.a,.int .i64 a.b] true))=H2 at *
   refine hedge_ret (a:=a) (he.kept kA) fun b H3 k3 s3=>?_
   have o3:=(k3.old (i:=H.next+1) (by omega)).trans o2
   have q3:=(k3.old n2').trans q2
   have kB:=kA.trans k3
   have n3:=k3.next
   have zl:=sizesTo_length hi
   have zl2:(xL (zS arcs i)).length=arcs.length:=by rw [xE,zl]
   have hle:i+1≤arcs.length:=hil
   have hix:∀ j:Nat,j < arcs.length→xO 1 (.slice (H.next+1) 0 arcs.length (.exact arcs.length)) (.int .i64 (j:Int))=some (.ptr (H.next+1) j):=fun j hj=>by rw [xM ⟨by omega,by omega⟩]; simp
   have hxi:=hix i hil
   cases b with
   | true =>
    have hE:=s3.1 rfl
    have hv:(xY arcs)[i]? = some 1:=by
     rw [hat (fun he=>by have:=hE.1; omega),if_neg (by have:=hE.1; omega)]
    have hset:yV (xL (zS arcs i)) i [.int .i64 1]=xL (zS arcs (i+1)):=by
     rw [yQ (by rw [zl2]; exact hil),← sizesTo_set hil hv]
     simp [xL,List.map_set]
    have hgd:(xY arcs).getD i 0=1:=yS hv
    have hat1:(xL (zS arcs (i+1)))[i]? = some (.int .i64 1):=by
     have:=sizesTo_lt (arcs:=arcs) (i:=i+1) (j:=i) (by omega) (by omega)
     rw [hgd] at this
     simp [xL,this]
    have d1:¬ (1:Int) < 1:=by omega
    have d2:¬ (1000:Int) < 1:=by omega
    simp (disch:=first | omega | (simp only [nx] <;> omega) | fail) only [vaw,o3,hxi,zl2,hle,hset,hat1,d1,d2,Nat.reduceAdd,Nat.reduceMul,Nat.reduceLeDiff,Nat.reduceEqDiff,↓reduceIte]
    refine ⟨arcs.length - (i+1),by omega,i+1,rfl,by omega,rfl,kB.upd (.inl (by omega)) _,(by first | omega | (simp only [xB,xC]; omega)),rfl,?_,?_⟩
    ·intro j p hj hp
     by_cases hji:j=i
     ·subst hji
      rw [ha] at hp; injection hp with hp; subst hp
      exact ⟨⟨by omega,by omega⟩,.inl hE⟩
     ·exact hok j p (by omega) hp
    ·intro j hj
     by_cases hji:j=i
     ·subst hji; rw [hgd]; omega
     ·exact hsz j (by omega)
   | false =>
    have hnE:¬ IsEdge es a:=fun h=>by have:=s3.2 h; cases this
    have d1:(0:Int) < 1:=by omega
    simp (disch:=first | omega | (simp only [nx] <;> omega) | fail) only [vaw,o3,Nat.reduceAdd,Nat.reduceMul,Nat.reduceLeDiff,Nat.reduceEqDiff,↓reduceIte]
    refine htwo_ret (hr.kept kB) ha (by omega) (fun j p hj hp=>(hok j p hj hp).1) fun b H4 k4 s4=>?_
    have o4:=(k4.old (i:=H.next+1) (by omega)).trans o3
    have q4:=(k4.old (i:=H1.next) (by omega)).trans q3
    have kC:=kB.trans k4
    have n4:=k4.next
    cases b with
    | true =>
     have hT:=s4.1 rfl
     obtain ⟨t1,t2,t3,t4,t5,t6⟩:=hT
     have hv:(xY arcs)[i]? = some ((xY arcs).getD a.a.toNat 0+(xY arcs).getD a.b.toNat 0):=by
      rw [hat (fun _=>⟨t2,t3,t4,t5⟩),if_pos t1]
     have za:=sizesTo_lt (arcs:=arcs) (i:=i) (j:=a.a.toNat) hi (by omega)
     have zb:=sizesTo_lt (arcs:=arcs) (i:=i) (j:=a.b.toNat) hi (by omega)
     have ba:=hsz a.a.toNat (by omega)
     have bb:=hsz a.b.toNat (by omega)
     have pa:=sizes_pos (m:=i) (fun j p hj hp=>hok j p hj hp) i a.a.toNat (by omega) (by omega) (by omega)
     have pb:=sizes_pos (m:=i) (fun j p hj hp=>hok j p hj hp) i a.b.toNat (by omega) (by omega) (by omega)
     have hxa:=hix a.a.toNat (by omega)
     have hxb:=hix a.b.toNat (by omega)
     rw [Int.toNat_of_nonneg t2] at hxa
     rw [Int.toNat_of_nonneg t4] at hxb
     generalize hsa:(xY arcs).getD a.a.toNat 0=sa at *
     generalize hsb:(xY arcs).getD a.b.toNat 0=sb at *
     have ia:(xL (zS arcs i))[a.a.toNat]? = some (.int .i64 sa):=by simp [xL,za]
     have ib:(xL (zS arcs i))[a.b.toNat]? = some (.int .i64 sb):=by simp [xL,zb]
     have hset:yV (xL (zS arcs i)) i [.int .i64 (sa+sb)]=xL (zS arcs (i+1)):=by
      rw [yQ (by rw [zl2]; exact hil),← sizesTo_set hil hv]
      simp [xL,List.map_set]
     have hgd:(xY arcs).getD i 0=sa+sb:=yS hv
     have hat1:(xL (zS arcs (i+1)))[i]? = some (.int .i64 (sa+sb)):=by
      have:=sizesTo_lt (arcs:=arcs) (i:=i+1) (j:=i) (by omega) (by omega)
      rw [hgd] at this
      simp [xL,this]
     have d2:¬ sa+sb < 1:=by omega
     by_cases d3:1000 < sa+sb
     ·simp (disch:=first | omega | (simp only [nx] <;> omega) | fail) only [vaw,o4,q4,hxa,hxb,ia,ib,hxi,zl2,hle,hset,hat1,d2,d3,Nat.reduceAdd,Nat.reduceMul,Nat.reduceLeDiff,Nat.reduceEqDiff,↓reduceIte]
      refine hq _ _ (kC.upd (.inl (by omega)) _) (xK fun hh=>?_)
      have:=hh.2 _ (size_mem hil)
      rw [hgd] at this; omega
     ·simp (disch:=first | omega | (simp only [nx] <;> omega) | fail) only [vaw,o4,q4,hxa,hxb,ia,ib,hxi,zl2,hle,hset,hat1,d2,d3,Nat.reduceAdd,Nat.reduceMul,Nat.reduceLeDiff,Nat.reduceEqDiff,↓reduceIte]
      refine ⟨arcs.length - (i+1),by omega,i+1,rfl,by omega,rfl,kC.upd (.inl (by omega)) _,(by first | omega | (simp only [xB,xC]; omega)),rfl,?_,?_⟩
      ·intro j p hj hp
       by_cases hji:j=i
       ·subst hji
        rw [ha] at hp; injection hp with hp; subst hp
        exact ⟨⟨by omega,by omega⟩,.inr ⟨t1,t2,t3,t4,t5,t6⟩⟩
       ·exact hok j p (by omega) hp
      ·intro j hj
       by_cases hji:j=i
       ·subst hji; rw [hgd]; omega
       ·exact hsz j (by omega)
    | false =>
     have hnT:¬ IsTwo arcs i a:=fun h=>by have:=s4.2 h; cases this
     have hz0:(xL (zS arcs i))[i]? = some (.int .i64 0):=by simp [xL,sizesTo_here hil]
     simp (disch:=first | omega | (simp only [nx] <;> omega) | fail) only [vaw,o4,hxi,hz0,d1,Nat.reduceAdd,Nat.reduceMul,Nat.reduceLeDiff,Nat.reduceEqDiff,↓reduceIte]
     exact no _ kC (fun h=>by
      rcases h.2 with h | h
      ·exact hnE h
      ·exact hnT h)
  ·have hi:i=arcs.length:=by omega
   subst hi
   simp (disch:=first | omega | (simp only [nx] <;> omega) | fail) only [vaw,hc,Nat.reduceAdd,Nat.reduceMul,Nat.reduceLeDiff,Nat.reduceEqDiff,↓reduceIte]
   refine hq _ _ k1 (zP ⟨fun j a ha=>hok j a (List.getElem?_eq_some_iff.1 ha).1 ha,fun s hs=>?_⟩)
   obtain ⟨j,hj,e⟩:=List.getElem_of_mem hs
   have hl2:=zE _ arcs rfl
   have:=hsz j (by omega)
   rw [List.getD_eq_getElem?_getD,List.getElem?_eq_getElem hj,e] at this
   exact this
end Go.Proofs.YtknhlpmmalcchaaGreat

namespace Go.Proofs.YtknhlpmmalcchaaGreat
open Go Go.VAI
set_option linter.unusedSimpArgs false

set_option maxRecDepth 20000 in
theorem above_ret {n:Int} {ew rv av uv dv:AVal} {rank:List Int} {u v:Nat} {H:AHeap} {Q:AVal→AHeap→Prop} (hr:Row H rv 1 (xL rank)) (hu:u < rank.length) (hv:v < rank.length)
  (hq:∀ b H',Keep Nothing H H'→Says b (uT rank u v)→Q (.bool b) H'):Ret A 50 [.agg [.int .i64 n,ew,rv,av,uv,dv],.int .i64 u,.int .i64 v] H Q:=by
 refine Ret.of (fn:=F50) rfl ?_
 have gu:rank[u]? = some rank[u]:=by simp [hu]
 have gv:rank[v]? = some rank[v]:=by simp [hv]
 have du:rank.getD u 0=rank[u]:=yS gu
 have dv':rank.getD v 0=rank[v]:=yS gv
 obtain ⟨iu,ou,u1,u2,u3⟩:=hr.int_at (k:=.i64) gu
 obtain ⟨iv,ov,v1,v2,v3⟩:=hr.int_at (k:=.i64) gv
 have hbq:AVal.beq rv rv=true:=hr.beq
 have key:uT rank u v↔(rank[u] < 0∨(0≤rank[v]∧rank[v] < rank[u])):=by
  unfold uT; rw [Int.toNat_natCast,Int.toNat_natCast,du,dv']
 generalize rank[u]=x at *
 generalize rank[v]=y at *
 have kk:Keep Nothing H (H.new (.cells [.int .i64 n,ew,rv,av,uv,dv] true)):=(Keep.refl _ _).new _
 by_cases h1:x < 0
 ·simp (disch:=first | omega | (simp only [nx] <;> omega) | fail) only [vaw,F50,u1,u3,h1,xF hbq,Nat.reduceAdd,Nat.reduceMul,Nat.reduceLeDiff,Nat.reduceEqDiff,↓reduceIte]
  exact hq _ _ kk (zP (key.2 (.inl h1)))
 by_cases h2:0≤y
 ·by_cases h3:y < x
  ·simp (disch:=first | omega | (simp only [nx] <;> omega) | fail) only [vaw,F50,u1,u3,v1,v3,h1,h2,h3,xF hbq,Nat.reduceAdd,Nat.reduceMul,Nat.reduceLeDiff,Nat.reduceEqDiff,↓reduceIte]
   exact hq _ _ kk (zP (key.2 (.inr ⟨h2,h3⟩)))
  ·simp (disch:=first | omega | (simp only [nx] <;> omega) | fail) only [vaw,F50,u1,u3,v1,v3,h1,h2,h3,xF hbq,Nat.reduceAdd,Nat.reduceMul,Nat.reduceLeDiff,Nat.reduceEqDiff,↓reduceIte]
   exact hq _ _ kk (xK fun h=>by have:=key.1 h; omega)
 ·simp (disch:=first | omega | (simp only [nx] <;> omega) | fail) only [vaw,F50,u1,u3,v1,v3,h1,h2,xF hbq,Nat.reduceAdd,Nat.reduceMul,Nat.reduceLeDiff,Nat.reduceEqDiff,↓reduceIte]
  exact hq _ _ kk (xK fun h=>by have:=key.1 h; omega)
def uV (l:List Int):List (AVal × AVal):=l.map fun x=>(.int .i64 x,.bool true)
theorem findKey_seen (x:Int):∀ (l:List Int) (n:Nat),(x∈l→∃ i,findKey (.one .int) (.int .i64 x) (uV l) n=some (some (i,.bool true)))∧(x ∉ l→findKey (.one .int) (.int .i64 x) (uV l) n=some none)
 | [],n=>⟨fun h=>by simp at h,fun _=>rfl⟩
 | y :: l,n=>by
  have ih:=findKey_seen x l (n+1)
  have e:findKey (.one .int) (.int .i64 x) (uV (y :: l)) n=if decide (x=y) && true then some (some (n,.bool true)) else findKey (.one .int) (.int .i64 x) (uV l) (n+1):=rfl
  rw [e]
  by_cases h:x=y
  ·subst h
   exact ⟨fun _=>⟨n,by simp⟩,fun hn=>(hn (by simp)).elim⟩
  ·refine ⟨fun hm=>?_,fun hm=>?_⟩
   ·rcases List.mem_cons.1 hm with hm | hm
    ·exact (h hm).elim
    ·obtain ⟨i,hi⟩:=ih.1 hm
     exact ⟨i,by simp [h,hi]⟩
   ·have:=ih.2 (fun hh=>hm (List.mem_cons_of_mem _ hh))
    simp [h,this]
theorem alookup_seen {H:AHeap} {id:Nat} {l:List Int} {x:Int} (h:H.obj id=some (.amap (uV l))):alookup H (.one .int) (.bool false) (.map id) (.int .i64 x) false=some (.bool (decide (x∈l))):=by
 have hm:H.map? id=some (uV l):=by unfold AHeap.map?; rw [h]
 have hk:isKey (.one .int) (.int .i64 x)=true:=rfl
 unfold alookup
 rw [if_neg (by rw [hk]; decide)]
 simp only [hm,bnd]
 by_cases hx:x∈l
 ·obtain ⟨i,hi⟩:=(findKey_seen x l 0).1 hx
  rw [hi]; simp [hx]
 ·rw [(findKey_seen x l 0).2 hx]; simp [hx]
theorem amapUpdate_seen {H:AHeap} {id:Nat} {l:List Int} {x:Int} (h:H.obj id=some (.amap (uV l))) (hx:x ∉ l):uK H (.one .int) (.map id) (.int .i64 x) (.bool true)=some (H.upd id (some (.amap (uV (l++[x]))))):=by
 have hm:H.map? id=some (uV l):=by unfold AHeap.map?; rw [h]
 have hk:isKey (.one .int) (.int .i64 x)=true:=rfl
 unfold uK
 rw [if_pos hk]
 simp only [hm,bnd,(findKey_seen x l 0).2 hx]
 simp [uV]
set_option maxRecDepth 20000 in
set_option maxHeartbeats 1000000 in
theorem once_ret {n:Int} {ew rv av uv dv lv:AVal} {arcs:List Arc} {l:List Int} {H:AHeap} {Q:AVal→AHeap→Prop} (hr:Row H av 7 (xW arcs)) (hl:Row H lv 1 (xL l)) (hlen:l.length≤4611686018427387904)
  (hq:∀ b H',Keep Nothing H H'→Says b (l.Nodup∧∀ x∈l,0≤x∧x < arcs.length)→Q (.bool b) H'):Ret A 49 [.agg [.int .i64 n,ew,rv,av,uv,dv],lv] H Q:=by
 refine Ret.of (fn:=F49) rfl ?_
 have hal:=hr.len (by omega) (yJ arcs)
 have hll:=hl.len1
 rw [xE] at hll
 have hbq:AVal.beq av av=true:=hr.beq
 simp (disch:=first | omega | (simp only [nx] <;> omega) | fail) only [vaw,F49,hll,Nat.reduceAdd,Nat.reduceMul,Nat.reduceLeDiff,Nat.reduceEqDiff,↓reduceIte]
 have k0:Keep Nothing H ((H.new (.cells [.int .i64 n,ew,rv,av,uv,dv] true)).new (.amap [])):=((Keep.refl _ _).new _).new _
 refine xS (fun m t H'=>∃ (i:Nat),m=l.length - i∧i≤l.length∧t=(xP 2 (.ptr H.next 0 :: xP 2 (.map (H.next+1) :: xP 3 (lv :: .int .i64 l.length :: .int .i64 i :: xP 21 ([])))):xJ)∧Keep Nothing H H'∧H.next+1 < H'.next∧H'.obj H.next=some (.cells [.int .i64 n,ew,rv,av,uv,dv] true)∧H'.obj (H.next+1)=some (.amap (uV (l.take i)))∧(l.take i).Nodup∧∀ x∈l.take i,0≤x∧x < arcs.length) l.length ?_ ?_
 ·exact ⟨0,rfl,by omega,rfl,k0,by simp only [xB]; omega,by simp (disch:=first | omega | (simp only [nx] <;> omega) | fail) only [xI],yB rfl,by simp,by simp⟩
 ·rintro m t H1 ⟨i,rfl,hi,rfl,k1,n1,o1,o2,hnd,hin⟩
  by_cases hc:(i:Int) < l.length
  ·have hil:i < l.length:=by omega
   have he:l[i]? = some l[i]:=by simp [hil]
   have htk:l.take (i+1)=l.take i++[l[i]]:=List.take_succ_eq_append_getElem hil
   obtain ⟨id,off,e1,e2,e3⟩:=(hl.kept k1).int_at (k:=.i64) he
   have hmem:=List.getElem_mem hil
   have hnot:l[i]∈l.take i→¬ l.Nodup:=fun hm hN=>by
    obtain ⟨j,hj,e⟩:=List.getElem_of_mem hm
    rw [List.length_take] at hj
    rw [List.getElem_take] at e
    exact List.pairwise_iff_getElem.1 hN j i (by omega) hil (by omega) e
   generalize l[i]=x at *
   by_cases h1:x < 0
   ·simp (disch:=first | omega | (simp only [nx] <;> omega) | fail) only [vaw,hc,e1,e3,h1,o1,xF hbq,Nat.reduceAdd,Nat.reduceMul,Nat.reduceLeDiff,Nat.reduceEqDiff,↓reduceIte]
    exact hq _ _ k1 (xK fun h=>by have:=h.2 x hmem; omega)
   by_cases h2:(arcs.length:Int)≤x
   ·simp (disch:=first | omega | (simp only [nx] <;> omega) | fail) only [vaw,hc,e1,e3,h1,h2,o1,xF hbq,hal,Nat.reduceAdd,Nat.reduceMul,Nat.reduceLeDiff,Nat.reduceEqDiff,↓reduceIte]
    exact hq _ _ k1 (xK fun h=>by have:=h.2 x hmem; omega)
   by_cases h3:x∈l.take i
   ·simp (disch:=first | omega | (simp only [nx] <;> omega) | fail) only [vaw,hc,e1,e3,h1,h2,o1,xF hbq,hal,alookup_seen o2,h3,Nat.reduceAdd,Nat.reduceMul,Nat.reduceLeDiff,Nat.reduceEqDiff,↓reduceIte]
    exact hq _ _ k1 (xK fun h=>hnot h3 h.1)
   ·simp (disch:=first | omega | (simp only [nx] <;> omega) | fail) only [vaw,hc,e1,e3,h1,h2,o1,xF hbq,hal,alookup_seen o2,h3,amapUpdate_seen o2 h3,Nat.reduceAdd,Nat.reduceMul,Nat.reduceLeDiff,Nat.reduceEqDiff,↓reduceIte]
    refine ⟨l.length - (i+1),by omega,i+1,rfl,by omega,rfl,k1.upd (.inl (by omega)) _,(by first | omega | (simp only [xB,xC]; omega)),?_,?_,?_⟩
    ·rw [htk]
    ·rw [htk]
     exact List.nodup_append.2 ⟨hnd,by simp,fun a ha b hb=>by simp at hb; subst hb; intro e; subst e; exact h3 ha⟩
    ·intro y hy
     rw [htk] at hy
     rcases List.mem_append.1 hy with hy | hy
     ·exact hin y hy
     ·simp at hy; subst hy; omega
  ·have:i=l.length:=by omega
   subst this
   rw [List.take_length] at hnd hin
   simp (disch:=first | omega | (simp only [nx] <;> omega) | fail) only [vaw,hc,Nat.reduceAdd,Nat.reduceMul,Nat.reduceLeDiff,Nat.reduceEqDiff,↓reduceIte]
   exact hq _ _ k1 (zP ⟨hnd,hin⟩)
end Go.Proofs.YtknhlpmmalcchaaGreat

namespace Go.Proofs.YtknhlpmmalcchaaGreat
open Go Go.VAI
set_option linter.unusedSimpArgs false

def UpAt (rank:List Int) (arcs:List Arc) (v:Int) (x:Int):Prop:=0≤x∧∃ a,arcs[x.toNat]? = some a∧a.src=v∧(a.dst=v∨uT rank a.dst v)
def DownAt (rank:List Int) (arcs:List Arc) (v:Int) (x:Int):Prop:=0≤x∧∃ a,arcs[x.toNat]? = some a∧a.dst=v∧a.src≠v∧0≤rank.getD v.toNat 0∧uT rank a.src v
theorem take_all {P:Int→Prop} {l:List Int} {i:Nat} {x:Int} (hx:l[i]? = some x) (h:∀ y∈l.take i,P y) (hp:P x):∀ y∈l.take (i+1),P y:=by
 obtain ⟨hi,e⟩:=List.getElem?_eq_some_iff.1 hx
 intro y hy
 rw [List.take_succ_eq_append_getElem hi,e] at hy
 rcases List.mem_append.1 hy with hy | hy
 ·exact h y hy
 ·simp at hy; subst hy; exact hp
theorem above_int {n:Int} {ew rv av uv dv:AVal} {rank:List Int} {u:Int} {v:Nat} {H:AHeap} {Q:AVal→AHeap→Prop} (hr:Row H rv 1 (xL rank)) (hu:0≤u∧u < rank.length) (hv:v < rank.length)
  (hq:∀ b H',Keep Nothing H H'→Says b (uT rank u v)→Q (.bool b) H'):Ret A 50 [.agg [.int .i64 n,ew,rv,av,uv,dv],.int .i64 u,.int .i64 v] H Q:=by
 obtain ⟨u',rfl⟩:=Int.eq_ofNat_of_zero_le hu.1
 exact above_ret hr (by omega) hv hq
set_option maxRecDepth 20000 in
set_option maxHeartbeats 4000000 in
theorem hvertex_ret {n:Int} {ew rv av uv dv:AVal} {es:List Edge} {rank:List Int} {arcs:List Arc} {up down:List (List Int)} {lu ld:List Int} {v:Nat} {H:AHeap} {Q:AVal→AHeap→Prop}
  (he:Row H ew 4 (xG es)) (hr:Row H rv 1 (xL rank)) (ha:Row H av 7 (xW arcs)) (hu:RowsOf H uv up) (hd:RowsOf H dv down)
  (hlu:up[v]? = some lu) (hld:down[v]? = some ld) (hv:v < rank.length) (hnu:lu.length≤4611686018427387904) (hnd:ld.length≤4611686018427387904)
  (hends:∀ (i:Nat) a,arcs[i]? = some a→(0≤a.src∧a.src < rank.length)∧(0≤a.dst∧a.dst < rank.length))
  (hq:∀ b H',Keep Nothing H H'→Says b (UpOk rank arcs v lu∧DownOk rank arcs v ld)→Q (.bool b) H'):Ret A 26 [.agg [.int .i64 n,ew,rv,av,uv,dv],.int .i64 v] H Q:=by
 refine Ret.of (fn:=F26) rfl ?_
 have be:=he.beq
 have br:AVal.beq rv rv=true:=hr.beq
 have ba:AVal.beq av av=true:=ha.beq
 have bu:=hu.beq
 have bd:=hd.beq
 have bx:AVal.beq (.agg [.int .i64 n,ew,rv,av,uv,dv]) (.agg [.int .i64 n,ew,rv,av,uv,dv])=true:=by simp [AVal.beq,AVal.beqs,be,br,ba,bu,bd]
 obtain ⟨iu,ou,ru,u1,u2,u3,u4⟩:=hu.at (k:=.i64) hlu
 obtain ⟨id,od,rd,d1,d2,d3,d4⟩:=hd.at (k:=.i64) hld
 have bru:=u4.beq
 have brd:=d4.beq
 have gv:rank[v]? = some rank[v]:=by simp [hv]
 obtain ⟨ir,or,r1,r2,r3⟩:=hr.int_at (k:=.i64) gv
 have dv':rank.getD v 0=rank[v]:=yS gv
 generalize rank[v]=rk at *
 simp (disch:=first | omega | (simp only [nx] <;> omega) | fail) only [vaw,F26,u1,u3,Nat.reduceAdd,Nat.reduceMul,Nat.reduceLeDiff,Nat.reduceEqDiff,↓reduceIte]
 have k0:Keep Nothing H (H.new (.cells [.int .i64 n,ew,rv,av,uv,dv] true)):=(Keep.refl _ _).new _
 have q0:(H.new (.cells [.int .i64 n,ew,rv,av,uv,dv] true)).obj H.next=some (.cells [.int .i64 n,ew,rv,av,uv,dv] true):=yB rfl
 refine once_ret (ha.kept k0) (u4.kept k0) hnu fun b H1 k1 s1=>?_
 have n1:=k1.next
 simp only [xB] at n1
 have q1:=(k1.old (i:=H.next) (by simp only [xB]; omega)).trans q0
 have kA:=k0.trans k1
 have du3:∀ {H':AHeap},Keep Nothing H H'→(bnd (cellsOf (H'.obj id)) fun c=>c[od]?)=some rd:=fun k=>by rw [k.old d2]; exact d3
 have uu3:∀ {H':AHeap},Keep Nothing H H'→(bnd (cellsOf (H'.obj iu)) fun c=>c[ou]?)=some ru:=fun k=>by rw [k.old u2]; exact u3
 have rr3:∀ {H':AHeap},Keep Nothing H H'→(bnd (cellsOf (H'.obj ir)) fun c=>c[or]?)=some (.int .i64 rk):=fun k=>by rw [k.old r2]; exact r3
 cases b with
 | false =>
  simp (disch:=first | omega | (simp only [nx] <;> omega) | fail) only [vaw,q1,xF bx,xF bu,xF bru,Nat.reduceAdd,Nat.reduceMul,Nat.reduceLeDiff,Nat.reduceEqDiff,↓reduceIte]
  exact hq _ _ kA (xK fun h=>by have:=s1.2 ⟨h.1.1,fun x hx=>by obtain ⟨h1,a,h2,_⟩:=h.1.2 x hx; have:=(List.getElem?_eq_some_iff.1 h2).1; exact ⟨h1,by omega⟩⟩; cases this)
 | true =>
  obtain ⟨w1,w2⟩:=s1.1 rfl
  simp (disch:=first | omega | (simp only [nx] <;> omega) | fail) only [vaw,q1,xF bx,xF bu,xF bru,d1,du3 kA,Nat.reduceAdd,Nat.reduceMul,Nat.reduceLeDiff,Nat.reduceEqDiff,↓reduceIte]
  refine once_ret (ha.kept kA) (d4.kept kA) hnd fun b H2 k2 s2=>?_
  have n2:=k2.next
  have q2:=(k2.old (i:=H.next) (by omega)).trans q1
  have kB:=kA.trans k2
  cases b with
  | false =>
   simp (disch:=first | omega | (simp only [nx] <;> omega) | fail) only [vaw,q2,xF bx,xF bd,xF brd,Nat.reduceAdd,Nat.reduceMul,Nat.reduceLeDiff,Nat.reduceEqDiff,↓reduceIte]
   exact hq _ _ kB (xK fun h=>by have:=s2.2 ⟨h.2.1,fun x hx=>by obtain ⟨h1,a,h2,_⟩:=h.2.2 x hx; have:=(List.getElem?_eq_some_iff.1 h2).1; exact ⟨h1,by omega⟩⟩; cases this)
  | true =>
   obtain ⟨z1,z2⟩:=s2.1 rfl
   have lenD:=(d4.kept kB).len1
   rw [xE] at lenD
   by_cases hrk:rk < 0∧0 < ld.length
   ·have g1:=hrk.1
    have g2:(0:Int) < ld.length:=by omega
    simp (disch:=first | omega | (simp only [nx] <;> omega) | fail) only [vaw,q2,xF bx,xF bd,xF brd,xF br,r1,rr3 kB,g1,d1,du3 kB,lenD,g2,Nat.reduceAdd,Nat.reduceMul,Nat.reduceLeDiff,Nat.reduceEqDiff,↓reduceIte]
    refine hq _ _ kB (xK fun h=>?_)
    obtain ⟨h1,a,h2,h3,h4,h5,h6⟩:=h.2.2 ld[0] (List.getElem_mem _)
    rw [Int.toNat_natCast,dv'] at h5
    omega
   have hcase:(rk < 0∧¬ (0:Int) < ld.length)∨(¬ rk < 0∧True):=by
    by_cases h:rk < 0
    ·exact .inl ⟨h,fun h2=>hrk ⟨h,by omega⟩⟩
    ·exact .inr ⟨h,trivial⟩
   have hD:∀ x∈ld,0≤rk:=by
    intro x hx
    have:=List.length_pos_of_mem hx
    omega
   have lenU:=(u4.kept kB).len1
   rw [xE] at lenU
   rcases hcase with ⟨g1,g2⟩ | ⟨g1,g2⟩ <;> simp (disch:=first | omega | (simp only [nx] <;> omega) | fail) only [vaw,q2,xF bx,xF bd,xF brd,xF br,r1,rr3 kB,g1,d1,du3 kB,lenD,g2,u1,uu3 kB,lenU,Nat.reduceAdd,Nat.reduceMul,Nat.reduceLeDiff,Nat.reduceEqDiff,↓reduceIte]
   all_goals refine xS (fun m t H'=>∃ (i:Nat),m=lu.length - i∧i≤lu.length∧t=(xP 1 (.int .i64 v :: .ptr H.next 0 :: xP 52 (ru :: .int .i64 lu.length :: .int .i64 i :: xP 64 ([]))):xJ)∧Keep Nothing H H'∧H.next < H'.next∧H'.obj H.next=some (.cells [.int .i64 n,ew,rv,av,uv,dv] true)∧∀ x∈lu.take i,UpAt rank arcs v x) lu.length ?_ ?_
   ·exact ⟨0,rfl,by omega,rfl,kB,by omega,q2,by simp⟩
   rotate_left
   ·exact ⟨0,rfl,by omega,rfl,kB,by omega,q2,by simp⟩
   all_goals (
    rintro m t H3 ⟨i,rfl,hi,rfl,k3,n3,q3,hin⟩
    by_cases hc:(i:Int) < lu.length
    ·have hil:i < lu.length:=by omega
     have hx:lu[i]? = some lu[i]:=by simp [hil]
     obtain ⟨ia,oa,a1,a2,a3⟩:=(u4.kept k3).int_at (k:=.i64) hx
     have hmem:=List.getElem_mem hil
     have hxr:=w2 _ hmem
     generalize lu[i]=x at *
     have hxa:x.toNat < arcs.length:=by omega
     have hga:arcs[x.toNat]? = some arcs[x.toNat]:=by simp [hxa]
     have hend:=hends _ _ hga
     obtain ⟨ib,ob,b1,b2,b3,b4⟩:=vZ (ha.kept k3) hga
     rw [Int.toNat_of_nonneg hxr.1] at b1
     have hup:UpOk rank arcs v lu→UpAt rank arcs v x:=fun h=>h.2 x hmem
     have hno:∀ {p:Prop},(UpAt rank arcs v x→p)→(UpOk rank arcs v lu∧DownOk rank arcs v ld)→p:=fun h g=>h (hup g.1)
     have hua:UpAt rank arcs v x↔(arcs[x.toNat].src=v∧(arcs[x.toNat].dst=v∨uT rank arcs[x.toNat].dst v)):=by
      unfold UpAt
      rw [hga]
      constructor
      ·rintro ⟨_,a,e,h⟩; injection e with e; subst e; exact h
      ·intro h; exact ⟨hxr.1,_,rfl,h⟩
     generalize arcs[x.toNat]=a at *
     simp only [Arc.cells] at b4
     by_cases c1:a.src=v
     ·by_cases c2:a.dst=v
      ·simp (disch:=first | omega | (simp only [nx] <;> omega) | fail) only [vaw,hc,a1,a3,q3,b1,b4,c1,c2,ne_eq,not_true_eq_false,not_false_eq_true,Nat.reduceAdd,Nat.reduceMul,Nat.reduceLeDiff,Nat.reduceEqDiff,↓reduceIte]
       refine ⟨lu.length - (i+1),by omega,i+1,rfl,by omega,rfl,((k3.new _).upd (.inl (by omega)) _),(by first | omega | (simp only [xB,xC]; omega)),take_all hx hin (hua.2 ⟨c1,.inl c2⟩)⟩
      ·simp (disch:=first | omega | (simp only [nx] <;> omega) | fail) only [vaw,hc,a1,a3,q3,b1,b4,c1,c2,ne_eq,not_true_eq_false,not_false_eq_true,Nat.reduceAdd,Nat.reduceMul,Nat.reduceLeDiff,Nat.reduceEqDiff,↓reduceIte]
       have kP:Keep Nothing H ((H3.new (.cells [.int .i64 0,.int .i64 0,.int .i64 0,.int .i64 0,.int .i64 0,.int .i64 0,.int .i64 0] true)).upd H3.next (some (.cells [.int .i64 v,.int .i64 a.dst,.int .i64 a.mode,.int .i64 a.cost,.int .i64 a.edge,.int .i64 a.a,.int .i64 a.b] true))):=(k3.new _).upd (.inl (by omega)) _
       have qP:((H3.new (.cells [.int .i64 0,.int .i64 0,.int .i64 0,.int .i64 0,.int .i64 0,.int .i64 0,.int .i64 0] true)).upd H3.next (some (.cells [.int .i64 v,.int .i64 a.dst,.int .i64 a.mode,.int .i64 a.cost,.int .i64 a.edge,.int .i64 a.a,.int .i64 a.b] true))).obj H.next=some (.cells [.int .i64 n,ew,rv,av,uv,dv] true):=by rw [xQ (by omega),xX (by omega)]; exact q3
       have nP:H.next < ((H3.new (.cells [.int .i64 0,.int .i64 0,.int .i64 0,.int .i64 0,.int .i64 0,.int .i64 0,.int .i64 0] true)).upd H3.next (some (.cells [.int .i64 v,.int .i64 a.dst,.int .i64 a.mode,.int .i64 a.cost,.int .i64 a.edge,.int .i64 a.a,.int .i64 a.b] true))).next:=by simp only [xC,xB]; omega
       generalize (H3.new (.cells [.int .i64 0,.int .i64 0,.int .i64 0,.int .i64 0,.int .i64 0,.int .i64 0,.int .i64 0] true)).upd H3.next (some (.cells [.int .i64 v,.int .i64 a.dst,.int .i64 a.mode,.int .i64 a.cost,.int .i64 a.edge,.int .i64 a.a,.int .i64 a.b] true))=H4 at *
       refine above_int (hr.kept kP) hend.2 hv fun b H5 k5 s5=>?_
       have q5:=(k5.old nP).trans qP
       have n5:=k5.next
       cases b with
       | true =>
        simp (disch:=first | omega | (simp only [nx] <;> omega) | fail) only [vaw,Nat.reduceAdd,Nat.reduceMul,Nat.reduceLeDiff,Nat.reduceEqDiff,↓reduceIte]
        exact ⟨lu.length - (i+1),by omega,i+1,rfl,by omega,rfl,kP.trans k5,by omega,q5,take_all hx hin (hua.2 ⟨c1,.inr (s5.1 rfl)⟩)⟩
       | false =>
        simp (disch:=first | omega | (simp only [nx] <;> omega) | fail) only [vaw,Nat.reduceAdd,Nat.reduceMul,Nat.reduceLeDiff,Nat.reduceEqDiff,↓reduceIte]
        exact hq _ _ (kP.trans k5) (xK (hno fun h=>by
         rcases (hua.1 h).2 with h | h
         ·exact c2 h
         ·have:=s5.2 h; cases this))
     ·simp (disch:=first | omega | (simp only [nx] <;> omega) | fail) only [vaw,hc,a1,a3,q3,b1,b4,c1,ne_eq,not_true_eq_false,not_false_eq_true,Nat.reduceAdd,Nat.reduceMul,Nat.reduceLeDiff,Nat.reduceEqDiff,↓reduceIte]
      exact hq _ _ ((k3.new _).upd (.inl (by omega)) _) (xK (hno fun h=>c1 (hua.1 h).1))
    ·have:i=lu.length:=by omega
     subst this
     rw [List.take_length] at hin
     have hU:UpOk rank arcs v lu:=⟨w1,hin⟩
     have lenD:=(d4.kept k3).len1
     rw [xE] at lenD
     simp (disch:=first | omega | (simp only [nx] <;> omega) | fail) only [vaw,hc,q3,d1,du3 k3,lenD,Nat.reduceAdd,Nat.reduceMul,Nat.reduceLeDiff,Nat.reduceEqDiff,↓reduceIte]
     clear g1 g2
     refine xS (fun m t H'=>∃ (i:Nat),m=ld.length - i∧i≤ld.length∧t=(xP 1 (.int .i64 v :: .ptr H.next 0 :: xP 88 (rd :: .int .i64 ld.length :: .int .i64 i :: xP 28 ([]))):xJ)∧Keep Nothing H H'∧H.next < H'.next∧H'.obj H.next=some (.cells [.int .i64 n,ew,rv,av,uv,dv] true)∧∀ x∈ld.take i,DownAt rank arcs v x) ld.length ?_ ?_
     ·exact ⟨0,rfl,by omega,rfl,k3,n3,q3,by simp⟩
     ·rintro m t H3 ⟨i,rfl,hi,rfl,k3,n3,q3,hin⟩
      by_cases hc:(i:Int) < ld.length
      ·have hil:i < ld.length:=by omega
       have hx:ld[i]? = some ld[i]:=by simp [hil]
       obtain ⟨ia,oa,a1,a2,a3⟩:=(d4.kept k3).int_at (k:=.i64) hx
       have hmem:=List.getElem_mem hil
       have hxr:=z2 _ hmem
       have hrk:=hD _ hmem
       generalize ld[i]=x at *
       have hxa:x.toNat < arcs.length:=by omega
       have hga:arcs[x.toNat]? = some arcs[x.toNat]:=by simp [hxa]
       have hend:=hends _ _ hga
       obtain ⟨ib,ob,b1,b2,b3,b4⟩:=vZ (ha.kept k3) hga
       rw [Int.toNat_of_nonneg hxr.1] at b1
       have hno:∀ {p:Prop},(DownAt rank arcs v x→p)→(UpOk rank arcs v lu∧DownOk rank arcs v ld)→p:=fun h g=>h (g.2.2 x hmem)
       have hua:DownAt rank arcs v x↔(arcs[x.toNat].dst=v∧arcs[x.toNat].src≠v∧uT rank arcs[x.toNat].src v):=by
        unfold DownAt
        rw [hga,Int.toNat_natCast,dv']
        constructor
        ·rintro ⟨_,a,e,h1,h2,h3,h4⟩; injection e with e; subst e; exact ⟨h1,h2,h4⟩
        ·intro h; exact ⟨hxr.1,_,rfl,h.1,h.2.1,hrk,h.2.2⟩
       generalize arcs[x.toNat]=a at *
       simp only [Arc.cells] at b4
       by_cases c1:a.dst=v
       ·by_cases c2:a.src=v
        ·simp (disch:=first | omega | (simp only [nx] <;> omega) | fail) only [vaw,hc,a1,a3,q3,b1,b4,c1,c2,ne_eq,not_true_eq_false,not_false_eq_true,Nat.reduceAdd,Nat.reduceMul,Nat.reduceLeDiff,Nat.reduceEqDiff,↓reduceIte]
         exact hq _ _ ((k3.new _).upd (.inl (by omega)) _) (xK (hno fun h=>(hua.1 h).2.1 c2))
        ·simp (disch:=first | omega | (simp only [nx] <;> omega) | fail) only [vaw,hc,a1,a3,q3,b1,b4,c1,c2,ne_eq,not_true_eq_false,not_false_eq_true,Nat.reduceAdd,Nat.reduceMul,Nat.reduceLeDiff,Nat.reduceEqDiff,↓reduceIte]
         have kP:Keep Nothing H ((H3.new (.cells [.int .i64 0,.int .i64 0,.int .i64 0,.int .i64 0,.int .i64 0,.int .i64 0,.int .i64 0] true)).upd H3.next (some (.cells [.int .i64 a.src,.int .i64 v,.int .i64 a.mode,.int .i64 a.cost,.int .i64 a.edge,.int .i64 a.a,.int .i64 a.b] true))):=(k3.new _).upd (.inl (by omega)) _
         have qP:((H3.new (.cells [.int .i64 0,.int .i64 0,.int .i64 0,.int .i64 0,.int .i64 0,.int .i64 0,.int .i64 0] true)).upd H3.next (some (.cells [.int .i64 a.src,.int .i64 v,.int .i64 a.mode,.int .i64 a.cost,.int .i64 a.edge,.int .i64 a.a,.int .i64 a.b] true))).obj H.next=some (.cells [.int .i64 n,ew,rv,av,uv,dv] true):=by rw [xQ (by omega),xX (by omega)]; exact q3
         have nP:H.next < ((H3.new (.cells [.int .i64 0,.int .i64 0,.int .i64 0,.int .i64 0,.int .i64 0,.int .i64 0,.int .i64 0] true)).upd H3.next (some (.cells [.int .i64 a.src,.int .i64 v,.int .i64 a.mode,.int .i64 a.cost,.int .i64 a.edge,.int .i64 a.a,.int .i64 a.b] true))).next:=by simp only [xC,xB]; omega
         generalize (H3.new (.cells [.int .i64 0,.int .i64 0,.int .i64 0,.int .i64 0,.int .i64 0,.int .i64 0,.int .i64 0] true)).upd H3.next (some (.cells [.int .i64 a.src,.int .i64 v,.int .i64 a.mode,.int .i64 a.cost,.int .i64 a.edge,.int .i64 a.a,.int .i64 a.b] true))=H4 at *
         refine above_int (hr.kept kP) hend.1 hv fun b H5 k5 s5=>?_
         have q5:=(k5.old nP).trans qP
         have n5:=k5.next
         cases b with
         | true =>
          simp (disch:=first | omega | (simp only [nx] <;> omega) | fail) only [vaw,Nat.reduceAdd,Nat.reduceMul,Nat.reduceLeDiff,Nat.reduceEqDiff,↓reduceIte]
          exact ⟨ld.length - (i+1),by omega,i+1,rfl,by omega,rfl,kP.trans k5,by omega,q5,take_all hx hin (hua.2 ⟨c1,c2,s5.1 rfl⟩)⟩
         | false =>
          simp (disch:=first | omega | (simp only [nx] <;> omega) | fail) only [vaw,Nat.reduceAdd,Nat.reduceMul,Nat.reduceLeDiff,Nat.reduceEqDiff,↓reduceIte]
          exact hq _ _ (kP.trans k5) (xK (hno fun h=>by have:=s5.2 (hua.1 h).2.2; cases this))
       ·simp (disch:=first | omega | (simp only [nx] <;> omega) | fail) only [vaw,hc,a1,a3,q3,b1,b4,c1,ne_eq,not_true_eq_false,not_false_eq_true,Nat.reduceAdd,Nat.reduceMul,Nat.reduceLeDiff,Nat.reduceEqDiff,↓reduceIte]
        exact hq _ _ ((k3.new _).upd (.inl (by omega)) _) (xK (hno fun h=>c1 (hua.1 h).1))
      ·have:i=ld.length:=by omega
       subst this
       rw [List.take_length] at hin
       simp (disch:=first | omega | (simp only [nx] <;> omega) | fail) only [vaw,hc,Nat.reduceAdd,Nat.reduceMul,Nat.reduceLeDiff,Nat.reduceEqDiff,↓reduceIte]
       exact hq _ _ k3 (zP ⟨hU,z1,hin⟩))
end Go.Proofs.YtknhlpmmalcchaaGreat

namespace Go.Proofs.YtknhlpmmalcchaaGreat
open Go Go.VAI
set_option linter.unusedSimpArgs false

theorem arc_ends {n:Int} {es:List Edge} {arcs:List Arc} (hn:NetOk n es) (h:∀ (i:Nat) a,arcs[i]? = some a→ArcOk es arcs i a):∀ m,∀ (i:Nat) a,i < m→arcs[i]? = some a→(0≤a.src∧a.src < n)∧(0≤a.dst∧a.dst < n):=by
 intro m
 induction m with
 | zero=>intro i a hi; omega
 | succ m ih =>
  intro i a hi ha
  rcases (h i a ha).2 with ⟨h1,h2,h3,h4⟩ | ⟨h1,h2,h3,h4,h5,p,q,h6,h7,h8,h9,h10,h11,h12,h13⟩
  ·have:=hn.2.2.2 _ (List.mem_of_getElem? h4)
   exact ⟨this.1,this.2.1⟩
  ·have e1:=ih _ p (by omega) h6
   have e2:=ih _ q (by omega) h7
   rw [h10] at e1
   rw [h12] at e2
   exact ⟨e1.1,e2.2⟩
theorem at_some {α:Type} {l:List α} {i:Nat} (h:i < l.length):∃ x,l[i]? = some x∧x∈l:=⟨l[i],by simp [h],List.getElem_mem h⟩
set_option maxRecDepth 20000 in
set_option maxHeartbeats 4000000 in
theorem check_ret {ew rv av uv dv:AVal} {x:Idx} {H:AHeap} {Q:AVal→AHeap→Prop} (hx:IdxAt H ew rv av uv dv x) (hnu:∀ l∈x.up,l.length≤4611686018427387904) (hnd:∀ l∈x.down,l.length≤4611686018427387904)
  (hq:∀ b H',Keep Nothing H H'→Says b (Allowed x)→Q (.bool b) H'):Ret A 10 [.agg [.int .i64 x.n,ew,rv,av,uv,dv]] H Q:=by
 refine Ret.of (fn:=F10) rfl ?_
 have be:=hx.es.beq
 have br:AVal.beq rv rv=true:=hx.rank.beq
 have ba:AVal.beq av av=true:=hx.arcs.beq
 have bu:=hx.up.beq
 have bd:=hx.down.beq
 have lr:=hx.rank.len1
 rw [xE] at lr
 have lu:=hx.up.len
 have ld:=hx.down.len
 have la:=hx.arcs.len (by omega) (yJ x.arcs)
 have bx:AVal.beq (.agg [.int .i64 x.n,ew,rv,av,uv,dv]) (.agg [.int .i64 x.n,ew,rv,av,uv,dv])=true:=by simp [AVal.beq,AVal.beqs,be,br,ba,bu,bd]
 have bn:AVal.beq (.agg [.int .i64 x.n,ew]) (.agg [.int .i64 x.n,ew])=true:=by simp [AVal.beq,AVal.beqs,be]
 simp (disch:=first | omega | (simp only [nx] <;> omega) | fail) only [vaw,F10,Nat.reduceAdd,Nat.reduceMul,Nat.reduceLeDiff,Nat.reduceEqDiff,↓reduceIte]
 have k0:Keep Nothing H (H.new (.cells [.int .i64 x.n,ew,rv,av,uv,dv] true)):=(Keep.refl _ _).new _
 have q0:(H.new (.cells [.int .i64 x.n,ew,rv,av,uv,dv] true)).obj H.next=some (.cells [.int .i64 x.n,ew,rv,av,uv,dv] true):=yB rfl
 refine netcheck_ret (hx.es.kept k0) fun b H1 k1 s1=>?_
 have n1:=k1.next
 simp only [xB] at n1
 have q1:=(k1.old (i:=H.next) (by simp only [xB]; omega)).trans q0
 have kA:=k0.trans k1
 cases b with
 | false =>
  simp (disch:=first | omega | (simp only [nx] <;> omega) | fail) only [vaw,q1,xF bn,Nat.reduceAdd,Nat.reduceMul,Nat.reduceLeDiff,Nat.reduceEqDiff,↓reduceIte]
  exact hq _ _ kA (xK fun h=>by have:=s1.2 h.net; cases this)
 | true =>
  have hnet:=s1.1 rfl
  have hn60:=hnet.2.1
  by_cases c1:(x.rank.length:Int)=x.n
  ·by_cases c2:(x.up.length:Int)=x.n
   ·by_cases c3:(x.down.length:Int)=x.n
    ·by_cases c4:(300000:Int) < x.arcs.length
     ·simp (disch:=first | omega | (simp only [nx] <;> omega) | fail) only [vaw,q1,xF bn,xF br,xF bu,xF bd,xF ba,lr,lu,ld,la,c1,c2,c3,c4,ne_eq,not_true_eq_false,not_false_eq_true,Nat.reduceAdd,Nat.reduceMul,Nat.reduceLeDiff,Nat.reduceEqDiff,↓reduceIte]
      exact hq _ _ kA (xK fun h=>by have:=h.count; omega)
     ·simp (disch:=first | omega | (simp only [nx] <;> omega) | fail) only [vaw,q1,xF bn,xF br,xF bu,xF bd,xF ba,lr,lu,ld,la,c1,c2,c3,c4,ne_eq,not_true_eq_false,not_false_eq_true,Nat.reduceAdd,Nat.reduceMul,Nat.reduceLeDiff,Nat.reduceEqDiff,↓reduceIte]
      refine ranks_ret (hx.rank.kept kA) (by have:=hnet.2.1; omega) fun b H2 k2 s2=>?_
      have n2:=k2.next
      have q2:=(k2.old (i:=H.next) (by omega)).trans q1
      have kB:=kA.trans k2
      cases b with
      | false =>
       simp (disch:=first | omega | (simp only [nx] <;> omega) | fail) only [vaw,q2,xF br,Nat.reduceAdd,Nat.reduceMul,Nat.reduceLeDiff,Nat.reduceEqDiff,↓reduceIte]
       exact hq _ _ kB (xK fun h=>by have:=s2.2 h.ranks; cases this)
      | true =>
       simp (disch:=first | omega | (simp only [nx] <;> omega) | fail) only [vaw,q2,xF br,Nat.reduceAdd,Nat.reduceMul,Nat.reduceLeDiff,Nat.reduceEqDiff,↓reduceIte]
       have hrk:=s2.1 rfl
       have kP:Keep Nothing H ((H2.new (.cells [.int .i64 0,.nilSlice,.nilSlice,.nilSlice,.nilSlice,.nilSlice] true)).upd H2.next (some (.cells [.int .i64 x.n,ew,rv,av,uv,dv] true))):=(kB.new _).upd (.inl (by omega)) _
       have qP:((H2.new (.cells [.int .i64 0,.nilSlice,.nilSlice,.nilSlice,.nilSlice,.nilSlice] true)).upd H2.next (some (.cells [.int .i64 x.n,ew,rv,av,uv,dv] true))).obj H.next=some (.cells [.int .i64 x.n,ew,rv,av,uv,dv] true):=by rw [xQ (by omega),xX (by omega)]; exact q2
       have pP:((H2.new (.cells [.int .i64 0,.nilSlice,.nilSlice,.nilSlice,.nilSlice,.nilSlice] true)).upd H2.next (some (.cells [.int .i64 x.n,ew,rv,av,uv,dv] true))).obj H2.next=some (.cells [.int .i64 x.n,ew,rv,av,uv,dv] true):=xN rfl
       have nP:H2.next < ((H2.new (.cells [.int .i64 0,.nilSlice,.nilSlice,.nilSlice,.nilSlice,.nilSlice] true)).upd H2.next (some (.cells [.int .i64 x.n,ew,rv,av,uv,dv] true))).next:=by simp only [xC,xB]; omega
       generalize (H2.new (.cells [.int .i64 0,.nilSlice,.nilSlice,.nilSlice,.nilSlice,.nilSlice] true)).upd H2.next (some (.cells [.int .i64 x.n,ew,rv,av,uv,dv] true))=H3 at *
       generalize hy:H2.next=y at *
       refine harcs_ret (hx.es.kept kP) (hx.arcs.kept kP) (by omega) fun b H4 k4 s4=>?_
       have q4:=(k4.old (i:=H.next) (by omega)).trans qP
       have p4:=(k4.old nP).trans pP
       have n4:=k4.next
       have kC:=kP.trans k4
       cases b with
       | false =>
        simp (disch:=first | omega | (simp only [nx] <;> omega) | fail) only [vaw,Nat.reduceAdd,Nat.reduceMul,Nat.reduceLeDiff,Nat.reduceEqDiff,↓reduceIte]
        exact hq _ _ kC (xK fun h=>by have:=s4.2 ⟨h.arcs,h.sizes⟩; cases this)
       | true =>
        have harc:=s4.1 rfl
        have hends:=fun i a h=>arc_ends hnet harc.1 (i+1) i a (by omega) h
        simp (disch:=first | omega | (simp only [nx] <;> omega) | fail) only [vaw,q4,Nat.reduceAdd,Nat.reduceMul,Nat.reduceLeDiff,Nat.reduceEqDiff,↓reduceIte]
        refine xS (fun m t H'=>∃ (i:Nat),m=x.rank.length - i∧i≤x.rank.length∧t=(xP 3 (.ptr y 0 :: .func (.func 26) [] [] :: xP 51 (.int .i64 x.n :: .int .i64 i :: xP 8 ([]))):xJ)∧Keep Nothing H H'∧y < H'.next∧H'.obj y=some (.cells [.int .i64 x.n,ew,rv,av,uv,dv] true)∧(∀ (v:Nat) l,v < i→x.up[v]? = some l→UpOk x.rank x.arcs v l)∧∀ (v:Nat) l,v < i→x.down[v]? = some l→DownOk x.rank x.arcs v l) x.rank.length ?_ ?_
        ·exact ⟨0,rfl,by omega,rfl,kC,by omega,p4,fun v l h=>by omega,fun v l h=>by omega⟩
        ·rintro m t H5 ⟨i,rfl,hi,rfl,k5,n5,q5,hU,hD⟩
         by_cases hc:(i:Int) < x.n
         ·have hil:i < x.rank.length:=by omega
          obtain ⟨lup,hlu,mlu⟩:=at_some (l:=x.up) (i:=i) (by omega)
          obtain ⟨ldn,hld,mld⟩:=at_some (l:=x.down) (i:=i) (by omega)
          simp (disch:=first | omega | (simp only [nx] <;> omega) | fail) only [vaw,hc,q5,Nat.reduceAdd,Nat.reduceMul,Nat.reduceLeDiff,Nat.reduceEqDiff,↓reduceIte]
          refine hvertex_ret (hx.es.kept k5) (hx.rank.kept k5) (hx.arcs.kept k5) (hx.up.kept k5) (hx.down.kept k5) hlu hld hil (hnu _ mlu) (hnd _ mld) (fun j a h=>by rw [c1]; exact hends j a h) fun b H6 k6 s6=>?_
          have n6:=k6.next
          have q6:=(k6.old n5).trans q5
          cases b with
          | true =>
           have hb:=s6.1 rfl
           simp (disch:=first | omega | (simp only [nx] <;> omega) | fail) only [vaw,Nat.reduceAdd,Nat.reduceMul,Nat.reduceLeDiff,Nat.reduceEqDiff,↓reduceIte]
           refine ⟨x.rank.length - (i+1),by omega,i+1,rfl,by omega,rfl,k5.trans k6,by omega,q6,fun v l hv hl=>?_,fun v l hv hl=>?_⟩
           ·by_cases hvi:v=i
            ·subst hvi; rw [hlu] at hl; injection hl with hl; subst hl; exact hb.1
            ·exact hU v l (by omega) hl
           ·by_cases hvi:v=i
            ·subst hvi; rw [hld] at hl; injection hl with hl; subst hl; exact hb.2
            ·exact hD v l (by omega) hl
          | false =>
           simp (disch:=first | omega | (simp only [nx] <;> omega) | fail) only [vaw,Nat.reduceAdd,Nat.reduceMul,Nat.reduceLeDiff,Nat.reduceEqDiff,↓reduceIte]
           exact hq _ _ (k5.trans k6) (xK fun h=>by have:=s6.2 ⟨h.up i _ hlu,h.down i _ hld⟩; cases this)
         ·simp (disch:=first | omega | (simp only [nx] <;> omega) | fail) only [vaw,hc,Nat.reduceAdd,Nat.reduceMul,Nat.reduceLeDiff,Nat.reduceEqDiff,↓reduceIte]
          refine hq _ _ k5 (zP ⟨hnet,c1,by omega,by omega,hrk,by omega,harc.1,harc.2,fun v l hl=>hU v l ?_ hl,fun v l hl=>hD v l ?_ hl⟩)
          ·have:=(List.getElem?_eq_some_iff.1 hl).1; omega
          ·have:=(List.getElem?_eq_some_iff.1 hl).1; omega
    ·simp (disch:=first | omega | (simp only [nx] <;> omega) | fail) only [vaw,q1,xF bn,xF br,xF bu,xF bd,lr,lu,ld,c1,c2,c3,ne_eq,not_true_eq_false,not_false_eq_true,Nat.reduceAdd,Nat.reduceMul,Nat.reduceLeDiff,Nat.reduceEqDiff,↓reduceIte]
     exact hq _ _ kA (xK fun h=>c3 (by have:=h.downLen; omega))
   ·simp (disch:=first | omega | (simp only [nx] <;> omega) | fail) only [vaw,q1,xF bn,xF br,xF bu,lr,lu,c1,c2,ne_eq,not_true_eq_false,not_false_eq_true,Nat.reduceAdd,Nat.reduceMul,Nat.reduceLeDiff,Nat.reduceEqDiff,↓reduceIte]
    exact hq _ _ kA (xK fun h=>c2 (by have:=h.upLen; omega))
  ·simp (disch:=first | omega | (simp only [nx] <;> omega) | fail) only [vaw,q1,xF bn,xF br,lr,c1,ne_eq,not_true_eq_false,not_false_eq_true,Nat.reduceAdd,Nat.reduceMul,Nat.reduceLeDiff,Nat.reduceEqDiff,↓reduceIte]
   exact hq _ _ kA (xK fun h=>c1 h.rankLen)
end Go.Proofs.YtknhlpmmalcchaaGreat

namespace Go.Proofs.YtknhlpmmalcchaaGreat
open Go Go.VAI
set_option linter.unusedSimpArgs false

end Go.Proofs.YtknhlpmmalcchaaGreat

namespace Go.Proofs.YtknhlpmmalcchaaGreat
open Go Go.VAI
set_option linter.unusedSimpArgs false

def Fin' (w:Nat) (H:AHeap) (v:AVal) (sz:Nat) (cs:List AVal):Prop:=Row H v sz cs∧∀ j,sid v=some j→w < j
theorem Fin'.M {w:Nat} {M:Nat→Prop} {H H':AHeap} {v:AVal} {sz:Nat} {cs:List AVal} (h:Fin' w H v sz cs) (hk:Keep M H H') (hM:∀ j,M j→j≤w):Fin' w H' v sz cs:=⟨h.1.M hk (fun j hj e=>by have:=h.2 j hj; have:=hM j e; omega),h.2⟩
theorem own_fin {w lo:Nat} {H:AHeap} {v:AVal} {sz:Nat} {cs:List AVal} (h:Own lo H v sz cs) (hw:w < lo):Fin' w H v sz cs:=⟨h.row,fun j hj=>by have:=(h.sid_ge hj).1; omega⟩
def FinRows (w:Nat) (H:AHeap) (v:AVal) (ll:List (List Int)):Prop:=∃ vs,Fin' w H v 1 vs∧vs.length=ll.length∧∀ (i:Nat) r l,vs[i]? = some r→ll[i]? = some l→Fin' w H r 1 (xL l)
theorem FinRows.M {w:Nat} {M:Nat→Prop} {H H':AHeap} {v:AVal} {ll:List (List Int)} (h:FinRows w H v ll) (hk:Keep M H H') (hM:∀ j,M j→j≤w):FinRows w H' v ll:=by
 obtain ⟨vs,h1,h2,h3⟩:=h
 exact ⟨vs,h1.M hk hM,h2,fun i r l e1 e2=>(h3 i r l e1 e2).M hk hM⟩
theorem FinRows.rows {w:Nat} {H:AHeap} {v:AVal} {ll:List (List Int)} (h:FinRows w H v ll):RowsOf H v ll:=by
 obtain ⟨vs,h1,h2,h3⟩:=h
 exact ⟨vs,h1.1,h2,fun i r l e1 e2=>(h3 i r l e1 e2).1⟩
theorem RowsAt.fin {lo w:Nat} {H:AHeap} {av:AVal} {us:List AVal} {ul:List (List Int)} (h:RowsAt lo H av us ul) (ha:Own lo H av 1 us) (hlen:us.length=ul.length) (hw:w < lo):FinRows w H av ul :=
 ⟨us,own_fin ha hw,hlen,fun i r l e1 e2=>⟨(h i r l e1 e2).1,fun j hj=>by have:=((h i r l e1 e2).2 j hj).1; omega⟩⟩
structure DecAt (H0:AHeap) (q w:Nat) (src:Option Nat) (H:AHeap) (cs:List AVal) (s:RS):Prop where
 keep:Keep Nothing H0 H
 op:H.obj H0.next=some (.cells [.int .i64 0,.nilSlice,.nilSlice,.nilSlice,.nilSlice,.nilSlice] true)
 ob:H.obj q=some (.cells cs true)
 rd:RdAt H w src s
 len:s.left.length≤1000000000
 lq:H0.next < q
 lw:q < w
 ls:∀ j,src=some j→j < H0.next
theorem DecAt.lt {H0:AHeap} {q w:Nat} {src:Option Nat} {H:AHeap} {cs:List AVal} {s:RS} (h:DecAt H0 q w src H cs s):w < H.next:=h.rd.lt
theorem DecAt.put {H0:AHeap} {q w:Nat} {src:Option Nat} {H:AHeap} {cs:List AVal} {s:RS} (h:DecAt H0 q w src H cs s) (cs':List AVal):DecAt H0 q w src (H.upd q (some (.cells cs' true))) cs' s:=by
 have h1:=h.lt
 have h2:=h.lq
 have h3:=h.lw
 have h5:=h.keep.next
 have kk:Keep (fun j=>j=q) H (H.upd q (some (.cells cs' true))):=(Keep.refl (fun j=>j=q) _).upd (.inr rfl) _
 exact ⟨h.keep.upd (.inl (by omega)) _,by rw [xQ (by omega)]; exact h.op,xN rfl,h.rd.M kk (by omega) (fun j hj=>by have:=h.ls j hj; omega),h.len,h2,h3,h.ls⟩
theorem DecAt.grow {H0:AHeap} {q w lo:Nat} {src:Option Nat} {H H':AHeap} {cs:List AVal} {s:RS} {M:Nat→Prop} (h:DecAt H0 q w src H cs s) (hk:Keep M H H') (hM:∀ j,M j→lo≤j) (hlo:w < lo):DecAt H0 q w src H' cs s:=by
 have h1:=h.lt
 have h2:=h.lq
 have h3:=h.lw
 have h5:=h.keep.next
 have hm:∀ j,j≤w→¬ M j:=fun j hj hm=>by have:=hM j hm; omega
 exact ⟨⟨by have:=hk.next; omega,fun j hj _=>by rw [hk.obj j (by omega) (hm j (by omega)),h.keep.old hj]⟩,by rw [hk.obj _ (by omega) (hm _ (by omega))]; exact h.op,by rw [hk.obj _ (by omega) (hm _ (by omega))]; exact h.ob,h.rd.M hk (hm w (by omega)) (fun j hj=>hm j (by have:=h.ls j hj; omega)),h.len,h2,h3,h.ls⟩
theorem DecAt.kept {H0:AHeap} {q w:Nat} {src:Option Nat} {H H':AHeap} {cs:List AVal} {s:RS} (h:DecAt H0 q w src H cs s) (hk:Keep Nothing H H'):DecAt H0 q w src H' cs s:=h.grow (lo:=w+1) hk (fun _ h=>h.elim) (by omega)
theorem IdxAt.fin {w:Nat} {Hs H:AHeap} {ew rv av uv dv:AVal} {x:Idx} (hk:Keep (fun j=>j≤w) Hs H) (he:Fin' w Hs ew 4 (xG x.es)) (hr:Fin' w Hs rv 1 (xL x.rank)) (ha:Fin' w Hs av 7 (xW x.arcs)) (hu:FinRows w Hs uv x.up) (hd:FinRows w Hs dv x.down):IdxAt H ew rv av uv dv x :=
 ⟨(he.M hk (fun _ h=>h)).1,(hr.M hk (fun _ h=>h)).1,(ha.M hk (fun _ h=>h)).1,(hu.M hk (fun _ h=>h)).rows,(hd.M hk (fun _ h=>h)).rows⟩
section
variable {K:qG} {t:xJ} {H:AHeap} {Q:PostT}
end
end Go.Proofs.YtknhlpmmalcchaaGreat
