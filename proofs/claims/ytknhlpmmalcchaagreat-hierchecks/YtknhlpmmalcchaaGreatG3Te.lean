/- Steps of the walk. -/
import Derived.Test.YtknhlpmmalcchaaGreatG3Td
import Derived.Test.YtknhlpmmalcchaaGreatG3Vba
import Derived.Test.YtknhlpmmalcchaaGreatG3Tb
import Derived.KernelRfl
set_option linter.all false
set_option linter.unusedVariables false
set_option linter.unusedSimpArgs false
namespace Go.Proofs.YtknhlpmmalcchaaGreat
open Go Go.VAI
set_option linter.unusedSimpArgs false

set_option maxRecDepth 20000 in
theorem right_ret {n:Int} {e:Edge} {H:AHeap} {Q:AVal→AHeap→Prop} (hq:∀ b H',Keep Nothing H H'→Says b (EdgeOk n e)→Q (.bool b) H'):Ret A 51 [.agg e.cells,.int .i64 n] H Q:=by
 refine Ret.of (fn:=F51) rfl ?_
 by_cases h1:0≤e.src
 ·by_cases h2:e.src < n
  ·by_cases h3:0≤e.dst
   ·by_cases h4:e.dst < n
    ·by_cases h5:0≤e.mode
     ·by_cases h6:e.mode < 5
      ·by_cases h7:0≤e.cost
       ·by_cases h8:e.cost≤2147483647
        ·simp (disch:=first | omega | (simp only [nx] <;> omega) | fail) only [vaw,F51,Edge.cells,h1,h2,h3,h4,h5,h6,h7,h8,Nat.reduceAdd,Nat.reduceMul,Nat.reduceLeDiff,Nat.reduceEqDiff,↓reduceIte]
         exact hq _ _ ((Keep.refl _ _).new _) (zP ⟨⟨h1,h2⟩,⟨h3,h4⟩,⟨h5,h6⟩,h7,h8⟩)
        ·simp (disch:=first | omega | (simp only [nx] <;> omega) | fail) only [vaw,F51,Edge.cells,h1,h2,h3,h4,h5,h6,h7,h8,Nat.reduceAdd,Nat.reduceMul,Nat.reduceLeDiff,Nat.reduceEqDiff,↓reduceIte]
         exact hq _ _ ((Keep.refl _ _).new _) (xK fun h=>h8 h.2.2.2.2)
       ·simp (disch:=first | omega | (simp only [nx] <;> omega) | fail) only [vaw,F51,Edge.cells,h1,h2,h3,h4,h5,h6,h7,Nat.reduceAdd,Nat.reduceMul,Nat.reduceLeDiff,Nat.reduceEqDiff,↓reduceIte]
        exact hq _ _ ((Keep.refl _ _).new _) (xK fun h=>h7 h.2.2.2.1)
      ·simp (disch:=first | omega | (simp only [nx] <;> omega) | fail) only [vaw,F51,Edge.cells,h1,h2,h3,h4,h5,h6,Nat.reduceAdd,Nat.reduceMul,Nat.reduceLeDiff,Nat.reduceEqDiff,↓reduceIte]
       exact hq _ _ ((Keep.refl _ _).new _) (xK fun h=>h6 h.2.2.1.2)
     ·simp (disch:=first | omega | (simp only [nx] <;> omega) | fail) only [vaw,F51,Edge.cells,h1,h2,h3,h4,h5,Nat.reduceAdd,Nat.reduceMul,Nat.reduceLeDiff,Nat.reduceEqDiff,↓reduceIte]
      exact hq _ _ ((Keep.refl _ _).new _) (xK fun h=>h5 h.2.2.1.1)
    ·simp (disch:=first | omega | (simp only [nx] <;> omega) | fail) only [vaw,F51,Edge.cells,h1,h2,h3,h4,Nat.reduceAdd,Nat.reduceMul,Nat.reduceLeDiff,Nat.reduceEqDiff,↓reduceIte]
     exact hq _ _ ((Keep.refl _ _).new _) (xK fun h=>h4 h.2.1.2)
   ·simp (disch:=first | omega | (simp only [nx] <;> omega) | fail) only [vaw,F51,Edge.cells,h1,h2,h3,Nat.reduceAdd,Nat.reduceMul,Nat.reduceLeDiff,Nat.reduceEqDiff,↓reduceIte]
    exact hq _ _ ((Keep.refl _ _).new _) (xK fun h=>h3 h.2.1.1)
  ·simp (disch:=first | omega | (simp only [nx] <;> omega) | fail) only [vaw,F51,Edge.cells,h1,h2,Nat.reduceAdd,Nat.reduceMul,Nat.reduceLeDiff,Nat.reduceEqDiff,↓reduceIte]
   exact hq _ _ ((Keep.refl _ _).new _) (xK fun h=>h2 h.1.2)
 ·simp (disch:=first | omega | (simp only [nx] <;> omega) | fail) only [vaw,F51,Edge.cells,h1,Nat.reduceAdd,Nat.reduceMul,Nat.reduceLeDiff,Nat.reduceEqDiff,↓reduceIte]
  exact hq _ _ ((Keep.refl _ _).new _) (xK fun h=>h1 h.1.1)
set_option maxRecDepth 20000 in
theorem refnet_ret {n:Int} {ev:AVal} {es:List Edge} {H:AHeap} {Q:AVal→AHeap→Prop} (hr:Row H ev 4 (xG es)) (hq:∀ b H',Keep Nothing H H'→Says b (NetOk n es)→Q (.bool b) H'):Ret A 27 [.agg [.int .i64 n,ev]] H Q:=by
 refine Ret.of (fn:=F27) rfl ?_
 have hl:=hr.len (by omega) (xU es)
 have hbe:=hr.beq
 have k0:Keep Nothing H (H.new (.cells [.int .i64 n,ev] true)):=(Keep.refl _ _).new _
 by_cases h1:n < 1
 ·simp (disch:=first | omega | (simp only [nx] <;> omega) | fail) only [vaw,F27,h1,Nat.reduceAdd,Nat.reduceMul,Nat.reduceLeDiff,Nat.reduceEqDiff,↓reduceIte]
  exact hq _ _ k0 (xK fun h=>by have:=h.1; omega)
 by_cases h2:60 < n
 ·simp (disch:=first | omega | (simp only [nx] <;> omega) | fail) only [vaw,F27,h1,h2,Nat.reduceAdd,Nat.reduceMul,Nat.reduceLeDiff,Nat.reduceEqDiff,↓reduceIte]
  exact hq _ _ k0 (xK fun h=>by have:=h.2.1; omega)
 by_cases h3:400 < (es.length:Int)
 ·simp (disch:=first | omega | (simp only [nx] <;> omega) | fail) only [vaw,F27,hl,h1,h2,h3,Nat.reduceAdd,Nat.reduceMul,Nat.reduceLeDiff,Nat.reduceEqDiff,↓reduceIte]
  exact hq _ _ k0 (xK fun h=>by have:=h.2.2.1; omega)
 simp (disch:=first | omega | (simp only [nx] <;> omega) | fail) only [vaw,F27,hl,h1,h2,h3,Nat.reduceAdd,Nat.reduceMul,Nat.reduceLeDiff,Nat.reduceEqDiff,↓reduceIte]
 refine xS (fun m t H'=>∃ (i:Nat),m=es.length - i∧i≤es.length∧t=(xP 1 (.ptr H.next 0 :: xP 1 (.int .i64 i :: xP 30 ([]))):xJ)∧Keep Nothing H H'∧H.next < H'.next∧H'.obj H.next=some (.cells [.int .i64 n,ev] true)∧∀ e∈es.take i,EdgeOk n e) es.length ?_ ?_
 ·exact ⟨0,rfl,by omega,rfl,k0,(by first | omega | (simp only [xB,xC]; omega)),yB rfl,by simp⟩
 ·rintro m t H1 ⟨i,rfl,hi,rfl,k1,n1,o1,ha⟩
  by_cases hc:(i:Int) < es.length
  ·have hil:i < es.length:=by omega
   have he:es[i]? = some es[i]:=by simp [hil]
   obtain ⟨id,off,e1,hid2,e2,e3,e4,e5,e6⟩:=vC (hr.kept k1) he
   have htk:=List.take_succ_eq_append_getElem hil
   have hmem:=List.getElem_mem hil
   generalize es[i]=e at *
   simp (disch:=first | omega | (simp only [nx] <;> omega) | fail) only [vaw,o1,hl,hc,e1,e6,xF hbe,Nat.reduceAdd,Nat.reduceMul,Nat.reduceLeDiff,Nat.reduceEqDiff,↓reduceIte]
   refine right_ret fun b H2 k2 s=>?_
   have kk:=k1.trans k2
   have n2:=k2.next
   have o2:=(k2.old n1).trans o1
   cases b with
   | false =>
    simp (disch:=first | omega | (simp only [nx] <;> omega) | fail) only [vaw,o2,xF hbe,Nat.reduceAdd,Nat.reduceMul,Nat.reduceLeDiff,Nat.reduceEqDiff,↓reduceIte]
    refine hq _ _ kk (xK fun h=>?_)
    have:=s.2 (h.2.2.2 e hmem)
    cases this
   | true =>
    simp (disch:=first | omega | (simp only [nx] <;> omega) | fail) only [vaw,o2,xF hbe,Nat.reduceAdd,Nat.reduceMul,Nat.reduceLeDiff,Nat.reduceEqDiff,↓reduceIte]
    refine ⟨es.length - (i+1),by omega,i+1,rfl,by omega,rfl,kk,by omega,?_⟩
    intro x hx
    rw [htk] at hx
    rcases List.mem_append.1 hx with hx | hx
    ·exact ha x hx
    ·simp at hx; subst hx; exact s.1 rfl
  ·have hi:i=es.length:=by omega
   rw [hi,List.take_length] at ha
   simp (disch:=first | omega | (simp only [nx] <;> omega) | fail) only [vaw,o1,hl,hc,Nat.reduceAdd,Nat.reduceMul,Nat.reduceLeDiff,Nat.reduceEqDiff,↓reduceIte]
   exact hq _ _ k1 (zP ⟨by omega,by omega,by omega,ha⟩)
theorem nonneg_nodup:∀ {l:List Int},(∀ (i j:Nat) r,0≤r→l[i]? = some r→l[j]? = some r→i=j)→(l.filter fun x=>decide (0≤x)).Nodup
 | [],_=>by simp
 | x :: l,h=>by
  have ih:=nonneg_nodup (l:=l) (fun i j r h0 h1 h2=>by have:=h (i+1) (j+1) r h0 (by simpa using h1) (by simpa using h2); omega)
  by_cases hx:0≤x
  ·rw [List.filter_cons_of_pos (by simpa using hx)]
   refine List.nodup_cons.2 ⟨fun hm=>?_,ih⟩
   obtain ⟨j,hj⟩:=mem_at' (List.mem_filter.1 hm).1
   have:=h 0 (j+1) x hx rfl (by simpa using hj)
   omega
  ·rw [List.filter_cons_of_neg (by simpa using hx)]
   exact ih
where
 mem_at' {a:Int} {l:List Int} (h:a∈l):∃ i:Nat,l[i]? = some a:=by
  obtain ⟨i,hi,e⟩:=List.getElem_of_mem h
  exact ⟨i,by simp [hi,e]⟩
def wN (l:List Int):Nat:=(l.filter fun x=>decide (0≤x)).length
theorem placed_snoc (l:List Int) (r:Int):wN (l++[r])=wN l+(if 0≤r then 1 else 0):=by
 unfold wN
 rw [List.filter_append,List.length_append]
 by_cases h:0≤r <;> simp [h]
theorem placed_yes {l:List Int} {S:List Bool} {most:Int} (h:SeenAt l l.length S most) (ha:∀ j:Nat,j < wN l→S[j]? = some true):RanksOk l:=by
 have hb:=h.bd
 have hs:=h.seen
 rw [List.take_length] at hb hs
 have hown:∀ (i j:Nat) r,0≤r→l[i]? = some r→l[j]? = some r→i=j:=fun i j r h0 h1 h2=>h.own i j r (List.getElem?_eq_some_iff.1 h1).1 (List.getElem?_eq_some_iff.1 h2).1 h0 h1 h2
 have hnd:=nonneg_nodup hown
 have hle:wN l≤l.length:=List.length_filter_le _ _
 refine ⟨⟨wN l,fun r hr=>?_,fun j hj=>(hs j (by omega)).1 (ha j hj)⟩,hown⟩
 rcases hb r hr with h1 | ⟨h1,h2⟩
 ·exact .inl h1
 ·by_cases hk:r < wN l
  ·exact .inr ⟨h1,hk⟩
  ·exfalso
   have hrm:r∈l.filter fun x=>decide (0≤x):=List.mem_filter.2 ⟨hr,by simpa using h1⟩
   have:=run_le (rank:=(l.filter fun x=>decide (0≤x)).erase r) (k:=wN l) (fun j hj=>by
    rw [hnd.mem_erase_iff]
    refine ⟨by omega,List.mem_filter.2 ⟨(hs j (by omega)).1 (ha j hj),by simp⟩⟩)
   rw [List.length_erase_of_mem hrm] at this
   have hp:0 < (l.filter fun x=>decide (0≤x)).length:=List.length_pos_of_mem hrm
   unfold wN at this
   omega
theorem placed_no {l:List Int} {S:List Bool} {most:Int} (h:SeenAt l l.length S most) {j:Nat} (hj:j < wN l) (hs:S[j]? ≠ some true):¬ RanksOk l:=by
 intro hr
 obtain ⟨k,k1,k2⟩:=hr.run
 have hnd:=nonneg_nodup hr.own
 have:=wO k _ hnd (fun x hx=>by
  obtain ⟨h1,h2⟩:=List.mem_filter.1 hx
  have h2:0≤x:=by simpa using h2
  rcases k1 x h1 with h3 | h3
  ·omega
  ·exact h3)
 have hk:=run_le k2
 have hle:wN l≤l.length:=List.length_filter_le _ _
 refine hs ((h.seen j (by omega)).2 ?_)
 rw [List.take_length]
 exact k2 j (by unfold wN at hj; omega)
def RankPart (n:Int) (rank:List Int) (up down:List (List Int)):Prop:=(rank.length:Int)=n∧up.length=rank.length∧down.length=rank.length∧RanksOk rank
set_option maxRecDepth 20000 in
set_option maxHeartbeats 4000000 in
theorem refranks_ret {ew rv av uv dv:AVal} {x:Idx} {H:AHeap} {Q:AVal→AHeap→Prop} (hx:IdxAt H ew rv av uv dv x) (hlen:x.rank.length≤1000000000)
  (hq:∀ b H',Keep Nothing H H'→Says b (RankPart x.n x.rank x.up x.down)→Q (.bool b) H'):Ret A 28 [.agg [.int .i64 x.n,ew,rv,av,uv,dv]] H Q:=by
 refine Ret.of (fn:=F28) rfl ?_
 have lr:=hx.rank.len1
 rw [xE] at lr
 have lu:=hx.up.len
 have ld:=hx.down.len
 have k0:Keep Nothing H (H.new (.cells [.int .i64 x.n,ew,rv,av,uv,dv] true)):=(Keep.refl _ _).new _
 have hm1:((x.rank.length:Nat):Int)*((1:Nat):Int)≤140737488355328:=by omega
 by_cases c1:(x.rank.length:Int)=x.n
 ·have c1':x.n=x.rank.length:=c1.symm
  by_cases c2:(x.up.length:Int)=x.rank.length
  ·by_cases c3:(x.down.length:Int)=x.rank.length
   ·simp (disch:=first | omega | (simp only [nx] <;> omega) | fail) only [vaw,F28,lr,lu,ld,c1',c2,c3,ne_eq,not_true_eq_false,zH hm1 (by omega),Nat.reduceAdd,Nat.reduceMul,Nat.reduceLeDiff,Nat.reduceEqDiff,↓reduceIte]
    rw [reps_false]
    have kB:Keep Nothing H ((H.new (.cells [.int .i64 x.rank.length,ew,rv,av,uv,dv] true)).new (.cells (xV (List.replicate x.rank.length false)) true)):=((Keep.refl _ _).new _).new _
    generalize hl:x.rank=l at *
    refine xS (fun m t H'=>∃ (i:Nat) (S:List Bool) (most:Int),m=l.length - i∧i≤l.length∧t=(xP 1 (.ptr H.next 0 :: xP 1 (.int .i64 l.length :: .slice (H.next+1) 0 l.length (.exact l.length) :: .int .i64 (wN (l.take i)) :: .int .i64 i :: xP 80 ([]))):xJ)∧Keep Nothing H H'∧H.next+1 < H'.next∧H'.obj H.next=some (.cells [.int .i64 l.length,ew,rv,av,uv,dv] true)∧H'.obj (H.next+1)=some (.cells (xV S) true)∧SeenAt l i S most) l.length ?_ ?_
    ·refine ⟨0,List.replicate l.length false,-1,rfl,by omega,by simp [wN]; rfl,kB,by simp only [xB]; omega,by simp (disch:=first | omega | (simp only [nx] <;> omega) | fail) only [xI],yB rfl,⟨by simp,fun j hj=>?_,.inl rfl,by simp,by simp,fun a b r ha=>by omega⟩⟩
     simp [hj]
    ·rintro m t H1 ⟨i,S,most,rfl,hi,rfl,k1,n1,q1,o1,hS⟩
     by_cases hc:(i:Int) < l.length
     ·have hil:i < l.length:=by omega
      have he:l[i]? = some l[i]:=by simp [hil]
      have hrow:=hx.rank
      rw [hl] at hrow
      obtain ⟨id,off,e1,e2,e3⟩:=(hrow.kept k1).int_at (k:=.i64) he
      have hmem:=List.getElem_mem hil
      have htk:=List.take_succ_eq_append_getElem hil
      generalize l[i]=r at *
      by_cases h1:r = -1
      ·subst h1
       simp (disch:=first | omega | (simp only [nx] <;> omega) | fail) only [vaw,hc,q1,e1,e3,Nat.reduceAdd,Nat.reduceMul,Nat.reduceLeDiff,Nat.reduceEqDiff,↓reduceIte]
       refine ⟨l.length - (i+1),by omega,i+1,S,most,rfl,by omega,?_,k1,n1,o1,hS.minus he⟩
       rw [htk,placed_snoc]
       rfl
      by_cases h2:r < 0
      ·simp (disch:=first | omega | (simp only [nx] <;> omega) | fail) only [vaw,hc,q1,e1,e3,h1,h2,Nat.reduceAdd,Nat.reduceMul,Nat.reduceLeDiff,Nat.reduceEqDiff,↓reduceIte]
       exact hq _ _ k1 (xK fun h=>by have:=ranks_lt (hl ▸ h.2.2.2) hmem; omega)
      by_cases h3:(l.length:Int)≤r
      ·simp (disch:=first | omega | (simp only [nx] <;> omega) | fail) only [vaw,hc,q1,e1,e3,h1,h2,h3,Nat.reduceAdd,Nat.reduceMul,Nat.reduceLeDiff,Nat.reduceEqDiff,↓reduceIte]
       exact hq _ _ k1 (xK fun h=>by have:=ranks_lt (hl ▸ h.2.2.2) hmem; omega)
      obtain ⟨rn,rfl⟩:∃ n:Nat,r=n:=⟨r.toNat,by omega⟩
      have hrn:rn < l.length:=by omega
      have hsl:rn < S.length:=by rw [hS.len]; exact hrn
      have hix:xO 1 (.slice (H.next+1) 0 l.length (.exact l.length)) (.int .i64 (rn:Int))=some (.ptr (H.next+1) rn):=by rw [xM ⟨by omega,by omega⟩]; simp
      have hat:(xV S)[rn]? = some (.bool S[rn]):=by simp [xV,hsl]
      cases hb:S[rn] with
      | true =>
       rw [hb] at hat
       simp (disch:=first | omega | (simp only [nx] <;> omega) | fail) only [vaw,hc,q1,e1,e3,h1,h2,h3,hix,o1,hat,Nat.reduceAdd,Nat.reduceMul,Nat.reduceLeDiff,Nat.reduceEqDiff,↓reduceIte]
       refine hq _ _ k1 (xK fun h=>?_)
       have hin:=(hS.seen rn hrn).1 (by rw [List.getElem?_eq_getElem hsl,hb])
       obtain ⟨c,hcl,hce⟩:=List.getElem_of_mem hin
       simp at hcl
       have hR:RanksOk l:=hl ▸ h.2.2.2
       have:=hR.own i c rn (by omega) he (by rw [List.getElem?_eq_getElem (by omega)]; rw [← hce]; simp)
       omega
      | false =>
       rw [hb] at hat
       have hbl:(xV S).length=l.length:=by simp [xV,hS.len]
       have hle:rn+1≤l.length:=hrn
       have hset:yV (xV S) rn [.bool true]=xV (S.set rn true):=by
        rw [yQ (by rw [hbl]; exact hrn)]
        simp [xV,List.map_set]
       have hpl:wN (l.take i)≤i:=Nat.le_trans (List.length_filter_le _ _) (by simp; omega)
       simp (disch:=first | omega | (simp only [nx] <;> omega) | fail) only [vaw,hc,q1,e1,e3,h1,h2,h3,hix,o1,hat,hbl,hle,hset,Nat.reduceAdd,Nat.reduceMul,Nat.reduceLeDiff,Nat.reduceEqDiff,↓reduceIte]
       refine ⟨l.length - (i+1),by omega,i+1,S.set rn true,_,rfl,by omega,?_,k1.upd (.inl (by omega)) _,n1,rfl,hS.more he hrn (by rw [List.getElem?_eq_getElem hsl,hb]; simp)⟩
       rw [htk,placed_snoc,if_pos (by omega)]
       rfl
     ·have hi:i=l.length:=by omega
      subst hi
      rw [List.take_length]
      have hpl:wN l≤l.length:=List.length_filter_le _ _
      have hP:∀ {p:Prop},(RanksOk l→p)→RankPart x.n l x.up x.down→p:=fun h g=>h g.2.2.2
      simp (disch:=first | omega | (simp only [nx] <;> omega) | fail) only [vaw,hc,q1,Nat.reduceAdd,Nat.reduceMul,Nat.reduceLeDiff,Nat.reduceEqDiff,↓reduceIte]
      refine xS (fun m t H'=>∃ (j:Nat),m=wN l - j∧j≤wN l∧t=(xP 4 (.slice (H.next+1) 0 l.length (.exact l.length) :: .int .i64 (wN l) :: xP 1 (.int .i64 j :: xP 79 ([]))):xJ)∧H'=H1∧∀ c:Nat,c < j→S[c]? = some true) (wN l) ?_ ?_
      ·exact ⟨0,rfl,by omega,rfl,rfl,fun c hc=>by omega⟩
      ·rintro m t H2 ⟨j,rfl,hj,rfl,rfl,hall⟩
       by_cases hc2:(j:Int) < wN l
       ·have hjs:j < S.length:=by rw [hS.len]; omega
        have hix:xO 1 (.slice (H.next+1) 0 l.length (.exact l.length)) (.int .i64 (j:Int))=some (.ptr (H.next+1) j):=by rw [xM ⟨by omega,by omega⟩]; simp
        have hat:(xV S)[j]? = some (.bool S[j]):=by simp [xV,hjs]
        cases hb:S[j] with
        | true =>
         rw [hb] at hat
         simp (disch:=first | omega | (simp only [nx] <;> omega) | fail) only [vaw,hc2,hix,o1,hat,Nat.reduceAdd,Nat.reduceMul,Nat.reduceLeDiff,Nat.reduceEqDiff,↓reduceIte]
         refine ⟨wN l - (j+1),by omega,j+1,rfl,by omega,rfl,?_⟩
         intro c hcj
         by_cases hcj2:c=j
         ·subst hcj2; rw [List.getElem?_eq_getElem hjs,hb]
         ·exact hall c (by omega)
        | false =>
         rw [hb] at hat
         simp (disch:=first | omega | (simp only [nx] <;> omega) | fail) only [vaw,hc2,hix,o1,hat,Nat.reduceAdd,Nat.reduceMul,Nat.reduceLeDiff,Nat.reduceEqDiff,↓reduceIte]
         exact hq _ _ k1 (xK (hP (placed_no hS (j:=j) (by omega) (by rw [List.getElem?_eq_getElem hjs,hb]; simp))))
       ·simp (disch:=first | omega | (simp only [nx] <;> omega) | fail) only [vaw,hc2,Nat.reduceAdd,Nat.reduceMul,Nat.reduceLeDiff,Nat.reduceEqDiff,↓reduceIte]
        exact hq _ _ k1 (zP ⟨c1,by omega,by omega,placed_yes hS (fun c hc=>hall c (by omega))⟩)
   ·simp (disch:=first | omega | (simp only [nx] <;> omega) | fail) only [vaw,F28,lr,lu,ld,c1',c2,c3,ne_eq,not_true_eq_false,not_false_eq_true,Nat.reduceAdd,Nat.reduceMul,Nat.reduceLeDiff,Nat.reduceEqDiff,↓reduceIte]
    rw [← c1']
    exact hq _ _ k0 (xK fun h=>c3 (by have:=h.2.2.1; omega))
  ·simp (disch:=first | omega | (simp only [nx] <;> omega) | fail) only [vaw,F28,lr,lu,c1',c2,ne_eq,not_true_eq_false,not_false_eq_true,Nat.reduceAdd,Nat.reduceMul,Nat.reduceLeDiff,Nat.reduceEqDiff,↓reduceIte]
   rw [← c1']
   exact hq _ _ k0 (xK fun h=>c2 (by have:=h.2.1; omega))
 ·simp (disch:=first | omega | (simp only [nx] <;> omega) | fail) only [vaw,F28,lr,c1,ne_eq,not_true_eq_false,not_false_eq_true,Nat.reduceAdd,Nat.reduceMul,Nat.reduceLeDiff,Nat.reduceEqDiff,↓reduceIte]
  exact hq _ _ k0 (xK fun h=>c1 h.1)
end Go.Proofs.YtknhlpmmalcchaaGreat

namespace Go.Proofs.YtknhlpmmalcchaaGreat
open Go Go.VAI
set_option linter.unusedSimpArgs false

set_option maxRecDepth 20000 in
set_option maxHeartbeats 2000000 in
theorem refedge_ret {n:Int} {ew rv av uv dv:AVal} {es:List Edge} {a:Arc} {H:AHeap} {Q:AVal→AHeap→Prop} (hr:Row H ew 4 (xG es)) (hq:∀ b H',Keep Nothing H H'→Says b (IsEdge es a)→Q (.bool b) H'):Ret A 52 [.agg [.int .i64 n,ew,rv,av,uv,dv],.agg a.cells] H Q:=by
 refine Ret.of (fn:=F52) rfl ?_
 have hl:=hr.len (by omega) (xU es)
 have k0:Keep Nothing H ((H.new (.cells [.int .i64 n,ew,rv,av,uv,dv] true)).new (.cells [.int .i64 a.src,.int .i64 a.dst,.int .i64 a.mode,.int .i64 a.cost,.int .i64 a.edge,.int .i64 a.a,.int .i64 a.b] true)):=((Keep.refl _ _).new _).new _
 have lenE:IsEdge es a→a.edge < es.length:=fun h=>by
  have:=(List.getElem?_eq_some_iff.1 h.2.2.2).1
  have:=h.1
  omega
 by_cases h1:a.edge < 0
 ·simp (disch:=first | omega | (simp only [nx] <;> omega) | fail) only [vaw,F52,Arc.cells,h1,Nat.reduceAdd,Nat.reduceMul,Nat.reduceLeDiff,Nat.reduceEqDiff,↓reduceIte]
  exact hq _ _ k0 (xK fun h=>by have:=h.1; omega)
 by_cases h2:(es.length:Int)≤a.edge
 ·simp (disch:=first | omega | (simp only [nx] <;> omega) | fail) only [vaw,F52,Arc.cells,h1,hl,h2,Nat.reduceAdd,Nat.reduceMul,Nat.reduceLeDiff,Nat.reduceEqDiff,↓reduceIte]
  exact hq _ _ k0 (xK fun h=>by have:=lenE h; omega)
 by_cases h3:a.a=0
 ·by_cases h4:a.b=0
  ·have hil:a.edge.toNat < es.length:=by omega
   have he:es[a.edge.toNat]? = some es[a.edge.toNat]:=by simp [hil]
   obtain ⟨id,off,e1,hid2,e2,e3,e4,e5,e6⟩:=vC hr he
   rw [Int.toNat_of_nonneg (by omega)] at e1
   have key:IsEdge es a↔es[a.edge.toNat]=⟨a.src,a.dst,a.mode,a.cost⟩:=by
    unfold IsEdge
    rw [he]
    constructor
    ·rintro ⟨_,_,_,h⟩; injection h
    ·intro h; exact ⟨by omega,h3,h4,by rw [h]⟩
   generalize es[a.edge.toNat]=e at *
   obtain ⟨p,q,r,s⟩:=e
   simp only [Edge.cells] at e6
   have kk:Keep Nothing H ((((H.new (.cells [.int .i64 n,ew,rv,av,uv,dv] true)).new (.cells [.int .i64 a.src,.int .i64 a.dst,.int .i64 a.mode,.int .i64 a.cost,.int .i64 a.edge,.int .i64 0,.int .i64 0] true)).new (.cells [.int .i64 0,.int .i64 0,.int .i64 0,.int .i64 0] true)).upd (H.next+1+1) (some (.cells [.int .i64 p,.int .i64 q,.int .i64 r,.int .i64 s] true))):=((((Keep.refl _ _).new _).new _).new _).upd (.inl (by omega)) _
   by_cases c1:p=a.src
   ·by_cases c2:q=a.dst
    ·by_cases c3:r=a.mode
     ·by_cases c4:s=a.cost
      ·simp (disch:=first | omega | (simp only [nx] <;> omega) | fail) only [vaw,F52,Arc.cells,h1,hl,h2,h3,h4,e1,e6,ne_eq,not_true_eq_false,c1,c2,c3,c4,Nat.reduceAdd,Nat.reduceMul,Nat.reduceLeDiff,Nat.reduceEqDiff,↓reduceIte]
       subst c1; subst c2; subst c3; subst c4
       exact hq _ _ kk (zP (key.2 rfl))
      ·simp (disch:=first | omega | (simp only [nx] <;> omega) | fail) only [vaw,F52,Arc.cells,h1,hl,h2,h3,h4,e1,e6,ne_eq,not_true_eq_false,c1,c2,c3,c4,Nat.reduceAdd,Nat.reduceMul,Nat.reduceLeDiff,Nat.reduceEqDiff,↓reduceIte]
       subst c1; subst c2; subst c3
       exact hq _ _ kk (xK fun h=>c4 (by have:=key.1 h; injection this))
     ·simp (disch:=first | omega | (simp only [nx] <;> omega) | fail) only [vaw,F52,Arc.cells,h1,hl,h2,h3,h4,e1,e6,ne_eq,not_true_eq_false,c1,c2,c3,Nat.reduceAdd,Nat.reduceMul,Nat.reduceLeDiff,Nat.reduceEqDiff,↓reduceIte]
      subst c1; subst c2
      exact hq _ _ kk (xK fun h=>c3 (by have:=key.1 h; injection this))
    ·simp (disch:=first | omega | (simp only [nx] <;> omega) | fail) only [vaw,F52,Arc.cells,h1,hl,h2,h3,h4,e1,e6,ne_eq,not_true_eq_false,c1,c2,Nat.reduceAdd,Nat.reduceMul,Nat.reduceLeDiff,Nat.reduceEqDiff,↓reduceIte]
     subst c1
     exact hq _ _ kk (xK fun h=>c2 (by have:=key.1 h; injection this))
   ·simp (disch:=first | omega | (simp only [nx] <;> omega) | fail) only [vaw,F52,Arc.cells,h1,hl,h2,h3,h4,e1,e6,ne_eq,not_true_eq_false,c1,Nat.reduceAdd,Nat.reduceMul,Nat.reduceLeDiff,Nat.reduceEqDiff,↓reduceIte]
    exact hq _ _ kk (xK fun h=>c1 (by have:=key.1 h; injection this))
  ·simp (disch:=first | omega | (simp only [nx] <;> omega) | fail) only [vaw,F52,Arc.cells,h1,hl,h2,h3,h4,ne_eq,not_true_eq_false,not_false_eq_true,Nat.reduceAdd,Nat.reduceMul,Nat.reduceLeDiff,Nat.reduceEqDiff,↓reduceIte]
   exact hq _ _ (((Keep.refl _ _).new _).new _) (xK fun h=>h4 h.2.2.1)
 ·simp (disch:=first | omega | (simp only [nx] <;> omega) | fail) only [vaw,F52,Arc.cells,h1,hl,h2,h3,ne_eq,not_false_eq_true,Nat.reduceAdd,Nat.reduceMul,Nat.reduceLeDiff,Nat.reduceEqDiff,↓reduceIte]
  exact hq _ _ (((Keep.refl _ _).new _).new _) (xK fun h=>h3 h.2.1)
theorem refabove_ret {n:Int} {ew rv av uv dv:AVal} {rank:List Int} {u v:Nat} {H:AHeap} {Q:AVal→AHeap→Prop} (hr:Row H rv 1 (xL rank)) (hu:u < rank.length) (hv:v < rank.length)
  (hq:∀ b H',Keep Nothing H H'→Says b (uT rank u v)→Q (.bool b) H'):Ret A 53 [.agg [.int .i64 n,ew,rv,av,uv,dv],.int .i64 u,.int .i64 v] H Q:=by
 refine Ret.of (fn:=F53) rfl ?_
 have gu:rank[u]? = some rank[u]:=by simp [hu]
 have gv:rank[v]? = some rank[v]:=by simp [hv]
 have du:rank.getD u 0=rank[u]:=yS gu
 have dv':rank.getD v 0=rank[v]:=yS gv
 obtain ⟨iu,ou,u1,u2,u3⟩:=hr.int_at (k:=.i64) gu
 obtain ⟨iv,ov,v1,v2,v3⟩:=hr.int_at (k:=.i64) gv
 have hbq:AVal.beq rv rv=true:=hr.beq
 have key:uT rank u v↔(rank[u] < 0∨(0≤rank[v]∧rank[v] < rank[u])):=by
  unfold uT; rw [Int.toNat_natCast,Int.toNat_natCast,du,dv']
 generalize rank[u]=x at *
 generalize rank[v]=y at *
 have kk:Keep Nothing H (H.new (.cells [.int .i64 n,ew,rv,av,uv,dv] true)):=(Keep.refl _ _).new _
 by_cases h1:x < 0
 ·simp (disch:=first | omega | (simp only [nx] <;> omega) | fail) only [vaw,F53,u1,u3,h1,xF hbq,zJ,Nat.reduceAdd,Nat.reduceMul,Nat.reduceLeDiff,Nat.reduceEqDiff,↓reduceIte]
  exact hq _ _ kk (zP (key.2 (.inl h1)))
 by_cases h2:0≤y
 ·by_cases h3:y < x
  ·simp (disch:=first | omega | (simp only [nx] <;> omega) | fail) only [vaw,F53,u1,u3,v1,v3,h1,h2,h3,xF hbq,zJ,Nat.reduceAdd,Nat.reduceMul,Nat.reduceLeDiff,Nat.reduceEqDiff,↓reduceIte]
   exact hq _ _ kk (zP (key.2 (.inr ⟨h2,h3⟩)))
  ·simp (disch:=first | omega | (simp only [nx] <;> omega) | fail) only [vaw,F53,u1,u3,v1,v3,h1,h2,h3,xF hbq,zJ,Nat.reduceAdd,Nat.reduceMul,Nat.reduceLeDiff,Nat.reduceEqDiff,↓reduceIte]
   exact hq _ _ kk (xK fun h=>by have:=key.1 h; omega)
 ·simp (disch:=first | omega | (simp only [nx] <;> omega) | fail) only [vaw,F53,u1,u3,v1,v3,h1,h2,xF hbq,zJ,Nat.reduceAdd,Nat.reduceMul,Nat.reduceLeDiff,Nat.reduceEqDiff,↓reduceIte]
  exact hq _ _ kk (xK fun h=>by have:=key.1 h; omega)
theorem refabove_int {n:Int} {ew rv av uv dv:AVal} {rank:List Int} {u:Int} {v:Nat} {H:AHeap} {Q:AVal→AHeap→Prop} (hr:Row H rv 1 (xL rank)) (hu:0≤u∧u < rank.length) (hv:v < rank.length)
  (hq:∀ b H',Keep Nothing H H'→Says b (uT rank u v)→Q (.bool b) H'):Ret A 53 [.agg [.int .i64 n,ew,rv,av,uv,dv],.int .i64 u,.int .i64 v] H Q:=by
 obtain ⟨u',rfl⟩:=Int.eq_ofNat_of_zero_le hu.1
 exact refabove_ret hr (by omega) hv hq
end Go.Proofs.YtknhlpmmalcchaaGreat

namespace Go.Proofs.YtknhlpmmalcchaaGreat
open Go Go.VAI
set_option linter.unusedSimpArgs false

def AtOk (up:Bool) (rank:List Int) (arcs:List Arc) (v:Int) (x:Int):Prop:=if up then UpAt rank arcs v x else DownAt rank arcs v x
def RowOk (up:Bool) (rank:List Int) (arcs:List Arc) (v:Int) (l:List Int):Prop:=l.Nodup∧∀ x∈l,AtOk up rank arcs v x
structure MarkAt (n:Nat) (l:List Int) (i:Nat) (S:List Bool):Prop where
 len:S.length=n
 seen:∀ j:Nat,j < n→(S[j]? = some true↔(j:Int)∈l.take i)
 nd:(l.take i).Nodup
theorem MarkAt.more {n:Nat} {l:List Int} {i:Nat} {S:List Bool} (h:MarkAt n l i S) {r:Nat} (hr:l[i]? = some (r:Int)) (hrl:r < n) (hs:S[r]? ≠ some true):MarkAt n l (i+1) (S.set r true):=by
 have hil:=(List.getElem?_eq_some_iff.1 hr).1
 have htk:l.take (i+1)=l.take i++[(r:Int)]:=by
  rw [List.take_succ_eq_append_getElem hil]
  rw [(List.getElem?_eq_some_iff.1 hr).2]
 have hnot:(r:Int) ∉ l.take i:=fun hm=>hs ((h.seen r hrl).2 hm)
 refine ⟨by simp [h.len],fun j hj=>?_,?_⟩
 ·rw [htk,List.getElem?_set]
  by_cases hjr:r=j
  ·subst hjr
   rw [if_pos rfl,if_pos (by rw [h.len]; exact hj)]
   simp
  ·rw [if_neg hjr,h.seen j hj]; simp; omega
 ·rw [htk]
  exact List.nodup_append.2 ⟨h.nd,by simp,fun a ha b hb=>by simp at hb; subst hb; intro e; subst e; exact hnot ha⟩
theorem twice_not {l:List Int} {i:Nat} {x:Int} (hx:l[i]? = some x) (hm:x∈l.take i):¬ l.Nodup:=fun hN=>by
 obtain ⟨hil,e0⟩:=List.getElem?_eq_some_iff.1 hx
 obtain ⟨j,hj,e⟩:=List.getElem_of_mem hm
 rw [List.length_take] at hj
 rw [List.getElem_take] at e
 exact List.pairwise_iff_getElem.1 hN j i (by omega) hil (by omega) (e.trans e0.symm)
set_option maxRecDepth 20000 in
set_option maxHeartbeats 8000000 in
theorem refrow_ret {up:Bool} {n:Int} {ew rv av uv dv lv:AVal} {es:List Edge} {rank:List Int} {arcs:List Arc} {l:List Int} {v:Nat} {H:AHeap} {Q:AVal→AHeap→Prop}
  (he:Row H ew 4 (xG es)) (hr:Row H rv 1 (xL rank)) (ha:Row H av 7 (xW arcs)) (hu:AVal.beq uv uv=true) (hd:AVal.beq dv dv=true) (hlv:Row H lv 1 (xL l)) (hv:v < rank.length) (hnl:l.length≤4611686018427387904) (harcs:arcs.length≤1000000)
  (hends:∀ (i:Nat) a,arcs[i]? = some a→(0≤a.src∧a.src < rank.length)∧(0≤a.dst∧a.dst < rank.length))
  (hq:∀ b H',Keep Nothing H H'→Says b (RowOk up rank arcs v l)→Q (.bool b) H'):Ret A 30 [.agg [.int .i64 n,ew,rv,av,uv,dv],.int .i64 v,lv,.bool up] H Q:=by
 refine Ret.of (fn:=F30) rfl ?_
 have be:=he.beq
 have br:AVal.beq rv rv=true:=hr.beq
 have ba:AVal.beq av av=true:=ha.beq
 have bx:AVal.beq (.agg [.int .i64 n,ew,rv,av,uv,dv]) (.agg [.int .i64 n,ew,rv,av,uv,dv])=true:=by simp [AVal.beq,AVal.beqs,be,br,ba,hu,hd]
 have la:=ha.len (by omega) (yJ arcs)
 have ll:=hlv.len1
 rw [xE] at ll
 have hm1:((arcs.length:Nat):Int)*((1:Nat):Int)≤140737488355328:=by omega
 have gv:rank[v]? = some rank[v]:=by simp [hv]
 obtain ⟨ir,or,r1,r2,r3⟩:=hr.int_at (k:=.i64) gv
 have dv':rank.getD v 0=rank[v]:=yS gv
 generalize rank[v]=rk at *
 simp (disch:=first | omega | (simp only [nx] <;> omega) | fail) only [vaw,F30,la,zH hm1 (by omega),Nat.reduceAdd,Nat.reduceMul,Nat.reduceLeDiff,Nat.reduceEqDiff,↓reduceIte]
 rw [reps_false]
 have kB:Keep Nothing H ((H.new (.cells [.int .i64 n,ew,rv,av,uv,dv] true)).new (.cells (xV (List.replicate arcs.length false)) true)):=((Keep.refl _ _).new _).new _
 refine xS (fun m t H'=>∃ (i:Nat) (S:List Bool),m=l.length - i∧i≤l.length∧t=(xP 1 (.int .i64 v :: lv :: .bool up :: .ptr H.next 0 :: xP 4 (.slice (H.next+1) 0 arcs.length (.exact arcs.length) :: .int .i64 i :: xP 100 ([]))):xJ)∧Keep Nothing H H'∧H.next+1 < H'.next∧H'.obj H.next=some (.cells [.int .i64 n,ew,rv,av,uv,dv] true)∧H'.obj (H.next+1)=some (.cells (xV S) true)∧MarkAt arcs.length l i S∧∀ x∈l.take i,AtOk up rank arcs v x) l.length ?_ ?_
 ·refine ⟨0,List.replicate arcs.length false,rfl,by omega,rfl,kB,by simp only [xB]; omega,by simp (disch:=first | omega | (simp only [nx] <;> omega) | fail) only [xI],yB rfl,⟨by simp,fun j hj=>?_,by simp⟩,by simp⟩
  simp [hj]
 ·rintro m t H1 ⟨i,S,rfl,hi,rfl,k1,n1,q1,o1,hS,hin⟩
  by_cases hc:(i:Int) < l.length
  ·have hil:i < l.length:=by omega
   have hx:l[i]? = some l[i]:=by simp [hil]
   obtain ⟨ia,oa,a1,a2,a3⟩:=hlv.int_at (k:=.i64) hx
   rw [← k1.old a2] at a3
   have hia:ia≠H.next+1:=by omega
   have hmem:=List.getElem_mem hil
   have htw:=fun h=>twice_not hx h
   have hta:AtOk up rank arcs v l[i]→∀ y∈l.take (i+1),AtOk up rank arcs v y:=fun h=>take_all hx hin h
   generalize l[i]=x at *
   have inr:RowOk up rank arcs v l→0≤x∧x < arcs.length:=fun h=>by
    have h1:=h.2 x hmem
    unfold AtOk at h1
    cases up with
    | true=>obtain ⟨h2,a,h3,_⟩:=h1; have:=(List.getElem?_eq_some_iff.1 h3).1; omega
    | false=>obtain ⟨h2,a,h3,_⟩:=h1; have:=(List.getElem?_eq_some_iff.1 h3).1; omega
   by_cases h1:x < 0
   ·simp (disch:=first | omega | (simp only [nx] <;> omega) | fail) only [vaw,ll,hc,a1,a3,q1,h1,zJ,xF br,xF ba,Nat.reduceAdd,Nat.reduceMul,Nat.reduceLeDiff,Nat.reduceEqDiff,↓reduceIte]
    exact hq _ _ k1 (xK fun h=>by have:=inr h; omega)
   by_cases h2:(arcs.length:Int)≤x
   ·simp (disch:=first | omega | (simp only [nx] <;> omega) | fail) only [vaw,ll,la,hc,a1,a3,q1,h1,h2,zJ,xF br,xF ba,Nat.reduceAdd,Nat.reduceMul,Nat.reduceLeDiff,Nat.reduceEqDiff,↓reduceIte]
    exact hq _ _ k1 (xK fun h=>by have:=inr h; omega)
   obtain ⟨rn,rfl⟩:∃ n:Nat,x=n:=⟨x.toNat,by omega⟩
   have hrn:rn < arcs.length:=by omega
   have hsl:rn < S.length:=by rw [hS.len]; exact hrn
   have hix:xO 1 (.slice (H.next+1) 0 arcs.length (.exact arcs.length)) (.int .i64 (rn:Int))=some (.ptr (H.next+1) rn):=by rw [xM ⟨by omega,by omega⟩]; simp
   have hat:(xV S)[rn]? = some (.bool S[rn]):=by simp [xV,hsl]
   cases hb:S[rn] with
   | true =>
    rw [hb] at hat
    simp (disch:=first | omega | (simp only [nx] <;> omega) | fail) only [vaw,ll,la,hc,a1,a3,q1,o1,h1,h2,hix,hat,zJ,xF br,xF ba,Nat.reduceAdd,Nat.reduceMul,Nat.reduceLeDiff,Nat.reduceEqDiff,↓reduceIte]
    exact hq _ _ k1 (xK fun h=>htw ((hS.seen rn hrn).1 (by rw [List.getElem?_eq_getElem hsl,hb])) h.1)
   | false =>
    rw [hb] at hat
    have hbl:(xV S).length=arcs.length:=by simp [xV,hS.len]
    have hle:rn+1≤arcs.length:=hrn
    have hset:yV (xV S) rn [.bool true]=xV (S.set rn true):=by
     rw [yQ (by rw [hbl]; exact hrn)]
     simp [xV,List.map_set]
    have hga:arcs[rn]? = some arcs[rn]:=by simp [hrn]
    have hend:=hends _ _ hga
    obtain ⟨ib,ob,b1,b2,b3,b4⟩:=vZ ha hga
    rw [← k1.old b2] at b4
    have hib:ib≠H.next+1:=by omega
    have hup:UpAt rank arcs v rn↔(arcs[rn].src=v∧(arcs[rn].dst=v∨uT rank arcs[rn].dst v)):=by
     unfold UpAt
     rw [Int.toNat_natCast,hga]
     constructor
     ·rintro ⟨_,a,e,h⟩; injection e with e; subst e; exact h
     ·intro h; exact ⟨by omega,_,rfl,h⟩
    have hdn:DownAt rank arcs v rn↔(arcs[rn].dst=v∧arcs[rn].src≠v∧0≤rk∧uT rank arcs[rn].src v):=by
     unfold DownAt
     rw [Int.toNat_natCast,hga,Int.toNat_natCast,dv']
     constructor
     ·rintro ⟨_,a,e,h1,h2,h3,h4⟩; injection e with e; subst e; exact ⟨h1,h2,h3,h4⟩
     ·intro h; exact ⟨by omega,_,rfl,h.1,h.2.1,h.2.2⟩
    have hM:=hS.more hx hrn (by rw [List.getElem?_eq_getElem hsl,hb]; simp)
    generalize arcs[rn]=a at *
    simp only [Arc.cells] at b4
    have row_no:¬ AtOk up rank arcs v rn→¬ RowOk up rank arcs v l:=fun h g=>h (g.2 _ hmem)
    have kU:Keep Nothing H (H1.upd (H.next+1) (some (.cells (xV (S.set rn true)) true))):=k1.upd (.inl (by omega)) _
    have kP:Keep Nothing H (((H1.upd (H.next+1) (some (.cells (xV (S.set rn true)) true))).new (.cells [.int .i64 0,.int .i64 0,.int .i64 0,.int .i64 0,.int .i64 0,.int .i64 0,.int .i64 0] true)).upd H1.next (some (.cells [.int .i64 a.src,.int .i64 a.dst,.int .i64 a.mode,.int .i64 a.cost,.int .i64 a.edge,.int .i64 a.a,.int .i64 a.b] true))):=(kU.new _).upd (.inl (by omega)) _
    have qP:(((H1.upd (H.next+1) (some (.cells (xV (S.set rn true)) true))).new (.cells [.int .i64 0,.int .i64 0,.int .i64 0,.int .i64 0,.int .i64 0,.int .i64 0,.int .i64 0] true)).upd H1.next (some (.cells [.int .i64 a.src,.int .i64 a.dst,.int .i64 a.mode,.int .i64 a.cost,.int .i64 a.edge,.int .i64 a.a,.int .i64 a.b] true))).obj H.next=some (.cells [.int .i64 n,ew,rv,av,uv,dv] true):=by simp (disch:=first | omega | (simp only [nx] <;> omega) | fail) only [xI]; exact q1
    have oP:(((H1.upd (H.next+1) (some (.cells (xV (S.set rn true)) true))).new (.cells [.int .i64 0,.int .i64 0,.int .i64 0,.int .i64 0,.int .i64 0,.int .i64 0,.int .i64 0] true)).upd H1.next (some (.cells [.int .i64 a.src,.int .i64 a.dst,.int .i64 a.mode,.int .i64 a.cost,.int .i64 a.edge,.int .i64 a.a,.int .i64 a.b] true))).obj (H.next+1)=some (.cells (xV (S.set rn true)) true):=by simp (disch:=first | omega | (simp only [nx] <;> omega) | fail) only [xI]
    have aP:(((H1.upd (H.next+1) (some (.cells (xV (S.set rn true)) true))).new (.cells [.int .i64 0,.int .i64 0,.int .i64 0,.int .i64 0,.int .i64 0,.int .i64 0,.int .i64 0] true)).upd H1.next (some (.cells [.int .i64 a.src,.int .i64 a.dst,.int .i64 a.mode,.int .i64 a.cost,.int .i64 a.edge,.int .i64 a.a,.int .i64 a.b] true))).obj H1.next=some (.cells [.int .i64 a.src,.int .i64 a.dst,.int .i64 a.mode,.int .i64 a.cost,.int .i64 a.edge,.int .i64 a.a,.int .i64 a.b] true):=xN rfl
    have nP:(((H1.upd (H.next+1) (some (.cells (xV (S.set rn true)) true))).new (.cells [.int .i64 0,.int .i64 0,.int .i64 0,.int .i64 0,.int .i64 0,.int .i64 0,.int .i64 0] true)).upd H1.next (some (.cells [.int .i64 a.src,.int .i64 a.dst,.int .i64 a.mode,.int .i64 a.cost,.int .i64 a.edge,.int .i64 a.a,.int .i64 a.b] true))).next=H1.next+1:=rfl
    have hixn:ia≠H1.next:=by have:=k1.next; omega
    simp (disch:=first | omega | (simp only [nx] <;> omega) | fail) only [vaw,ll,la,hc,a1,a3,q1,o1,h1,h2,hix,hat,zJ,xF br,xF ba,hbl,hle,hset,b1,b4,hib,hia,Nat.reduceAdd,Nat.reduceMul,Nat.reduceLeDiff,Nat.reduceEqDiff,↓reduceIte]
    generalize (((H1.upd (H.next+1) (some (.cells (xV (S.set rn true)) true))).new (.cells [.int .i64 0,.int .i64 0,.int .i64 0,.int .i64 0,.int .i64 0,.int .i64 0,.int .i64 0] true)).upd H1.next (some (.cells [.int .i64 a.src,.int .i64 a.dst,.int .i64 a.mode,.int .i64 a.cost,.int .i64 a.edge,.int .i64 a.a,.int .i64 a.b] true)))=H2 at *
    generalize hy:H1.next=y at *
    have r3':(bnd (cellsOf (H2.obj ir)) fun c=>c[or]?)=some (.int .i64 rk):=by rw [kP.old r2]; exact r3
    have dn:(a.dst=v∧a.src=v)∨(a.dst=v∧¬ a.src=v∧rk < 0)∨(a.dst=v∧¬ a.src=v∧¬ rk < 0)∨¬ a.dst=v:=by
     by_cases c1:a.dst=v <;> by_cases c2:a.src=v <;> by_cases c3:rk < 0 <;> simp [c1,c2,c3]
    cases up with
    | true =>
     have hua:AtOk true rank arcs v rn↔(a.src=v∧(a.dst=v∨uT rank a.dst v)):=hup
     by_cases c1:a.src=v
     ·by_cases c2:a.dst=v
      ·simp (disch:=first | omega | (simp only [nx] <;> omega) | fail) only [vaw,aP,c1,c2,ne_eq,not_true_eq_false,not_false_eq_true,zJ,Nat.reduceAdd,Nat.reduceMul,Nat.reduceLeDiff,Nat.reduceEqDiff,↓reduceIte]
       exact ⟨l.length - (i+1),by omega,i+1,S.set rn true,rfl,by omega,rfl,kP,by omega,qP,oP,hM,hta (hua.2 ⟨c1,.inl c2⟩)⟩
      ·simp (disch:=first | omega | (simp only [nx] <;> omega) | fail) only [vaw,aP,qP,c1,c2,ne_eq,not_true_eq_false,not_false_eq_true,zJ,Nat.reduceAdd,Nat.reduceMul,Nat.reduceLeDiff,Nat.reduceEqDiff,↓reduceIte]
       refine refabove_int (hr.kept kP) hend.2 hv fun b H3 k3 s3=>?_
       have q3:=(k3.old (i:=H.next) (by omega)).trans qP
       have o3:=(k3.old (i:=H.next+1) (by omega)).trans oP
       have n3:=k3.next
       cases b with
       | true =>
        simp (disch:=first | omega | (simp only [nx] <;> omega) | fail) only [vaw,Nat.reduceAdd,Nat.reduceMul,Nat.reduceLeDiff,Nat.reduceEqDiff,↓reduceIte]
        exact ⟨l.length - (i+1),by omega,i+1,S.set rn true,rfl,by omega,rfl,kP.trans k3,by omega,q3,o3,hM,hta (hua.2 ⟨c1,.inr (s3.1 rfl)⟩)⟩
       | false =>
        simp (disch:=first | omega | (simp only [nx] <;> omega) | fail) only [vaw,Nat.reduceAdd,Nat.reduceMul,Nat.reduceLeDiff,Nat.reduceEqDiff,↓reduceIte]
        exact hq _ _ (kP.trans k3) (xK (row_no fun h=>by
         rcases (hua.1 h).2 with h | h
         ·exact c2 h
         ·have:=s3.2 h; cases this))
     ·simp (disch:=first | omega | (simp only [nx] <;> omega) | fail) only [vaw,aP,c1,ne_eq,not_true_eq_false,not_false_eq_true,zJ,Nat.reduceAdd,Nat.reduceMul,Nat.reduceLeDiff,Nat.reduceEqDiff,↓reduceIte]
      exact hq _ _ kP (xK (row_no fun h=>c1 (hua.1 h).1))
    | false =>
     have hua:AtOk false rank arcs v rn↔(a.dst=v∧a.src≠v∧0≤rk∧uT rank a.src v):=hdn
     simp (disch:=first | omega | (simp only [nx] <;> omega) | fail) only [vaw,aP,ne_eq,zJ,Nat.reduceAdd,Nat.reduceMul,Nat.reduceLeDiff,Nat.reduceEqDiff,↓reduceIte]
     rcases dn with ⟨c1,c2⟩ | ⟨c1,c2,c3⟩ | ⟨c1,c2,c3⟩ | c1
     ·simp (disch:=first | omega | (simp only [nx] <;> omega) | fail) only [vaw,aP,c1,c2,ne_eq,not_true_eq_false,not_false_eq_true,zJ,Nat.reduceAdd,Nat.reduceMul,Nat.reduceLeDiff,Nat.reduceEqDiff,↓reduceIte]
      exact hq _ _ kP (xK (row_no fun h=>(hua.1 h).2.1 c2))
     ·simp (disch:=first | omega | (simp only [nx] <;> omega) | fail) only [vaw,aP,qP,c1,c2,c3,r1,r3',ne_eq,not_true_eq_false,not_false_eq_true,zJ,Nat.reduceAdd,Nat.reduceMul,Nat.reduceLeDiff,Nat.reduceEqDiff,↓reduceIte]
      exact hq _ _ kP (xK (row_no fun h=>by have:=(hua.1 h).2.2.1; omega))
     ·simp (disch:=first | omega | (simp only [nx] <;> omega) | fail) only [vaw,aP,qP,c1,c2,c3,r1,r3',ne_eq,not_true_eq_false,not_false_eq_true,zJ,Nat.reduceAdd,Nat.reduceMul,Nat.reduceLeDiff,Nat.reduceEqDiff,↓reduceIte]
      refine refabove_int (hr.kept kP) hend.1 hv fun b H3 k3 s3=>?_
      have q3:=(k3.old (i:=H.next) (by omega)).trans qP
      have o3:=(k3.old (i:=H.next+1) (by omega)).trans oP
      have n3:=k3.next
      cases b with
      | true =>
       simp (disch:=first | omega | (simp only [nx] <;> omega) | fail) only [vaw,Nat.reduceAdd,Nat.reduceMul,Nat.reduceLeDiff,Nat.reduceEqDiff,↓reduceIte]
       exact ⟨l.length - (i+1),by omega,i+1,S.set rn true,rfl,by omega,rfl,kP.trans k3,by omega,q3,o3,hM,hta (hua.2 ⟨c1,c2,by omega,s3.1 rfl⟩)⟩
      | false =>
       simp (disch:=first | omega | (simp only [nx] <;> omega) | fail) only [vaw,Nat.reduceAdd,Nat.reduceMul,Nat.reduceLeDiff,Nat.reduceEqDiff,↓reduceIte]
       exact hq _ _ (kP.trans k3) (xK (row_no fun h=>by have:=s3.2 (hua.1 h).2.2.2; cases this))
     ·simp (disch:=first | omega | (simp only [nx] <;> omega) | fail) only [vaw,aP,c1,ne_eq,not_true_eq_false,not_false_eq_true,zJ,Nat.reduceAdd,Nat.reduceMul,Nat.reduceLeDiff,Nat.reduceEqDiff,↓reduceIte]
      exact hq _ _ kP (xK (row_no fun h=>c1 (hua.1 h).1))
  ·have hi:i=l.length:=by omega
   subst hi
   have h2:=hS.nd
   rw [List.take_length] at hin h2
   simp (disch:=first | omega | (simp only [nx] <;> omega) | fail) only [vaw,ll,hc,Nat.reduceAdd,Nat.reduceMul,Nat.reduceLeDiff,Nat.reduceEqDiff,↓reduceIte]
   exact hq _ _ k1 (zP ⟨h2,hin⟩)
end Go.Proofs.YtknhlpmmalcchaaGreat

namespace Go.Proofs.YtknhlpmmalcchaaGreat
open Go Go.VAI
set_option linter.unusedSimpArgs false

structure Reads {α:Type} (f:RS→α × RS):Prop where
 bad:∀ s,s.bad=true→(f s).2.bad=true
 ext:∀ s,(f s).2.bad=false→∀ r,f ⟨s.left++r,s.bad⟩=((f s).1,⟨(f s).2.left++r,(f s).2.bad⟩)
def andThen {α β:Type} (f:RS→α × RS) (g:α→RS→β × RS) (s:RS):β × RS:=g (f s).1 (f s).2
theorem Reads.bind {α β:Type} {f:RS→α × RS} {g:α→RS→β × RS} (hf:Reads f) (hg:∀ a,Reads (g a)):Reads (andThen f g):=by
 refine ⟨fun s h=>(hg _).bad _ (hf.bad s h),fun s h r=>?_⟩
 have hb:(f s).2.bad=false:=by
  cases hx:(f s).2.bad with
  | false=>rfl
  | true =>
   have:=(hg (f s).1).bad _ hx
   unfold andThen at h
   rw [h] at this; cases this
 unfold andThen at h ⊢
 rw [hf.ext s hb r]
 exact (hg _).ext _ h r
theorem Reads.done {α:Type} (a:α):Reads (fun s:RS=>(a,s)):=⟨fun s h=>h,fun s h r=>rfl⟩
end Go.Proofs.YtknhlpmmalcchaaGreat

namespace Go.Proofs.YtknhlpmmalcchaaGreat
open Go Go.VAI
set_option linter.unusedSimpArgs false

theorem arc_mode {n:Int} {es:List Edge} {arcs:List Arc} (hn:NetOk n es) (h:∀ (i:Nat) a,arcs[i]? = some a→ArcOk es arcs i a):∀ m,∀ (i:Nat) a,i < m→arcs[i]? = some a→0≤a.mode∧a.mode < 5:=by
 intro m
 induction m with
 | zero=>intro i a hi; omega
 | succ m ih =>
  intro i a hi ha
  rcases (h i a ha).2 with ⟨h1,h2,h3,h4⟩ | ⟨h1,h2,h3,h4,h5,p,q,h6,h7,h8,h9⟩
  ·exact (hn.2.2.2 _ (List.mem_of_getElem? h4)).2.2.1
  ·have e1:=ih _ p (by omega) h6
   rw [h8] at e1
   exact e1
end Go.Proofs.YtknhlpmmalcchaaGreat

namespace Go.Proofs.YtknhlpmmalcchaaGreat
open Go Go.VAI
set_option linter.unusedSimpArgs false

theorem own_notNil {lo:Nat} {H:AHeap} {v:AVal} {cs:List AVal} (h:Own lo H v 1 cs) (hc:cs≠[]):wW .eql .nilS v .nilSlice=some (.bool false):=by
 cases h with
 | nil=>exact absurd rfl hc
 | room=>rfl
 | full=>rfl
theorem take_snoc {l:List Int} {i:Nat} {x:Int} (h:l[i]? = some x):l.take (i+1)=l.take i++[x]:=by
 obtain ⟨h1,h2⟩:=List.getElem?_eq_some_iff.1 h
 rw [List.take_succ_eq_append_getElem h1,h2]
structure LongAt (H0 H:AHeap) (n:Int) (ew rv av uv dv ov:AVal) (es:List Edge) (arcs:List Arc) (i:Nat):Prop where
 keep:Keep Nothing H0 H
 lt:H0.next < H.next
 box:H.obj H0.next=some (.cells [.int .i64 n,ew,rv,av,uv,dv] true)
 own:Own (H0.next+1) H ov 1 (xL ((xY arcs).take i))
theorem LongAt.kept {H0 H H':AHeap} {n:Int} {ew rv av uv dv ov:AVal} {es:List Edge} {arcs:List Arc} {i:Nat} (h:LongAt H0 H n ew rv av uv dv ov es arcs i) (hk:Keep Nothing H H'):LongAt H0 H' n ew rv av uv dv ov es arcs i :=
 ⟨h.keep.trans hk,by have:=h.lt; have:=hk.next; omega,by rw [hk.old h.lt]; exact h.box,h.own.kept hk⟩
set_option maxRecDepth 20000 in
set_option maxHeartbeats 8000000 in
theorem reflong_ret {n:Int} {ew rv av uv dv:AVal} {es:List Edge} {arcs:List Arc} {H:AHeap} {Q:AVal→AHeap→Prop} (hnet:NetOk n es) (he:Row H ew 4 (xG es)) (hr:Row H av 7 (xW arcs)) (hlen:arcs.length≤1000000)
  (hq0:¬ ArcsOk es arcs→∀ H',Keep Nothing H H'→Q .nilSlice H') (hq1:ArcsOk es arcs→∀ v' H',Keep Nothing H H'→Own (H.next+1) H' v' 1 (xL (xY arcs))→Q v' H') (hx:AVal.beq (.agg [.int .i64 n,ew,rv,av,uv,dv]) (.agg [.int .i64 n,ew,rv,av,uv,dv])=true):Ret A 29 [.agg [.int .i64 n,ew,rv,av,uv,dv]] H Q:=by
 refine Ret.of (fn:=F29) rfl ?_
 have hl:=hr.len (by omega) (yJ arcs)
 have hsl:=zE _ arcs rfl
 have bav:AVal.beq av av=true:=hr.beq
 simp (disch:=first | omega | (simp only [nx] <;> omega) | fail) only [vaw,F29,Nat.reduceAdd,Nat.reduceMul,Nat.reduceLeDiff,Nat.reduceEqDiff,↓reduceIte]
 refine xS (fun m t H'=>∃ (i:Nat) (ov:AVal),m=arcs.length - i∧i≤arcs.length∧t=(xP 1 (.ptr H.next 0 :: xP 1 (ov :: .int .i64 i :: xP 160 ([]))):xJ)∧LongAt H H' n ew rv av uv dv ov es arcs i∧(∀ (j:Nat) a,j < i→arcs[j]? = some a→ArcOk es arcs j a)∧∀ j:Nat,j < i→(xY arcs).getD j 0≤1000) arcs.length ?_ ?_
 ·exact ⟨0,.nilSlice,rfl,by omega,rfl,⟨(Keep.refl _ _).new _,(by first | omega | (simp only [xB,xC]; omega)),yB rfl,by simpa [xL] using Own.nil⟩,fun j a hj=>by omega,fun j hj=>by omega⟩
 ·rintro m t H1 ⟨i,ov,rfl,hi,rfl,L1,hok,hsz⟩
  by_cases hc:(i:Int) < arcs.length
  ·have hil:i < arcs.length:=by omega
   have ha:arcs[i]? = some arcs[i]:=by simp [hil]
   obtain ⟨id,off,e1,e2,e3,e4⟩:=vZ (hr.kept L1.keep) ha
   have hat:=fun h=>sizesOf_at ha h
   have hbd:ArcsOk es arcs→((0≤arcs[i].src∧arcs[i].src < n)∧(0≤arcs[i].dst∧arcs[i].dst < n))∧(0≤arcs[i].mode∧arcs[i].mode < 5)∧(0≤arcs[i].cost∧arcs[i].cost≤4398046511104):=fun h=>⟨arc_ends hnet h.1 (i+1) i _ (by omega) ha,arc_mode hnet h.1 (i+1) i _ (by omega) ha,(h.1 i _ ha).1⟩
   have hthis:ArcsOk es arcs→ArcOk es arcs i arcs[i]:=fun h=>h.1 i _ ha
   generalize arcs[i]=a at *
   simp only [Arc.cells] at e4
   have o1:=L1.box
   simp (disch:=first | omega | (simp only [nx] <;> omega) | fail) only [vaw,o1,hl,hc,e1,e4,Nat.reduceAdd,Nat.reduceMul,Nat.reduceLeDiff,Nat.reduceEqDiff,↓reduceIte]
   have k2:Keep Nothing H1 ((H1.new (.cells [.int .i64 0,.int .i64 0,.int .i64 0,.int .i64 0,.int .i64 0,.int .i64 0,.int .i64 0] true)).upd H1.next (some (.cells [.int .i64 a.src,.int .i64 a.dst,.int .i64 a.mode,.int .i64 a.cost,.int .i64 a.edge,.int .i64 a.a,.int .i64 a.b] true))):=((Keep.refl _ _).new _).upd (.inl (Nat.le_refl _)) _
   have q2:((H1.new (.cells [.int .i64 0,.int .i64 0,.int .i64 0,.int .i64 0,.int .i64 0,.int .i64 0,.int .i64 0] true)).upd H1.next (some (.cells [.int .i64 a.src,.int .i64 a.dst,.int .i64 a.mode,.int .i64 a.cost,.int .i64 a.edge,.int .i64 a.a,.int .i64 a.b] true))).obj H1.next=some (.cells [.int .i64 a.src,.int .i64 a.dst,.int .i64 a.mode,.int .i64 a.cost,.int .i64 a.edge,.int .i64 a.a,.int .i64 a.b] true):=xN rfl
   have n2:H1.next < ((H1.new (.cells [.int .i64 0,.int .i64 0,.int .i64 0,.int .i64 0,.int .i64 0,.int .i64 0,.int .i64 0] true)).upd H1.next (some (.cells [.int .i64 a.src,.int .i64 a.dst,.int .i64 a.mode,.int .i64 a.cost,.int .i64 a.edge,.int .i64 a.a,.int .i64 a.b] true))).next:=(by first | omega | (simp only [xB,xC]; omega))
   have L2:=L1.kept k2
   have hlt1:=L1.lt
   generalize (H1.new (.cells [.int .i64 0,.int .i64 0,.int .i64 0,.int .i64 0,.int .i64 0,.int .i64 0,.int .i64 0] true)).upd H1.next (some (.cells [.int .i64 a.src,.int .i64 a.dst,.int .i64 a.mode,.int .i64 a.cost,.int .i64 a.edge,.int .i64 a.a,.int .i64 a.b] true))=H2 at *
   generalize H1.next=y at *
   have o2:=L2.box
   by_cases c1:a.src < 0
   ·simp (disch:=first | omega | (simp only [nx] <;> omega) | fail) only [vaw,q2,o2,c1,Nat.reduceAdd,Nat.reduceMul,Nat.reduceLeDiff,Nat.reduceEqDiff,↓reduceIte]
    exact hq0 (fun h=>by have:=hbd h; omega) _ L2.keep
   by_cases c2:n≤a.src
   ·simp (disch:=first | omega | (simp only [nx] <;> omega) | fail) only [vaw,q2,o2,c1,c2,Nat.reduceAdd,Nat.reduceMul,Nat.reduceLeDiff,Nat.reduceEqDiff,↓reduceIte]
    exact hq0 (fun h=>by have:=hbd h; omega) _ L2.keep
   by_cases c3:a.dst < 0
   ·simp (disch:=first | omega | (simp only [nx] <;> omega) | fail) only [vaw,q2,o2,c1,c2,c3,Nat.reduceAdd,Nat.reduceMul,Nat.reduceLeDiff,Nat.reduceEqDiff,↓reduceIte]
    exact hq0 (fun h=>by have:=hbd h; omega) _ L2.keep
   by_cases c4:n≤a.dst
   ·simp (disch:=first | omega | (simp only [nx] <;> omega) | fail) only [vaw,q2,o2,c1,c2,c3,c4,Nat.reduceAdd,Nat.reduceMul,Nat.reduceLeDiff,Nat.reduceEqDiff,↓reduceIte]
    exact hq0 (fun h=>by have:=hbd h; omega) _ L2.keep
   by_cases c5:a.mode < 0
   ·simp (disch:=first | omega | (simp only [nx] <;> omega) | fail) only [vaw,q2,o2,c1,c2,c3,c4,c5,Nat.reduceAdd,Nat.reduceMul,Nat.reduceLeDiff,Nat.reduceEqDiff,↓reduceIte]
    exact hq0 (fun h=>by have:=hbd h; omega) _ L2.keep
   by_cases c6:5≤a.mode
   ·simp (disch:=first | omega | (simp only [nx] <;> omega) | fail) only [vaw,q2,o2,c1,c2,c3,c4,c5,c6,Nat.reduceAdd,Nat.reduceMul,Nat.reduceLeDiff,Nat.reduceEqDiff,↓reduceIte]
    exact hq0 (fun h=>by have:=hbd h; omega) _ L2.keep
   by_cases c7:a.cost < 0
   ·simp (disch:=first | omega | (simp only [nx] <;> omega) | fail) only [vaw,q2,o2,c1,c2,c3,c4,c5,c6,c7,Nat.reduceAdd,Nat.reduceMul,Nat.reduceLeDiff,Nat.reduceEqDiff,↓reduceIte]
    exact hq0 (fun h=>by have:=hbd h; omega) _ L2.keep
   by_cases c8:4398046511104 < a.cost
   ·simp (disch:=first | omega | (simp only [nx] <;> omega) | fail) only [vaw,q2,o2,c1,c2,c3,c4,c5,c6,c7,c8,Nat.reduceAdd,Nat.reduceMul,Nat.reduceLeDiff,Nat.reduceEqDiff,↓reduceIte]
    exact hq0 (fun h=>by have:=hbd h; omega) _ L2.keep
   simp (disch:=first | omega | (simp only [nx] <;> omega) | fail) only [vaw,q2,o2,c1,c2,c3,c4,c5,c6,c7,c8,Nat.reduceAdd,Nat.reduceMul,Nat.reduceLeDiff,Nat.reduceEqDiff,↓reduceIte]
   refine condK_cut (fun t H'=>∃ k:Int,t=xP 1 (.ptr H.next 0 :: .bot :: ov :: .int .i64 i :: .bot :: .int .i64 k :: xP 158 [])∧LongAt H H' n ew rv av uv dv ov es arcs i∧(xY arcs)[i]? = some k∧ArcOk es arcs i a∧0≤k∧k≤2000) ?_ ?_
   ·refine condK_split (fun h1=>?_) (fun h1=>?_)
    ·have noTwo:¬ IsTwo arcs i a→¬ ArcsOk es arcs:=fun h g=>by
      rcases (hthis g).2 with h2 | h2
      ·have:=h2.1; omega
      ·exact h h2
     by_cases h2:a.a < 0
     ·simp (disch:=first | omega | (simp only [nx] <;> omega) | fail) only [vaw,q2,o2,h2,Nat.reduceAdd,Nat.reduceMul,Nat.reduceLeDiff,Nat.reduceEqDiff,↓reduceIte]
      exact hq0 (noTwo fun h=>by have:=h.2.1; omega) _ L2.keep
     by_cases h3:(i:Int)≤a.a
     ·simp (disch:=first | omega | (simp only [nx] <;> omega) | fail) only [vaw,q2,o2,h2,h3,Nat.reduceAdd,Nat.reduceMul,Nat.reduceLeDiff,Nat.reduceEqDiff,↓reduceIte]
      exact hq0 (noTwo fun h=>by have:=h.2.2.1; omega) _ L2.keep
     by_cases h4:a.b < 0
     ·simp (disch:=first | omega | (simp only [nx] <;> omega) | fail) only [vaw,q2,o2,h2,h3,h4,Nat.reduceAdd,Nat.reduceMul,Nat.reduceLeDiff,Nat.reduceEqDiff,↓reduceIte]
      exact hq0 (noTwo fun h=>by have:=h.2.2.2.1; omega) _ L2.keep
     by_cases h5:(i:Int)≤a.b
     ·simp (disch:=first | omega | (simp only [nx] <;> omega) | fail) only [vaw,q2,o2,h2,h3,h4,h5,Nat.reduceAdd,Nat.reduceMul,Nat.reduceLeDiff,Nat.reduceEqDiff,↓reduceIte]
      exact hq0 (noTwo fun h=>by have:=h.2.2.2.2.1; omega) _ L2.keep
     have hpa:a.a.toNat < arcs.length:=by omega
     have hpb:a.b.toNat < arcs.length:=by omega
     have hp:arcs[a.a.toNat]? = some arcs[a.a.toNat]:=by simp [hpa]
     have hqq:arcs[a.b.toNat]? = some arcs[a.b.toNat]:=by simp [hpb]
     have bp:=(hok _ _ (by omega) hp).1
     have bq:=(hok _ _ (by omega) hqq).1
     generalize arcs[a.a.toNat]=p at *
     generalize arcs[a.b.toNat]=q at *
     have key:IsTwo arcs i a↔(p.mode=a.mode∧q.mode=a.mode∧p.src=a.src∧p.dst=q.src∧q.dst=a.dst∧p.cost+q.cost=a.cost):=by
      unfold IsTwo
      rw [hp,hqq]
      constructor
      ·rintro ⟨_,_,_,_,_,p',q',g1,g2,g3⟩
       injection g1 with g1; injection g2 with g2
       subst g1; subst g2; exact ⟨g3.1,g3.2.1,g3.2.2.1,g3.2.2.2.1,g3.2.2.2.2.1,g3.2.2.2.2.2.symm⟩
      ·intro g
       exact ⟨h1,by omega,by omega,by omega,by omega,p,q,rfl,rfl,g.1,g.2.1,g.2.2.1,g.2.2.2.1,g.2.2.2.2.1,g.2.2.2.2.2.symm⟩
     obtain ⟨ip,op,p1,p2,p3,p4⟩:=vZ (hr.kept L2.keep) hp
     obtain ⟨iq,oq,q1,q5,q3,q4⟩:=vZ (hr.kept L2.keep) hqq
     rw [Int.toNat_of_nonneg (by omega)] at p1 q1
     simp only [Arc.cells] at p4 q4
     have hbp:AVal.beq (.agg [.int .i64 q.src,.int .i64 q.dst,.int .i64 q.mode,.int .i64 q.cost,.int .i64 q.edge,.int .i64 q.a,.int .i64 q.b]) (.agg [.int .i64 q.src,.int .i64 q.dst,.int .i64 q.mode,.int .i64 q.cost,.int .i64 q.edge,.int .i64 q.a,.int .i64 q.b])=true:=by simp [AVal.beq,AVal.beqs]
     have z7:Keep Nothing H2 ((((H2.new (.cells [.int .i64 0,.int .i64 0,.int .i64 0,.int .i64 0,.int .i64 0,.int .i64 0,.int .i64 0] true)).new (.cells [.int .i64 0,.int .i64 0,.int .i64 0,.int .i64 0,.int .i64 0,.int .i64 0,.int .i64 0] true)).upd H2.next (some (.cells [.int .i64 p.src,.int .i64 p.dst,.int .i64 p.mode,.int .i64 p.cost,.int .i64 p.edge,.int .i64 p.a,.int .i64 p.b] true))).upd (H2.next+1) (some (.cells [.int .i64 q.src,.int .i64 q.dst,.int .i64 q.mode,.int .i64 q.cost,.int .i64 q.edge,.int .i64 q.a,.int .i64 q.b] true))):=((((Keep.refl _ _).new _).new _).upd (.inl (by omega)) _).upd (.inl (by omega)) _
     have w1:((((H2.new (.cells [.int .i64 0,.int .i64 0,.int .i64 0,.int .i64 0,.int .i64 0,.int .i64 0,.int .i64 0] true)).new (.cells [.int .i64 0,.int .i64 0,.int .i64 0,.int .i64 0,.int .i64 0,.int .i64 0,.int .i64 0] true)).upd H2.next (some (.cells [.int .i64 p.src,.int .i64 p.dst,.int .i64 p.mode,.int .i64 p.cost,.int .i64 p.edge,.int .i64 p.a,.int .i64 p.b] true))).upd (H2.next+1) (some (.cells [.int .i64 q.src,.int .i64 q.dst,.int .i64 q.mode,.int .i64 q.cost,.int .i64 q.edge,.int .i64 q.a,.int .i64 q.b] true))).obj H2.next=some (.cells [.int .i64 p.src,.int .i64 p.dst,.int .i64 p.mode,.int .i64 p.cost,.int .i64 p.edge,.int .i64 p.a,.int .i64 p.b] true):=by simp (disch:=first | omega | (simp only [nx] <;> omega) | fail) only [xI]
     have w2:((((H2.new (.cells [.int .i64 0,.int .i64 0,.int .i64 0,.int .i64 0,.int .i64 0,.int .i64 0,.int .i64 0] true)).new (.cells [.int .i64 0,.int .i64 0,.int .i64 0,.int .i64 0,.int .i64 0,.int .i64 0,.int .i64 0] true)).upd H2.next (some (.cells [.int .i64 p.src,.int .i64 p.dst,.int .i64 p.mode,.int .i64 p.cost,.int .i64 p.edge,.int .i64 p.a,.int .i64 p.b] true))).upd (H2.next+1) (some (.cells [.int .i64 q.src,.int .i64 q.dst,.int .i64 q.mode,.int .i64 q.cost,.int .i64 q.edge,.int .i64 q.a,.int .i64 q.b] true))).obj (H2.next+1)=some (.cells [.int .i64 q.src,.int .i64 q.dst,.int .i64 q.mode,.int .i64 q.cost,.int .i64 q.edge,.int .i64 q.a,.int .i64 q.b] true):=by simp (disch:=first | omega | (simp only [nx] <;> omega) | fail) only [xI]
     have w3:=(z7.old n2).trans q2
     have L3:=L2.kept z7
     simp (disch:=first | omega | (simp only [nx] <;> omega) | fail) only [vaw,q2,o2,h2,h3,h4,h5,p1,p4,q1,q4,xF bav,xF hbp,Nat.reduceAdd,Nat.reduceMul,Nat.reduceLeDiff,Nat.reduceEqDiff,↓reduceIte]
     generalize ((((H2.new (.cells [.int .i64 0,.int .i64 0,.int .i64 0,.int .i64 0,.int .i64 0,.int .i64 0,.int .i64 0] true)).new (.cells [.int .i64 0,.int .i64 0,.int .i64 0,.int .i64 0,.int .i64 0,.int .i64 0,.int .i64 0] true)).upd H2.next (some (.cells [.int .i64 p.src,.int .i64 p.dst,.int .i64 p.mode,.int .i64 p.cost,.int .i64 p.edge,.int .i64 p.a,.int .i64 p.b] true))).upd (H2.next+1) (some (.cells [.int .i64 q.src,.int .i64 q.dst,.int .i64 q.mode,.int .i64 q.cost,.int .i64 q.edge,.int .i64 q.a,.int .i64 q.b] true)))=H3 at *
     by_cases g1:p.mode=a.mode
     ·by_cases g2:q.mode=a.mode
      ·by_cases g3:p.src=a.src
       ·by_cases g4:p.dst=q.src
        ·by_cases g5:q.dst=a.dst
         ·by_cases g6:p.cost+q.cost=a.cost
          ·have hT:IsTwo arcs i a:=key.2 ⟨g1,g2,g3,g4,g5,g6⟩
           have hv:(xY arcs)[i]? = some ((xY arcs).getD a.a.toNat 0+(xY arcs).getD a.b.toNat 0):=by
            rw [hat (fun _=>⟨by omega,by omega,by omega,by omega⟩),if_pos h1]
           have ba:=hsz a.a.toNat (by omega)
           have bb:=hsz a.b.toNat (by omega)
           have pa:=sizes_pos (m:=i) (fun j p hj hp=>hok j p hj hp) i a.a.toNat (by omega) (by omega) (by omega)
           have pb:=sizes_pos (m:=i) (fun j p hj hp=>hok j p hj hp) i a.b.toNat (by omega) (by omega) (by omega)
           have ga:((xY arcs).take i)[a.a.toNat]? = some ((xY arcs).getD a.a.toNat 0):=by
            rw [List.getElem?_take,if_pos (by omega),List.getD_eq_getElem?_getD,List.getElem?_eq_getElem (by omega)]; rfl
           have gb:((xY arcs).take i)[a.b.toNat]? = some ((xY arcs).getD a.b.toNat 0):=by
            rw [List.getElem?_take,if_pos (by omega),List.getD_eq_getElem?_getD,List.getElem?_eq_getElem (by omega)]; rfl
           obtain ⟨ia,oa,a1,a2,a3⟩:=L3.own.row.int_at (k:=.i64) ga
           obtain ⟨ib,ob,b1,b2,b3⟩:=L3.own.row.int_at (k:=.i64) gb
           rw [Int.toNat_of_nonneg (by omega)] at a1 b1
           generalize (xY arcs).getD a.a.toNat 0=sa at *
           generalize (xY arcs).getD a.b.toNat 0=sb at *
           simp (disch:=first | omega | (simp only [nx] <;> omega) | fail) only [vaw,g1,g2,g3,g4,g5,g6,ne_eq,not_true_eq_false,w1,w2,w3,a1,a3,b1,b3,zJ,Nat.reduceAdd,Nat.reduceMul,Nat.reduceLeDiff,Nat.reduceEqDiff,↓reduceIte]
           exact ⟨sa+sb,rfl,L3,hv,⟨⟨by omega,by omega⟩,.inr hT⟩,by omega,by omega⟩
          ·simp (disch:=first | omega | (simp only [nx] <;> omega) | fail) only [vaw,g1,g2,g3,g4,g5,g6,ne_eq,not_true_eq_false,not_false_eq_true,w1,w2,w3,Nat.reduceAdd,Nat.reduceMul,Nat.reduceLeDiff,Nat.reduceEqDiff,↓reduceIte]
           exact hq0 (noTwo fun h=>g6 (key.1 h).2.2.2.2.2) _ L3.keep
         ·simp (disch:=first | omega | (simp only [nx] <;> omega) | fail) only [vaw,g1,g2,g3,g4,g5,ne_eq,not_true_eq_false,not_false_eq_true,w1,w2,w3,Nat.reduceAdd,Nat.reduceMul,Nat.reduceLeDiff,Nat.reduceEqDiff,↓reduceIte]
          exact hq0 (noTwo fun h=>g5 (key.1 h).2.2.2.2.1) _ L3.keep
        ·simp (disch:=first | omega | (simp only [nx] <;> omega) | fail) only [vaw,g1,g2,g3,g4,ne_eq,not_true_eq_false,not_false_eq_true,w1,w2,w3,Nat.reduceAdd,Nat.reduceMul,Nat.reduceLeDiff,Nat.reduceEqDiff,↓reduceIte]
         exact hq0 (noTwo fun h=>g4 (key.1 h).2.2.2.1) _ L3.keep
       ·simp (disch:=first | omega | (simp only [nx] <;> omega) | fail) only [vaw,g1,g2,g3,ne_eq,not_true_eq_false,not_false_eq_true,w1,w2,w3,Nat.reduceAdd,Nat.reduceMul,Nat.reduceLeDiff,Nat.reduceEqDiff,↓reduceIte]
        exact hq0 (noTwo fun h=>g3 (key.1 h).2.2.1) _ L3.keep
      ·simp (disch:=first | omega | (simp only [nx] <;> omega) | fail) only [vaw,g1,g2,ne_eq,not_true_eq_false,not_false_eq_true,w1,w2,w3,Nat.reduceAdd,Nat.reduceMul,Nat.reduceLeDiff,Nat.reduceEqDiff,↓reduceIte]
       exact hq0 (noTwo fun h=>g2 (key.1 h).2.1) _ L3.keep
     ·simp (disch:=first | omega | (simp only [nx] <;> omega) | fail) only [vaw,g1,ne_eq,not_true_eq_false,not_false_eq_true,w1,w2,w3,Nat.reduceAdd,Nat.reduceMul,Nat.reduceLeDiff,Nat.reduceEqDiff,↓reduceIte]
      exact hq0 (noTwo fun h=>g1 (key.1 h).1) _ L3.keep
    ·simp (disch:=first | omega | (simp only [nx] <;> omega) | fail) only [vaw,q2,o2,Nat.reduceAdd,Nat.reduceMul,Nat.reduceLeDiff,Nat.reduceEqDiff,↓reduceIte]
     refine refedge_ret (a:=a) (he.kept L2.keep) fun b H3 k3 s3=>?_
     have L3:=L2.kept k3
     cases b with
     | false =>
      simp (disch:=first | omega | (simp only [nx] <;> omega) | fail) only [vaw,Nat.reduceAdd,Nat.reduceMul,Nat.reduceLeDiff,Nat.reduceEqDiff,↓reduceIte]
      refine hq0 (fun g=>?_) _ L3.keep
      rcases (hthis g).2 with h2 | h2
      ·have:=s3.2 h2; cases this
      ·exact h1 h2.1
     | true =>
      have hE:=s3.1 rfl
      simp (disch:=first | omega | (simp only [nx] <;> omega) | fail) only [vaw,zJ,Nat.reduceAdd,Nat.reduceMul,Nat.reduceLeDiff,Nat.reduceEqDiff,↓reduceIte]
      refine ⟨1,rfl,L3,?_,⟨⟨by omega,by omega⟩,.inl hE⟩,by omega,by omega⟩
      rw [hat (fun he=>absurd he h1),if_neg h1]
   ·rintro t H3 ⟨k,rfl,L3,hk,hokA,hk0,hk2⟩
    have hgd:(xY arcs).getD i 0=k:=yS hk
    by_cases d3:1000 < k
    ·simp (disch:=first | omega | (simp only [nx] <;> omega) | fail) only [vaw,d3,Nat.reduceAdd,Nat.reduceMul,Nat.reduceLeDiff,Nat.reduceEqDiff,↓reduceIte]
     refine hq0 (fun g=>?_) _ L3.keep
     have:=g.2 _ (size_mem hil)
     rw [hgd] at this; omega
    ·simp (disch:=first | omega | (simp only [nx] <;> omega) | fail) only [vaw,d3,Nat.reduceAdd,Nat.reduceMul,Nat.reduceLeDiff,Nat.reduceEqDiff,↓reduceIte]
     refine vK (n:=i) (k:=1) L3.own (y:=H3.next) (by simp (disch:=first | omega | (simp only [nx] <;> omega) | fail) only [xI]; rfl) rfl (by omega) (by omega) (by rw [xE,List.length_take]; omega) (by omega) (by omega) ?_ (by simp only [xB]; have:=L3.lt; omega) (by first | omega | (simp only [xB,xC]; omega)) (by intro j h1 h2; rw [xX (by omega)])
     intro v' H4 n4 k4 g4 s4
     have hs:=take_snoc hk
     have L4:LongAt H H4 n ew rv av uv dv v' es arcs (i+1):=by
      simp only [xB] at n4 k4
      have hl3:=L3.lt
      have hn3:=L3.keep.next
      refine ⟨⟨by omega,fun j hj _=>?_⟩,by omega,?_,?_⟩
      ·rw [k4 j (by omega) (fun e=>by have:=(L3.own.sid_ge e).1; omega),xX (by omega),L3.keep.old hj]
      ·rw [k4 _ (by omega) (fun e=>by have:=(L3.own.sid_ge e).1; omega),xX (by omega)]; exact L3.box
      ·rw [hs,zF]; exact g4.own
     simp (disch:=first | omega | (simp only [nx] <;> omega) | fail) only [vaw,Nat.reduceAdd,Nat.reduceMul,Nat.reduceLeDiff,Nat.reduceEqDiff,↓reduceIte]
     refine ⟨arcs.length - (i+1),by omega,i+1,v',rfl,by omega,rfl,L4,?_,?_⟩
     ·intro j p hj hp
      by_cases hji:j=i
      ·subst hji
       rw [ha] at hp; injection hp with hp; subst hp
       exact hokA
      ·exact hok j p (by omega) hp
     ·intro j hj
      by_cases hji:j=i
      ·subst hji; rw [hgd]; omega
      ·exact hsz j (by omega)
  ·have hi:i=arcs.length:=by omega
   subst hi
   have hall:ArcsOk es arcs:=by
    refine ⟨fun j a ha=>hok j a (List.getElem?_eq_some_iff.1 ha).1 ha,fun s hs=>?_⟩
    obtain ⟨j,hj,e⟩:=List.getElem_of_mem hs
    have:=hsz j (by omega)
    rw [List.getD_eq_getElem?_getD,List.getElem?_eq_getElem hj,e] at this
    exact this
   have o1:=L1.box
   have g1:=L1.own
   rw [List.take_of_length_le (by omega)] at g1
   have nb:=g1.notBot
   simp (disch:=first | omega | (simp only [nx] <;> omega) | fail) only [vaw,o1,hl,hc,nb,Nat.reduceAdd,Nat.reduceMul,Nat.reduceLeDiff,Nat.reduceEqDiff,↓reduceIte]
   exact hq1 hall _ _ L1.keep g1
end Go.Proofs.YtknhlpmmalcchaaGreat

namespace Go.Proofs.YtknhlpmmalcchaaGreat
open Go Go.VAI
set_option linter.unusedSimpArgs false

theorem Bytes.drop' {a b:List Int} (h:Bytes (a++b)):Bytes b:=fun x hx=>h x (by simp [hx])
theorem nbad {α:Type} {f:RS→α × RS} (hf:Reads f) {s:RS} (h:(f s).2.bad=false):s.bad=false:=by
 cases hx:s.bad with
 | false=>rfl
 | true=>have:=hf.bad s hx; rw [h] at this; cases this
def Writes {α:Type} (f:RS→α × RS) (B:α→List Int):Prop:=∀ s,Bytes s.left→(f s).2.bad=false→s.left=B (f s).1++(f s).2.left
theorem Writes.bytes {α:Type} {f:RS→α × RS} {B:α→List Int} (h:Writes f B) {s:RS} (hb:Bytes s.left) (hn:(f s).2.bad=false):Bytes (f s).2.left:=by
 have:=h s hb hn
 rw [this] at hb
 exact hb.drop'
theorem Writes.bind {α β:Type} {f:RS→α × RS} {g:α→RS→β × RS} {B:α→List Int} {C:α→β→List Int} (hf:Writes f B) (hg:∀ a,Writes (g a) (C a)) (hr:∀ a,Reads (g a)):∀ s,Bytes s.left→(andThen f g s).2.bad=false→s.left=B (f s).1++(C (f s).1 (andThen f g s).1++(andThen f g s).2.left):=by
 intro s hb hn
 have h1:(f s).2.bad=false:=nbad (hr _) hn
 have h2:=hf s hb h1
 have h3:=hg (f s).1 (f s).2 (hf.bytes hb h1) hn
 conv=>lhs; rw [h2]
 congr 1
def Takes {β:Type} (h:RS→β × RS) (R:β→List Int→Prop):Prop:=∀ s,Bytes s.left→(h s).2.bad=false→∃ l,R (h s).1 l∧s.left=l++(h s).2.left
theorem Takes.done {β:Type} (x:β):Takes (fun s:RS=>(x,s)) (fun r l=>r=x∧l=[]):=fun s _ _=>⟨[],⟨rfl,rfl⟩,rfl⟩
theorem Takes.bind {α β:Type} {f:RS→α × RS} {g:α→RS→β × RS} {R1:α→List Int→Prop} {R2:α→β→List Int→Prop} (hf:Takes f R1) (hg:∀ a,Takes (g a) (R2 a)) (hr:∀ a,Reads (g a)):Takes (andThen f g) (fun r l=>∃ a l1 l2,R1 a l1∧R2 a r l2∧l=l1++l2):=by
 intro s hb hn
 have h1:(f s).2.bad=false:=nbad (hr _) hn
 obtain ⟨l1,q1,e1⟩:=hf s hb h1
 have hb2:Bytes (f s).2.left:=by
  rw [e1] at hb
  exact hb.drop'
 obtain ⟨l2,q2,e2⟩:=hg (f s).1 (f s).2 hb2 hn
 refine ⟨l1++l2,⟨(f s).1,l1,l2,q1,q2,rfl⟩,?_⟩
 rw [e1,e2,List.append_assoc]
 rfl
end Go.Proofs.YtknhlpmmalcchaaGreat

namespace Go.Proofs.YtknhlpmmalcchaaGreat
open Go Go.VAI
set_option linter.unusedSimpArgs false

end Go.Proofs.YtknhlpmmalcchaaGreat

namespace Go.Proofs.YtknhlpmmalcchaaGreat
open Go Go.VAI
set_option linter.unusedSimpArgs false

end Go.Proofs.YtknhlpmmalcchaaGreat

namespace Go.Proofs.YtknhlpmmalcchaaGreat
open Go Go.VAI
set_option linter.unusedSimpArgs false

theorem Bytes.flat {α:Type} {f:α→List Int} {l:List α} (h:∀ a,Bytes (f a)):Bytes (l.flatMap f):=fun x hx=>by
 obtain ⟨a,_,ha⟩:=List.mem_flatMap.1 hx
 exact h a x ha
end Go.Proofs.YtknhlpmmalcchaaGreat

namespace Go.Proofs.YtknhlpmmalcchaaGreat
open Go Go.VAI
set_option linter.unusedSimpArgs false

end Go.Proofs.YtknhlpmmalcchaaGreat

namespace Go.Proofs.YtknhlpmmalcchaaGreat
open Go Go.VAI
set_option linter.unusedSimpArgs false

end Go.Proofs.YtknhlpmmalcchaaGreat

namespace Go.Proofs.YtknhlpmmalcchaaGreat
open Go Go.VAI
set_option linter.unusedSimpArgs false

end Go.Proofs.YtknhlpmmalcchaaGreat

namespace Go.Proofs.YtknhlpmmalcchaaGreat
open Go Go.VAI
set_option linter.unusedSimpArgs false

def Short62 (x:Idx):Prop:=x.es.length≤4611686018427387904∧x.rank.length≤4611686018427387904∧x.arcs.length≤4611686018427387904∧x.up.length≤4611686018427387904∧(∀ l∈x.up,l.length≤4611686018427387904)∧∀ l∈x.down,l.length≤4611686018427387904
end Go.Proofs.YtknhlpmmalcchaaGreat

namespace Go.Proofs.YtknhlpmmalcchaaGreat
open Go Go.VAI
set_option linter.unusedSimpArgs false

structure EncR (H0 H:AHeap) (x:List AVal) (bv:AVal) (bs:List Int):Prop where
 keep:Keep Nothing H0 H
 lt:H0.next < H.next
 box:H.obj H0.next=some (.cells x true)
 own:Own (H0.next+1) H bv 1 (u8s bs)
theorem EncR.kept {H0 H H':AHeap} {x:List AVal} {bv:AVal} {bs:List Int} (h:EncR H0 H x bv bs) (hk:Keep Nothing H H'):EncR H0 H' x bv bs:=by
 have:=h.lt
 exact ⟨h.keep.trans hk,by have:=hk.next; omega,by rw [hk.old (by omega)]; exact h.box,h.own.kept hk⟩
theorem EncR.step {H0 H H':AHeap} {x:List AVal} {bv bv':AVal} {bs bs':List Int} (h:EncR H0 H x bv bs) (hk:Keep (fun j=>sid bv=some j) H H') (g:Own (H0.next+1) H' bv' 1 (u8s bs')):EncR H0 H' x bv' bs':=by
 have hlt:=h.lt
 have hs:∀ j,sid bv=some j→H0.next+1≤j:=fun j hj=>(h.own.sid_ge hj).1
 exact ⟨h.keep.trans' hk (fun j hj e=>by have:=hs j e; omega),by have:=hk.next; omega,by rw [hk.obj _ (by omega) (fun e=>by have:=hs _ e; omega)]; exact h.box,g⟩
end Go.Proofs.YtknhlpmmalcchaaGreat

namespace Go.Proofs.YtknhlpmmalcchaaGreat
open Go Go.VAI
set_option linter.unusedSimpArgs false

end Go.Proofs.YtknhlpmmalcchaaGreat

namespace Go.Proofs.YtknhlpmmalcchaaGreat
open Go Go.VAI
set_option linter.unusedSimpArgs false

end Go.Proofs.YtknhlpmmalcchaaGreat

namespace Go.Proofs.YtknhlpmmalcchaaGreat
open Go Go.VAI
set_option linter.unusedSimpArgs false

structure RdgAt (H0:AHeap) (q w:Nat) (src:Option Nat) (H:AHeap) (cs:List AVal) (s:RS):Prop where
 keep:Keep (fun j=>j=w) H0 H
 op:H.obj H0.next=some (.cells [.int .i64 0,.nilSlice,.nilSlice,.nilSlice,.nilSlice,.nilSlice] true)
 ob:H.obj q=some (.cells cs true)
 rd:RdAt H w src s
 len:s.left.length≤1000000000
 lq:H0.next < q
 lh:q < H.next
 lw:w < H0.next
 ls:∀ j,src=some j→j < H0.next
theorem RdgAt.grow {H0:AHeap} {q w:Nat} {src:Option Nat} {H H':AHeap} {cs:List AVal} {s:RS} {M:Nat→Prop} (h:RdgAt H0 q w src H cs s) (hk:Keep M H H') (hM:∀ j,M j→q < j):RdgAt H0 q w src H' cs s:=by
 have h2:=h.lq
 have h3:=h.lw
 have h4:=h.lh
 have h5:=h.keep.next
 have hm:∀ j,j≤q→¬ M j:=fun j hj hm=>by have:=hM j hm; omega
 exact ⟨⟨by have:=hk.next; omega,fun j hj hw=>by rw [hk.obj j (by omega) (hm j (by omega)),h.keep.obj j hj hw]⟩,by rw [hk.obj _ (by omega) (hm _ (by omega))]; exact h.op,by rw [hk.obj _ (by omega) (hm _ (by omega))]; exact h.ob,h.rd.M hk (hm w (by omega)) (fun j hj=>hm j (by have:=h.ls j hj; omega)),h.len,h2,by have:=hk.next; omega,h3,h.ls⟩
theorem RdgAt.kept {H0:AHeap} {q w:Nat} {src:Option Nat} {H H':AHeap} {cs:List AVal} {s:RS} (h:RdgAt H0 q w src H cs s) (hk:Keep Nothing H H'):RdgAt H0 q w src H' cs s:=h.grow hk (fun _ h=>h.elim)
theorem RdgAt.upd {H0:AHeap} {q w y:Nat} {src:Option Nat} {H:AHeap} {cs:List AVal} {s:RS} (h:RdgAt H0 q w src H cs s) (hy:q < y) (o:Option AObj):RdgAt H0 q w src (H.upd y o) cs s :=
 h.grow (M:=fun j=>j=y) ((Keep.refl (fun j=>j=y) _).upd (.inr rfl) _) (fun j e=>by omega)
theorem RdgAt.put {H0:AHeap} {q w:Nat} {src:Option Nat} {H:AHeap} {cs:List AVal} {s:RS} (h:RdgAt H0 q w src H cs s) (cs':List AVal):RdgAt H0 q w src (H.upd q (some (.cells cs' true))) cs' s:=by
 have h2:=h.lq
 have h3:=h.lw
 have h4:=h.lh
 have h5:=h.keep.next
 have kk:Keep (fun j=>j=q) H (H.upd q (some (.cells cs' true))):=(Keep.refl (fun j=>j=q) _).upd (.inr rfl) _
 exact ⟨h.keep.upd (.inl (by omega)) _,by rw [xQ (by omega)]; exact h.op,xN rfl,h.rd.M kk (by omega) (fun j hj=>by have:=h.ls j hj; omega),h.len,h2,h4,h3,h.ls⟩
theorem RdgAt.set {H0:AHeap} {q w y:Nat} {src:Option Nat} {Ha H:AHeap} {cs zs:List AVal} {s:RS} (h:RdgAt H0 q w src H cs s) (hk:Keep (fun j=>j=w) Ha H) (hy:Ha.next≤y∧y < H.next) (hqa:q < Ha.next) :
  RdgAt H0 q w src (H.upd y (some (.cells zs true))) cs s∧Keep (fun j=>j=w) Ha (H.upd y (some (.cells zs true)))∧(H.upd y (some (.cells zs true))).obj y=some (.cells zs true)∧(H.upd y (some (.cells zs true))).next=H.next :=
 ⟨h.upd (by omega) _,hk.upd (.inl (by omega)) _,xN rfl,by simp only [xC]⟩
end Go.Proofs.YtknhlpmmalcchaaGreat

namespace Go.Proofs.YtknhlpmmalcchaaGreat
open Go Go.VAI
set_option linter.unusedSimpArgs false

end Go.Proofs.YtknhlpmmalcchaaGreat

namespace Go.Proofs.YtknhlpmmalcchaaGreat
open Go Go.VAI
set_option linter.unusedSimpArgs false

end Go.Proofs.YtknhlpmmalcchaaGreat

namespace Go.Proofs.YtknhlpmmalcchaaGreat
open Go Go.VAI
set_option linter.unusedSimpArgs false

end Go.Proofs.YtknhlpmmalcchaaGreat

namespace Go.Proofs.YtknhlpmmalcchaaGreat
open Go Go.VAI
set_option linter.unusedSimpArgs false

theorem mk_ret {size modes:Int} {ns:AVal} {xs:List Int} {H:AHeap} {Q:AVal→AHeap→Prop} (hr:Row H ns 1 (xL xs)) (hx:∀ x∈xs,I64 x) (hx2:xs.length≤9223372036854775807)
  (hq:∀ ev H',Keep Nothing H H'→Grown H.next H' ev 4 (xG (mkEs size modes xs))→Q (.agg [.int .i64 (mkN size),ev]) H'):Ret A 8 [.int .i64 size,ns,.int .i64 modes] H Q:=by
 refine make_ret hr hx hx2 fun ev H' k g=>?_
 have h:=hq ev H' k g
 rw [mkN_eq] at h
 exact h
theorem IdxAt.beq {H:AHeap} {ew rv av uv dv:AVal} {x:Idx} (h:IdxAt H ew rv av uv dv x) {n:Int}:AVal.beq (.agg [.int .i64 n,ew,rv,av,uv,dv]) (.agg [.int .i64 n,ew,rv,av,uv,dv])=true:=by
 simp [AVal.beq,AVal.beqs,h.es.beq,h.rank.beq,h.arcs.beq,h.up.beq,h.down.beq]
theorem allowed_short {x:Idx} (h:Allowed x):Short62 x∧x.up.length=x.down.length:=by
 obtain ⟨n1,n2,n3,n4⟩:=h.net
 have hrl:=h.rankLen
 have hul:=h.upLen
 have hdl:=h.downLen
 have hac:=h.count
 have hu:∀ l∈x.up,l.length≤300000:=fun l hl=>by
  obtain ⟨v,hv,e⟩:=List.getElem_of_mem hl
  obtain ⟨h1,h2⟩:=h.up v l (by rw [List.getElem?_eq_getElem hv,e])
  have:=wO x.arcs.length l h1 (fun y hy=>by
   obtain ⟨h3,a,h4,_⟩:=h2 y hy
   have:=(List.getElem?_eq_some_iff.1 h4).1
   omega)
  omega
 have hd:∀ l∈x.down,l.length≤300000:=fun l hl=>by
  obtain ⟨v,hv,e⟩:=List.getElem_of_mem hl
  obtain ⟨h1,h2⟩:=h.down v l (by rw [List.getElem?_eq_getElem hv,e])
  have:=wO x.arcs.length l h1 (fun y hy=>by
   obtain ⟨h3,a,h4,_⟩:=h2 y hy
   have:=(List.getElem?_eq_some_iff.1 h4).1
   omega)
  omega
 exact ⟨⟨by omega,by omega,by omega,by omega,fun l hl=>by have:=hu l hl; omega,fun l hl=>by have:=hd l hl; omega⟩,by omega⟩
end Go.Proofs.YtknhlpmmalcchaaGreat

namespace Go.Proofs.YtknhlpmmalcchaaGreat
open Go Go.VAI
set_option linter.unusedSimpArgs false

theorem rowOk_up {rank:List Int} {arcs:List Arc} {v:Int} {l:List Int}:RowOk true rank arcs v l↔UpOk rank arcs v l:=Iff.rfl
theorem rowOk_down {rank:List Int} {arcs:List Arc} {v:Int} {l:List Int}:RowOk false rank arcs v l↔DownOk rank arcs v l:=Iff.rfl
set_option maxRecDepth 20000 in
set_option maxHeartbeats 8000000 in
theorem refcheck_ret {ew rv av uv dv:AVal} {x:Idx} {H:AHeap} {Q:AVal→AHeap→Prop} (hx:IdxAt H ew rv av uv dv x) (hrk:x.rank.length≤1000000000) (hnu:∀ l∈x.up,l.length≤4611686018427387904) (hnd:∀ l∈x.down,l.length≤4611686018427387904)
  (hq:∀ b H',Keep Nothing H H'→Says b (Allowed x)→Q (.bool b) H'):Ret A 11 [.agg [.int .i64 x.n,ew,rv,av,uv,dv]] H Q:=by
 refine Ret.of (fn:=F11) rfl ?_
 have la:=hx.arcs.len (by omega) (yJ x.arcs)
 have bx:=hx.beq (n:=x.n)
 simp (disch:=first | omega | (simp only [nx] <;> omega) | fail) only [vaw,F11,Nat.reduceAdd,Nat.reduceMul,Nat.reduceLeDiff,Nat.reduceEqDiff,↓reduceIte]
 have k0:Keep Nothing H (H.new (.cells [.int .i64 x.n,ew,rv,av,uv,dv] true)):=(Keep.refl _ _).new _
 have q0:(H.new (.cells [.int .i64 x.n,ew,rv,av,uv,dv] true)).obj H.next=some (.cells [.int .i64 x.n,ew,rv,av,uv,dv] true):=yB rfl
 refine refnet_ret (hx.es.kept k0) fun b H1 k1 s1=>?_
 have n1:=k1.next
 simp only [xB] at n1
 have q1:=(k1.old (i:=H.next) (by simp only [xB]; omega)).trans q0
 have kA:=k0.trans k1
 cases b with
 | false =>
  simp (disch:=first | omega | (simp only [nx] <;> omega) | fail) only [vaw,q1,Nat.reduceAdd,Nat.reduceMul,Nat.reduceLeDiff,Nat.reduceEqDiff,↓reduceIte]
  exact hq _ _ kA (xK fun h=>by have:=s1.2 h.net; cases this)
 | true =>
  have hnet:=s1.1 rfl
  have hn60:=hnet.2.1
  simp (disch:=first | omega | (simp only [nx] <;> omega) | fail) only [vaw,q1,Nat.reduceAdd,Nat.reduceMul,Nat.reduceLeDiff,Nat.reduceEqDiff,↓reduceIte]
  refine refranks_ret (hx.kept kA) hrk fun b H2 k2 s2=>?_
  have n2:=k2.next
  have q2:=(k2.old (i:=H.next) (by omega)).trans q1
  have kB:=kA.trans k2
  cases b with
  | false =>
   simp (disch:=first | omega | (simp only [nx] <;> omega) | fail) only [vaw,q2,Nat.reduceAdd,Nat.reduceMul,Nat.reduceLeDiff,Nat.reduceEqDiff,↓reduceIte]
   exact hq _ _ kB (xK fun h=>by have:=s2.2 ⟨h.rankLen,h.upLen,h.downLen,h.ranks⟩; cases this)
  | true =>
   obtain ⟨c1,c2,c3,hrnk⟩:=s2.1 rfl
   by_cases c4:(300000:Int) < x.arcs.length
   ·simp (disch:=first | omega | (simp only [nx] <;> omega) | fail) only [vaw,q2,la,c4,Nat.reduceAdd,Nat.reduceMul,Nat.reduceLeDiff,Nat.reduceEqDiff,↓reduceIte]
    exact hq _ _ kB (xK fun h=>by have:=h.count; omega)
   by_cases c5:x.arcs=[]
   ·have c5':¬ (0:Int) < x.arcs.length:=by rw [c5]; simp
    have harc:ArcsOk x.es x.arcs:=by rw [c5]; exact ⟨fun i a h=>by simp at h,fun s h=>by simp [xY] at h⟩
    have hends:=fun i a h=>arc_ends hnet harc.1 (i+1) i a (by omega) h
    simp (disch:=first | omega | (simp only [nx] <;> omega) | fail) only [vaw,q2,la,c4,c5',Nat.reduceAdd,Nat.reduceMul,Nat.reduceLeDiff,Nat.reduceEqDiff,↓reduceIte]
    have kk:=kB
    have qq:=q2
    have nn:H.next < H2.next:=by omega
    refine xS (fun m t H'=>∃ (i:Nat),m=x.rank.length - i∧i≤x.rank.length∧t=(xP 1 (.ptr H.next 0 :: xP 1 (.int .i64 i :: xP 53 ([]))):xJ)∧Keep Nothing H H'∧H.next < H'.next∧H'.obj H.next=some (.cells [.int .i64 x.n,ew,rv,av,uv,dv] true)∧(∀ (v:Nat) l,v < i→x.up[v]? = some l→UpOk x.rank x.arcs v l)∧∀ (v:Nat) l,v < i→x.down[v]? = some l→DownOk x.rank x.arcs v l) x.rank.length ?_ ?_
    ·exact ⟨0,rfl,by omega,rfl,kk,nn,qq,fun v l h=>by omega,fun v l h=>by omega⟩
    ·rintro m t H5 ⟨i,rfl,hi,rfl,k5,n5,q5,hU,hD⟩
     by_cases hc:(i:Int) < x.n
     ·have hil:i < x.rank.length:=by omega
      obtain ⟨lup,hlu,mlu⟩:=at_some (l:=x.up) (i:=i) (by omega)
      obtain ⟨ldn,hld,mld⟩:=at_some (l:=x.down) (i:=i) (by omega)
      obtain ⟨iu,ou,ru,u1,u2,u3,u4⟩:=(hx.up.kept k5).at (k:=.i64) hlu
      simp (disch:=first | omega | (simp only [nx] <;> omega) | fail) only [vaw,hc,q5,u1,u3,Nat.reduceAdd,Nat.reduceMul,Nat.reduceLeDiff,Nat.reduceEqDiff,↓reduceIte]
      refine refrow_ret (up:=true) (hx.es.kept k5) (hx.rank.kept k5) (hx.arcs.kept k5) hx.up.beq hx.down.beq u4 hil (hnu _ mlu) (by omega) (fun j a h=>by rw [c1]; exact hends j a h) fun b H6 k6 s6=>?_
      have n6:=k6.next
      have q6:=(k6.old n5).trans q5
      cases b with
      | false =>
       simp (disch:=first | omega | (simp only [nx] <;> omega) | fail) only [vaw,q6,Nat.reduceAdd,Nat.reduceMul,Nat.reduceLeDiff,Nat.reduceEqDiff,↓reduceIte]
       exact hq _ _ (k5.trans k6) (xK fun h=>by have:=s6.2 (rowOk_up.2 (h.up i _ hlu)); cases this)
      | true =>
       have hb:=rowOk_up.1 (s6.1 rfl)
       obtain ⟨id,od,rd,d1,d2,d3,d4⟩:=((hx.down.kept k5).kept k6).at (k:=.i64) hld
       simp (disch:=first | omega | (simp only [nx] <;> omega) | fail) only [vaw,q6,d1,d3,Nat.reduceAdd,Nat.reduceMul,Nat.reduceLeDiff,Nat.reduceEqDiff,↓reduceIte]
       refine refrow_ret (up:=false) ((hx.es.kept k5).kept k6) ((hx.rank.kept k5).kept k6) ((hx.arcs.kept k5).kept k6) hx.up.beq hx.down.beq d4 hil (hnd _ mld) (by omega) (fun j a h=>by rw [c1]; exact hends j a h) fun b H7 k7 s7=>?_
       have n7:=k7.next
       have q7:=(k7.old (i:=H.next) (by omega)).trans q6
       cases b with
       | false =>
        simp (disch:=first | omega | (simp only [nx] <;> omega) | fail) only [vaw,q7,Nat.reduceAdd,Nat.reduceMul,Nat.reduceLeDiff,Nat.reduceEqDiff,↓reduceIte]
        exact hq _ _ ((k5.trans k6).trans k7) (xK fun h=>by have:=s7.2 (rowOk_down.2 (h.down i _ hld)); cases this)
       | true =>
        have hb2:=rowOk_down.1 (s7.1 rfl)
        simp (disch:=first | omega | (simp only [nx] <;> omega) | fail) only [vaw,q7,Nat.reduceAdd,Nat.reduceMul,Nat.reduceLeDiff,Nat.reduceEqDiff,↓reduceIte]
        refine ⟨x.rank.length - (i+1),by omega,i+1,rfl,by omega,rfl,(k5.trans k6).trans k7,by omega,fun v l hv hl=>?_,fun v l hv hl=>?_⟩
        ·by_cases hvi:v=i
         ·subst hvi; rw [hlu] at hl; injection hl with hl; subst hl; exact hb
         ·exact hU v l (by omega) hl
        ·by_cases hvi:v=i
         ·subst hvi; rw [hld] at hl; injection hl with hl; subst hl; exact hb2
         ·exact hD v l (by omega) hl
     ·simp (disch:=first | omega | (simp only [nx] <;> omega) | fail) only [vaw,hc,q5,Nat.reduceAdd,Nat.reduceMul,Nat.reduceLeDiff,Nat.reduceEqDiff,↓reduceIte]
      refine hq _ _ k5 (zP ⟨hnet,c1,c2,c3,hrnk,by omega,harc.1,harc.2,fun v l hl=>hU v l ?_ hl,fun v l hl=>hD v l ?_ hl⟩)
      ·have:=(List.getElem?_eq_some_iff.1 hl).1; omega
      ·have:=(List.getElem?_eq_some_iff.1 hl).1; omega
   ·have c5':(0:Int) < x.arcs.length:=by
     have:=List.length_pos_iff.2 c5
     omega
    simp (disch:=first | omega | (simp only [nx] <;> omega) | fail) only [vaw,q2,la,c4,c5',Nat.reduceAdd,Nat.reduceMul,Nat.reduceLeDiff,Nat.reduceEqDiff,↓reduceIte]
    refine reflong_ret hnet (hx.es.kept kB) (hx.arcs.kept kB) (by omega) (fun hno H3 k3=>?_) (fun hok v' H3 k3 g3=>?_) bx
    ·simp (disch:=first | omega | (simp only [nx] <;> omega) | fail) only [vaw,Nat.reduceAdd,Nat.reduceMul,Nat.reduceLeDiff,Nat.reduceEqDiff,↓reduceIte]
     exact hq _ _ (kB.trans k3) (xK fun h=>hno ⟨h.arcs,h.sizes⟩)
    ·have hnn:=own_notNil g3 (by
      intro e
      have:=congrArg List.length e
      rw [xE,zE _ _ rfl] at this
      simp at this
      exact c5 this)
     have q3:=(k3.old (i:=H.next) (by omega)).trans q2
     have n3:=k3.next
     have harc:=hok
     have hends:=fun i a h=>arc_ends hnet harc.1 (i+1) i a (by omega) h
     simp (disch:=first | omega | (simp only [nx] <;> omega) | fail) only [vaw,hnn,Nat.reduceAdd,Nat.reduceMul,Nat.reduceLeDiff,Nat.reduceEqDiff,↓reduceIte]
     have kk:=kB.trans k3
     have qq:=q3
     have nn:H.next < H3.next:=by omega
     refine xS (fun m t H'=>∃ (i:Nat),m=x.rank.length - i∧i≤x.rank.length∧t=(xP 1 (.ptr H.next 0 :: xP 1 (.int .i64 i :: xP 53 ([]))):xJ)∧Keep Nothing H H'∧H.next < H'.next∧H'.obj H.next=some (.cells [.int .i64 x.n,ew,rv,av,uv,dv] true)∧(∀ (v:Nat) l,v < i→x.up[v]? = some l→UpOk x.rank x.arcs v l)∧∀ (v:Nat) l,v < i→x.down[v]? = some l→DownOk x.rank x.arcs v l) x.rank.length ?_ ?_
     ·exact ⟨0,rfl,by omega,rfl,kk,nn,qq,fun v l h=>by omega,fun v l h=>by omega⟩
     ·rintro m t H5 ⟨i,rfl,hi,rfl,k5,n5,q5,hU,hD⟩
      by_cases hc:(i:Int) < x.n
      ·have hil:i < x.rank.length:=by omega
       obtain ⟨lup,hlu,mlu⟩:=at_some (l:=x.up) (i:=i) (by omega)
       obtain ⟨ldn,hld,mld⟩:=at_some (l:=x.down) (i:=i) (by omega)
       obtain ⟨iu,ou,ru,u1,u2,u3,u4⟩:=(hx.up.kept k5).at (k:=.i64) hlu
       simp (disch:=first | omega | (simp only [nx] <;> omega) | fail) only [vaw,hc,q5,u1,u3,Nat.reduceAdd,Nat.reduceMul,Nat.reduceLeDiff,Nat.reduceEqDiff,↓reduceIte]
       refine refrow_ret (up:=true) (hx.es.kept k5) (hx.rank.kept k5) (hx.arcs.kept k5) hx.up.beq hx.down.beq u4 hil (hnu _ mlu) (by omega) (fun j a h=>by rw [c1]; exact hends j a h) fun b H6 k6 s6=>?_
       have n6:=k6.next
       have q6:=(k6.old n5).trans q5
       cases b with
       | false =>
        simp (disch:=first | omega | (simp only [nx] <;> omega) | fail) only [vaw,q6,Nat.reduceAdd,Nat.reduceMul,Nat.reduceLeDiff,Nat.reduceEqDiff,↓reduceIte]
        exact hq _ _ (k5.trans k6) (xK fun h=>by have:=s6.2 (rowOk_up.2 (h.up i _ hlu)); cases this)
       | true =>
        have hb:=rowOk_up.1 (s6.1 rfl)
        obtain ⟨id,od,rd,d1,d2,d3,d4⟩:=((hx.down.kept k5).kept k6).at (k:=.i64) hld
        simp (disch:=first | omega | (simp only [nx] <;> omega) | fail) only [vaw,q6,d1,d3,Nat.reduceAdd,Nat.reduceMul,Nat.reduceLeDiff,Nat.reduceEqDiff,↓reduceIte]
        refine refrow_ret (up:=false) ((hx.es.kept k5).kept k6) ((hx.rank.kept k5).kept k6) ((hx.arcs.kept k5).kept k6) hx.up.beq hx.down.beq d4 hil (hnd _ mld) (by omega) (fun j a h=>by rw [c1]; exact hends j a h) fun b H7 k7 s7=>?_
        have n7:=k7.next
        have q7:=(k7.old (i:=H.next) (by omega)).trans q6
        cases b with
        | false =>
         simp (disch:=first | omega | (simp only [nx] <;> omega) | fail) only [vaw,q7,Nat.reduceAdd,Nat.reduceMul,Nat.reduceLeDiff,Nat.reduceEqDiff,↓reduceIte]
         exact hq _ _ ((k5.trans k6).trans k7) (xK fun h=>by have:=s7.2 (rowOk_down.2 (h.down i _ hld)); cases this)
        | true =>
         have hb2:=rowOk_down.1 (s7.1 rfl)
         simp (disch:=first | omega | (simp only [nx] <;> omega) | fail) only [vaw,q7,Nat.reduceAdd,Nat.reduceMul,Nat.reduceLeDiff,Nat.reduceEqDiff,↓reduceIte]
         refine ⟨x.rank.length - (i+1),by omega,i+1,rfl,by omega,rfl,(k5.trans k6).trans k7,by omega,fun v l hv hl=>?_,fun v l hv hl=>?_⟩
         ·by_cases hvi:v=i
          ·subst hvi; rw [hlu] at hl; injection hl with hl; subst hl; exact hb
          ·exact hU v l (by omega) hl
         ·by_cases hvi:v=i
          ·subst hvi; rw [hld] at hl; injection hl with hl; subst hl; exact hb2
          ·exact hD v l (by omega) hl
      ·simp (disch:=first | omega | (simp only [nx] <;> omega) | fail) only [vaw,hc,q5,Nat.reduceAdd,Nat.reduceMul,Nat.reduceLeDiff,Nat.reduceEqDiff,↓reduceIte]
       refine hq _ _ k5 (zP ⟨hnet,c1,c2,c3,hrnk,by omega,harc.1,harc.2,fun v l hl=>hU v l ?_ hl,fun v l hl=>hD v l ?_ hl⟩)
       ·have:=(List.getElem?_eq_some_iff.1 hl).1; omega
       ·have:=(List.getElem?_eq_some_iff.1 hl).1; omega
end Go.Proofs.YtknhlpmmalcchaaGreat

namespace Go.Proofs.YtknhlpmmalcchaaGreat
open Go Go.VAI
set_option linter.unusedSimpArgs false

end Go.Proofs.YtknhlpmmalcchaaGreat

namespace Go.Proofs.YtknhlpmmalcchaaGreat
open Go Go.VAI
set_option linter.unusedSimpArgs false

end Go.Proofs.YtknhlpmmalcchaaGreat

namespace Go.Proofs.YtknhlpmmalcchaaGreat
open Go Go.VAI
set_option linter.unusedSimpArgs false

structure BRow (H:AHeap) (v:AVal) (b:List Int):Prop where
 row:RowC H v 1 (u8s b)
 bytes:Bytes b
 len:b.length≤1000000000
theorem BRow.kept {H H':AHeap} {v:AVal} {b:List Int} (h:BRow H v b) (hk:Keep Nothing H H'):BRow H' v b:=⟨h.row.kept hk,h.bytes,h.len⟩
end Go.Proofs.YtknhlpmmalcchaaGreat

namespace Go.Proofs.YtknhlpmmalcchaaGreat
open Go Go.VAI
set_option linter.unusedSimpArgs false

def In (a b:Nat) (v:AVal):Prop:=∀ j,sid v=some j→a≤j∧j < b
structure OwnRows (a b:Nat) (H:AHeap) (av:AVal) (us:List AVal) (ul:List (List Int)):Prop where
 own:Own a H av 1 us
 len:us.length=ul.length
 rows:∀ (i:Nat) r l,us[i]? = some r→ul[i]? = some l→Own a H r 1 (xL l)
 apart:∀ (i:Nat) r j,us[i]? = some r→sid r=some j→sid av≠some j
 two:∀ (i i':Nat) r r' j,us[i]? = some r→us[i']? = some r'→sid r=some j→sid r'=some j→i=i'
 inA:In a b av
 inR:∀ (i:Nat) r,us[i]? = some r→In a b r
theorem OwnRows.M {a b:Nat} {M:Nat→Prop} {H H':AHeap} {av:AVal} {us:List AVal} {ul:List (List Int)} (h:OwnRows a b H av us ul) (hk:Keep M H H') (hM:∀ j,a≤j→j < b→¬ M j):OwnRows a b H' av us ul :=
 ⟨h.own.keepM hk (fun j hj=>hM j (h.inA j hj).1 (h.inA j hj).2),h.len,fun i r l e1 e2=>(h.rows i r l e1 e2).keepM hk (fun j hj=>hM j (h.inR i r e1 j hj).1 (h.inR i r e1 j hj).2),h.apart,h.two,h.inA,h.inR⟩
theorem OwnRows.from {a b lo:Nat} {H:AHeap} {av:AVal} {us:List AVal} {ul:List (List Int)} (h:OwnRows a b H av us ul) (hlo:lo≤a):FromRows lo H av ul :=
 ⟨us,⟨h.own.row,fun j hj=>by have:=(h.inA j hj).1; omega⟩,h.len,fun i r l e1 e2=>⟨(h.rows i r l e1 e2).row,fun j hj=>by have:=(h.inR i r e1 j hj).1; omega⟩⟩
set_option maxRecDepth 20000 in
set_option maxHeartbeats 4000000 in
theorem rows_ret {lv:AVal} {ll:List (List Int)} {H:AHeap} {Q:AVal→AHeap→Prop} (hl:RowsOf H lv ll) (hlen:ll.length≤1000000) (hle:∀ l∈ll,l.length≤1000000)
  (hq:∀ v' us H',Keep Nothing H H'→OwnRows H.next H'.next H' v' us ll→Q v' H'):Ret A 22 [lv] H Q:=by
 refine Ret.of (fn:=F22) rfl ?_
 have hll:=hl.len
 simp (disch:=first | omega | (simp only [nx] <;> omega) | fail) only [vaw,F22,Nat.reduceAdd,Nat.reduceMul,Nat.reduceLeDiff,Nat.reduceEqDiff,↓reduceIte]
 refine xS (fun m t H'=>∃ (i:Nat) (ov:AVal) (us:List AVal),m=ll.length - i∧i≤ll.length∧t=(lv :: xP 2 (ov :: .int .i64 i :: xP 16 ([])):xJ)∧Keep Nothing H H'∧OwnRows H.next H'.next H' ov us (ll.take i)) ll.length ?_ ?_
 ·exact ⟨0,.nilSlice,[],rfl,by omega,rfl,.refl _ _,⟨.nil,by simp,fun i r l h=>by simp at h,fun i r j h=>by simp at h,fun i i' r r' j h=>by simp at h,fun j hj=>(by cases hj),fun i r h=>by simp at h⟩⟩
 ·rintro m t H1 ⟨i,ov,us,rfl,hi,rfl,k1,g1⟩
  have n1:=k1.next
  by_cases hc:(i:Int) < ll.length
  ·have hil:i < ll.length:=by omega
   have hx:ll[i]? = some ll[i]:=by simp [hil]
   have htk:=List.take_succ_eq_append_getElem hil
   have hml:=hle _ (List.getElem_mem hil)
   obtain ⟨id,off,r,a1,a2,a3,a4⟩:=(hl.kept k1).at (k:=.i64) hx
   generalize ll[i]=l at *
   simp (disch:=first | omega | (simp only [nx] <;> omega) | fail) only [vaw,hll,hc,a1,a3,Nat.reduceAdd,Nat.reduceMul,Nat.reduceLeDiff,Nat.reduceEqDiff,↓reduceIte]
   have kA:Keep Nothing H1 (H1.new (.cells [] true)):=(Keep.refl _ _).new _
   refine copy_ret (n:=l.length) (yB rfl) (by first | omega | (simp only [xB,xC]; omega)) (a4.kept kA) (by rw [xE]; omega) (by omega) (by omega) (by omega) ?_
   intro c H2 k2 g2 s2
   have n2:=k2.next
   simp only [xB] at n2
   have cc:=g2.cells
   simp (disch:=first | omega | (simp only [nx] <;> omega) | fail) only [vaw,cc,Nat.reduceAdd,Nat.reduceMul,Nat.reduceLeDiff,Nat.reduceEqDiff,↓reduceIte]
   have g1':=(g1.M kA (fun _ _ _ h=>h)).M k2 (fun _ _ _ h=>h)
   have hul:us.length=i:=by have:=g1.len; rw [List.length_take] at this; omega
   refine vK (n:=i) (k:=1) g1'.own (y:=H2.next) (by simp (disch:=first | omega | (simp only [nx] <;> omega) | fail) only [xI]; rfl) rfl (by omega) (by omega) (by omega) (by omega) (by omega) ?_ (by simp only [xB]; omega) (by first | omega | (simp only [xB,xC]; omega)) (by intro j h1 h2; rw [xX (by omega)])
   intro v' H3 n3 k3 g3 s3
   simp only [xB] at n3 k3
   have hcid:∀ j,sid c=some j→H1.next≤j∧j < H2.next:=fun j hj=>g2.sid_ge hj
   have hoid:∀ j,sid ov=some j→j < H1.next:=fun j hj=>(g1.inA j hj).2
   obtain ⟨y',s3,hy'⟩:=s3
   simp only [xB] at hy'
   have kM:Keep (fun j=>sid ov=some j) H2 H3:=⟨by omega,fun j hj hm=>by rw [k3 j (by omega) hm,xX (by omega)]⟩
   simp (disch:=first | omega | (simp only [nx] <;> omega) | fail) only [vaw,Nat.reduceAdd,Nat.reduceMul,Nat.reduceLeDiff,Nat.reduceEqDiff,↓reduceIte]
   refine ⟨ll.length - (i+1),by omega,i+1,v',us++[c],rfl,by omega,rfl,⟨by omega,fun j hj _=>?_⟩,?_⟩
   ·have hne:¬ sid ov=some j:=fun e=>by have:=(g1.inA j e).1; omega
    rw [kM.obj j (by omega) hne,k2.old (by simp only [xB]; omega),xX (by omega),k1.old hj]
   ·have cell:∀ (q:Nat) r,(us++[c])[q]? = some r→(q < i∧us[q]? = some r)∨(q=i∧r=c):=fun q r h=>by
     by_cases hq:q < us.length
     ·rw [List.getElem?_append_left hq] at h
      exact .inl ⟨by omega,h⟩
     ·have:=(List.getElem?_eq_some_iff.1 h).1
      simp at this
      have e:q=us.length:=by omega
      subst e
      rw [List.getElem?_append_right (by omega),Nat.sub_self] at h
      simp at h
      exact .inr ⟨by omega,h.symm⟩
    refine ⟨g3.own,by simp; omega,fun q r l' e1 e2=>?_,fun q r j e1 e2 e3=>?_,fun q q' r r' j e1 e2 e3 e4=>?_,fun j hj=>?_,fun q r e1 j hj=>?_⟩
    ·rcases cell q r e1 with ⟨hq,h1⟩ | ⟨hqe,rfl⟩
     ·refine (g1'.rows q r l' h1 ?_).keepM kM (fun j hj e=>g1.apart q r j h1 hj e)
      rw [htk,List.getElem?_append_left (by rw [List.length_take]; omega)] at e2
      exact e2
     ·rw [hqe,htk,List.getElem?_append_right (by rw [List.length_take]; omega),List.length_take] at e2
      have:i - min i ll.length=0:=by omega
      rw [this] at e2
      simp at e2
      subst e2
      exact (g2.lower (by omega)).keepM kM (fun j hj e=>by have:=hcid j hj; have:=hoid j e; omega)
    ·rw [s3] at e3
     injection e3 with e3
     rcases cell q r e1 with ⟨hq,h1⟩ | ⟨hqe,rfl⟩
     ·have:=(g1.inR q r h1 j e2).2; omega
     ·have:=hcid j e2; omega
    ·rcases cell q r e1 with ⟨hq,h1⟩ | ⟨hqe,rfl⟩ <;> rcases cell q' r' e2 with ⟨hq',h1'⟩ | ⟨hqe',hre'⟩
     ·exact g1.two q q' r r' j h1 h1' e3 e4
     ·subst hre'; have:=(g1.inR q r h1 j e3).2; have:=hcid j e4; omega
     ·have:=(g1.inR q' r' h1' j e4).2; have:=hcid j e3; omega
     ·omega
    ·exact ⟨(g3.sid_ge hj).1,(g3.sid_ge hj).2⟩
    ·rcases cell q r e1 with ⟨hq,h1⟩ | ⟨hqe,rfl⟩
     ·have:=g1.inR q r h1 j hj; omega
     ·have:=hcid j hj; omega
  ·have:i=ll.length:=by omega
   subst this
   rw [List.take_length] at g1
   have nb:=g1.own.notBot
   simp (disch:=first | omega | (simp only [nx] <;> omega) | fail) only [vaw,hll,hc,nb,Nat.reduceAdd,Nat.reduceMul,Nat.reduceLeDiff,Nat.reduceEqDiff,↓reduceIte]
   exact hq _ _ _ k1 g1
end Go.Proofs.YtknhlpmmalcchaaGreat

namespace Go.Proofs.YtknhlpmmalcchaaGreat
open Go Go.VAI
set_option linter.unusedSimpArgs false

set_option maxRecDepth 20000 in
set_option maxHeartbeats 4000000 in
theorem ends_add_ret {lo o p:Nat} {x y:Int} {cs:List AVal} {r1 r2:AVal} {l1 l2:List Int} {H:AHeap} {Q:AVal→AHeap→Prop} (ho:H.obj o=some (.cells cs true)) (hp1:cs[p]? = some r1) (hp2:cs[p+1]? = some r2)
  (g1:Own lo H r1 1 (xL l1)) (g2:Own lo H r2 1 (xL l2)) (hol:o < lo) (hlo:lo≤H.next) (hne:∀ j,sid r1=some j→sid r2≠some j) (h1:l1.length≤1000000) (h2:l2.length≤1000000)
  (hq:∀ r1' r2' H',Keep (fun j=>j=o∨sid r1=some j∨sid r2=some j) H H'→H'.obj o=some (.cells ((cs.set p r1').set (p+1) r2') true)→Own lo H' r1' 1 (xL (l1++[x]))→Own lo H' r2' 1 (xL (l2++[y])) →
   (∃ y1 y2,sid r1'=some y1∧sid r2'=some y2∧H.next≤y1∧H.next≤y2∧y1≠y2)→Q (.tuple []) H'):Ret A 75 [.ptr o p,.int .i64 x,.int .i64 y] H Q:=by
 refine Ret.of (fn:=F75) rfl ?_
 have b2:=g2.beq
 simp (disch:=first | omega | (simp only [nx] <;> omega) | fail) only [vaw,F75,ho,hp1,hp2,Nat.reduceAdd,Nat.reduceMul,Nat.reduceLeDiff,Nat.reduceEqDiff,↓reduceIte]
 have kN:Keep Nothing H ((H.new (.cells [.int .i64 x] true)).new (.cells [.int .i64 y] true)):=((Keep.refl _ _).new _).new _
 have oN:((H.new (.cells [.int .i64 x] true)).new (.cells [.int .i64 y] true)).obj o=some (.cells cs true):=by rw [kN.old (by omega)]; exact ho
 have o1:((H.new (.cells [.int .i64 x] true)).new (.cells [.int .i64 y] true)).obj H.next=some (.cells [.int .i64 x] true):=by simp (disch:=first | omega | (simp only [nx] <;> omega) | fail) only [xI]
 have o2:((H.new (.cells [.int .i64 x] true)).new (.cells [.int .i64 y] true)).obj (H.next+1)=some (.cells [.int .i64 y] true):=by simp (disch:=first | omega | (simp only [nx] <;> omega) | fail) only [xI]
 have nN:((H.new (.cells [.int .i64 x] true)).new (.cells [.int .i64 y] true)).next=H.next+2:=rfl
 generalize (H.new (.cells [.int .i64 x] true)).new (.cells [.int .i64 y] true)=HN at *
 have s1:∀ j,sid r1=some j→lo≤j∧j < H.next:=fun j hj=>g1.sid_ge hj
 have s2:∀ j,sid r2=some j→lo≤j∧j < H.next:=fun j hj=>g2.sid_ge hj
 refine vK (n:=l1.length) (k:=1) (g1.kept kN) (y:=H.next) (by rw [o1]; rfl) rfl (by omega) (by omega) (by rw [xE]; omega) (by omega) (by omega) ?_ (by omega) (Nat.le_refl _) (fun _ _ _=>rfl)
 intro r1' H2 n2 k2 e2 t2
 obtain ⟨y1,t2,hy1⟩:=t2
 have oA:H2.obj o=some (.cells cs true):=by rw [k2 _ (by omega) (fun e=>by have:=s1 _ e; omega)]; exact oN
 have o2A:H2.obj (H.next+1)=some (.cells [.int .i64 y] true):=by rw [k2 _ (by omega) (fun e=>by have:=s1 _ e; omega)]; exact o2
 have g2A:Own lo H2 r2 1 (xL l2):=(g2.kept kN).keepM (M:=fun j=>sid r1=some j) ⟨n2,k2⟩ (fun j hj e=>hne j e hj)
 simp (disch:=first | omega | (simp only [nx] <;> omega) | fail) only [vaw,oA,hp2,xF b2,Nat.reduceAdd,Nat.reduceMul,Nat.reduceLeDiff,Nat.reduceEqDiff,↓reduceIte]
 refine vK (n:=l2.length) (k:=1) g2A (y:=H.next+1) (by rw [o2A]; rfl) rfl (by omega) (by omega) (by rw [xE]; omega) (by omega) (by omega) ?_ (by omega) (Nat.le_refl _) (fun _ _ _=>rfl)
 intro r2' H3 n3 k3 e3 t3
 obtain ⟨y2,t3,hy2⟩:=t3
 have oB:H3.obj o=some (.cells cs true):=by rw [k3 _ (by omega) (fun e=>by have:=s2 _ e; omega)]; exact oA
 have hpl:p+1 < cs.length:=(List.getElem?_eq_some_iff.1 hp2).1
 have c1:=e2.cells
 have c2:=e3.cells
 have f1:=yQ (l:=cs) (p:=p) (x:=r1') (by omega)
 have f2:=yQ (l:=cs.set p r1') (p:=p+1) (x:=r2') (by simp; omega)
 have hle1:p+1≤cs.length:=by omega
 have hle2:p+1+1≤(cs.set p r1').length:=by simp; omega
 simp (disch:=first | omega | (simp only [nx] <;> omega) | fail) only [vaw,oB,c1,c2,f1,f2,hle1,hle2,Nat.reduceAdd,Nat.reduceMul,Nat.reduceLeDiff,Nat.reduceEqDiff,↓reduceIte]
 have y1lt:y1 < H2.next:=by
  have:=(e2.sid_ge t2).2; omega
 have e2':Own lo H3 r1' 1 (xL (l1++[x])):=by
  rw [zF]
  exact e2.own.keepM (M:=fun j=>sid r2=some j) ⟨n3,k3⟩ (fun j hj e=>by rw [t2] at hj; injection hj with hj; have:=s2 _ e; omega)
 have e3':Own lo H3 r2' 1 (xL (l2++[y])):=by rw [zF]; exact e3.own
 have kU:Keep (fun j=>j=o) H3 ((H3.upd o (some (.cells (cs.set p r1') true))).upd o (some (.cells ((cs.set p r1').set (p+1) r2') true))):=((Keep.refl (fun j=>j=o) _).upd (.inr rfl) _).upd (.inr rfl) _
 refine hq r1' r2' _ ⟨by simp only [xC]; omega,fun j hj hm=>?_⟩ (xN rfl) (e2'.keepM kU (fun j hj e=>by rw [t2] at hj; injection hj with hj; omega)) (e3'.keepM kU (fun j hj e=>by rw [t3] at hj; injection hj with hj; omega)) ⟨y1,y2,t2,t3,by omega,by omega,by omega⟩
 rw [xQ (fun e=>hm (.inl e)),xQ (fun e=>hm (.inl e)),k3 j (by omega) (fun e=>hm (.inr (.inr e))),k2 j (by omega) (fun e=>hm (.inr (.inl e))),kN.old hj]
theorem adj_is_ret {a o:Nat} {v:Int} {N:Nat} {h0 h1 h3:AVal} {rw':Bool} {H:AHeap} {Q:AVal→AHeap→Prop} (ho:H.obj a=some (.cells [h0,h1,.slice o 0 N (.exact N),h3] rw')) (hq:∀ b,Says b (0≤v∧v < N)→Q (.bool b) H):Ret A 74 [.ptr a 0,.int .i64 v] H Q:=by
 refine Ret.of (fn:=F74) rfl ?_
 by_cases c1:0≤v
 ·by_cases c2:v < N
  ·simp (disch:=first | omega | (simp only [nx] <;> omega) | fail) only [vaw,F74,ho,c1,c2,Nat.reduceAdd,Nat.reduceMul,Nat.reduceLeDiff,Nat.reduceEqDiff,↓reduceIte]
   exact hq _ (zP ⟨c1,c2⟩)
  ·simp (disch:=first | omega | (simp only [nx] <;> omega) | fail) only [vaw,F74,ho,c1,c2,Nat.reduceAdd,Nat.reduceMul,Nat.reduceLeDiff,Nat.reduceEqDiff,↓reduceIte]
   exact hq _ (xK fun h=>c2 h.2)
 ·simp (disch:=first | omega | (simp only [nx] <;> omega) | fail) only [vaw,F74,ho,c1,Nat.reduceAdd,Nat.reduceMul,Nat.reduceLeDiff,Nat.reduceEqDiff,↓reduceIte]
  exact hq _ (xK fun h=>c1 h.1)
end Go.Proofs.YtknhlpmmalcchaaGreat

namespace Go.Proofs.YtknhlpmmalcchaaGreat
open Go Go.VAI
set_option linter.unusedSimpArgs false

structure Bag (lo:Nat) (H:AHeap) (rs:List AVal) (ls:List (List Int)):Prop where
 len:rs.length=ls.length
 rows:∀ (i:Nat) r l,rs[i]? = some r→ls[i]? = some l→Own lo H r 1 (xL l)
 two:∀ (i i':Nat) r r' j,rs[i]? = some r→rs[i']? = some r'→sid r=some j→sid r'=some j→i=i'
theorem Bag.keepM {lo:Nat} {M:Nat→Prop} {H H':AHeap} {rs:List AVal} {ls:List (List Int)} (h:Bag lo H rs ls) (hk:Keep M H H') (hM:∀ j,M j→j < lo):Bag lo H' rs ls :=
 ⟨h.len,fun i r l e1 e2=>(h.rows i r l e1 e2).keepM hk (fun j hj hm=>by have:=((h.rows i r l e1 e2).sid_ge hj).1; have:=hM j hm; omega),h.two⟩
theorem Bag.kept {lo:Nat} {H H':AHeap} {rs:List AVal} {ls:List (List Int)} (h:Bag lo H rs ls) (hk:Keep Nothing H H'):Bag lo H' rs ls:=h.keepM hk (fun _ h=>h.elim)
theorem set2_at {α:Type} {l:List α} {p i:Nat} {a b x:α} (hp:p+1 < l.length) (h:((l.set p a).set (p+1) b)[i]? = some x):(i=p∧x=a)∨(i=p+1∧x=b)∨(i≠p∧i≠p+1∧l[i]? = some x):=by
 rw [List.getElem?_set] at h
 split at h
 ·rename_i e
  subst e
  rw [List.length_set,if_pos hp] at h
  injection h with h
  exact .inr (.inl ⟨rfl,h.symm⟩)
 ·rename_i e
  rw [List.getElem?_set] at h
  split at h
  ·rename_i e2
   subst e2
   rw [if_pos (by omega)] at h
   injection h with h
   exact .inl ⟨rfl,h.symm⟩
  ·rename_i e2
   exact .inr (.inr ⟨fun h=>e2 h.symm,fun h=>e h.symm,h⟩)
theorem Bag.put {lo o p:Nat} {H H':AHeap} {rs:List AVal} {ls:List (List Int)} {r1 r2 r1' r2':AVal} {l1 l2:List Int} (h:Bag lo H rs ls) (hp1:rs[p]? = some r1) (hp2:rs[p+1]? = some r2) (hol:o < lo)
  (hk:Keep (fun j=>j=o∨sid r1=some j∨sid r2=some j) H H') (g1:Own lo H' r1' 1 (xL l1)) (g2:Own lo H' r2' 1 (xL l2)) (hs:∃ y1 y2,sid r1'=some y1∧sid r2'=some y2∧H.next≤y1∧H.next≤y2∧y1≠y2) :
  Bag lo H' ((rs.set p r1').set (p+1) r2') ((ls.set p l1).set (p+1) l2):=by
 obtain ⟨y1,y2,t1,t2,q1,q2,q3⟩:=hs
 have hpl:p+1 < rs.length:=(List.getElem?_eq_some_iff.1 hp2).1
 have hl:=h.len
 have old:∀ (i:Nat) r j,rs[i]? = some r→sid r=some j→j < H.next:=fun i r j e1 e2=>by
  have:=(List.getElem?_eq_some_iff.1 e1).1
  exact ((h.rows i r (ls[i]'(by omega)) e1 (by simp)).sid_ge e2).2
 refine ⟨by simp [hl],fun i r l e1 e2=>?_,fun i i' r r' j e1 e2 e3 e4=>?_⟩
 ·rcases set2_at hpl e1 with ⟨hi,rfl⟩ | ⟨hi,rfl⟩ | ⟨n1,n2,e1⟩
  ·rcases set2_at (by omega) e2 with ⟨_,rfl⟩ | ⟨hi2,_⟩ | ⟨n1,_,_⟩
   ·exact g1
   ·omega
   ·exact absurd hi n1
  ·rcases set2_at (by omega) e2 with ⟨hi2,_⟩ | ⟨_,rfl⟩ | ⟨_,n2,_⟩
   ·omega
   ·exact g2
   ·exact absurd hi n2
  ·rcases set2_at (by omega) e2 with ⟨hi2,_⟩ | ⟨hi2,_⟩ | ⟨_,_,e2⟩
   ·exact absurd hi2 n1
   ·exact absurd hi2 n2
   ·refine (h.rows i r l e1 e2).keepM hk (fun j hj hm=>?_)
    rcases hm with hm | hm | hm
    ·have:=((h.rows i r l e1 e2).sid_ge hj).1; omega
    ·exact n1 (h.two i p r r1 j e1 hp1 hj hm)
    ·exact n2 (h.two i (p+1) r r2 j e1 hp2 hj hm)
 ·rcases set2_at hpl e1 with ⟨hi,rfl⟩ | ⟨hi,rfl⟩ | ⟨n1,n2,f1⟩ <;> rcases set2_at hpl e2 with ⟨hi',hr'⟩ | ⟨hi',hr'⟩ | ⟨m1,m2,f2⟩
  ·omega
  ·subst hr'; rw [t1] at e3; rw [t2] at e4; injection e3 with e3; injection e4 with e4; omega
  ·rw [t1] at e3; injection e3 with e3; have:=old i' r' j f2 e4; omega
  ·subst hr'; rw [t2] at e3; rw [t1] at e4; injection e3 with e3; injection e4 with e4; omega
  ·omega
  ·rw [t2] at e3; injection e3 with e3; have:=old i' r' j f2 e4; omega
  ·subst hr'; rw [t1] at e4; injection e4 with e4; have:=old i r j f1 e3; omega
  ·subst hr'; rw [t2] at e4; injection e4 with e4; have:=old i r j f1 e3; omega
  ·exact h.two i i' r r' j f1 f2 e3 e4
theorem reps_two (n:Nat):reps [.nilSlice,.nilSlice] n=List.replicate (2*n) .nilSlice:=by
 induction n with
 | zero=>rfl
 | succ n ih=>rw [reps,ih,show 2*(n+1)=2*n+1+1 by omega,List.replicate_succ,List.replicate_succ]; rfl
abbrev wM (v:Int):Edge→Bool:=fun e=>decide (e.src=v)
abbrev vB (v:Int):Edge→Bool:=fun e=>decide (e.dst=v)
structure AdjAt (H:AHeap) (a o i N:Nat) (es:List Edge) (ew:AVal) (uo ui:List AVal):Prop where
 box:H.obj a=some (.cells [.int .i64 N,ew,.slice o 0 N (.exact N),.slice i 0 N (.exact N)] true)
 ed:Row H ew 4 (xG es)
 oo:H.obj o=some (.cells uo true)
 oi:H.obj i=some (.cells ui true)
 lt:a < H.next∧o < H.next∧i < H.next
 lo:uo.length=2*N
 li:ui.length=2*N
 ro:∀ v:Nat,v < N→∃ r r',uo[2*v]? = some r∧uo[2*v+1]? = some r'∧RowC H r 1 (xL (yH (wM v) es es.length))∧r'.isCell=true
 ri:∀ v:Nat,v < N→∃ r r',ui[2*v]? = some r∧ui[2*v+1]? = some r'∧RowC H r 1 (xL (yH (vB v) es es.length))∧r'.isCell=true
theorem AdjAt.kept {H H':AHeap} {a o i N:Nat} {es:List Edge} {ew:AVal} {uo ui:List AVal} (h:AdjAt H a o i N es ew uo ui) (hk:Keep Nothing H H'):AdjAt H' a o i N es ew uo ui :=
 ⟨by rw [hk.old h.lt.1]; exact h.box,h.ed.kept hk,by rw [hk.old h.lt.2.1]; exact h.oo,by rw [hk.old h.lt.2.2]; exact h.oi,by have:=h.lt; have:=hk.next; omega,h.lo,h.li,
  fun v hv=>by obtain ⟨r,r',h1,h2,h3,h4⟩:=h.ro v hv; exact ⟨r,r',h1,h2,h3.kept hk,h4⟩,fun v hv=>by obtain ⟨r,r',h1,h2,h3,h4⟩:=h.ri v hv; exact ⟨r,r',h1,h2,h3.kept hk,h4⟩⟩
end Go.Proofs.YtknhlpmmalcchaaGreat
