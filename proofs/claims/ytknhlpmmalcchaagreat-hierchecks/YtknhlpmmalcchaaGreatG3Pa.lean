/- The hierarchy of a network in plain words: its numbers,and ways of one mode. Nothing of a program stands here. -/
set_option linter.all false
set_option linter.unusedVariables false
set_option linter.unusedSimpArgs false

namespace Go.Proofs.YtknhlpmmalcchaaGreat

structure Edge where
 src:Int
 dst:Int
 mode:Int
 cost:Int
 deriving DecidableEq,Inhabited
structure Arc where
 src:Int
 dst:Int
 mode:Int
 cost:Int
 edge:Int
 a:Int
 b:Int
 deriving DecidableEq,Inhabited

inductive Way (es:List Edge) (m:Int) (G:Int→Prop):Int→Int→Int→Prop where
 | one {e:Edge} (he:e∈es) (hm:e.mode=m):Way es m G e.src e.dst e.cost
 | more {e:Edge} {y c:Int} (he:e∈es) (hm:e.mode=m) (hg:G e.dst) (h:Way es m G e.dst y c):Way es m G e.src y (e.cost+c)
theorem Way.append {es:List Edge} {m:Int} {G:Int→Prop} {x z y c1 c2:Int} (h1:Way es m G x z c1) (hz:G z) (h2:Way es m G z y c2):Way es m G x y (c1+c2):=by
 induction h1 with
 | one he hm=>exact .more he hm hz h2
 | more he hm hg _ ih=>rw [Int.add_assoc]; exact .more he hm hg (ih hz h2)
theorem Way.mono {es:List Edge} {m:Int} {G G':Int→Prop} {x y c:Int} (hG:∀ v,G v→G' v) (h:Way es m G x y c):Way es m G' x y c:=by
 induction h with
 | one he hm=>exact .one he hm
 | more he hm hg _ ih=>exact .more he hm (hG _ hg) ih
theorem Way.nonneg {es:List Edge} {m:Int} {G:Int→Prop} {x y c:Int} (hc:∀ e∈es,0≤e.cost) (h:Way es m G x y c):0≤c:=by
 induction h with
 | one he hm=>exact hc _ he
 | more he hm hg _ ih=>have:=hc _ he; omega
theorem Way.split {es:List Edge} {m:Int} {G:Int→Prop} {v x y c:Int} (hc:∀ e∈es,0≤e.cost) (h:Way es m (fun u=>G u∨u=v) x y c):Way es m G x y c∨∃ c1 c2,Way es m G x v c1∧Way es m G v y c2∧c1+c2≤c:=by
 induction h with
 | one he hm=>exact .inl (.one he hm)
 | @more e y c he hm hg h ih =>
  rcases ih with ih | ⟨c1,c2,i1,i2,i3⟩
  ·rcases hg with hg | hg
   ·exact .inl (.more he hm hg ih)
   ·refine .inr ⟨e.cost,c,?_,?_,Int.le_refl _⟩
    ·rw [← hg]; exact .one he hm
    ·rw [← hg]; exact ih
  ·rcases hg with hg | hg
   ·exact .inr ⟨_,_,.more he hm hg i1,i2,by omega⟩
   ·have:=i1.nonneg hc
    refine .inr ⟨e.cost,c2,?_,i2,by omega⟩
    rw [← hg]; exact .one he hm

def Walk (es:List Edge) (m:Int):Int→List Int→Int→Int→Prop
 | x,[],y,c=>x=y∧c=0
 | x,k :: l,y,c=>∃ e,es[k.toNat]? = some e∧0≤k∧e.src=x∧e.mode=m∧Walk es m e.dst l y (c - e.cost)
theorem Walk.append {es:List Edge} {m:Int}:∀ {l1 l2:List Int} {x z y c1 c2:Int},Walk es m x l1 z c1→Walk es m z l2 y c2→Walk es m x (l1++l2) y (c1+c2)
 | [],l2,x,z,y,c1,c2,h1,h2=>by
  obtain ⟨rfl,rfl⟩:=h1
  simpa using h2
 | k :: l1,l2,x,z,y,c1,c2,h1,h2=>by
  obtain ⟨e,e1,e2,e3,e4,h1⟩:=h1
  refine ⟨e,e1,e2,e3,e4,?_⟩
  have:=h1.append h2
  rwa [show c1 - e.cost+c2=c1+c2 - e.cost by omega] at this
def wD (es:List Edge) (k:Int):Int:=(es.getD k.toNat default).dst
theorem dstAt_of {es:List Edge} {k:Int} {e:Edge} (h:es[k.toNat]? = some e):wD es k=e.dst:=by simp [wD,h]
def mids (es:List Edge) (l:List Int):List Int:=l.dropLast.map (wD es)
theorem mids_cons (es:List Edge) (k j:Int) (l:List Int):mids es (k :: j :: l)=wD es k :: mids es (j :: l):=by simp [mids]
theorem mids_append {es:List Edge} {m:Int}:∀ {l1 l2:List Int} {x z c:Int},Walk es m x l1 z c→l1≠[]→l2≠[]→mids es (l1++l2)=mids es l1++z :: mids es l2
 | [],_,_,_,_,_,h,_=>absurd rfl h
 | [k],[],_,_,_,_,_,h=>absurd rfl h
 | [k],j :: l2,x,z,c,h1,_,_=>by
  obtain ⟨e,e1,e2,e3,e4,e5,_⟩:=h1
  rw [List.singleton_append,mids_cons,dstAt_of e1,e5]
  simp [mids]
 | k :: j :: l1,l2,x,z,c,h1,_,h3=>by
  obtain ⟨e,e1,e2,e3,e4,h1⟩:=h1
  have:=mids_append h1 (by simp) h3
  rw [List.cons_append] at this
  rw [List.cons_append,List.cons_append,mids_cons,mids_cons,this]
  rfl
theorem Walk.way {es:List Edge} {m:Int} {G:Int→Prop}:∀ {l:List Int} {x y c:Int},Walk es m x l y c→l≠[]→(∀ g∈mids es l,G g)→Way es m G x y c
 | [],_,_,_,_,h,_=>absurd rfl h
 | [k],x,y,c,h,_,_=>by
  obtain ⟨e,e1,e2,e3,e4,e5,e6⟩:=h
  have:c=e.cost:=by omega
  subst this
  rw [← e3,← e5]
  exact .one (List.mem_of_getElem? e1) e4
 | k :: j :: l,x,y,c,h,_,hg=>by
  obtain ⟨e,e1,e2,e3,e4,h⟩:=h
  rw [mids_cons] at hg
  have hw:=h.way (G:=G) (by simp) (fun g hg'=>hg g (List.mem_cons_of_mem _ hg'))
  have h2:c=e.cost+(c - e.cost):=by omega
  rw [h2,← e3]
  refine .more (List.mem_of_getElem? e1) e4 ?_ hw
  rw [← dstAt_of e1]
  exact hg _ List.mem_cons_self
theorem Walk.part {es:List Edge} {m:Int} {G:Int→Prop}:∀ {l:List Int} {x y c g:Int},Walk es m x l y c→(∀ g∈mids es l,G g)→g∈mids es l→∃ c1 c2,Way es m G x g c1∧Way es m G g y c2∧c1+c2=c
 | [],_,_,_,_,_,_,h=>by simp [mids] at h
 | [k],_,_,_,_,_,_,h=>by simp [mids] at h
 | k :: j :: l,x,y,c,g,h,hG,hg=>by
  obtain ⟨e,e1,e2,e3,e4,h⟩:=h
  rw [mids_cons] at hg hG
  have hG2:∀ g∈mids es (j :: l),G g:=fun g hg'=>hG g (List.mem_cons_of_mem _ hg')
  have hone:Way es m G x e.dst e.cost:=by rw [← e3]; exact .one (List.mem_of_getElem? e1) e4
  rcases List.mem_cons.1 hg with hg | hg
  ·rw [dstAt_of e1] at hg
   subst hg
   exact ⟨e.cost,c - e.cost,hone,h.way (by simp) hG2,by omega⟩
  ·obtain ⟨c1,c2,w1,w2,w3⟩:=h.part hG2 hg
   refine ⟨e.cost+c1,c2,?_,w2,by omega⟩
   refine hone.append ?_ w1
   rw [← dstAt_of e1]
   exact hG _ List.mem_cons_self

def xR (N:Nat) (u v m:Nat):Nat:=(u*N+v)*5+m
theorem vE {N u v m:Nat} (hu:u < N) (hv:v < N) (hm:m < 5):xR N u v m < N*N*5:=by
 have h1:u*N+N≤N*N:=by
  have:(u+1)*N≤N*N:=Nat.mul_le_mul_right N hu
  rw [Nat.succ_mul] at this
  exact this
 unfold xR
 omega
theorem place_inj {N u v m u' v' m':Nat} (hv:v < N) (hm:m < 5) (hv':v' < N) (hm':m' < 5) (h:xR N u v m=xR N u' v' m'):u=u'∧v=v'∧m=m':=by
 unfold xR at h
 have h1:m=m':=by omega
 have h2:u*N+v=u'*N+v':=by omega
 have h3:v=v':=by
  have e1:(u*N+v) % N=v:=by rw [Nat.add_comm,Nat.add_mul_mod_self_right,Nat.mod_eq_of_lt hv]
  have e2:(u'*N+v') % N=v':=by rw [Nat.add_comm,Nat.add_mul_mod_self_right,Nat.mod_eq_of_lt hv']
  rw [← e1,h2,e2]
 refine ⟨?_,h3,h1⟩
 have:u*N=u'*N:=by omega
 exact Nat.eq_of_mul_eq_mul_right (by omega) this
def cv (N:Nat) (cur:List Int) (u v m:Nat):Int:=cur.getD (xR N u v m) 0
theorem cv_set_same {N:Nat} {cur:List Int} {u v m:Nat} {k:Int} (hl:cur.length=N*N*5) (hu:u < N) (hv:v < N) (hm:m < 5):cv N (cur.set (xR N u v m) k) u v m=k:=by
 have:=vE hu hv hm
 simp [cv,this,hl]
theorem vJ {N:Nat} {cur:List Int} {u v m u' v' m':Nat} {k:Int} (hv:v < N) (hm:m < 5) (hv':v' < N) (hm':m' < 5) (h:¬ (u'=u∧v'=v∧m'=m)):cv N (cur.set (xR N u v m) k) u' v' m'=cv N cur u' v' m':=by
 have:xR N u v m≠xR N u' v' m':=fun e=>by
  have:=place_inj hv hm hv' hm' e
  omega
 simp [cv,List.getElem?_set,this]

def outStep (N:Nat) (cur:List Int) (gone:List Bool) (v:Nat) (u m:Nat):List Int :=
 let k:=cur.getD (xR N v u m) 0
 if 0 < k∧gone.getD u false=false then [k - 1] else []
def outRow (N:Nat) (cur:List Int) (gone:List Bool) (v u n:Nat):List Int:=(List.range n).flatMap fun m=>outStep N cur gone v u m
def zM (N:Nat) (cur:List Int) (gone:List Bool) (v n:Nat):List Int:=(List.range n).flatMap fun u=>outRow N cur gone v u 5
theorem outRow_succ (N:Nat) (cur:List Int) (gone:List Bool) (v u n:Nat):outRow N cur gone v u (n+1)=outRow N cur gone v u n++outStep N cur gone v u n:=by simp [outRow,List.range_succ]
theorem outOf_succ (N:Nat) (cur:List Int) (gone:List Bool) (v n:Nat):zM N cur gone v (n+1)=zM N cur gone v n++outRow N cur gone v n 5:=by simp [zM,List.range_succ]
theorem outStep_length (N:Nat) (cur:List Int) (gone:List Bool) (v u m:Nat):(outStep N cur gone v u m).length≤1:=by
 simp only [outStep]; split <;> simp
theorem outRow_length (N:Nat) (cur:List Int) (gone:List Bool) (v u:Nat):∀ n,(outRow N cur gone v u n).length≤n
 | 0=>by simp [outRow]
 | n+1=>by
  have:=outRow_length N cur gone v u n
  have:=outStep_length N cur gone v u n
  rw [outRow_succ,List.length_append]; omega
theorem uW (N:Nat) (cur:List Int) (gone:List Bool) (v:Nat):∀ n,(zM N cur gone v n).length≤5*n
 | 0=>by simp [zM]
 | n+1=>by
  have:=uW N cur gone v n
  have:=outRow_length N cur gone v n 5
  rw [outOf_succ,List.length_append]; omega
def inStep (N:Nat) (cur:List Int) (gone:List Bool) (v:Nat) (u m:Nat):List Int :=
 let k:=cur.getD (xR N u v m) 0
 if 0 < k∧gone.getD u false=false then [k - 1] else []
def inRow (N:Nat) (cur:List Int) (gone:List Bool) (v u n:Nat):List Int:=(List.range n).flatMap fun m=>inStep N cur gone v u m
def vI (N:Nat) (cur:List Int) (gone:List Bool) (v n:Nat):List Int:=(List.range n).flatMap fun u=>if u=v then [] else inRow N cur gone v u 5
theorem inRow_succ (N:Nat) (cur:List Int) (gone:List Bool) (v u n:Nat):inRow N cur gone v u (n+1)=inRow N cur gone v u n++inStep N cur gone v u n:=by simp [inRow,List.range_succ]
theorem inOf_succ (N:Nat) (cur:List Int) (gone:List Bool) (v n:Nat):vI N cur gone v (n+1)=vI N cur gone v n++if n=v then [] else inRow N cur gone v n 5:=by simp [vI,List.range_succ]
theorem inStep_length (N:Nat) (cur:List Int) (gone:List Bool) (v u m:Nat):(inStep N cur gone v u m).length≤1:=by
 simp only [inStep]; split <;> simp
theorem inRow_length (N:Nat) (cur:List Int) (gone:List Bool) (v u:Nat):∀ n,(inRow N cur gone v u n).length≤n
 | 0=>by simp [inRow]
 | n+1=>by
  have:=inRow_length N cur gone v u n
  have:=inStep_length N cur gone v u n
  rw [inRow_succ,List.length_append]; omega
theorem inOf_length (N:Nat) (cur:List Int) (gone:List Bool) (v:Nat):∀ n,(vI N cur gone v n).length≤5*n
 | 0=>by simp [vI]
 | n+1=>by
  have:=inOf_length N cur gone v n
  have:=inRow_length N cur gone v n 5
  rw [inOf_succ,List.length_append]
  split
  ·simp; omega
  ·omega
theorem mem_outOf {N:Nat} {cur:List Int} {gone:List Bool} {v n:Nat} {k:Int}:k∈zM N cur gone v n↔∃ u m,u < n∧m < 5∧0 < cv N cur v u m∧gone.getD u false=false∧k=cv N cur v u m - 1:=by
 simp only [zM,outRow,outStep,List.mem_flatMap,List.mem_range,cv]
 constructor
 ·rintro ⟨u,hu,m,hm,hk⟩
  split at hk
  ·rename_i h
   simp at hk
   exact ⟨u,m,hu,hm,h.1,h.2,hk⟩
  ·simp at hk
 ·rintro ⟨u,m,hu,hm,h1,h2,rfl⟩
  refine ⟨u,hu,m,hm,?_⟩
  rw [if_pos ⟨h1,h2⟩]
  simp
theorem mem_inOf {N:Nat} {cur:List Int} {gone:List Bool} {v n:Nat} {k:Int}:k∈vI N cur gone v n↔∃ u m,u < n∧u≠v∧m < 5∧0 < cv N cur u v m∧gone.getD u false=false∧k=cv N cur u v m - 1:=by
 simp only [vI,inRow,inStep,List.mem_flatMap,List.mem_range,cv]
 constructor
 ·rintro ⟨u,hu,hk⟩
  split at hk
  ·simp at hk
  ·rename_i hne
   simp only [List.mem_flatMap,List.mem_range] at hk
   obtain ⟨m,hm,hk⟩:=hk
   split at hk
   ·rename_i h
    simp at hk
    exact ⟨u,m,hu,hne,hm,h.1,h.2,hk⟩
   ·simp at hk
 ·rintro ⟨u,m,hu,hne,hm,h1,h2,rfl⟩
  refine ⟨u,hu,?_⟩
  rw [if_neg hne]
  simp only [List.mem_flatMap,List.mem_range]
  refine ⟨m,hm,?_⟩
  rw [if_pos ⟨h1,h2⟩]
  simp

structure Arc.Fits (N:Nat) (x:Arc):Prop where
 src:0≤x.src∧x.src < N
 dst:0≤x.dst∧x.dst < N
 mode:0≤x.mode∧x.mode < 5
 cost:0≤x.cost∧x.cost≤1000000000000000000
def wR (N:Nat) (cur:List Int) (arcs:List Arc) (i j:Nat) (x y:Arc):Option Arc :=
 if x.mode≠y.mode∨y.dst=x.dst then none
 else
  let k:=cur.getD (xR N x.src.toNat y.dst.toNat x.mode.toNat) 0
  if k=0∨x.cost+y.cost < (arcs.getD (k.toNat - 1) default).cost then some ⟨x.src,y.dst,x.mode,x.cost+y.cost,-1,i,j⟩ else none
abbrev AC:=List Arc × List Int
def vL (N:Nat) (s:AC) (a:Arc):AC:=(s.1++[a],s.2.set (xR N a.src.toNat a.dst.toNat a.mode.toNat) (s.1.length+1))
def uN (N:Nat) (s:AC) (p:Int × Int):AC :=
 match wR N s.2 s.1 p.1.toNat p.2.toNat (s.1.getD p.1.toNat default) (s.1.getD p.2.toNat default) with
 | none=>s
 | some a=>vL N s a
def vA (down up:List Int):List (Int × Int):=down.flatMap fun a=>up.map fun b=>(a,b)
def zB (N:Nat) (s:AC) (ps:List (Int × Int)):AC:=ps.foldl (uN N) s

def uD (N:Nat) (es:List Edge) (best:List Int) (i:Nat) (e:Edge):List Int :=
 let k:=xR N e.src.toNat e.dst.toNat e.mode.toNat
 let b:=best.getD k 0
 if b=0∨e.cost < (es.getD (b.toNat - 1) default).cost then best.set k (i+1) else best
def yO (N:Nat) (es:List Edge):Nat→List Int
 | 0=>List.replicate (N*N*5) 0
 | i+1=>uD N es (yO N es i) i (es.getD i default)
theorem wZ (N:Nat) (es:List Edge):∀ i,(yO N es i).length=N*N*5
 | 0=>by simp [yO]
 | i+1=>by
  simp only [yO,uD]
  split
  ·rw [List.length_set]; exact wZ N es i
  ·exact wZ N es i
theorem bestOf_bd (N:Nat) (es:List Edge):∀ i,i≤es.length→∀ x∈yO N es i,0≤x∧x≤es.length
 | 0,_,x,hx=>by
  simp only [yO] at hx
  have:=List.eq_of_mem_replicate hx
  omega
 | i+1,hi,x,hx=>by
  have ih:=bestOf_bd N es i (by omega)
  simp only [yO,uD] at hx
  split at hx
  ·rcases List.mem_or_eq_of_mem_set hx with h | h
   ·exact ih x h
   ·omega
  ·exact ih x hx
def vG (es:List Edge) (b:Int):Arc :=
 let e:=es.getD (b.toNat - 1) default
 ⟨e.src,e.dst,e.mode,e.cost,b - 1,0,0⟩
def beginStep (N:Nat) (es:List Edge) (s:List Arc × List Int) (b:Int):List Arc × List Int :=
 if 0 < b then (s.1++[vG es b],s.2.set (xR N (vG es b).src.toNat (vG es b).dst.toNat (vG es b).mode.toNat) (s.1.length+1)) else s
def zD (N:Nat) (es:List Edge) (cur:List Int) (bs:List Int):List Arc × List Int:=bs.foldl (beginStep N es) ([],cur)

structure Hier where
 rank:List Int
 arcs:List Arc
 up:List (List Int)
 down:List (List Int)
 deriving DecidableEq,Inhabited
structure BSt where
 arcs:List Arc
 cur:List Int
 gone:List Bool
 rank:List Int
 up:List (List Int)
 down:List (List Int)
def vR (N:Nat) (s:BSt) (i v:Nat):BSt :=
 let up:=zM N s.cur s.gone v N
 let down:=vI N s.cur s.gone v N
 let r:=zB N (s.arcs,s.cur) (vA down up)
 ⟨r.1,r.2,s.gone.set v true,s.rank.set v i,s.up.set v up,s.down.set v down⟩
def zQ (N:Nat) (s:BSt) (l:List Int):Nat→BSt
 | 0=>s
 | k+1=>vR N (zQ N s l k) k (l.getD k 0).toNat
def yG (N:Nat) (es:List Edge):BSt :=
 let r:=zD N es (List.replicate (N*N*5) 0) (yO N es es.length)
 ⟨r.1,r.2,List.replicate N false,List.replicate N (-1),List.replicate N [],List.replicate N []⟩
def stayStep (N:Nat) (s:BSt) (up:List (List Int)) (v:Nat):List (List Int) :=
 if s.gone.getD v false then up else up.set v (zM N s.cur s.gone v N)
def vH (N:Nat) (s:BSt) (up:List (List Int)):Nat→List (List Int)
 | 0=>up
 | k+1=>stayStep N s (vH N s up k) k
def hierOf (N:Nat) (es:List Edge) (l:List Int):Hier :=
 let s:=zQ N (yG N es) l l.length
 ⟨s.rank,s.arcs,vH N s s.up N,s.down⟩
end Go.Proofs.YtknhlpmmalcchaaGreat

/- What holds of each arc while vertices go: its edges are a walk,none of its inner vertices comes twice,and the current arcs are the least ways. Nothing of a program stands here. -/
namespace Go.Proofs.YtknhlpmmalcchaaGreat

theorem foldl_inv {α β:Type} {P:List β→α→Prop} {f:α→β→α}:∀ (ps done:List β) (s:α),P done s→(∀ d b s,b∈ps→P d s→P (d++[b]) (f s b))→P (done++ps) (ps.foldl f s)
 | [],done,s,h,_=>by simpa using h
 | b :: ps,done,s,h,hs=>by
  have:=foldl_inv ps (done++[b]) (f s b) (hs done b s List.mem_cons_self h) (fun d c s hc hp=>hs d c s (List.mem_cons_of_mem _ hc) hp)
  rw [List.append_assoc] at this
  exact this

def FormOk (es:List Edge) (arcs:List Arc) (ex:List (List Int)) (i:Nat) (a:Arc) (l:List Int):Prop :=
 (0≤a.edge∧a.a=0∧a.b=0∧l=[a.edge]∧∃ e,es[a.edge.toNat]? = some e∧e.src=a.src∧e.dst=a.dst∧e.mode=a.mode∧e.cost=a.cost) ∨
 (a.edge = -1∧0≤a.a∧a.a < i∧0≤a.b∧a.b < i∧∃ p q lp lq,arcs[a.a.toNat]? = some p∧arcs[a.b.toNat]? = some q∧ex[a.a.toNat]? = some lp∧ex[a.b.toNat]? = some lq∧p.mode=a.mode∧q.mode=a.mode∧p.src=a.src∧p.dst=q.src∧q.dst=a.dst∧a.cost=p.cost+q.cost∧l=lp++lq)
structure Good (N:Nat) (es:List Edge) (G:Int→Prop) (s:AC) (ex:List (List Int)):Prop where
 len:s.2.length=N*N*5
 bd:∀ x∈s.2,0≤x∧x≤s.1.length
 key:∀ u v m,u < N→v < N→m < 5→0 < cv N s.2 u v m→∃ a,s.1[(cv N s.2 u v m).toNat - 1]? = some a∧a.src=u∧a.dst=v∧a.mode=m
 exLen:ex.length=s.1.length
 ends:∀ (i:Nat) a,s.1[i]? = some a→(0≤a.src∧a.src < N)∧(0≤a.dst∧a.dst < N)∧(0≤a.mode∧a.mode < 5)
 walk:∀ (i:Nat) a l,s.1[i]? = some a→ex[i]? = some l→l≠[]∧Walk es a.mode a.src l a.dst a.cost∧(mids es l).Nodup∧∀ g∈mids es l,G g
 form:∀ (i:Nat) a l,s.1[i]? = some a→ex[i]? = some l→FormOk es s.1 ex i a l
theorem cv_bd {N:Nat} {cur:List Int} {n:Nat} (hl:cur.length=N*N*5) (h:∀ x∈cur,0≤x∧x≤n) {u v m:Nat} (hu:u < N) (hv:v < N) (hm:m < 5):0≤cv N cur u v m∧cv N cur u v m≤n:=by
 have hp:xR N u v m < cur.length:=by rw [hl]; exact vE hu hv hm
 rw [cv,List.getD_eq_getElem?_getD,List.getElem?_eq_getElem hp]
 exact h _ (List.getElem_mem hp)
theorem at_append {α:Type} {l:List α} {a b:α} {i:Nat} (h:(l++[a])[i]? = some b):l[i]? = some b∨(i=l.length∧b=a):=by
 rw [List.getElem?_append] at h
 split at h
 ·exact .inl h
 ·rename_i hi
  have:i=l.length:=by
   have:=(List.getElem?_eq_some_iff.1 h).1
   simp at this; omega
  subst this
  simp at h
  exact .inr ⟨rfl,h.symm⟩
theorem at_left {α:Type} {l m:List α} {b:α} {i:Nat} (h:l[i]? = some b):(l++m)[i]? = some b:=by
 rw [List.getElem?_append_left (List.getElem?_eq_some_iff.1 h).1]; exact h
theorem at_last {α:Type} {l:List α} {a:α}:(l++[a])[l.length]? = some a:=by simp
theorem FormOk.more {es:List Edge} {arcs:List Arc} {ex:List (List Int)} {i:Nat} {a b:Arc} {l m:List Int} (h:FormOk es arcs ex i a l):FormOk es (arcs++[b]) (ex++[m]) i a l:=by
 rcases h with h | ⟨h1,h2,h3,h4,h5,p,q,lp,lq,h6,h7,h8,h9,h10⟩
 ·exact .inl h
 ·exact .inr ⟨h1,h2,h3,h4,h5,p,q,lp,lq,at_left h6,at_left h7,at_left h8,at_left h9,h10⟩
theorem Good.mono {N:Nat} {es:List Edge} {G G':Int→Prop} {s:AC} {ex:List (List Int)} (h:Good N es G s ex) (hG:∀ v,G v→G' v):Good N es G' s ex :=
 ⟨h.len,h.bd,h.key,h.exLen,h.ends,fun i a l h1 h2=>by
  obtain ⟨w1,w2,w3,w4⟩:=h.walk i a l h1 h2
  exact ⟨w1,w2,w3,fun g hg=>hG g (w4 g hg)⟩,h.form⟩
theorem Good.add {N:Nat} {es:List Edge} {G:Int→Prop} {s:AC} {ex:List (List Int)} (h:Good N es G s ex) {a:Arc} {l:List Int}
  (he:(0≤a.src∧a.src < N)∧(0≤a.dst∧a.dst < N)∧(0≤a.mode∧a.mode < 5)) (hw:l≠[]∧Walk es a.mode a.src l a.dst a.cost∧(mids es l).Nodup∧∀ g∈mids es l,G g) (hf:FormOk es s.1 ex s.1.length a l):Good N es G (vL N s a) (ex++[l]):=by
 have hs:a.src.toNat < N:=by omega
 have hd:a.dst.toNat < N:=by omega
 have hm:a.mode.toNat < 5:=by omega
 refine ⟨by simp [vL,h.len],?_,?_,by simp [vL,h.exLen],?_,?_,?_⟩
 ·intro x hx
  simp only [vL,List.length_append,List.length_singleton] at hx ⊢
  rcases List.mem_or_eq_of_mem_set hx with hx | hx
  ·have:=h.bd x hx; omega
  ·omega
 ·intro u v m hu hv hm' hp
  by_cases hk:u=a.src.toNat∧v=a.dst.toNat∧m=a.mode.toNat
  ·obtain ⟨rfl,rfl,rfl⟩:=hk
   simp only [vL] at hp ⊢
   rw [cv_set_same h.len hs hd hm]
   refine ⟨a,?_,by omega,by omega,by omega⟩
   have:((s.1.length:Int)+1).toNat - 1=s.1.length:=by omega
   rw [this]; exact at_last
  ·simp only [vL] at hp ⊢
   rw [vJ hd hm hv hm' hk] at hp ⊢
   obtain ⟨b,b1,b2⟩:=h.key u v m hu hv hm' hp
   exact ⟨b,at_left b1,b2⟩
 ·intro i b hb
  rcases at_append hb with hb | ⟨_,rfl⟩
  ·exact h.ends i b hb
  ·exact he
 ·intro i b lb hb hlb
  rcases at_append hb with hb | ⟨rfl,rfl⟩
  ·have:i < ex.length:=by rw [h.exLen]; exact (List.getElem?_eq_some_iff.1 hb).1
   rw [List.getElem?_append_left this] at hlb
   exact h.walk i b lb hb hlb
  ·rw [← h.exLen] at hlb
   rw [at_last] at hlb
   injection hlb with hlb
   subst hlb; exact hw
 ·intro i b lb hb hlb
  rcases at_append hb with hb | ⟨rfl,rfl⟩
  ·have:i < ex.length:=by rw [h.exLen]; exact (List.getElem?_eq_some_iff.1 hb).1
   rw [List.getElem?_append_left this] at hlb
   exact (h.form i b lb hb hlb).more
  ·rw [← h.exLen] at hlb
   rw [at_last] at hlb
   injection hlb with hlb
   subst hlb; exact hf.more

def Leq (N:Nat) (s:AC) (u v m:Nat) (c:Int):Prop:=0 < cv N s.2 u v m∧(s.1.getD ((cv N s.2 u v m).toNat - 1) default).cost≤c
theorem Leq.le {N:Nat} {s:AC} {u v m:Nat} {c d:Int} (h:Leq N s u v m c) (hc:c≤d):Leq N s u v m d:=⟨h.1,Int.le_trans h.2 hc⟩
theorem getD_left {α:Type} {l m:List α} {d:α} {i:Nat} (h:i < l.length):(l++m).getD i d=l.getD i d:=by
 simp [List.getD_eq_getElem?_getD,List.getElem?_append_left h]
theorem Leq.add_other {N:Nat} {s:AC} {a:Arc} {u v m:Nat} {c:Int} (hl:s.2.length=N*N*5) (hb:∀ x∈s.2,0≤x∧x≤s.1.length) (hd:a.dst.toNat < N) (hm:a.mode.toNat < 5) (hu:u < N) (hv:v < N) (hm':m < 5) (hk:¬ (u=a.src.toNat∧v=a.dst.toNat∧m=a.mode.toNat)) (h:Leq N s u v m c):Leq N (vL N s a) u v m c:=by
 unfold Leq at h ⊢
 simp only [vL]
 rw [vJ hd hm hv hm' hk]
 have:=cv_bd hl hb hu hv hm'
 rw [getD_left (by omega)]
 exact h
theorem Leq.add_same {N:Nat} {s:AC} {a:Arc} {c:Int} (hl:s.2.length=N*N*5) (hs:a.src.toNat < N) (hd:a.dst.toNat < N) (hm:a.mode.toNat < 5) (h:a.cost≤c):Leq N (vL N s a) a.src.toNat a.dst.toNat a.mode.toNat c:=by
 unfold Leq
 simp only [vL]
 rw [cv_set_same hl hs hd hm]
 have:((s.1.length:Int)+1).toNat - 1=s.1.length:=by omega
 rw [this]
 refine ⟨by omega,?_⟩
 simpa using h
def Least (N:Nat) (es:List Edge) (G:Int→Prop) (s:AC):Prop :=
 ∀ u v m:Nat,u < N→v < N→m < 5→¬ G u→¬ G v→∀ c,Way es m G u v c→Leq N s u v m c

structure Mid (N:Nat) (es:List Edge) (G:Int→Prop) (v:Nat) (s0:AC) (ex0:List (List Int)) (done:List (Int × Int)) (s:AC) (ex:List (List Int)):Prop where
 good:Good N es (fun u=>G u∨u=v) s ex
 arcs:∀ (i:Nat) a,s0.1[i]? = some a→s.1[i]? = some a
 exs:∀ (i:Nat) l,ex0[i]? = some l→ex[i]? = some l
 leq:∀ u w m c,u < N→w < N→m < 5→Leq N s0 u w m c→Leq N s u w m c
 same:∀ u w m:Nat,u < N→w < N→m < 5→(G u∨u=v∨G w∨w=v)→cv N s.2 u w m=cv N s0.2 u w m
 pair:∀ p∈done,∀ x y,s0.1[p.1.toNat]? = some x→s0.1[p.2.toNat]? = some y→x.mode=y.mode→y.dst≠x.dst→Leq N s x.src.toNat y.dst.toNat x.mode.toNat (x.cost+y.cost)
 count:s.1.length≤s0.1.length+done.length
theorem yS {α:Type} {l:List α} {i:Nat} {a d:α} (h:l[i]? = some a):l.getD i d=a:=by simp [List.getD_eq_getElem?_getD,h]
theorem Leq.not_short {N:Nat} {s:AC} {u v m:Nat} {c:Int} (h:Leq N s u v m c):¬ (cv N s.2 u v m=0∨c < (s.1.getD ((cv N s.2 u v m).toNat - 1) default).cost):=by
 rintro (h1 | h1)
 ·have:=h.1; omega
 ·have:=h.2; omega
theorem Mid.step {N:Nat} {es:List Edge} {G:Int→Prop} {v:Nat} {s0 s:AC} {ex0 ex:List (List Int)} {done:List (Int × Int)} {p:Int × Int} {x y:Arc}
  (hc:∀ e∈es,0≤e.cost) (hg0:Good N es G s0 ex0) (hl0:Least N es G s0) (hv:¬ G v) (h:Mid N es G v s0 ex0 done s ex)
  (hp:0≤p.1∧0≤p.2) (hx:s0.1[p.1.toNat]? = some x) (hy:s0.1[p.2.toNat]? = some y) (x1:x.dst=v) (x2:¬ G x.src) (x3:x.src≠v) (y1:y.src=v) (y2:¬ G y.dst) :
  ∃ ex',Mid N es G v s0 ex0 (done++[p]) (uN N s p) ex':=by
 have hxs:=h.arcs _ _ hx
 have hys:=h.arcs _ _ hy
 have ex1:=h.good.ends _ _ hxs
 have ey1:=h.good.ends _ _ hys
 have hXl:=(List.getElem?_eq_some_iff.1 hx).1
 have hYl:=(List.getElem?_eq_some_iff.1 hy).1
 have keep:(x.mode=y.mode→y.dst≠x.dst→Leq N s x.src.toNat y.dst.toNat x.mode.toNat (x.cost+y.cost))→Mid N es G v s0 ex0 (done++[p]) s ex:=by
  intro hq
  refine ⟨h.good,h.arcs,h.exs,h.leq,h.same,?_,by have:=h.count; simp; omega⟩
  intro q hq' x' y' hx' hy' hm hd
  rcases List.mem_append.1 hq' with hq' | hq'
  ·exact h.pair q hq' x' y' hx' hy' hm hd
  ·simp at hq'; subst hq'
   rw [hx] at hx'; rw [hy] at hy'
   injection hx' with hx'; injection hy' with hy'
   subst hx'; subst hy'
   exact hq hm hd
 unfold uN
 rw [yS hxs,yS hys]
 unfold wR
 by_cases hm:x.mode≠y.mode∨y.dst=x.dst
 ·rw [if_pos hm]
  refine ⟨ex,keep fun h1 h2=>?_⟩
  rcases hm with hm | hm
  ·exact absurd h1 hm
  ·exact absurd hm h2
 ·rw [if_neg hm]
  have hm1:x.mode=y.mode:=Classical.byContradiction fun h=>hm (.inl h)
  have hm2:y.dst≠x.dst:=fun h=>hm (.inr h)
  simp only
  have hcv:s.2.getD (xR N x.src.toNat y.dst.toNat x.mode.toNat) 0=cv N s.2 x.src.toNat y.dst.toNat x.mode.toNat:=rfl
  rw [hcv]
  by_cases hk:cv N s.2 x.src.toNat y.dst.toNat x.mode.toNat=0∨x.cost+y.cost < (s.1.getD ((cv N s.2 x.src.toNat y.dst.toNat x.mode.toNat).toNat - 1) default).cost
  ·rw [if_pos hk]
   simp only
   obtain ⟨lx,hlx⟩:∃ l,ex0[p.1.toNat]? = some l:=⟨_,List.getElem?_eq_getElem (by rw [hg0.exLen]; exact hXl)⟩
   obtain ⟨ly,hly⟩:∃ l,ex0[p.2.toNat]? = some l:=⟨_,List.getElem?_eq_getElem (by rw [hg0.exLen]; exact hYl)⟩
   obtain ⟨wx1,wx2,wx3,wx4⟩:=hg0.walk _ _ _ hx hlx
   obtain ⟨wy1,wy2,wy3,wy4⟩:=hg0.walk _ _ _ hy hly
   have hsx:=h.exs _ _ hlx
   have hsy:=h.exs _ _ hly
   have es1:((x.src.toNat:Nat):Int)=x.src:=by omega
   have es2:((y.dst.toNat:Nat):Int)=y.dst:=by omega
   have es3:((x.mode.toNat:Nat):Int)=x.mode:=by omega
   have apart:∀ g,g∈mids es lx→g∈mids es ly→False:=by
    intro g g1 g2
    obtain ⟨c1,c2,w1,w2,w3⟩:=wx2.part wx4 g1
    obtain ⟨d1,d2,z1,z2,z3⟩:=wy2.part wy4 g2
    have n1:=w2.nonneg hc
    have n2:=z1.nonneg hc
    rw [← hm1] at z2
    have hw:=w1.append (wx4 g g1) z2
    have hlq:=hl0 x.src.toNat y.dst.toNat x.mode.toNat (by omega) (by omega) (by omega) (by rw [es1]; exact x2) (by rw [es2]; exact y2) (c1+d2) (by rw [es1,es2,es3]; exact hw)
    exact (h.leq _ _ _ _ (by omega) (by omega) (by omega) (hlq.le (show c1+d2≤x.cost+y.cost by omega))).not_short hk
   have hw:Walk es x.mode x.src (lx++ly) y.dst (x.cost+y.cost):=by
    refine wx2.append ?_
    rw [x1,← y1,hm1]; exact wy2
   have hmid:=mids_append wx2 wx1 wy1
   refine ⟨ex++[lx++ly],⟨?_,?_,?_,?_,?_,?_,?_⟩⟩
   ·refine h.good.add ⟨ex1.1,ey1.2.1,ex1.2.2⟩ ⟨by simp [wx1],hw,?_,?_⟩ (.inr ⟨rfl,?_,?_,?_,?_,x,y,lx,ly,?_,?_,?_,?_,rfl,hm1.symm,rfl,by rw [x1,y1],rfl,rfl,rfl⟩)
    ·rw [hmid,x1]
     refine List.nodup_append.2 ⟨wx3,List.nodup_cons.2 ⟨fun hh=>hv (wy4 _ hh),wy3⟩,?_⟩
     intro a ha b hb hab
     subst hab
     rcases List.mem_cons.1 hb with hb | hb
     ·rw [hb] at ha; exact hv (wx4 _ ha)
     ·exact apart a ha hb
    ·intro g hgm
     rw [hmid,x1] at hgm
     rcases List.mem_append.1 hgm with hgm | hgm
     ·exact .inl (wx4 g hgm)
     ·rcases List.mem_cons.1 hgm with hgm | hgm
      ·exact .inr hgm
      ·exact .inl (wy4 g hgm)
    ·simp only; omega
    ·have:=(List.getElem?_eq_some_iff.1 hxs).1
     simp only; omega
    ·simp only; omega
    ·have:=(List.getElem?_eq_some_iff.1 hys).1
     simp only; omega
    ·simp only [Int.toNat_natCast]; exact hxs
    ·simp only [Int.toNat_natCast]; exact hys
    ·simp only [Int.toNat_natCast]; exact hsx
    ·simp only [Int.toNat_natCast]; exact hsy
   ·intro i a ha; exact at_left (h.arcs i a ha)
   ·intro i a ha; exact at_left (h.exs i a ha)
   ·intro u w m c hu hw' hm' hlq
    have hls:=h.leq u w m c hu hw' hm' hlq
    by_cases hkey:u=x.src.toNat∧w=y.dst.toNat∧m=x.mode.toNat
    ·obtain ⟨rfl,rfl,rfl⟩:=hkey
     refine Leq.add_same (a:=⟨x.src,y.dst,x.mode,x.cost+y.cost,-1,p.1.toNat,p.2.toNat⟩) h.good.len (by simp only; omega) (by simp only; omega) (by simp only; omega) ?_
     simp only
     rcases hk with hk | hk
     ·have:=hls.1; omega
     ·have:=hls.2; omega
    ·exact Leq.add_other (a:=⟨x.src,y.dst,x.mode,x.cost+y.cost,-1,p.1.toNat,p.2.toNat⟩) h.good.len h.good.bd (by simp only; omega) (by simp only; omega) hu hw' hm' hkey hls
   ·intro u w m hu hw' hm' hor
    rw [← h.same u w m hu hw' hm' hor]
    simp only [vL]
    refine vJ (by omega) (by omega) hw' hm' ?_
    rintro ⟨rfl,rfl,rfl⟩
    rw [es1,es2] at hor
    rcases hor with hor | hor | hor | hor
    ·exact x2 hor
    ·exact x3 (by omega)
    ·exact y2 hor
    ·exact hm2 (by omega)
   ·intro q hq' x' y' hx' hy' hm' hd'
    have hes:(0≤x'.src∧x'.src < N)∧(0≤y'.dst∧y'.dst < N)∧(0≤x'.mode∧x'.mode < 5):=⟨(hg0.ends _ _ hx').1,(hg0.ends _ _ hy').2.1,(hg0.ends _ _ hx').2.2⟩
    rcases List.mem_append.1 hq' with hq' | hq'
    ·have hls:=h.pair q hq' x' y' hx' hy' hm' hd'
     by_cases hkey:x'.src.toNat=x.src.toNat∧y'.dst.toNat=y.dst.toNat∧x'.mode.toNat=x.mode.toNat
     ·obtain ⟨k1,k2,k3⟩:=hkey
      rw [k1,k2,k3] at hls ⊢
      refine Leq.add_same (a:=⟨x.src,y.dst,x.mode,x.cost+y.cost,-1,p.1.toNat,p.2.toNat⟩) h.good.len (by simp only; omega) (by simp only; omega) (by simp only; omega) ?_
      simp only
      rcases hk with hk | hk
      ·have:=hls.1; omega
      ·have:=hls.2; omega
     ·exact Leq.add_other (a:=⟨x.src,y.dst,x.mode,x.cost+y.cost,-1,p.1.toNat,p.2.toNat⟩) h.good.len h.good.bd (by simp only; omega) (by simp only; omega) (by omega) (by omega) (by omega) hkey hls
    ·simp at hq'; subst hq'
     rw [hx] at hx'; rw [hy] at hy'
     injection hx' with hx'; injection hy' with hy'
     subst hx'; subst hy'
     exact Leq.add_same (a:=⟨x.src,y.dst,x.mode,x.cost+y.cost,-1,q.1.toNat,q.2.toNat⟩) h.good.len (by simp only; omega) (by simp only; omega) (by simp only; omega) (Int.le_refl _)
   ·have:=h.count
    simp [vL]; omega
  ·rw [if_neg hk]
   refine ⟨ex,keep fun _ _=>⟨?_,?_⟩⟩
   ·have:=cv_bd h.good.len h.good.bd (u:=x.src.toNat) (v:=y.dst.toNat) (m:=x.mode.toNat) (by omega) (by omega) (by omega)
    have:cv N s.2 x.src.toNat y.dst.toNat x.mode.toNat≠0:=fun h=>hk (.inl h)
    omega
   ·exact Int.not_lt.1 fun h=>hk (.inr h)

theorem goes_good {N:Nat} {es:List Edge} {G:Int→Prop} {v:Nat} {s0:AC} {ex0:List (List Int)} {gone:List Bool} (hc:∀ e∈es,0≤e.cost) (hg0:Good N es G s0 ex0) (hl0:Least N es G s0) (hv:¬ G v) (hvN:v < N) (hG:∀ u:Nat,u < N→(gone.getD u false=true↔G u)) :
  ∃ ex,Mid N es G v s0 ex0 (vA (vI N s0.2 gone v N) (zM N s0.2 gone v N)) (zB N s0 (vA (vI N s0.2 gone v N) (zM N s0.2 gone v N))) ex∧Least N es (fun u=>G u∨u=v) (zB N s0 (vA (vI N s0.2 gone v N) (zM N s0.2 gone v N))):=by
 have hGf:∀ u:Nat,u < N→gone.getD u false=false→¬ G u:=fun u hu h hg=>by rw [(hG u hu).2 hg] at h; cases h
 have start:Mid N es G v s0 ex0 [] s0 ex0:=⟨hg0.mono fun _ h=>.inl h,fun _ _ h=>h,fun _ _ h=>h,fun _ _ _ _ _ _ _ h=>h,fun _ _ _ _ _ _ _=>rfl,by simp,by simp⟩
 have all:=foldl_inv (P:=fun done s=>∃ ex,Mid N es G v s0 ex0 done s ex) (f:=uN N) (vA (vI N s0.2 gone v N) (zM N s0.2 gone v N)) [] s0 ⟨ex0,start⟩ (by
  rintro d p s hp ⟨ex,hm⟩
  simp only [vA,List.mem_flatMap,List.mem_map] at hp
  obtain ⟨i,hi,j,hj,rfl⟩:=hp
  obtain ⟨u,mu,hu,huv,hmu,hk,hgu,rfl⟩:=mem_inOf.1 hi
  obtain ⟨w,mw,hw,hmw,hk2,hgw,rfl⟩:=mem_outOf.1 hj
  obtain ⟨x,x1,x2,x3,x4⟩:=hg0.key u v mu hu hvN hmu hk
  obtain ⟨y,y1,y2,y3,y4⟩:=hg0.key v w mw hvN hw hmw hk2
  refine hm.step (x:=x) (y:=y) hc hg0 hl0 hv ⟨by simp only; omega,by simp only; omega⟩ ?_ ?_ x3 (by rw [x2]; exact hGf u hu hgu) (by omega) y2 (by rw [y3]; exact hGf w hw hgw)
  ·rw [show (cv N s0.2 u v mu - 1).toNat=(cv N s0.2 u v mu).toNat - 1 by omega]; exact x1
  ·rw [show (cv N s0.2 v w mw - 1).toNat=(cv N s0.2 v w mw).toNat - 1 by omega]; exact y1)
 rw [List.nil_append] at all
 obtain ⟨ex,hm⟩:=all
 refine ⟨ex,hm,?_⟩
 intro u w m hu hw hm' hgu hgw c hway
 have hu1:¬ G u:=fun h=>hgu (.inl h)
 have hw1:¬ G w:=fun h=>hgw (.inl h)
 have hu2:u≠v:=fun h=>hgu (.inr (by omega))
 have hw2:w≠v:=fun h=>hgw (.inr (by omega))
 rcases hway.split hc with hway | ⟨c1,c2,w1,w2,w3⟩
 ·exact hm.leq u w m c hu hw hm' (hl0 u w m hu hw hm' hu1 hw1 c hway)
 ·have l1:=hl0 u v m hu hvN hm' hu1 hv c1 w1
  have l2:=hl0 v w m hvN hw hm' hv hw1 c2 w2
  have nb:∀ u:Nat,u < N→¬ G u→gone.getD u false=false:=fun u hu h=>by
   cases hh:gone.getD u false with
   | false=>rfl
   | true=>exact absurd ((hG u hu).1 hh) h
  have i1:cv N s0.2 u v m - 1∈vI N s0.2 gone v N:=mem_inOf.2 ⟨u,m,hu,hu2,hm',l1.1,nb u hu hu1,rfl⟩
  have i2:cv N s0.2 v w m - 1∈zM N s0.2 gone v N:=mem_outOf.2 ⟨w,m,hw,hm',l2.1,nb w hw hw1,rfl⟩
  obtain ⟨x,x1,x2,x3,x4⟩:=hg0.key u v m hu hvN hm' l1.1
  obtain ⟨y,y1,y2,y3,y4⟩:=hg0.key v w m hvN hw hm' l2.1
  have p1:=l1.1
  have p2:=l2.1
  have hpair:=hm.pair (cv N s0.2 u v m - 1,cv N s0.2 v w m - 1) (by simp only [vA,List.mem_flatMap,List.mem_map]; exact ⟨_,i1,_,i2,rfl⟩) x y
   (by simp only; rw [show (cv N s0.2 u v m - 1).toNat=(cv N s0.2 u v m).toNat - 1 by omega]; exact x1)
   (by simp only; rw [show (cv N s0.2 v w m - 1).toNat=(cv N s0.2 v w m).toNat - 1 by omega]; exact y1) (by omega) (by omega)
  have l1':=l1.2
  have l2':=l2.2
  rw [yS x1] at l1'
  rw [yS y1] at l2'
  have e1:x.src.toNat=u:=by omega
  have e2:y.dst.toNat=w:=by omega
  have e3:x.mode.toNat=m:=by omega
  rw [e1,e2,e3] at hpair
  exact hpair.le (by omega)
end Go.Proofs.YtknhlpmmalcchaaGreat

/- The least edges begin; then all of an order go: what holds behind each of them. Nothing of a program stands here. -/
namespace Go.Proofs.YtknhlpmmalcchaaGreat

def EdgesOk (N:Nat) (es:List Edge):Prop:=∀ e∈es,(0≤e.src∧e.src < N)∧(0≤e.dst∧e.dst < N)∧(0≤e.mode∧e.mode < 5)∧0≤e.cost
def KeyIs (e:Edge) (u v m:Nat):Prop:=e.src=u∧e.dst=v∧e.mode=m
def BestAt (es:List Edge) (i:Nat) (b:Int) (u v m:Nat):Prop :=
 0≤b∧b≤i∧(b=0→∀ k e,k < i→es[k]? = some e→¬ KeyIs e u v m) ∧
 (0 < b→∃ e,es[b.toNat - 1]? = some e∧KeyIs e u v m∧∀ (k:Nat) e',k < i→es[k]? = some e'→KeyIs e' u v m→e.cost < e'.cost∨(e.cost=e'.cost∧b - 1≤k))
theorem bestOf_at {N:Nat} {es:List Edge} (hok:EdgesOk N es):∀ i,i≤es.length→∀ u v m,u < N→v < N→m < 5→BestAt es i (cv N (yO N es i) u v m) u v m
 | 0,_,u,v,m,hu,hv,hm=>by
  have hp:=vE hu hv hm
  have:cv N (yO N es 0) u v m=0:=by simp [cv,yO,List.getD_eq_getElem?_getD,hp]
  rw [this]
  exact ⟨by omega,by omega,fun _ k e hk=>by omega,fun h=>by omega⟩
 | i+1,hi,u,v,m,hu,hv,hm=>by
  have ih:=bestOf_at hok i (by omega)
  have hl:=wZ N es i
  have hix:i < es.length:=hi
  have he:es[i]? = some es[i]:=by simp [hix]
  have hgd:es.getD i default=es[i]:=yS he
  obtain ⟨⟨a1,a2⟩,⟨a3,a4⟩,⟨a5,a6⟩,a7⟩:=hok _ (List.getElem_mem hix)
  rw [yO,hgd]
  generalize es[i]=e at *
  have hs:e.src.toNat < N:=by omega
  have hd:e.dst.toNat < N:=by omega
  have hmo:e.mode.toNat < 5:=by omega
  unfold uD
  simp only
  have hcv:(yO N es i).getD (xR N e.src.toNat e.dst.toNat e.mode.toNat) 0=cv N (yO N es i) e.src.toNat e.dst.toNat e.mode.toNat:=rfl
  rw [hcv]
  by_cases hkey:u=e.src.toNat∧v=e.dst.toNat∧m=e.mode.toNat
  ·obtain ⟨rfl,rfl,rfl⟩:=hkey
   obtain ⟨b1,b2,b3,b4⟩:=ih e.src.toNat e.dst.toNat e.mode.toNat hs hd hmo
   have hke:KeyIs e e.src.toNat e.dst.toNat e.mode.toNat:=⟨by omega,by omega,by omega⟩
   split
   ·rename_i hc
    rw [cv_set_same hl hs hd hmo]
    refine ⟨by omega,by omega,fun h=>by omega,fun _=>⟨e,?_,hke,?_⟩⟩
    ·rw [show ((i:Int)+1).toNat - 1=i by omega]; exact he
    ·intro k e' hk he' hk'
     by_cases hki:k=i
     ·subst hki
      rw [he] at he'; injection he' with he'; subst he'
      exact .inr ⟨rfl,by omega⟩
     ·rcases hc with hc | hc
      ·exact absurd hk' (b3 hc k e' (by omega) he')
      ·by_cases h0:cv N (yO N es i) e.src.toNat e.dst.toNat e.mode.toNat=0
       ·exact absurd hk' (b3 h0 k e' (by omega) he')
       ·obtain ⟨f,f1,f2,f3⟩:=b4 (by omega)
        rw [yS f1] at hc
        rcases f3 k e' (by omega) he' hk' with f3 | f3
        ·exact .inl (by omega)
        ·exact .inl (by omega)
   ·rename_i hc
    refine ⟨b1,by omega,fun h=>absurd (Or.inl h) hc,fun h=>?_⟩
    obtain ⟨f,f1,f2,f3⟩:=b4 h
    refine ⟨f,f1,f2,?_⟩
    intro k e' hk he' hk'
    by_cases hki:k=i
    ·subst hki
     rw [he] at he'; injection he' with he'; subst he'
     rw [yS f1] at hc
     have hc2:¬ e.cost < f.cost:=fun h=>hc (.inr h)
     by_cases heq:f.cost=e.cost
     ·exact .inr ⟨heq,by omega⟩
     ·exact .inl (by omega)
    ·exact f3 k e' (by omega) he' hk'
  ·have hsame:cv N (if cv N (yO N es i) e.src.toNat e.dst.toNat e.mode.toNat=0∨e.cost < (es.getD ((cv N (yO N es i) e.src.toNat e.dst.toNat e.mode.toNat).toNat - 1) default).cost then (yO N es i).set (xR N e.src.toNat e.dst.toNat e.mode.toNat) (i+1) else yO N es i) u v m=cv N (yO N es i) u v m:=by
    split
    ·exact vJ hd hmo hv hm hkey
    ·rfl
   rw [hsame]
   obtain ⟨b1,b2,b3,b4⟩:=ih u v m hu hv hm
   have hne:¬ KeyIs e u v m:=fun ⟨h1,h2,h3⟩=>hkey ⟨by omega,by omega,by omega⟩
   refine ⟨b1,by omega,?_,?_⟩
   ·intro h k e' hk he'
    by_cases hki:k=i
    ·subst hki
     rw [he] at he'; injection he' with he'; subst he'
     exact hne
    ·exact b3 h k e' (by omega) he'
   ·intro h
    obtain ⟨f,f1,f2,f3⟩:=b4 h
    refine ⟨f,f1,f2,?_⟩
    intro k e' hk he' hk'
    by_cases hki:k=i
    ·subst hki
     rw [he] at he'; injection he' with he'; subst he'
     exact absurd hk' hne
    ·exact f3 k e' (by omega) he' hk'

theorem place_of {N p:Nat} (h:p < N*N*5):∃ u v m,u < N∧v < N∧m < 5∧xR N u v m=p:=by
 have hN:0 < N:=by
  rcases Nat.eq_zero_or_pos N with h0 | h0
  ·subst h0; omega
  ·exact h0
 refine ⟨p / 5 / N,p / 5 % N,p % 5,?_,Nat.mod_lt _ hN,by omega,?_⟩
 ·rw [Nat.div_lt_iff_lt_mul hN]; omega
 ·unfold xR
  have h1:=Nat.div_add_mod (p / 5) N
  have h2:p / 5 / N*N=N*(p / 5 / N):=Nat.mul_comm _ _
  omega

structure Began (N:Nat) (es:List Edge) (bs:List Int) (j:Nat) (s:AC):Prop where
 len:s.2.length=N*N*5
 bd:∀ x∈s.2,0≤x∧x≤s.1.length
 yes:∀ u v m,u < N→v < N→m < 5→xR N u v m < j→0 < cv N bs u v m→0 < cv N s.2 u v m∧s.1[(cv N s.2 u v m).toNat - 1]? = some (vG es (cv N bs u v m))
 no:∀ u v m,u < N→v < N→m < 5→¬ (xR N u v m < j∧0 < cv N bs u v m)→cv N s.2 u v m=0
 arc:∀ (i:Nat) a,s.1[i]? = some a→∃ u v m,u < N∧v < N∧m < 5∧0 < cv N bs u v m∧a=vG es (cv N bs u v m)
 count:s.1.length≤j
theorem arcOf_key {N:Nat} {es:List Edge} {b:Int} {u v m:Nat} (h:BestAt es es.length b u v m) (hb:0 < b):(vG es b).src=u∧(vG es b).dst=v∧(vG es b).mode=m∧∃ e,es[b.toNat - 1]? = some e∧KeyIs e u v m∧(vG es b).cost=e.cost:=by
 obtain ⟨h1,h2,h3,h4⟩:=h
 obtain ⟨e,e1,e2,e3⟩:=h4 hb
 obtain ⟨k1,k2,k3⟩:=e2
 simp only [vG,yS e1]
 exact ⟨k1,k2,k3,e,e1,⟨k1,k2,k3⟩,rfl⟩
theorem began {N:Nat} {es:List Edge} (hok:EdgesOk N es):∀ j,j≤N*N*5→Began N es (yO N es es.length) j (zD N es (List.replicate (N*N*5) 0) ((yO N es es.length).take j)):=by
 have hbl:=wZ N es es.length
 have hba:=bestOf_at hok es.length (Nat.le_refl _)
 generalize yO N es es.length=bs at *
 intro j
 induction j with
 | zero =>
  intro _
  have h0:∀ u v m,u < N→v < N→m < 5→cv N (List.replicate (N*N*5) (0:Int)) u v m=0:=fun u v m hu hv hm=>by
   have:=vE hu hv hm
   simp [cv,List.getD_eq_getElem?_getD,this]
  refine ⟨by simp [zD],?_,fun u v m _ _ _ h=>by omega,fun u v m hu hv hm _=>by simpa [zD] using h0 u v m hu hv hm,fun i a h=>by simp [zD] at h,by simp [zD]⟩
  intro x hx
  simp only [List.take_zero,zD,List.foldl_nil] at hx ⊢
  have:=List.eq_of_mem_replicate hx
  omega
 | succ j ih =>
  intro hj
  have ih:=ih (by omega)
  have hjl:j < bs.length:=by omega
  have hst:zD N es (List.replicate (N*N*5) 0) (bs.take (j+1))=beginStep N es (zD N es (List.replicate (N*N*5) 0) (bs.take j)) bs[j]:=by
   rw [zD,zD,List.take_succ_eq_append_getElem hjl,List.foldl_append]; rfl
  rw [hst]
  obtain ⟨u0,v0,m0,hu0,hv0,hm0,hp0⟩:=place_of (N:=N) (p:=j) (by omega)
  have hcv0:cv N bs u0 v0 m0=bs[j]:=by simp [cv,hp0,hjl]
  generalize zD N es (List.replicate (N*N*5) 0) (bs.take j)=s at *
  have hb0:=hba u0 v0 m0 hu0 hv0 hm0
  rw [hcv0] at hb0
  generalize bs[j]=b at *
  unfold beginStep
  by_cases hb:0 < b
  ·rw [if_pos hb]
   obtain ⟨k1,k2,k3,e,e1,e2,e3⟩:=arcOf_key (N:=N) hb0 hb
   rw [k1,k2,k3]
   simp only [Int.toNat_natCast]
   have hpj:∀ u v m,u < N→v < N→m < 5→(xR N u v m=j↔(u=u0∧v=v0∧m=m0)):=fun u v m hu hv hm=>⟨fun h=>place_inj hv hm hv0 hm0 (by omega),fun ⟨h1,h2,h3⟩=>by rw [h1,h2,h3]; exact hp0⟩
   refine ⟨by simp [ih.len],?_,?_,?_,?_,by have:=ih.count; simp; omega⟩
   ·intro x hx
    simp only [List.length_append,List.length_singleton] at hx ⊢
    rcases List.mem_or_eq_of_mem_set hx with hx | hx
    ·have:=ih.bd x hx; omega
    ·omega
   ·intro u v m hu hv hm hpl hpos
    by_cases hk:u=u0∧v=v0∧m=m0
    ·obtain ⟨rfl,rfl,rfl⟩:=hk
     simp only
     rw [cv_set_same ih.len hu0 hv0 hm0,hcv0]
     refine ⟨by omega,?_⟩
     rw [show ((s.1.length:Int)+1).toNat - 1=s.1.length by omega]
     exact at_last
    ·simp only
     rw [vJ hv0 hm0 hv hm hk]
     have hne:xR N u v m≠j:=fun h=>hk ((hpj u v m hu hv hm).1 h)
     obtain ⟨y1,y2⟩:=ih.yes u v m hu hv hm (by omega) hpos
     exact ⟨y1,at_left y2⟩
   ·intro u v m hu hv hm hn
    by_cases hk:u=u0∧v=v0∧m=m0
    ·obtain ⟨rfl,rfl,rfl⟩:=hk
     exact absurd ⟨by omega,by rw [hcv0]; exact hb⟩ hn
    ·simp only
     rw [vJ hv0 hm0 hv hm hk]
     exact ih.no u v m hu hv hm (fun ⟨h1,h2⟩=>hn ⟨by omega,h2⟩)
   ·intro i a ha
    rcases at_append ha with ha | ⟨_,rfl⟩
    ·exact ih.arc i a ha
    ·exact ⟨u0,v0,m0,hu0,hv0,hm0,by rw [hcv0]; exact hb,by rw [hcv0]⟩
  ·rw [if_neg hb]
   have hpj:∀ u v m,u < N→v < N→m < 5→0 < cv N bs u v m→xR N u v m < j+1→xR N u v m < j:=fun u v m hu hv hm h1 h2=>by
    have:xR N u v m≠j:=fun h=>by
     obtain ⟨rfl,rfl,rfl⟩:=place_inj hv hm hv0 hm0 (show xR N u v m=xR N u0 v0 m0 by omega)
     omega
    omega
   refine ⟨ih.len,ih.bd,fun u v m hu hv hm h1 h2=>ih.yes u v m hu hv hm (hpj u v m hu hv hm h2 h1) h2,fun u v m hu hv hm hn=>ih.no u v m hu hv hm (fun ⟨h1,h2⟩=>hn ⟨by omega,h2⟩),ih.arc,by have:=ih.count; omega⟩

theorem way_none {es:List Edge} {m x y c:Int} (h:Way es m (fun _=>False) x y c):∃ e∈es,e.src=x∧e.dst=y∧e.mode=m∧e.cost=c:=by
 cases h with
 | one he hm=>exact ⟨_,he,rfl,rfl,hm,rfl⟩
 | more he hm hg _=>exact hg.elim
theorem start_good {N:Nat} {es:List Edge} (hok:EdgesOk N es):∃ ex,Good N es (fun _=>False) ((yG N es).arcs,(yG N es).cur) ex∧Least N es (fun _=>False) ((yG N es).arcs,(yG N es).cur)∧(yG N es).arcs.length≤N*N*5:=by
 have hb:=began hok (N*N*5) (Nat.le_refl _)
 have hba:=bestOf_at hok es.length (Nat.le_refl _)
 have hbl:=wZ N es es.length
 rw [List.take_of_length_le (by omega)] at hb
 simp only [yG]
 generalize yO N es es.length=bs at *
 generalize zD N es (List.replicate (N*N*5) 0) bs=s at *
 have harc:∀ (i:Nat) a,s.1[i]? = some a→∃ u v m,u < N∧v < N∧m < 5∧a.src=(u:Nat)∧a.dst=(v:Nat)∧a.mode=(m:Nat)∧0≤a.edge∧a.a=0∧a.b=0∧∃ e,es[a.edge.toNat]? = some e∧e.src=a.src∧e.dst=a.dst∧e.mode=a.mode∧e.cost=a.cost:=by
  intro i a ha
  obtain ⟨u,v,m,hu,hv,hm,hp,rfl⟩:=hb.arc i a ha
  obtain ⟨k1,k2,k3,e,e1,⟨e2,e3,e4⟩,e5⟩:=arcOf_key (N:=N) (hba u v m hu hv hm) hp
  have hed:(vG es (cv N bs u v m)).edge=cv N bs u v m - 1:=rfl
  refine ⟨u,v,m,hu,hv,hm,k1,k2,k3,by omega,rfl,rfl,e,?_,by omega,by omega,by omega,by omega⟩
  rw [hed,show (cv N bs u v m - 1).toNat=(cv N bs u v m).toNat - 1 by omega]; exact e1
 refine ⟨s.1.map fun a=>[a.edge],⟨hb.len,hb.bd,?_,by simp,?_,?_,?_⟩,?_,hb.count⟩
 ·intro u v m hu hv hm hp
  by_cases hc:xR N u v m < N*N*5∧0 < cv N bs u v m
  ·obtain ⟨y1,y2⟩:=hb.yes u v m hu hv hm hc.1 hc.2
   obtain ⟨k1,k2,k3,_⟩:=arcOf_key (N:=N) (hba u v m hu hv hm) hc.2
   exact ⟨_,y2,k1,k2,k3⟩
  ·rw [hb.no u v m hu hv hm hc] at hp; omega
 ·intro i a ha
  obtain ⟨u,v,m,hu,hv,hm,k1,k2,k3,_⟩:=harc i a ha
  exact ⟨⟨by omega,by omega⟩,⟨by omega,by omega⟩,⟨by omega,by omega⟩⟩
 ·intro i a l ha hl
  obtain ⟨u,v,m,hu,hv,hm,k1,k2,k3,k4,k5,k6,e,e1,e2,e3,e4,e5⟩:=harc i a ha
  simp only at ha
  rw [List.getElem?_map,ha] at hl
  simp at hl
  subst hl
  refine ⟨by simp,⟨e,e1,k4,e2,e4,e3,by omega⟩,by simp [mids],by simp [mids]⟩
 ·intro i a l ha hl
  obtain ⟨u,v,m,hu,hv,hm,k1,k2,k3,k4,k5,k6,he⟩:=harc i a ha
  simp only at ha
  rw [List.getElem?_map,ha] at hl
  simp at hl
  exact .inl ⟨k4,k5,k6,hl.symm,he⟩
 ·intro u v m hu hv hm _ _ c hw
  obtain ⟨e,he,e1,e2,e3,e4⟩:=way_none hw
  obtain ⟨k,hk,hke⟩:=List.getElem_of_mem he
  have hke':es[k]? = some e:=by rw [List.getElem?_eq_getElem hk,hke]
  have hkey:KeyIs e u v m:=⟨e1,e2,e3⟩
  obtain ⟨b1,b2,b3,b4⟩:=hba u v m hu hv hm
  have hpos:0 < cv N bs u v m:=by
   have:cv N bs u v m≠0:=fun h=>b3 h k e hk hke' hkey
   omega
  obtain ⟨f,f1,f2,f3⟩:=b4 hpos
  obtain ⟨y1,y2⟩:=hb.yes u v m hu hv hm (vE hu hv hm) hpos
  refine ⟨y1,?_⟩
  simp only
  rw [yS y2]
  simp only [vG,yS f1]
  rcases f3 k e hk hke' hkey with h | h <;> omega

structure OrderOk (N:Nat) (l:List Int):Prop where
 bd:∀ x∈l,0≤x∧x < N
 nodup:l.Nodup
def Went (l:List Int) (k:Nat) (u:Int):Prop:=∃ j,j < k∧l[j]? = some u
theorem went_succ {l:List Int} {k:Nat} {v:Int} (h:l[k]? = some v) (u:Int):Went l (k+1) u↔Went l k u∨u=v:=by
 constructor
 ·rintro ⟨j,hj,e⟩
  by_cases hjk:j=k
  ·subst hjk; rw [h] at e; injection e with e; exact .inr e.symm
  ·exact .inl ⟨j,by omega,e⟩
 ·rintro (⟨j,hj,e⟩ | rfl)
  ·exact ⟨j,by omega,e⟩
  ·exact ⟨k,by omega,h⟩
theorem not_went {N:Nat} {l:List Int} (hl:OrderOk N l) {k:Nat} {v:Int} (h:l[k]? = some v):¬ Went l k v:=by
 rintro ⟨j,hj,e⟩
 obtain ⟨h1,h2⟩:=List.getElem?_eq_some_iff.1 h
 obtain ⟨h3,h4⟩:=List.getElem?_eq_some_iff.1 e
 exact List.pairwise_iff_getElem.1 hl.nodup j k h3 h1 hj (by rw [h4,h2])
structure RowAt (arcs:List Arc) (l:List Int) (j:Nat) (v:Int) (u d:List Int):Prop where
 upNodup:u.Nodup
 downNodup:d.Nodup
 up:∀ x∈u,∃ a,0≤x∧arcs[x.toNat]? = some a∧a.src=v∧¬ Went l j a.dst
 down:∀ x∈d,∃ a,0≤x∧arcs[x.toNat]? = some a∧a.dst=v∧a.src≠v∧¬ Went l j a.src
 keeps:∀ x∈d,∀ y∈u,∀ a b,arcs[x.toNat]? = some a→arcs[y.toNat]? = some b→a.mode=b.mode→b.dst≠v→∃ c∈arcs,c.src=a.src∧c.dst=b.dst∧c.mode=a.mode∧c.cost≤a.cost+b.cost
theorem RowAt.more {arcs arcs':List Arc} {l:List Int} {j:Nat} {v:Int} {u d:List Int} (h:RowAt arcs l j v u d) (ha:∀ (i:Nat) a,arcs[i]? = some a→arcs'[i]? = some a):RowAt arcs' l j v u d:=by
 refine ⟨h.upNodup,h.downNodup,fun x hx=>?_,fun x hx=>?_,fun x hx y hy a b h1 h2 h3 h4=>?_⟩
 ·obtain ⟨a,a1,a2,a3⟩:=h.up x hx
  exact ⟨a,a1,ha _ _ a2,a3⟩
 ·obtain ⟨a,a1,a2,a3⟩:=h.down x hx
  exact ⟨a,a1,ha _ _ a2,a3⟩
 ·obtain ⟨p,_,p2,_⟩:=h.down x hx
  obtain ⟨q,_,q2,_⟩:=h.up y hy
  have e1:=ha _ _ p2
  have e2:=ha _ _ q2
  rw [h1] at e1; rw [h2] at e2
  injection e1 with e1; injection e2 with e2
  subst e1; subst e2
  obtain ⟨c,c1,c2⟩:=h.keeps x hx y hy a b p2 q2 h3 h4
  obtain ⟨i,hi,rfl⟩:=List.getElem_of_mem c1
  exact ⟨_,List.mem_of_getElem? (ha i _ (List.getElem?_eq_getElem hi)),c2⟩
theorem nodup_flat {f:Nat→List Int}:∀ n,(∀ u,u < n→(f u).Nodup)→(∀ u w x,u < n→w < n→x∈f u→x∈f w→u=w)→((List.range n).flatMap f).Nodup
 | 0,_,_=>by simp
 | n+1,h1,h2=>by
  rw [List.range_succ,List.flatMap_append]
  refine List.nodup_append.2 ⟨nodup_flat n (fun u hu=>h1 u (by omega)) (fun u w x hu hw=>h2 u w x (by omega) (by omega)),by simpa using h1 n (by omega),?_⟩
  intro a ha b hb hab
  subst hab
  simp only [List.mem_flatMap,List.mem_range] at ha
  simp at hb
  obtain ⟨u,hu,ha⟩:=ha
  have:=h2 u n a (by omega) (by omega) ha hb
  omega
theorem outOf_nodup {N:Nat} {es:List Edge} {G:Int→Prop} {s:AC} {ex:List (List Int)} {gone:List Bool} (hg:Good N es G s ex) {v:Nat} (hv:v < N):(zM N s.2 gone v N).Nodup:=by
 have key:∀ u m x,u < N→m < 5→x∈outStep N s.2 gone v u m→∃ a,s.1[x.toNat]? = some a∧a.dst=u∧a.mode=m:=by
  intro u m x hu hm hx
  simp only [outStep] at hx
  split at hx
  ·rename_i h
   simp only [List.mem_singleton] at hx
   obtain ⟨a,a1,a2,a3,a4⟩:=hg.key v u m hv hu hm h.1
   refine ⟨a,?_,a3,a4⟩
   have h1:=h.1
   unfold cv at a1
   rw [hx,show (s.2.getD (xR N v u m) 0 - 1).toNat=(s.2.getD (xR N v u m) 0).toNat - 1 by omega]; exact a1
  ·simp at hx
 refine nodup_flat N (fun u hu=>nodup_flat 5 (fun m hm=>?_) ?_) ?_
 ·simp only [outStep]; split <;> simp
 ·intro m m' x hm hm' h1 h2
  obtain ⟨a,a1,a2,a3⟩:=key u m x hu hm h1
  obtain ⟨b,b1,b2,b3⟩:=key u m' x hu hm' h2
  rw [a1] at b1; injection b1 with b1; subst b1
  omega
 ·intro u w x hu hw h1 h2
  simp only [outRow,List.mem_flatMap,List.mem_range] at h1 h2
  obtain ⟨m,hm,h1⟩:=h1
  obtain ⟨m',hm',h2⟩:=h2
  obtain ⟨a,a1,a2,a3⟩:=key u m x hu hm h1
  obtain ⟨b,b1,b2,b3⟩:=key w m' x hw hm' h2
  rw [a1] at b1; injection b1 with b1; subst b1
  omega
theorem inOf_nodup {N:Nat} {es:List Edge} {G:Int→Prop} {s:AC} {ex:List (List Int)} {gone:List Bool} (hg:Good N es G s ex) {v:Nat} (hv:v < N):(vI N s.2 gone v N).Nodup:=by
 have key:∀ u m x,u < N→m < 5→x∈inStep N s.2 gone v u m→∃ a,s.1[x.toNat]? = some a∧a.src=u∧a.mode=m:=by
  intro u m x hu hm hx
  simp only [inStep] at hx
  split at hx
  ·rename_i h
   simp only [List.mem_singleton] at hx
   obtain ⟨a,a1,a2,a3,a4⟩:=hg.key u v m hu hv hm h.1
   refine ⟨a,?_,a2,a4⟩
   have h1:=h.1
   unfold cv at a1
   rw [hx,show (s.2.getD (xR N u v m) 0 - 1).toNat=(s.2.getD (xR N u v m) 0).toNat - 1 by omega]; exact a1
  ·simp at hx
 refine nodup_flat N (fun u hu=>?_) ?_
 ·split
  ·simp
  ·refine nodup_flat 5 (fun m hm=>?_) ?_
   ·simp only [inStep]; split <;> simp
   ·intro m m' x hm hm' h1 h2
    obtain ⟨a,a1,a2,a3⟩:=key u m x hu hm h1
    obtain ⟨b,b1,b2,b3⟩:=key u m' x hu hm' h2
    rw [a1] at b1; injection b1 with b1; subst b1
    omega
 ·intro u w x hu hw h1 h2
  split at h1
  ·simp at h1
  split at h2
  ·simp at h2
  simp only [inRow,List.mem_flatMap,List.mem_range] at h1 h2
  obtain ⟨m,hm,h1⟩:=h1
  obtain ⟨m',hm',h2⟩:=h2
  obtain ⟨a,a1,a2,a3⟩:=key u m x hu hm h1
  obtain ⟨b,b1,b2,b3⟩:=key w m' x hw hm' h2
  rw [a1] at b1; injection b1 with b1; subst b1
  omega
theorem rowAt_now {N:Nat} {es:List Edge} {l:List Int} {j:Nat} {G:Int→Prop} {s0 s:AC} {ex0 ex:List (List Int)} {gone:List Bool} {v:Nat} (hg0:Good N es G s0 ex0) (hvN:v < N) (hG:∀ u:Nat,u < N→(gone.getD u false=true↔Went l j u))
  (hm:Mid N es G v s0 ex0 (vA (vI N s0.2 gone v N) (zM N s0.2 gone v N)) s ex):RowAt s.1 l j v (zM N s0.2 gone v N) (vI N s0.2 gone v N):=by
 have hGf:∀ u:Nat,u < N→gone.getD u false=false→¬ Went l j u:=fun u hu h hg=>by rw [(hG u hu).2 hg] at h; cases h
 have hup:∀ x∈zM N s0.2 gone v N,∃ a,0≤x∧s0.1[x.toNat]? = some a∧a.src=v∧¬ Went l j a.dst:=by
  intro x hx
  obtain ⟨u,m,hu,hmm,hp,hgu,rfl⟩:=mem_outOf.1 hx
  obtain ⟨a,a1,a2,a3,a4⟩:=hg0.key v u m hvN hu hmm hp
  refine ⟨a,by omega,?_,a2,by rw [a3]; exact hGf u hu hgu⟩
  rw [show (cv N s0.2 v u m - 1).toNat=(cv N s0.2 v u m).toNat - 1 by omega]; exact a1
 have hdown:∀ x∈vI N s0.2 gone v N,∃ a,0≤x∧s0.1[x.toNat]? = some a∧a.dst=v∧a.src≠v∧¬ Went l j a.src:=by
  intro x hx
  obtain ⟨u,m,hu,huv,hmm,hp,hgu,rfl⟩:=mem_inOf.1 hx
  obtain ⟨a,a1,a2,a3,a4⟩:=hg0.key u v m hu hvN hmm hp
  refine ⟨a,by omega,?_,a3,by omega,by rw [a2]; exact hGf u hu hgu⟩
  rw [show (cv N s0.2 u v m - 1).toNat=(cv N s0.2 u v m).toNat - 1 by omega]; exact a1
 refine ⟨outOf_nodup hg0 hvN,inOf_nodup hg0 hvN,fun x hx=>?_,fun x hx=>?_,fun x hx y hy a b h1 h2 h3 h4=>?_⟩
 ·obtain ⟨a,a1,a2,a3⟩:=hup x hx
  exact ⟨a,a1,hm.arcs _ _ a2,a3⟩
 ·obtain ⟨a,a1,a2,a3⟩:=hdown x hx
  exact ⟨a,a1,hm.arcs _ _ a2,a3⟩
 ·obtain ⟨p,_,p2,p3,_⟩:=hdown x hx
  obtain ⟨q,_,q2,_⟩:=hup y hy
  have e1:=hm.arcs _ _ p2
  have e2:=hm.arcs _ _ q2
  rw [h1] at e1; rw [h2] at e2
  injection e1 with e1; injection e2 with e2
  subst e1; subst e2
  have hpq:=hm.pair (x,y) (by simp only [vA,List.mem_flatMap,List.mem_map]; exact ⟨x,hx,y,hy,rfl⟩) a b p2 q2 h3 (by rw [p3]; exact h4)
  have n1:=hg0.ends _ _ p2
  have n2:=hg0.ends _ _ q2
  obtain ⟨c,c1,c2,c3,c4⟩:=hm.good.key a.src.toNat b.dst.toNat a.mode.toNat (by omega) (by omega) (by omega) hpq.1
  have hcost:=hpq.2
  rw [yS c1] at hcost
  exact ⟨c,List.mem_of_getElem? c1,by omega,by omega,by omega,hcost⟩
structure Gone (N:Nat) (es:List Edge) (l:List Int) (k:Nat) (s:BSt) (ex:List (List Int)):Prop where
 good:Good N es (Went l k) (s.arcs,s.cur) ex
 least:Least N es (Went l k) (s.arcs,s.cur)
 goneLen:s.gone.length=N
 gone:∀ u:Nat,u < N→(s.gone.getD u false=true↔Went l k u)
 count:s.arcs.length≤N*N*5+k*(25*(N*N))
 rankLen:s.rank.length=N
 upLen:s.up.length=N
 downLen:s.down.length=N
 ranked:∀ j v,j < k→l[j]? = some v→s.rank[v.toNat]? = some (j:Int)
 unranked:∀ u:Nat,u < N→¬ Went l k u→s.rank[u]? = some (-1)
 stays:∀ u:Nat,u < N→¬ Went l k u→s.up[u]? = some []∧s.down[u]? = some []
 rows:∀ j v,j < k→l[j]? = some v→∃ u d,s.up[v.toNat]? = some u∧s.down[v.toNat]? = some d∧RowAt s.arcs l j v u d
theorem pairs_length (a b:List Int):(vA a b).length=a.length*b.length:=by
 simp only [vA,List.length_flatMap,List.length_map]
 induction a with
 | nil=>simp
 | cons x a ih=>simp [ih,Nat.add_mul,Nat.add_comm]
theorem go_gone {N:Nat} {es:List Edge} {l:List Int} (hok:EdgesOk N es) (hl:OrderOk N l):∀ k,k≤l.length→∃ ex,Gone N es l k (zQ N (yG N es) l k) ex
 | 0,_=>by
  obtain ⟨ex,h1,h2,h3⟩:=start_good hok
  have hw:∀ u,¬ Went l 0 u:=fun u ⟨j,hj,_⟩=>by omega
  have he:Went l 0=fun _=>False:=funext fun u=>propext ⟨fun h=>hw u h,fun h=>h.elim⟩
  refine ⟨ex,⟨by rw [he]; exact h1,by rw [he]; exact h2,by simp [zQ,yG],?_,by simp only [zQ]; omega,by simp [zQ,yG],by simp [zQ,yG],by simp [zQ,yG],fun j v hj=>by omega,?_,?_,fun j v hj=>by omega⟩⟩
  ·intro u hu
   simp only [zQ,yG]
   constructor
   ·intro h
    simp [List.getD_eq_getElem?_getD,hu] at h
   ·intro h; exact absurd h (hw u)
  ·intro u hu _
   simp [zQ,yG,hu]
  ·intro u hu _
   simp [zQ,yG,hu]
 | k+1,hk=>by
  obtain ⟨ex,ih⟩:=go_gone hok hl k (by omega)
  have hkl:k < l.length:=hk
  have hv:l[k]? = some l[k]:=by simp [hkl]
  have hbd:=hl.bd _ (List.getElem_mem hkl)
  have hgd:l.getD k 0=l[k]:=yS hv
  rw [zQ,hgd]
  generalize l[k]=v at *
  have hnw:=not_went hl hv
  have hvn:((v.toNat:Nat):Int)=v:=by omega
  have hwe:Went l (k+1)=fun u=>Went l k u∨u=((v.toNat:Nat):Int):=funext fun u=>propext (by rw [hvn]; exact went_succ hv u)
  generalize zQ N (yG N es) l k=s at *
  obtain ⟨ex',m1,m2⟩:=goes_good (v:=v.toNat) (fun e he=>(hok e he).2.2.2) ih.good ih.least (by rw [hvn]; exact hnw) (by omega) ih.gone
  refine ⟨ex',⟨?_,?_,?_,?_,?_,?_,?_,?_,?_,?_,?_,?_⟩⟩
  ·rw [hwe]; exact m1.good
  ·rw [hwe]; exact m2
  ·simp [vR,ih.goneLen]
  ·intro u hu
   rw [hwe]
   simp only [vR]
   by_cases huv:u=v.toNat
   ·subst huv
    have:v.toNat < s.gone.length:=by rw [ih.goneLen]; omega
    simp [List.getD_eq_getElem?_getD,this]
   ·have h1:¬ ((u:Int)=(v.toNat:Nat)):=by omega
    have h2:v.toNat≠u:=fun h=>huv h.symm
    have h3:(s.gone.set v.toNat true).getD u false=s.gone.getD u false:=by simp [List.getD_eq_getElem?_getD,List.getElem?_set,h2]
    rw [h3,ih.gone u hu]
    constructor
    ·exact .inl
    ·rintro (h | h)
     ·exact h
     ·exact absurd h h1
  ·have hcount:=m1.count
   simp only [vR]
   have c1:=inOf_length N s.cur s.gone v.toNat N
   have c2:=uW N s.cur s.gone v.toNat N
   have c3:=Nat.mul_le_mul c1 c2
   have c4:5*N*(5*N)=25*(N*N):=by
    rw [Nat.mul_mul_mul_comm]
   rw [pairs_length] at hcount
   have c5:=ih.count
   simp only at hcount
   rw [Nat.succ_mul]
   omega
  ·simp [vR,ih.rankLen]
  ·simp [vR,ih.upLen]
  ·simp [vR,ih.downLen]
  ·intro j u hj hu
   simp only [vR]
   by_cases hjk:j=k
   ·subst hjk
    rw [hv] at hu; injection hu with hu; subst hu
    have:v.toNat < s.rank.length:=by rw [ih.rankLen]; omega
    simp [this]
   ·have hne:v.toNat≠u.toNat:=fun h=>by
     have hub:=hl.bd u (List.mem_of_getElem? hu)
     have:u=v:=by omega
     subst this
     exact hnw ⟨j,by omega,hu⟩
    rw [List.getElem?_set_ne hne]
    exact ih.ranked j u (by omega) hu
  ·intro u hu hw
   rw [hwe] at hw
   have hne:v.toNat≠u:=fun h=>hw (.inr (by omega))
   simp only [vR]
   rw [List.getElem?_set_ne hne]
   exact ih.unranked u hu (fun h=>hw (.inl h))
  ·intro u hu hw
   rw [hwe] at hw
   have hne:v.toNat≠u:=fun h=>hw (.inr (by omega))
   simp only [vR]
   rw [List.getElem?_set_ne hne,List.getElem?_set_ne hne]
   exact ih.stays u hu (fun h=>hw (.inl h))
  ·intro j u hj hu
   simp only [vR]
   by_cases hjk:j=k
   ·subst hjk
    rw [hv] at hu; injection hu with hu; subst hu
    have h1:v.toNat < s.up.length:=by rw [ih.upLen]; omega
    have h2:v.toNat < s.down.length:=by rw [ih.downLen]; omega
    refine ⟨zM N s.cur s.gone v.toNat N,vI N s.cur s.gone v.toNat N,by simp [h1],by simp [h2],?_⟩
    have:=rowAt_now ih.good (by omega) ih.gone m1
    rwa [hvn] at this
   ·have hne:v.toNat≠u.toNat:=fun h=>by
     have hub:=hl.bd u (List.mem_of_getElem? hu)
     have:u=v:=by omega
     subst this
     exact hnw ⟨j,by omega,hu⟩
    rw [List.getElem?_set_ne hne,List.getElem?_set_ne hne]
    obtain ⟨a,b,r1,r2,r3⟩:=ih.rows j u (by omega) hu
    exact ⟨a,b,r1,r2,r3.more m1.arcs⟩
end Go.Proofs.YtknhlpmmalcchaaGreat

/- The hierarchy of a network is allowed: what may be,in plain words,and that what is built may be. Nothing of a program stands here. -/
namespace Go.Proofs.YtknhlpmmalcchaaGreat

structure Idx where
 n:Int
 es:List Edge
 rank:List Int
 arcs:List Arc
 up:List (List Int)
 down:List (List Int)
 deriving DecidableEq,Inhabited
def EdgeOk (n:Int) (e:Edge):Prop:=(0≤e.src∧e.src < n)∧(0≤e.dst∧e.dst < n)∧(0≤e.mode∧e.mode < 5)∧(0≤e.cost∧e.cost≤2147483647)
def NetOk (n:Int) (es:List Edge):Prop:=1≤n∧n≤60∧es.length≤400∧∀ e∈es,EdgeOk n e
structure RanksOk (rank:List Int):Prop where
 run:∃ k:Nat,(∀ r∈rank,r = -1∨(0≤r∧r < k))∧∀ j:Nat,j < k→(j:Int)∈rank
 own:∀ (i j:Nat) r,0≤r→rank[i]? = some r→rank[j]? = some r→i=j
def sizeStep (out:List Int) (a:Arc):List Int:=out++[if a.edge = -1 then out.getD a.a.toNat 0+out.getD a.b.toNat 0 else 1]
def xY (arcs:List Arc):List Int:=arcs.foldl sizeStep []
def IsEdge (es:List Edge) (a:Arc):Prop:=0≤a.edge∧a.a=0∧a.b=0∧es[a.edge.toNat]? = some ⟨a.src,a.dst,a.mode,a.cost⟩
def IsTwo (arcs:List Arc) (i:Nat) (a:Arc):Prop:=a.edge = -1∧0≤a.a∧a.a < i∧0≤a.b∧a.b < i∧∃ p q,arcs[a.a.toNat]? = some p∧arcs[a.b.toNat]? = some q∧p.mode=a.mode∧q.mode=a.mode∧p.src=a.src∧p.dst=q.src∧q.dst=a.dst∧a.cost=p.cost+q.cost
def ArcOk (es:List Edge) (arcs:List Arc) (i:Nat) (a:Arc):Prop:=(0≤a.cost∧a.cost≤4398046511104)∧(IsEdge es a∨IsTwo arcs i a)
def uT (rank:List Int) (u v:Int):Prop:=rank.getD u.toNat 0 < 0∨(0≤rank.getD v.toNat 0∧rank.getD v.toNat 0 < rank.getD u.toNat 0)
def UpOk (rank:List Int) (arcs:List Arc) (v:Int) (l:List Int):Prop:=l.Nodup∧∀ x∈l,0≤x∧∃ a,arcs[x.toNat]? = some a∧a.src=v∧(a.dst=v∨uT rank a.dst v)
def DownOk (rank:List Int) (arcs:List Arc) (v:Int) (l:List Int):Prop:=l.Nodup∧∀ x∈l,0≤x∧∃ a,arcs[x.toNat]? = some a∧a.dst=v∧a.src≠v∧0≤rank.getD v.toNat 0∧uT rank a.src v
structure Allowed (x:Idx):Prop where
 net:NetOk x.n x.es
 rankLen:(x.rank.length:Int)=x.n
 upLen:x.up.length=x.rank.length
 downLen:x.down.length=x.rank.length
 ranks:RanksOk x.rank
 count:x.arcs.length≤300000
 arcs:∀ (i:Nat) a,x.arcs[i]? = some a→ArcOk x.es x.arcs i a
 sizes:∀ s∈xY x.arcs,s≤1000
 up:∀ (v:Nat) l,x.up[v]? = some l→UpOk x.rank x.arcs v l
 down:∀ (v:Nat) l,x.down[v]? = some l→DownOk x.rank x.arcs v l

theorem wO:∀ (n:Nat) (l:List Int),l.Nodup→(∀ x∈l,0≤x∧x < n)→l.length≤n
 | 0,l,_,h=>by
  cases l with
  | nil=>simp
  | cons x l=>have:=h x List.mem_cons_self; omega
 | n+1,l,hn,h=>by
  by_cases hm:(n:Int)∈l
  ·have h1:=wO n (l.erase n) (hn.erase _) (fun x hx=>by
    rw [hn.mem_erase_iff] at hx
    have:=h x hx.2
    have:=hx.1
    omega)
   rw [List.length_erase_of_mem hm] at h1
   omega
  ·have:=wO n l hn (fun x hx=>by
    have h1:=h x hx
    have:x≠n:=fun e=>hm (e ▸ hx)
    omega)
   omega
theorem sizesOf_append (arcs:List Arc) (a:Arc):xY (arcs++[a])=sizeStep (xY arcs) a:=by simp [xY]
theorem zE:∀ (n:Nat) (arcs:List Arc),arcs.length=n→(xY arcs).length=n:=by
 intro n arcs hn
 have:=foldl_inv (P:=fun (d:List Arc) (s:List Int)=>s.length=d.length) (f:=sizeStep) arcs [] [] rfl (fun d b s _ h=>by simp [sizeStep,h])
 rw [List.nil_append] at this
 rw [← hn]; exact this
theorem sizes_ex {es:List Edge}:∀ (n:Nat) (arcs:List Arc) (ex:List (List Int)),arcs.length=n→ex.length=n→(∀ (i:Nat) a l,arcs[i]? = some a→ex[i]? = some l→FormOk es arcs ex i a l)→xY arcs=ex.map fun l=>(l.length:Int)
 | 0,arcs,ex,h1,h2,_=>by
  have e1:=List.eq_nil_of_length_eq_zero h1
  have e2:=List.eq_nil_of_length_eq_zero h2
  subst e1; subst e2; rfl
 | n+1,arcs,ex,h1,h2,hf=>by
  obtain ⟨as,a,rfl⟩:∃ as a,arcs=as++[a]:=by
   have hne:arcs≠[]:=fun h=>by simp [h] at h1
   exact ⟨arcs.dropLast,arcs.getLast hne,(List.dropLast_concat_getLast hne).symm⟩
  obtain ⟨xs,l,rfl⟩:∃ xs l,ex=xs++[l]:=by
   have hne:ex≠[]:=fun h=>by simp [h] at h2
   exact ⟨ex.dropLast,ex.getLast hne,(List.dropLast_concat_getLast hne).symm⟩
  simp at h1 h2
  have small:∀ (i:Nat) (b:Arc),(as++[a])[i]? = some b→i < n→as[i]? = some b:=fun i b h hi=>by
   rcases at_append h with h | ⟨h,_⟩
   ·exact h
   ·omega
  have small2:∀ (i:Nat) (b:List Int),(xs++[l])[i]? = some b→i < n→xs[i]? = some b:=fun i b h hi=>by
   rcases at_append h with h | ⟨h,_⟩
   ·exact h
   ·omega
  have ih:=sizes_ex (es:=es) n as xs h1 h2 (fun i b lb e1 e2=>by
   have hi:=(List.getElem?_eq_some_iff.1 e1).1
   rcases hf i b lb (at_left e1) (at_left e2) with h | ⟨q1,q2,q3,q4,q5,p,q,lp,lq,q6,q7,q8,q9,q10⟩
   ·exact .inl h
   ·exact .inr ⟨q1,q2,q3,q4,q5,p,q,lp,lq,small _ _ q6 (by omega),small _ _ q7 (by omega),small2 _ _ q8 (by omega),small2 _ _ q9 (by omega),q10⟩)
  rw [sizesOf_append,ih,sizeStep,List.map_append]
  congr 1
  rcases hf n a l (by rw [← h1]; exact at_last) (by rw [← h2]; exact at_last) with ⟨q1,q2,q3,q4,_⟩ | ⟨q1,q2,q3,q4,q5,p,q,lp,lq,q6,q7,q8,q9,q10⟩
  ·rw [if_neg (by omega),q4]; rfl
  ·rw [if_pos q1]
   have e1:=small2 _ _ q8 (by omega)
   have e2:=small2 _ _ q9 (by omega)
   have:l=lp++lq:=q10.2.2.2.2.2.2
   subst this
   simp [List.getD_eq_getElem?_getD,e1,e2]
theorem walk_cost {es:List Edge} {m:Int} (hc:∀ e∈es,0≤e.cost∧e.cost≤2147483647):∀ {l:List Int} {x y c:Int},Walk es m x l y c→0≤c∧c≤2147483647*l.length
 | [],_,_,_,h=>by obtain ⟨_,rfl⟩:=h; simp
 | k :: l,x,y,c,h=>by
  obtain ⟨e,e1,e2,e3,e4,h⟩:=h
  have:=walk_cost hc h
  have:=hc e (List.mem_of_getElem? e1)
  simp only [List.length_cons]
  omega

theorem zV (N:Nat) (s:BSt) (up:List (List Int)):∀ k,(vH N s up k).length=up.length
 | 0=>rfl
 | k+1=>by
  simp only [vH,stayStep]
  split
  ·exact zV N s up k
  ·rw [List.length_set]; exact zV N s up k
theorem stayAll_at (N:Nat) (s:BSt) (up:List (List Int)):∀ k (v:Nat),v < up.length→(vH N s up k)[v]? = if v < k∧s.gone.getD v false=false then some (zM N s.cur s.gone v N) else up[v]?
 | 0,v,_=>by simp [vH]
 | k+1,v,hv=>by
  have ih:=stayAll_at N s up k v hv
  simp only [vH,stayStep]
  by_cases hk:s.gone.getD k false=true
  ·rw [if_pos hk,ih]
   by_cases hvk:v=k
   ·subst hvk
    rw [if_neg (by omega),if_neg (by rw [hk]; simp)]
   ·by_cases hc:v < k∧s.gone.getD v false=false
    ·rw [if_pos hc,if_pos ⟨by omega,hc.2⟩]
    ·rw [if_neg hc,if_neg (fun h=>hc ⟨by omega,h.2⟩)]
  ·rw [if_neg hk]
   by_cases hvk:v=k
   ·subst hvk
    rw [if_pos ⟨by omega,by simpa using hk⟩]
    have:v < (vH N s up v).length:=by rw [zV]; exact hv
    simp [this]
   ·rw [List.getElem?_set_ne (fun h=>hvk h.symm),ih]
    by_cases hc:v < k∧s.gone.getD v false=false
    ·rw [if_pos hc,if_pos ⟨by omega,hc.2⟩]
    ·rw [if_neg hc,if_neg (fun h=>hc ⟨by omega,h.2⟩)]

structure Built (N:Nat) (es:List Edge) (l:List Int) (h:Hier) (cur:List Int) (ex:List (List Int)):Prop where
 good:Good N es (Went l l.length) (h.arcs,cur) ex
 least:Least N es (Went l l.length) (h.arcs,cur)
 count:h.arcs.length≤N*N*5+l.length*(25*(N*N))
 rankLen:h.rank.length=N
 upLen:h.up.length=N
 downLen:h.down.length=N
 ranked:∀ (j:Nat) v,l[j]? = some v→h.rank[v.toNat]? = some (j:Int)
 unranked:∀ u:Nat,u < N→(u:Int) ∉ l→h.rank[u]? = some (-1)
 rows:∀ (j:Nat) v,l[j]? = some v→∃ u d,h.up[v.toNat]? = some u∧h.down[v.toNat]? = some d∧RowAt h.arcs l j v u d
 stayUp:∀ v:Nat,v < N→(v:Int) ∉ l→∃ u,h.up[v]? = some u∧u.Nodup∧∀ x∈u,∃ a,0≤x∧h.arcs[x.toNat]? = some a∧a.src=v∧a.dst ∉ l
 stayDown:∀ v:Nat,v < N→(v:Int) ∉ l→h.down[v]? = some []
theorem went_all {l:List Int} {u:Int}:Went l l.length u↔u∈l:=by
 constructor
 ·rintro ⟨j,_,h⟩; exact List.mem_of_getElem? h
 ·intro h
  obtain ⟨j,hj,e⟩:=List.getElem_of_mem h
  exact ⟨j,hj,by rw [List.getElem?_eq_getElem hj,e]⟩
theorem built {N:Nat} {es:List Edge} {l:List Int} (hok:EdgesOk N es) (hl:OrderOk N l):∃ cur ex,Built N es l (hierOf N es l) cur ex:=by
 obtain ⟨ex,h⟩:=go_gone hok hl l.length (Nat.le_refl _)
 simp only [hierOf]
 generalize zQ N (yG N es) l l.length=s at *
 have hnot:∀ u:Nat,u < N→(u:Int) ∉ l→s.gone.getD u false=false:=fun u hu hm=>by
  cases hh:s.gone.getD u false with
  | false=>rfl
  | true=>exact absurd (went_all.1 ((h.gone u hu).1 hh)) hm
 refine ⟨s.cur,ex,⟨h.good,h.least,h.count,h.rankLen,by simp only [zV]; exact h.upLen,h.downLen,?_,?_,?_,?_,?_⟩⟩
 ·intro j v hv
  exact h.ranked j v (List.getElem?_eq_some_iff.1 hv).1 hv
 ·intro u hu hm
  exact h.unranked u hu (fun hw=>hm (went_all.1 hw))
 ·intro j v hv
  have hj:=(List.getElem?_eq_some_iff.1 hv).1
  obtain ⟨u,d,r1,r2,r3⟩:=h.rows j v hj hv
  have hb:=hl.bd v (List.mem_of_getElem? hv)
  refine ⟨u,d,?_,r2,r3⟩
  simp only
  rw [stayAll_at _ _ _ _ _ (by rw [h.upLen]; omega),if_neg,r1]
  rintro ⟨_,hg⟩
  rw [(h.gone v.toNat (by omega)).2 ⟨j,hj,by rw [hv]; congr 1; omega⟩] at hg
  cases hg
 ·intro v hv hm
  refine ⟨zM N s.cur s.gone v N,?_,outOf_nodup (s:=(s.arcs,s.cur)) h.good hv,?_⟩
  ·simp only
   rw [stayAll_at _ _ _ _ _ (by rw [h.upLen]; exact hv),if_pos ⟨hv,hnot v hv hm⟩]
  ·intro x hx
   obtain ⟨u,m,hu,hmm,hp,hgu,rfl⟩:=mem_outOf.1 hx
   obtain ⟨a,a1,a2,a3,a4⟩:=h.good.key v u m hv hu hmm hp
   simp only at a1 ⊢
   refine ⟨a,by omega,?_,a2,?_⟩
   ·rw [show (cv N s.cur v u m - 1).toNat=(cv N s.cur v u m).toNat - 1 by omega]; exact a1
   ·rw [a3]
    intro hml
    rw [(h.gone u hu).2 (went_all.2 hml)] at hgu
    cases hgu
 ·intro v hv hm
  exact (h.stays v hv (fun hw=>hm (went_all.1 hw))).2

theorem rank_at {N:Nat} {es:List Edge} {l:List Int} {h:Hier} {cur:List Int} {ex:List (List Int)} (hb:Built N es l h cur ex) {u:Nat} (hu:u < N):(∃ j:Nat,l[j]? = some (u:Int)∧h.rank[u]? = some (j:Int))∨((u:Int) ∉ l∧h.rank[u]? = some (-1)):=by
 by_cases hm:(u:Int)∈l
 ·obtain ⟨j,hj,e⟩:=List.getElem_of_mem hm
  have hj':l[j]? = some (u:Int):=by rw [List.getElem?_eq_getElem hj,e]
  exact .inl ⟨j,hj',by simpa using hb.ranked j u hj'⟩
 ·exact .inr ⟨hm,hb.unranked u hu hm⟩
theorem above_of {N:Nat} {es:List Edge} {l:List Int} {h:Hier} {cur:List Int} {ex:List (List Int)} (hl:OrderOk N l) (hb:Built N es l h cur ex) {j:Nat} {v u:Int} (hv:l[j]? = some v) (hu:0≤u∧u < N) (hne:u≠v) (hw:¬ Went l j u):uT h.rank u v:=by
 have hvr:=hb.ranked j v hv
 unfold uT
 rcases rank_at hb (u:=u.toNat) (by omega) with ⟨i,i1,i2⟩ | ⟨_,i2⟩
 ·right
  rw [yS i2,yS hvr]
  have e:((u.toNat:Nat):Int)=u:=by omega
  rw [e] at i1
  have h1:¬ i < j:=fun h=>hw ⟨i,h,i1⟩
  have h2:i≠j:=fun h=>by
   subst h
   rw [hv] at i1; injection i1 with i1
   exact hne i1.symm
  omega
 ·left
  rw [yS i2]; omega
theorem built_allowed {N:Nat} {es:List Edge} {l:List Int} {h:Hier} {cur:List Int} {ex:List (List Int)} (hnet:NetOk N es) (hl:OrderOk N l) (hN:N≤21) (hb:Built N es l h cur ex):Allowed ⟨N,es,h.rank,h.arcs,h.up,h.down⟩:=by
 obtain ⟨n1,n2,n3,n4⟩:=hnet
 have hlen:=wO N l hl.nodup hl.bd
 have hrow:∀ {v:Nat},v < N→(∃ j:Nat,l[j]? = some (v:Int))∨(v:Int) ∉ l:=fun {v} hv=>by
  by_cases hm:(v:Int)∈l
  ·obtain ⟨j,hj,e⟩:=List.getElem_of_mem hm
   exact .inl ⟨j,by rw [List.getElem?_eq_getElem hj,e]⟩
  ·exact .inr hm
 have hex:∀ (i:Nat) a,h.arcs[i]? = some a→∃ lx,ex[i]? = some lx:=fun i a ha=>⟨_,List.getElem?_eq_getElem (by rw [hb.good.exLen]; exact (List.getElem?_eq_some_iff.1 ha).1)⟩
 have hshort:∀ (i:Nat) a lx,h.arcs[i]? = some a→ex[i]? = some lx→lx.length≤N+1:=by
  intro i a lx ha hx
  obtain ⟨w1,w2,w3,w4⟩:=hb.good.walk i a lx ha hx
  have h1:=wO N (mids es lx) w3 (fun x hx'=>hl.bd x (went_all.1 (w4 x hx')))
  simp [mids] at h1
  omega
 refine ⟨⟨n1,n2,n3,n4⟩,by simp [hb.rankLen],by simp [hb.rankLen,hb.upLen],by simp [hb.rankLen,hb.downLen],⟨⟨l.length,?_,?_⟩,?_⟩,?_,?_,?_,?_,?_⟩
 ·intro r hr
  obtain ⟨u,hu,e⟩:=List.getElem_of_mem hr
  simp only at hu e
  have hr':h.rank[u]? = some r:=by rw [List.getElem?_eq_getElem hu,e]
  rcases rank_at hb (u:=u) (by rw [← hb.rankLen]; exact hu) with ⟨i,i1,i2⟩ | ⟨_,i2⟩
  ·rw [hr'] at i2; injection i2 with i2
   have:=(List.getElem?_eq_some_iff.1 i1).1
   right; omega
  ·rw [hr'] at i2; injection i2 with i2
   left; exact i2
 ·intro j hj
  have hv:l[j]? = some l[j]:=by simp [hj]
  exact List.mem_of_getElem? (hb.ranked j _ hv)
 ·intro i j r hr h1 h2
  simp only at h1 h2
  have b1:=(List.getElem?_eq_some_iff.1 h1).1
  have b2:=(List.getElem?_eq_some_iff.1 h2).1
  rw [hb.rankLen] at b1 b2
  rcases rank_at hb b1 with ⟨x,x1,x2⟩ | ⟨_,x2⟩
  ·rcases rank_at hb b2 with ⟨y,y1,y2⟩ | ⟨_,y2⟩
   ·rw [h1] at x2; rw [h2] at y2
    injection x2 with x2; injection y2 with y2
    have:x=y:=by omega
    subst this
    rw [x1] at y1; injection y1 with y1
    omega
   ·rw [h2] at y2; injection y2 with y2; omega
  ·rw [h1] at x2; injection x2 with x2; omega
 ·have c:=hb.count
  have k1:N*N≤441:=by
   have:=Nat.mul_le_mul hN hN
   omega
  have k2:l.length*(25*(N*N))≤21*(25*(N*N)):=Nat.mul_le_mul (by omega) (Nat.le_refl _)
  simp only
  omega
 ·intro i a ha
  simp only at ha
  obtain ⟨lx,hx⟩:=hex i a ha
  obtain ⟨w1,w2,w3,w4⟩:=hb.good.walk i a lx ha hx
  have hcost:=walk_cost (fun e he=>(n4 e he).2.2.2) w2
  have hs:=hshort i a lx ha hx
  refine ⟨⟨hcost.1,by omega⟩,?_⟩
  rcases hb.good.form i a lx ha hx with ⟨q1,q2,q3,q4,e,e1,e2,e3,e4,e5⟩ | ⟨q1,q2,q3,q4,q5,p,q,lp,lq,q6,q7,q8,q9,q10⟩
  ·refine .inl ⟨q1,q2,q3,?_⟩
   rw [e1,← e2,← e3,← e4,← e5]
  ·exact .inr ⟨q1,q2,q3,q4,q5,p,q,q6,q7,q10.1,q10.2.1,q10.2.2.1,q10.2.2.2.1,q10.2.2.2.2.1,q10.2.2.2.2.2.1⟩
 ·intro s hs
  rw [sizes_ex (es:=es) h.arcs.length h.arcs ex rfl hb.good.exLen hb.good.form] at hs
  obtain ⟨lx,hlx,rfl⟩:=List.mem_map.1 hs
  obtain ⟨i,hi,e⟩:=List.getElem_of_mem hlx
  have hx:ex[i]? = some lx:=by rw [List.getElem?_eq_getElem hi,e]
  have hi2:i < h.arcs.length:=by have:=hb.good.exLen; simp only at this; omega
  have:=hshort i _ lx (List.getElem?_eq_getElem hi2) hx
  omega
 ·intro v lv hlv
  simp only at hlv
  have hv:v < N:=by
   have:=(List.getElem?_eq_some_iff.1 hlv).1
   rw [hb.upLen] at this; exact this
  rcases hrow hv with ⟨j,hj⟩ | hm
  ·obtain ⟨u,d,r1,r2,r3⟩:=hb.rows j v hj
   rw [Int.toNat_natCast,hlv] at r1
   injection r1 with r1; subst r1
   refine ⟨r3.upNodup,fun x hx=>?_⟩
   obtain ⟨a,a1,a2,a3,a4⟩:=r3.up x hx
   refine ⟨a1,a,a2,a3,?_⟩
   by_cases hd:a.dst=v
   ·exact .inl hd
   ·exact .inr (above_of hl hb hj (hb.good.ends _ _ a2).2.1 hd a4)
  ·obtain ⟨u,r1,r2,r3⟩:=hb.stayUp v hv hm
   rw [hlv] at r1
   injection r1 with r1; subst r1
   refine ⟨r2,fun x hx=>?_⟩
   obtain ⟨a,a1,a2,a3,a4⟩:=r3 x hx
   refine ⟨a1,a,a2,a3,?_⟩
   have hd:=(hb.good.ends _ _ a2).2.1
   rcases rank_at hb (u:=a.dst.toNat) (by omega) with ⟨i,i1,_⟩ | ⟨_,i2⟩
   ·rw [show ((a.dst.toNat:Nat):Int)=a.dst by omega] at i1
    exact absurd (List.mem_of_getElem? i1) a4
   ·right; left
    rw [yS i2]; omega
 ·intro v lv hlv
  simp only at hlv
  have hv:v < N:=by
   have:=(List.getElem?_eq_some_iff.1 hlv).1
   rw [hb.downLen] at this; exact this
  rcases hrow hv with ⟨j,hj⟩ | hm
  ·obtain ⟨u,d,r1,r2,r3⟩:=hb.rows j v hj
   rw [Int.toNat_natCast,hlv] at r2
   injection r2 with r2; subst r2
   refine ⟨r3.downNodup,fun x hx=>?_⟩
   obtain ⟨a,a1,a2,a3,a4,a5⟩:=r3.down x hx
   have hvr:=hb.ranked j v hj
   refine ⟨a1,a,a2,a3,a4,?_,above_of hl hb hj (hb.good.ends _ _ a2).1 a4 a5⟩
   rw [yS hvr]; omega
  ·rw [hb.stayDown v hv hm] at hlv
   injection hlv with hlv; subst hlv
   exact ⟨by simp,fun x hx=>by simp at hx⟩
end Go.Proofs.YtknhlpmmalcchaaGreat

/- What holds in the midst of a vertex's going: for the walk through Build. Nothing of a program stands here. -/
namespace Go.Proofs.YtknhlpmmalcchaaGreat

theorem goes_mid {N:Nat} {es:List Edge} {G:Int→Prop} {v:Nat} {s0:AC} {ex0:List (List Int)} {gone:List Bool} (hc:∀ e∈es,0≤e.cost) (hg0:Good N es G s0 ex0) (hl0:Least N es G s0) (hv:¬ G v) (hvN:v < N) (hG:∀ u:Nat,u < N→(gone.getD u false=true↔G u))
  (ps:List (Int × Int)) (hps:∀ p∈ps,p.1∈vI N s0.2 gone v N∧p.2∈zM N s0.2 gone v N):∃ ex,Mid N es G v s0 ex0 ps (zB N s0 ps) ex:=by
 have hGf:∀ u:Nat,u < N→gone.getD u false=false→¬ G u:=fun u hu h hg=>by rw [(hG u hu).2 hg] at h; cases h
 have start:Mid N es G v s0 ex0 [] s0 ex0:=⟨hg0.mono fun _ h=>.inl h,fun _ _ h=>h,fun _ _ h=>h,fun _ _ _ _ _ _ _ h=>h,fun _ _ _ _ _ _ _=>rfl,by simp,by simp⟩
 have all:=foldl_inv (P:=fun done s=>∃ ex,Mid N es G v s0 ex0 done s ex) (f:=uN N) ps [] s0 ⟨ex0,start⟩ (by
  rintro d p s hp ⟨ex,hm⟩
  obtain ⟨hi,hj⟩:=hps p hp
  obtain ⟨p1,p2⟩:=p
  simp only at hi hj
  obtain ⟨u,mu,hu,huv,hmu,hk,hgu,rfl⟩:=mem_inOf.1 hi
  obtain ⟨w,mw,hw,hmw,hk2,hgw,rfl⟩:=mem_outOf.1 hj
  obtain ⟨x,x1,x2,x3,x4⟩:=hg0.key u v mu hu hvN hmu hk
  obtain ⟨y,y1,y2,y3,y4⟩:=hg0.key v w mw hvN hw hmw hk2
  refine hm.step (x:=x) (y:=y) hc hg0 hl0 hv ⟨by simp only; omega,by simp only; omega⟩ ?_ ?_ x3 (by rw [x2]; exact hGf u hu hgu) (by omega) y2 (by rw [y3]; exact hGf w hw hgw)
  ·simp only; rw [show (cv N s0.2 u v mu - 1).toNat=(cv N s0.2 u v mu).toNat - 1 by omega]; exact x1
  ·simp only; rw [show (cv N s0.2 v w mw - 1).toNat=(cv N s0.2 v w mw).toNat - 1 by omega]; exact y1)
 rw [List.nil_append] at all
 exact all
theorem Good.fits {N:Nat} {es:List Edge} {G:Int→Prop} {s:AC} {ex:List (List Int)} (hg:Good N es G s ex) (hc:∀ e∈es,0≤e.cost∧e.cost≤2147483647) (hG:∀ g,G g→0≤g∧g < N) (hN:N≤1000) {i:Nat} {a:Arc} (ha:s.1[i]? = some a):a.Fits N:=by
 obtain ⟨h1,h2,h3⟩:=hg.ends i a ha
 obtain ⟨l,hl⟩:∃ l,ex[i]? = some l:=⟨_,List.getElem?_eq_getElem (by rw [hg.exLen]; exact (List.getElem?_eq_some_iff.1 ha).1)⟩
 obtain ⟨w1,w2,w3,w4⟩:=hg.walk i a l ha hl
 have c:=walk_cost hc w2
 have f:=wO N _ w3 (fun x hx=>hG x (w4 x hx))
 simp [mids] at f
 exact ⟨h1,h2,h3,c.1,by omega⟩
theorem went_bd {N:Nat} {l:List Int} (hl:OrderOk N l) {k:Nat} {g:Int} (h:Went l k g):0≤g∧g < N:=by
 obtain ⟨j,_,h⟩:=h
 exact hl.bd g (List.mem_of_getElem? h)
theorem shorts_one (N:Nat) (s:AC) (a:List (Int × Int)) (p:Int × Int):zB N s (a++[p])=uN N (zB N s a) p:=by simp [zB]
theorem shortStep_at {N:Nat} {S:AC} {p:Int × Int} {x y:Arc} (hx:S.1[p.1.toNat]? = some x) (hy:S.1[p.2.toNat]? = some y):uN N S p=match wR N S.2 S.1 p.1.toNat p.2.toNat x y with | none=>S | some a=>vL N S a:=by
 unfold uN
 rw [yS hx,yS hy]
 try rfl
theorem pairs_append (a b u:List Int):vA (a++b) u=vA a u++vA b u:=by simp [vA]
def yK (down up:List Int) (i j:Nat):List (Int × Int):=vA (down.take i) up++((up.take j).map fun b=>(down.getD i 0,b))
theorem pairsAt_row {down up:List Int} {i:Nat} (hi:i < down.length):yK down up i up.length=yK down up (i+1) 0:=by
 simp only [yK,List.take_length,List.take_zero,List.map_nil,List.append_nil]
 rw [List.take_succ_eq_append_getElem hi,pairs_append]
 simp [vA,hi]
theorem pairsAt_one {down up:List Int} {i j:Nat} (hj:j < up.length):yK down up i (j+1)=yK down up i j++[(down.getD i 0,up[j])]:=by
 simp only [yK]
 rw [List.take_succ_eq_append_getElem hj,List.map_append,List.append_assoc]
 rfl
theorem pairsAt_all (down up:List Int):yK down up down.length 0=vA down up:=by simp [yK]
theorem pairsAt_mem {down up:List Int} {i j:Nat} (hi:i < down.length∨j=0) {p:Int × Int} (hp:p∈yK down up i j):p.1∈down∧p.2∈up:=by
 simp only [yK,vA,List.mem_append,List.mem_flatMap,List.mem_map] at hp
 rcases hp with ⟨a,ha,b,hb,rfl⟩ | ⟨b,hb,rfl⟩
 ·exact ⟨List.mem_of_mem_take ha,hb⟩
 ·refine ⟨?_,List.mem_of_mem_take hb⟩
  rcases hi with hi | hi
  ·simp [hi]
  ·subst hi; simp at hb
theorem pairsAt_length {down up:List Int} {i j:Nat}:(yK down up i j).length≤down.length*up.length+up.length:=by
 simp only [yK,List.length_append,pairs_length,List.length_map,List.length_take]
 have:min i down.length*up.length≤down.length*up.length:=Nat.mul_le_mul (Nat.min_le_right _ _) (Nat.le_refl _)
 omega
end Go.Proofs.YtknhlpmmalcchaaGreat
