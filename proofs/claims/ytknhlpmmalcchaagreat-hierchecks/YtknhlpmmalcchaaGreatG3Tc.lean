/- Steps of the walk. -/
import Derived.Test.YtknhlpmmalcchaaGreatG3Tb
import Derived.Test.YtknhlpmmalcchaaGreatG3Vba
import Derived.Test.YtknhlpmmalcchaaGreatG3Pa
set_option linter.all false
set_option linter.unusedVariables false
set_option linter.unusedSimpArgs false
namespace Go.Proofs.YtknhlpmmalcchaaGreat
open Go Go.VAI Go.RowKit
set_option linter.unusedSimpArgs false

theorem exec_range {a:Act} {w w':World} {v:Value} (h:(Instr.range 61 (a.tmps.getD 13 undef)).run Tryz.prog w=.ok v w'):(execOp a.eval m92range_o).run Tryz.prog w=.ok (.value v) w':=by
 simp only [execOp,m92range_op]
 rw [Array.getD_eq_getD_getElem?] at h
 simp [Act.eval,h]
theorem exec_next {a:Act} {w w':World} {v:Value} (h:(Instr.next (a.tmps.getD 14 undef) false m92next_o.type).run Tryz.prog w=.ok v w'):(execOp a.eval m92next_o).run Tryz.prog w=.ok (.value v) w':=by
 simp only [execOp,m92next_op]
 rw [Array.getD_eq_getD_getElem?] at h
 simp [Act.eval,h]
theorem exec_entry {a:Act} {w w':World} {v:Value} (h:(Instr.entry (a.tmps.getD 14 undef)).run Tryz.prog w=.ok v w'):(execOp a.eval m92entry_o).run Tryz.prog w=.ok (.value v) w':=by
 simp only [execOp,m92entry_op]
 rw [Array.getD_eq_getD_getElem?] at h
 simp [Act.eval,h]
def l92 (x0 x1 x5 x14:AVal):xJ:=x0 :: x1 :: xP 3 (x5 :: xP 8 (x14 :: xP 31 []))
theorem l92_eq (x0 x1 x5 x14:AVal):l92 x0 x1 x5 x14=tset (tset (tset (tset (List.replicate 46 .bot) 0 x0) 1 x1) 5 x5) 14 x14:=rfl
theorem trel92 {ρ:Ren} {x0 x1 x5 x14:AVal} {T:Array Value} (hs:T.size=46) (h0:VRel ρ x0 (T.getD 0 undef)) (h1:VRel ρ x1 (T.getD 1 undef)) (h5:VRel ρ x5 (T.getD 5 undef)) (h14:VRel ρ x14 (T.getD 14 undef)):TRel ρ (l92 x0 x1 x5 x14) T:=by
 refine ⟨by rw [hs]; rfl,fun i=>?_⟩
 rw [l92_eq,vQ,vQ,vQ,vQ,tget_bots]
 simp only [uL,List.length_replicate]
 by_cases i14:14=i
 ·subst i14; rw [if_pos ⟨rfl,by omega⟩]; exact h14
 rw [if_neg (fun e=>i14 e.1)]
 by_cases i5:5=i
 ·subst i5; rw [if_pos ⟨rfl,by omega⟩]; exact h5
 rw [if_neg (fun e=>i5 e.1)]
 by_cases i1:1=i
 ·subst i1; rw [if_pos ⟨rfl,by omega⟩]; exact h1
 rw [if_neg (fun e=>i1 e.1)]
 by_cases i0:0=i
 ·subst i0; rw [if_pos ⟨rfl,by omega⟩]; exact h0
 rw [if_neg (fun e=>i0 e.1)]
 simp only [VRel]
structure In92 (ρ2:Ren) (Hz:AHeap) (r bm:Nat) (ents:Array MapEntry) (clock:Nat) (w1:World) (b it:Nat) (fv:AVal) (p:Key→Bool) (es:List (Key × Int)) (seen:Array Nat) (ks:List Key) (a:Act) (W:World):Prop where
 defers:a.defers=[]
 hz:HRel ρ2 (r+1) Hz W
 beneath:Beneath r w1 W
 iter:W.heap[r]? = some (.mapIter (some bm) clock seen clock)
 nodup:ks.Nodup
 mem:∀ k,k∈ks↔∃ (i:Nat) (e:MapEntry) (x:Int),ents[i]? = some e∧es[i]? = some (k,x)∧seen.contains e.born=true∧p k=true
 keys:∃ (ρc:Ren) (Hc:AHeap) (kv:AVal),TRel ρc (l92 (.ptr b 0) fv kv (.ptr it 0)) a.tmps∧HRel ρc (r+1) Hc W ∧
  ((ks=[]∧kv=.nilSlice∧ρc=ρ2∧Hc=Hz)∨(ks≠[]∧∃ l,kv=.slice Hz.next 0 ks.length (.room 3)∧ρc=xT ρ2 Hz.next l∧Hc=Hz.new (.cells (xZ ks) true)))
theorem HRel.world' {ρ:Ren} {B:Nat} {H:AHeap} {w w':World} (h:HRel ρ B H w) (hs:w.heap.size≤w'.heap.size) (hb:∀ id l o,ρ id=some l→H.obj id=some o→w'.heap[l.b]? = w.heap[l.b]?):HRel ρ B H w' :=
 ⟨fun id l e=>⟨(h.dom id l e).1,Nat.lt_of_lt_of_le (h.dom id l e).2 hs⟩,fun id l o e1 e2=>(h.obj id l o e1 e2).mono (.refl _) (hb id l o e1 e2),h.inj,Nat.le_trans h.base hs,h.top⟩
def frz (H:AHeap):AHeap:=⟨fun i=>match H.obj i with | some (.cells c _)=>some (.cells c false) | _=>none,H.next+1⟩
theorem frz_some {H:AHeap} {id:Nat} {o:AObj} (h:(frz H).obj id=some o):∃ c rw,H.obj id=some (.cells c rw)∧o=.cells c false:=by
 unfold frz at h
 simp only at h
 split at h
 ·rename_i c rw e
  injection h with h
  exact ⟨c,rw,e,h.symm⟩
 ·cases h
theorem frz_cells {H:AHeap} {id:Nat} {c:List AVal} (h:H.cells? id=some c):(frz H).obj id=some (.cells c false):=by
 unfold AHeap.cells? at h
 unfold frz
 simp only
 split at h
 ·rename_i c' rw e
  injection h with h; subst h
  rw [e]
 ·cases h
theorem frz_rel {ρ:Ren} {B:Nat} {H:AHeap} {w:World} (hH:HRel ρ B H w) (o:Obj) (hno:ρ H.next=none):HRel (xT ρ H.next ⟨w.heap.size,0,0⟩) (w.heap.size+1) (frz H) (w.alloc o):=by
 have hle:=zI (l:=(⟨w.heap.size,0,0⟩:Go.VAI.Loc)) hno
 have htop:H.obj H.next=none:=hH.top _ (Nat.le_refl _)
 refine ⟨fun id l e=>?_,fun id l o' e1 e2=>?_,fun id id' l l' o1 o2 e1 e2 hne h1 h2 h3 h4=>?_,by rw [World.size_alloc]; exact Nat.le_refl _,fun id hid=>?_⟩
 ·unfold xT at e
  split at e
  ·rename_i he
   injection e with e; subst e; subst he
   exact ⟨Nat.lt_succ_self _,by rw [World.size_alloc]; exact Nat.lt_succ_self _⟩
  ·have:=hH.dom id l e
   exact ⟨Nat.lt_succ_of_lt this.1,by rw [World.size_alloc]; omega⟩
 ·obtain ⟨c,rw',e3,rfl⟩:=frz_some e2
  unfold xT at e1
  split at e1
  ·rename_i he
   subst he
   rw [htop] at e3; cases e3
  ·have hd:=(hH.dom id l e1).2
   have hc:CRel ρ w l c:=by
    have h:=hH.obj id l _ e1 e3
    cases rw' with
    | false=>exact h.2
    | true=>exact h.2.1
   exact ⟨Nat.lt_succ_of_lt hd,hc.mono hle (Below.heap_alloc _ _ _ hd)⟩
 ·obtain ⟨c,rw',_,rfl⟩:=frz_some h1
  cases h3
 ·unfold frz
  simp only
  rw [hH.top id (Nat.le_of_succ_le hid)]
end Go.Proofs.YtknhlpmmalcchaaGreat

namespace Go.Proofs.YtknhlpmmalcchaaGreat
open Go Go.VAI
set_option linter.unusedSimpArgs false

theorem rest92 {m:Nat} {down:Bool} (hm:(m=36∨m=64)∧down=false∨m=65∧down=true) {H0 Hz Hc:AHeap} {caps:List AVal} {k:Key} {pk:Bool} (hp:mayOf down H0 caps k=some pk)
  (hfr:∀ id c,H0.cells? id=some c→Hz.obj id=some (.cells c false)∧id < Hz.next) {b it:Nat} {ks:List Key} {kv x15 x16 x17 x18:AVal} {R:AExit→xJ→AHeap→Prop}
  (hz:∀ id,id < Hz.next→Hc.obj id=Hz.obj id) (hzn:Hz.next≤Hc.next) (hk:Own Hz.next Hc kv 3 (xZ ks)) (hks:ks.length≤100000) (hsh:(ks=[]∧kv=.nilSlice)∨(ks≠[]∧∃ j,kv=.slice j 0 ks.length (.room 3)∧Hz.next≤j∧Hc.obj j=some (.cells (xZ ks) true)))
  (hR:∀ kv' H' t',(∀ id,id < Hz.next→H'.obj id=Hz.obj id)→Hz.next≤H'.next →
   (((if pk then ks++[k] else ks)=[]∧kv'=.nilSlice)∨((if pk then ks++[k] else ks)≠[]∧∃ j,kv'=.slice j 0 (if pk then ks++[k] else ks).length (.room 3)∧Hz.next≤j∧H'.obj j=some (.cells (xZ (if pk then ks++[k] else ks)) true))) →
   yA t' 0=.ptr b 0→yA t' 1=.func (.func m) [] caps→yA t' 5=kv'→yA t' 14=.ptr it 0→t'.length=46→R .normal t' H') :
  wpx (Ret A) c92rest (.ptr b 0 :: .func (.func m) [] caps :: xP 3 (kv :: .ptr Hc.next 0 :: xP 7 (.ptr it 0 :: x15 :: x16 :: x17 :: x18 :: xP 27 []))) (Hc.new (.cells [.int .i64 k.1,.int .i64 k.2.1,.int .i64 k.2.2] true)) R:=by
 simp (disch:=first | omega | (simp only [nx] <;> omega) | fail) only [vaw,c92rest,Nat.reduceAdd,Nat.reduceMul,Nat.reduceLeDiff,Nat.reduceEqDiff,↓reduceIte]
 refine may_ret (k:=k) hm hp (fun id c hc=>?_) fun H2 k2=>?_
 ·obtain ⟨f1,f2⟩:=hfr id c hc
  refine ⟨by simp only [xB]; omega,false,?_⟩
  rw [xX (by omega),hz id f2]
  exact f1
 ·have n2:=k2.next
  simp only [xB] at n2
  have kH:Keep Nothing Hc H2:=((Keep.refl _ _).new _).trans k2
  have q2:H2.obj Hc.next=some (.cells [.int .i64 k.1,.int .i64 k.2.1,.int .i64 k.2.2] true):=by
   rw [k2.old (by simp only [xB]; omega)]
   exact yB rfl
  cases pk with
  | true =>
   simp only [if_true] at hR
   have hl:(xZ ks).length=ks.length*3:=yI ks
   simp (disch:=first | omega | (simp only [nx] <;> omega) | fail) only [vaw,q2,Nat.reduceAdd,Nat.reduceMul,Nat.reduceLeDiff,Nat.reduceEqDiff,↓reduceIte]
   refine vK (n:=ks.length) (k:=1) (hk.kept kH) (by simp (disch:=first | omega | (simp only [nx] <;> omega) | fail) only [xI]; rfl) rfl (by omega) (by omega) hl (by omega) (by omega) ?_
   intro v6 H6 n6 k6 g6 s6
   simp only [xB] at n6 k6 s6
   have c6:=g6.cells
   simp (disch:=first | omega | (simp only [nx] <;> omega) | fail) only [vaw,c6,Nat.reduceAdd,Nat.reduceMul,Nat.reduceLeDiff,Nat.reduceEqDiff,↓reduceIte]
   have hkc:xZ (ks++[k])=xZ ks++[.int .i64 k.1,.int .i64 k.2.1,.int .i64 k.2.2]:=by simp [xZ,yC]
   refine hR v6 H6 _ (fun id hid=>?_) (by omega) (.inr ⟨by simp,?_⟩) rfl rfl rfl rfl rfl
   ·rw [k6 id (by omega) (fun e=>by have:=((hk.kept kH).sid_ge e).1; omega),xX (by omega),kH.old (by omega)]
    exact hz id hid
   ·rw [hkc]
    obtain ⟨cs6,hcs6⟩:∃ cs6,cs6=xZ ks++[AVal.int .i64 k.1,.int .i64 k.2.1,.int .i64 k.2.2]:=⟨_,rfl⟩
    rw [← hcs6] at g6 ⊢
    have hl6:=congrArg List.length hcs6
    rw [List.length_append,hl] at hl6
    simp only [List.length_cons,List.length_nil] at hl6
    cases g6 with
    | nil=>simp at hl6
    | mk hlo hhi ho hlen =>
     rename_i id6 len6
     refine ⟨id6,?_,hlo,ho⟩
     have:len6=(ks++[k]).length:=by simp; omega
     rw [this]
  | false =>
   simp only [Bool.false_eq_true,if_false] at hR
   simp (disch:=first | omega | (simp only [nx] <;> omega) | fail) only [vaw,q2,Nat.reduceAdd,Nat.reduceMul,Nat.reduceLeDiff,Nat.reduceEqDiff,↓reduceIte]
   refine hR kv H2 _ (fun id hid=>by rw [kH.old (by omega)]; exact hz id hid) (by omega) ?_ rfl rfl rfl rfl rfl
   rcases hsh with h | ⟨h0,j,h1,h2,h3⟩
   ·exact .inl h
   ·refine .inr ⟨h0,j,h1,h2,?_⟩
    have hj:j < Hc.next:=(hk.sid_ge (by rw [h1]; rfl)).2
    rw [kH.old hj]
    exact h3
end Go.Proofs.YtknhlpmmalcchaaGreat

namespace Go.Proofs.YtknhlpmmalcchaaGreat
open Go Go.VAI
set_option linter.unusedSimpArgs false

structure Base92 (m:Nat) (down:Bool) (H0:AHeap) (caps:List AVal) (ρ2:Ren) (Hz:AHeap) (r bm:Nat) (ents:Array MapEntry) (clock:Nat) (w1:World) (b it:Nat) (p:Key→Bool) (es:List (Key × Int)):Prop where
 hm:(m=36∨m=64)∧down=false∨m=65∧down=true
 map:w1.heap[bm]? = some (.map ents clock)
 lt:bm < r
 born:BornOk ents clock
 size:ents.size=es.length
 key:∀ (i:Nat) (k:Key) (x:Int),es[i]? = some (k,x)→∃ e:MapEntry,ents[i]? = some e∧VRel ρ2 (.agg (yC k)) e.key
 it_:ρ2 it=some ⟨r,0,0⟩
 itn:it < Hz.next
 u0:∃ u,VRel ρ2 (.ptr b 0) u
 u1:∃ u,VRel ρ2 (.func (.func m) [] caps) u
 old:∀ id l o,ρ2 id=some l→Hz.obj id=some o→l.b < r
 may:∀ e∈es,mayOf down H0 caps e.1=some (p e.1)
 fr:∀ id c,H0.cells? id=some c→Hz.obj id=some (.cells c false)∧id < Hz.next
 nodup:(es.map Prod.fst).Nodup
 few:es.length≤100000
 none_:ρ2 Hz.next=none

theorem nodup_at {α:Type} {l:List α} (h:l.Nodup) {i j:Nat} {a:α} (hi:l[i]? = some a) (hj:l[j]? = some a):i=j:=by
 obtain ⟨g1,g2⟩:=List.getElem?_eq_some_iff.1 hi
 obtain ⟨g3,g4⟩:=List.getElem?_eq_some_iff.1 hj
 have hp:=List.pairwise_iff_getElem.1 (List.nodup_iff_pairwise_ne.1 h)
 rcases Nat.lt_trichotomy i j with hlt | heq | hlt
 ·exact absurd (g2.trans g4.symm) (hp i j g1 g3 hlt)
 ·exact heq
 ·exact absurd (g4.trans g2.symm) (hp j i g3 g1 hlt)
theorem nodup_few {α:Type} [DecidableEq α]:∀ {a b:List α},a.Nodup→(∀ x∈a,x∈b)→a.length≤b.length
 | [],b,_,_=>Nat.zero_le _
 | x :: l,b,hn,hs=>by
  have hx:=hs x List.mem_cons_self
  have hn':=List.nodup_cons.1 hn
  have:=nodup_few (a:=l) (b:=b.erase x) hn'.2 (fun y hy=>by
   have hne:y≠x:=fun e=>by subst e; exact hn'.1 hy
   exact (List.mem_erase_of_ne hne).2 (hs y (List.mem_cons_of_mem _ hy)))
  rw [List.length_erase_of_mem hx] at this
  have hb:0 < b.length:=List.length_pos_of_mem hx
  simp only [List.length_cons]
  omega
theorem In92.len {m:Nat} {down:Bool} {H0:AHeap} {caps:List AVal} {ρ2:Ren} {Hz:AHeap} {r bm:Nat} {ents:Array MapEntry} {clock:Nat} {w1:World} {b it:Nat} {p:Key→Bool} {es:List (Key × Int)} (B:Base92 m down H0 caps ρ2 Hz r bm ents clock w1 b it p es) {fv:AVal} {seen:Array Nat} {ks:List Key} {a:Act} {W:World}
  (h:In92 ρ2 Hz r bm ents clock w1 b it fv p es seen ks a W):ks.length≤es.length:=by
 have hs:∀ k∈ks,k∈es.map Prod.fst:=fun k hk=>by
  obtain ⟨i,e,x,_,h2,_,_⟩:=(h.mem k).1 hk
  exact List.mem_map.2 ⟨(k,x),List.mem_of_getElem? h2,rfl⟩
 have:=nodup_few h.nodup hs
 simpa using this
theorem seen_next {m:Nat} {down:Bool} {H0:AHeap} {caps:List AVal} {ρ2:Ren} {Hz:AHeap} {r bm:Nat} {ents:Array MapEntry} {clock:Nat} {w1:World} {b it:Nat} {p:Key→Bool} {es:List (Key × Int)} (B:Base92 m down H0 caps ρ2 Hz r bm ents clock w1 b it p es) {seen:Array Nat} {ks:List Key}
  (hnd:ks.Nodup) (hmem:∀ k,k∈ks↔∃ (i:Nat) (e:MapEntry) (x:Int),ents[i]? = some e∧es[i]? = some (k,x)∧seen.contains e.born=true∧p k=true) {e:MapEntry} (he:seen.contains e.born=false) {i0:Nat} {k0:Key} {x0:Int} (h1:ents[i0]? = some e) (h2:es[i0]? = some (k0,x0)) :
  (if p k0 then ks++[k0] else ks).Nodup∧∀ k,k∈(if p k0 then ks++[k0] else ks)↔∃ (i:Nat) (e':MapEntry) (x:Int),ents[i]? = some e'∧es[i]? = some (k,x)∧(seen.push e.born).contains e'.born=true∧p k=true:=by
 have inj:∀ (i j:Nat) (a c:MapEntry),ents[i]? = some a→ents[j]? = some c→a.born=c.born→i=j:=fun i j a c ha hc hac=>by
  refine nodup_at (a:=c.born) B.born.2 ?_ ?_
  ·rw [List.getElem?_map,Array.getElem?_toList,ha,← hac]; rfl
  ·rw [List.getElem?_map,Array.getElem?_toList,hc]; rfl
 have kinj:∀ (i j:Nat) (k:Key) (x y:Int),es[i]? = some (k,x)→es[j]? = some (k,y)→i=j:=fun i j k x y ha hc=>by
  refine nodup_at (a:=k) B.nodup ?_ ?_
  ·rw [List.getElem?_map,ha]; rfl
  ·rw [List.getElem?_map,hc]; rfl
 have hnew:k0 ∉ ks:=fun hk=>by
  obtain ⟨i,e',x,g1,g2,g3,_⟩:=(hmem k0).1 hk
  have:=kinj i i0 k0 x x0 g2 h2
  subst this
  rw [h1] at g1; injection g1 with g1; subst g1
  rw [he] at g3; cases g3
 have cont:∀ (y:Nat),(seen.push e.born).contains y=(seen.contains y || y == e.born):=fun y=>contains_push seen e.born y
 cases hp:p k0 with
 | true =>
  simp only [if_true]
  refine ⟨?_,fun k=>?_⟩
  ·rw [List.nodup_append]
   exact ⟨hnd,by simp,fun a ha c hc e=>by simp at hc; subst hc; subst e; exact hnew ha⟩
  ·rw [List.mem_append,List.mem_singleton]
   constructor
   ·rintro (hk | rfl)
    ·obtain ⟨i,e',x,g1,g2,g3,g4⟩:=(hmem k).1 hk
     exact ⟨i,e',x,g1,g2,by rw [cont,g3]; rfl,g4⟩
    ·exact ⟨i0,e,x0,h1,h2,by rw [cont,beq_self_eq_true,Bool.or_true],hp⟩
   ·rintro ⟨i,e',x,g1,g2,g3,g4⟩
    rw [cont,Bool.or_eq_true,beq_iff_eq] at g3
    rcases g3 with g3 | g3
    ·exact .inl ((hmem k).2 ⟨i,e',x,g1,g2,g3,g4⟩)
    ·have:=inj i i0 e' e g1 h1 g3
     subst this
     rw [h2] at g2; injection g2 with g2; injection g2 with g2 _
     exact .inr g2.symm
 | false =>
  simp only [Bool.false_eq_true,if_false]
  refine ⟨hnd,fun k=>?_⟩
  constructor
  ·intro hk
   obtain ⟨i,e',x,g1,g2,g3,g4⟩:=(hmem k).1 hk
   exact ⟨i,e',x,g1,g2,by rw [cont,g3]; rfl,g4⟩
  ·rintro ⟨i,e',x,g1,g2,g3,g4⟩
   rw [cont,Bool.or_eq_true,beq_iff_eq] at g3
   rcases g3 with g3 | g3
   ·exact (hmem k).2 ⟨i,e',x,g1,g2,g3,g4⟩
   ·have:=inj i i0 e' e g1 h1 g3
    subst this
    rw [h2] at g2; injection g2 with g2; injection g2 with g2 _
    subst g2
    rw [hp] at g4; cases g4
end Go.Proofs.YtknhlpmmalcchaaGreat

namespace Go.Proofs.YtknhlpmmalcchaaGreat
open Go Go.VAI
set_option linter.unusedSimpArgs false

theorem Beneath.mono {B B':Nat} {w w':World} (h:Go.VAI.Beneath B w w') (hB:B'≤B):Go.VAI.Beneath B' w w':=⟨h.base.mono hB,h.drawn⟩
section
variable {m:Nat} {down:Bool} {H0:AHeap} {caps:List AVal} {ρ2:Ren} {Hz:AHeap} {r bm:Nat} {ents:Array MapEntry} {clock:Nat} {w1:World} {b it:Nat} {p:Key→Bool} {es:List (Key × Int)}
theorem close92 (B:Base92 m down H0 caps ρ2 Hz r bm ents clock w1 b it p es) {W' W3:World} {seen:Array Nat} {ks:List Key} {a':Act} {ρ':Ren} {H':AHeap} {t':xJ} {kv:AVal}
  (hz:HRel ρ2 (r+1) Hz W') (hbn:Go.VAI.Beneath r w1 W') (hit:W'.heap[r]? = some (.mapIter (some bm) clock seen clock)) (hs:Step ρ2 (r+1) Hz W' ρ' H' W3) (hold:∀ id,id < Hz.next→H'.obj id=Hz.obj id)
  (hnd:ks.Nodup) (hmem:∀ k,k∈ks↔∃ (i:Nat) (e:MapEntry) (x:Int),ents[i]? = some e∧es[i]? = some (k,x)∧seen.contains e.born=true∧p k=true)
  (ht:TRel ρ' t' a'.tmps) (hl:a'.tmps.size=46) (t0:yA t' 0=.ptr b 0) (t1:yA t' 1=.func (.func m) [] caps) (t5:yA t' 5=kv) (t14:yA t' 14=.ptr it 0)
  (hkv:(ks=[]∧kv=.nilSlice)∨(ks≠[]∧∃ j,kv=.slice j 0 ks.length (.room 3)∧Hz.next≤j∧H'.obj j=some (.cells (xZ ks) true))) (hd:a'.defers=[]) :
  In92 ρ2 Hz r bm ents clock w1 b it (.func (.func m) [] caps) p es seen ks a' W3:=by
 have hf:=hs.forget hz hold
 obtain ⟨u0,hu0⟩:=B.u0
 obtain ⟨u1,hu1⟩:=B.u1
 have g0:=ht.2 0
 have g1:=ht.2 1
 have g5:=ht.2 5
 have g14:=ht.2 14
 rw [t0] at g0
 rw [t1] at g1
 rw [t5] at g5
 rw [t14] at g14
 have b0:=VRel.back hs.le _ _ _ hu0 g0
 have b1:=VRel.back hs.le _ _ _ hu1 g1
 have hui:VRel ρ2 (.ptr it 0) (.pointer (some ⟨r,0+0,none⟩)):=by
  simp only [VRel]
  exact ⟨_,B.it_,rfl⟩
 have b14:=VRel.back hs.le _ _ _ hui g14
 refine ⟨hd,hf,hbn.trans (Beneath.mono hs.below (Nat.le_succ r)),(hs.below.block r (Nat.lt_succ_self r)).trans hit,hnd,hmem,?_⟩
 rcases hkv with ⟨h1,h2⟩ | ⟨h1,j,h2,h3,h4⟩
 ·refine ⟨ρ2,Hz,.nilSlice,trel92 hl b0 b1 ?_ b14,hf,.inl ⟨h1,rfl,rfl,rfl⟩⟩
  rw [h2] at g5
  simpa only [VRel] using g5
 ·have hint:∀ v∈xZ ks,∃ z,v=AVal.int .i64 z:=fun v hv=>by
   simp only [xZ,List.mem_flatMap,yC,List.mem_cons,List.not_mem_nil,or_false] at hv
   obtain ⟨k,_,rfl | rfl | rfl⟩:=hv
   ·exact ⟨_,rfl⟩
   ·exact ⟨_,rfl⟩
   ·exact ⟨_,rfl⟩
  rw [h2] at g5
  simp only [VRel] at g5
  obtain ⟨l,c,q,l1,l2,l3,l4⟩:=g5
  have hs1:=hs.one_left hz hold h3 l1 h4 hint
  refine ⟨xT ρ2 Hz.next l,_,.slice Hz.next 0 ks.length (.room 3),trel92 hl (VRel.mono (zI B.none_) _ _ b0) (VRel.mono (zI B.none_) _ _ b1) ?_ (VRel.mono (zI B.none_) _ _ b14),hs1.heap,.inr ⟨h1,l,rfl,rfl,rfl⟩⟩
  simp only [VRel]
  exact ⟨l,c,q,by simp [xT],l2,l3,l4⟩
theorem In92.start (B:Base92 m down H0 caps ρ2 Hz r bm ents clock w1 b it p es) {seen:Array Nat} {ks:List Key} {a:Act} {W W':World} (h:In92 ρ2 Hz r bm ents clock w1 b it (.func (.func m) [] caps) p es seen ks a W)
  (hsz:W.heap.size≤W'.heap.size) (hblk:∀ k,k≠r→W'.heap[k]? = W.heap[k]?):HRel ρ2 (r+1) Hz W'∧∃ (ρc:Ren) (Hc:AHeap) (kv:AVal),TRel ρc (l92 (.ptr b 0) (.func (.func m) [] caps) kv (.ptr it 0)) a.tmps∧HRel ρc (r+1) Hc W'∧Step ρ2 (r+1) Hz W' ρc Hc W'∧(∀ id,id < Hz.next→Hc.obj id=Hz.obj id)∧Hz.next≤Hc.next∧Own Hz.next Hc kv 3 (xZ ks) ∧
   ((ks=[]∧kv=.nilSlice)∨(ks≠[]∧∃ j,kv=.slice j 0 ks.length (.room 3)∧Hz.next≤j∧Hc.obj j=some (.cells (xZ ks) true))):=by
 have z1:HRel ρ2 (r+1) Hz W':=HRel.world' h.hz hsz fun id l o e1 e2=>hblk _ (by have:=B.old id l o e1 e2; omega)
 refine ⟨z1,?_⟩
 obtain ⟨ρc,Hc,kv,ht,hc,hcase⟩:=h.keys
 rcases hcase with ⟨rfl,rfl,rfl,rfl⟩ | ⟨h0,l,rfl,rfl,rfl⟩
 ·exact ⟨_,_,_,ht,z1,.refl z1,fun _ _=>rfl,Nat.le_refl _,.nil,.inl ⟨rfl,rfl⟩⟩
 ·have hl:xT ρ2 Hz.next l Hz.next=some l:=by simp [xT]
  have ho:(Hz.new (.cells (xZ ks) true)).obj Hz.next=some (.cells (xZ ks) true):=yB rfl
  have hb:=(hc.obj Hz.next l _ hl ho).1
  have c1:HRel (xT ρ2 Hz.next l) (r+1) (Hz.new (.cells (xZ ks) true)) W':=HRel.world' hc hsz fun id l' o e1 e2=>hblk _ (by
   unfold xT at e1
   split at e1
   ·injection e1 with e1; subst e1; omega
   ·rename_i hne
    have:=B.old id l' o e1 (by rw [← e2,xX hne])
    omega)
  refine ⟨_,_,_,ht,c1,Step.bind B.none_ rfl (fun _ _ _=>rfl) c1 (.refl _ _),fun id hid=>xX (by omega),Nat.le_succ _,?_,.inr ⟨h0,Hz.next,rfl,Nat.le_refl _,ho⟩⟩
  exact .room (Nat.le_refl _) (Nat.lt_succ_self _) ho (yI ks)
end
end Go.Proofs.YtknhlpmmalcchaaGreat

namespace Go.Proofs.YtknhlpmmalcchaaGreat
open Go Go.VAI
set_option linter.unusedSimpArgs false

theorem m92body_eq:m92body=.seq (.region 3 m92o3 false) (.seq m92cnd (.block 1 (.seq (.region 4 m92o4 false) m92rest))):=by kernel_rfl
theorem new_upd {H:AHeap} {o o':AObj}:(H.new o).upd H.next (some o')=H.new o':=by
 unfold AHeap.new AHeap.upd
 congr 1
 funext i
 simp only
 split <;> rfl
section
variable {m:Nat} {down:Bool} {H0:AHeap} {caps:List AVal} {ρ2:Ren} {Hz:AHeap} {r bm:Nat} {ents:Array MapEntry} {clock:Nat} {w1:World} {b it:Nat} {p:Key→Bool} {es:List (Key × Int)}
set_option maxHeartbeats 4000000 in
theorem round92 (B:Base92 m down H0 caps ρ2 Hz r bm ents clock w1 b it p es) {seen:Array Nat} {ks:List Key} {a:Act} {W:World} {n:Nat} {Qb:Exit→Act→World→Prop} (h:In92 ρ2 Hz r bm ents clock w1 b it (.func (.func m) [] caps) p es seen ks a W)
  (hnext:∀ seen' ks' a' W',(leftOf ents seen').size < (leftOf ents seen).size→In92 ρ2 Hz r bm ents clock w1 b it (.func (.func m) [] caps) p es seen' ks' a' W'→Code.rounds Tryz.prog m92body Qb n a' W')
  (hdone:∀ a' W',(leftOf ents seen).size=0→In92 ρ2 Hz r bm ents clock w1 b it (.func (.func m) [] caps) p es seen ks a' W'→Qb (.exit 0) a' W') :
  m92body.wp Tryz.prog (Exit.then (Code.rounds Tryz.prog m92body Qb n) Qb) a W:=by
 suffices g:(Code.seq (.region 3 m92o3 false) (.seq m92cnd (.block 1 (.seq (.region 4 m92o4 false) m92rest)))).wp Tryz.prog (Exit.then (Code.rounds Tryz.prog m92body Qb n) Qb) a W from by
  rw [← m92body_eq] at g
  exact g
 refine wp_seq (wp_region_list ?_)
 rw [m92o3_all]
 obtain ⟨z0,ρc,Hc,kv,ht,hc,hs0,hold,hzn,own,hkv⟩:=In92.start B h (Nat.le_refl _) (fun _ _=>rfl)
 have g14:=ht.2 14
 change VRel ρc (.ptr it 0) _ at g14
 simp only [VRel] at g14
 obtain ⟨l,l1,l2⟩:=g14
 rw [hs0.le it _ B.it_] at l1
 injection l1 with l1
 subst l1
 have hmapW:W.heap[bm]? = some (.map ents clock):=(h.beneath.block bm B.lt).trans B.map
 have hlen:=h.len B
 rcases next_at (P:=Tryz.prog) W m92next_o.type bm clock clock r seen ents clock h.iter hmapW B.born.1 (Nat.le_refl _) with ⟨h0,hrun⟩ | ⟨e,he,q,hrun⟩
 ·refine wpList_one m92next_guard (exec_next (by rw [l2]; exact hrun)) ?_
  rw [m92next_dst,← List.append_nil (m92o3.toList.drop 1)]
  have ht1:=ht.put (a:=a) (some 15) (x:=.tuple [.bool false]) (v:=.tuple #[.bool false]) (by simp only [VRel]; exact ⟨[.bool false],rfl,.cons (by simp only [VRel]) .nil⟩)
  refine wpList_of (R:=fun t' H'=>H'=Hc∧t'=(.ptr b 0 :: .func (.func m) [] caps :: xP 3 (kv :: xP 8 (.ptr it 0 :: .tuple [.bool false] :: .bool false :: xP 29 [])):xJ)) a92o3_ok ?_ ht1 hc ?_
  ·show opsW (Ret A) a92o3 (.ptr b 0 :: .func (.func m) [] caps :: xP 3 (kv :: xP 8 (.ptr it 0 :: .tuple [.bool false] :: xP 30 []))) Hc _
   unfold a92o3
   simp (disch:=first | omega | (simp only [nx] <;> omega) | fail) only [vaw,Nat.reduceAdd,Nat.reduceMul,Nat.reduceLeDiff,Nat.reduceEqDiff,↓reduceIte]
  ·rintro t2 H2 ρ3 a3 w3 ⟨rfl,rfl⟩ ht3 hs3 hd3
   refine wpList_nil ?_
   refine wp_seq (wp_of_wpx (R:=fun e t' H'=>e=.exit 0∧H'=H2∧t'=(.ptr b 0 :: .func (.func m) [] caps :: xP 3 (kv :: xP 8 (.ptr it 0 :: .tuple [.bool false] :: .bool false :: xP 29 [])):xJ)) c92cnd_ok ?_ ht3 hs3.heap ?_)
   ·unfold c92cnd
    simp (disch:=first | omega | (simp only [nx] <;> omega) | fail) only [vaw,Nat.reduceAdd,Nat.reduceMul,Nat.reduceLeDiff,Nat.reduceEqDiff,↓reduceIte]
   ·rintro e t4 H4 ρ4 a4 w4 ⟨rfl,rfl,rfl⟩ ht4 hs4 hd4
    show Qb (.exit 0) a4 w4
    exact hdone a4 w4 h0 (close92 B z0 h.beneath h.iter (hs0.trans (hs3.trans hs4)) hold h.nodup h.mem ht4 (ht4.1.symm) rfl rfl rfl rfl hkv (by rw [hd4,hd3]; exact h.defers))
 ·have hr:r < W.heap.size:=(Array.getElem?_eq_some_iff.1 h.iter).1
  have hWsz:(handed W r bm clock clock q (seen.push e.born)).heap.size=W.heap.size:=by simp [handed]
  have hWne:∀ k,k≠r→(handed W r bm clock clock q (seen.push e.born)).heap[k]? = W.heap[k]? := fun k hk=>by
   simp only [handed]
   rw [Array.getElem?_setIfInBounds,if_neg (fun e=>hk e.symm)]
  have hWit:(handed W r bm clock clock q (seen.push e.born)).heap[r]? = some (.mapIter (some bm) clock (seen.push e.born) clock):=by
   simp only [handed]
   rw [Array.getElem?_setIfInBounds,if_pos rfl,if_pos hr]
  have hWb:Go.VAI.Beneath r w1 (handed W r bm clock clock q (seen.push e.born)):=h.beneath.trans ⟨⟨rfl,rfl,rfl,by rw [hWsz]; exact Nat.le_refl _,fun k hk=>hWne k (by omega)⟩,Nat.le_add_right _ _⟩
  clear ht hc hs0 hold hzn own hkv z0
  obtain ⟨z0,ρc,Hc,kv,ht,hc,hs0,hold,hzn,own,hkv⟩:=In92.start B h (W':=handed W r bm clock clock q (seen.push e.born)) (by rw [hWsz]; exact Nat.le_refl _) hWne
  obtain ⟨hein,heb⟩:=mem_left he
  obtain ⟨i0,hi0⟩:=List.mem_iff_getElem?.1 hein
  rw [Array.getElem?_toList] at hi0
  have hi0l:i0 < es.length:=by rw [← B.size]; exact (Array.getElem?_eq_some_iff.1 hi0).1
  obtain ⟨⟨k0,x0⟩,hk0⟩:∃ y,es[i0]? = some y:=⟨es[i0],List.getElem?_eq_getElem hi0l⟩
  obtain ⟨e',he1,he2⟩:=B.key i0 k0 x0 hk0
  rw [hi0] at he1
  injection he1 with he1
  subst he1
  obtain ⟨hn',hm'⟩:=seen_next B h.nodup h.mem heb hi0 hk0
  have hpk:mayOf down H0 caps k0=some (p k0):=B.may _ (List.mem_of_getElem? hk0)
  refine wpList_one m92next_guard (exec_next (by rw [l2]; exact hrun)) ?_
  generalize handed W r bm clock clock q (seen.push e.born)=W' at *
  rw [m92next_dst,← List.append_nil (m92o3.toList.drop 1)]
  have ht1:=ht.put (a:=a) (some 15) (x:=.tuple [.bool true,.bot,.bot]) (v:=.tuple #[.bool true,e.key,e.val]) (by simp only [VRel]; exact ⟨[.bool true,e.key,e.val],rfl,.cons (by simp only [VRel]) (.cons (by simp only [VRel]) (.cons (by simp only [VRel]) .nil))⟩)
  refine wpList_of (R:=fun t' H'=>H'=Hc∧t'=(.ptr b 0 :: .func (.func m) [] caps :: xP 3 (kv :: xP 8 (.ptr it 0 :: .tuple [.bool true,.bot,.bot] :: .bool true :: xP 29 [])):xJ)) a92o3_ok ?_ ht1 hc ?_
  ·show opsW (Ret A) a92o3 (.ptr b 0 :: .func (.func m) [] caps :: xP 3 (kv :: xP 8 (.ptr it 0 :: .tuple [.bool true,.bot,.bot] :: xP 30 []))) Hc _
   unfold a92o3
   simp (disch:=first | omega | (simp only [nx] <;> omega) | fail) only [vaw,Nat.reduceAdd,Nat.reduceMul,Nat.reduceLeDiff,Nat.reduceEqDiff,↓reduceIte]
  ·rintro t2 H2 ρ3 a3 w3 ⟨rfl,rfl⟩ ht3 hs3 hd3
   refine wpList_nil ?_
   refine wp_seq (wp_of_wpx (R:=fun e t' H'=>e=.normal∧H'=H2∧t'=(.ptr b 0 :: .func (.func m) [] caps :: xP 3 (kv :: xP 8 (.ptr it 0 :: .tuple [.bool true,.bot,.bot] :: .bool true :: xP 29 [])):xJ)) c92cnd_ok ?_ ht3 hs3.heap ?_)
   ·unfold c92cnd
    simp (disch:=first | omega | (simp only [nx] <;> omega) | fail) only [vaw,Nat.reduceAdd,Nat.reduceMul,Nat.reduceLeDiff,Nat.reduceEqDiff,↓reduceIte]
   ·rintro x4 t4 H4 ρ4 a4 w4 ⟨rfl,rfl,rfl⟩ ht4 hs4 hd4
    have hs04:=hs0.trans (hs3.trans hs4)
    refine wp_block (wp_seq (wp_region_list ?_))
    rw [m92o4_all]
    have g14:=ht4.2 14
    change VRel ρ4 (.ptr it 0) _ at g14
    simp only [VRel] at g14
    obtain ⟨l',l3,l4⟩:=g14
    rw [hs04.le it _ B.it_] at l3
    injection l3 with l3
    subst l3
    have hit4:w4.heap[r]? = some (.mapIter (some bm) clock (seen.push e.born) clock):=(hs04.below.block r (Nat.lt_succ_self r)).trans hWit
    have hmap4:w4.heap[bm]? = some (.map ents clock):=(hs04.below.block bm (by have:=B.lt; omega)).trans ((hWb.block bm B.lt).trans B.map)
    refine wpList_one m92entry_guard (exec_entry (by rw [l4]; exact entry_at w4 bm clock r seen ents clock e hit4 hmap4 hein B.born.2)) ?_
    rw [m92entry_dst,← List.append_nil (m92o4.toList.drop 1)]
    have ht5:=ht4.put (a:=a4) (some 17) (x:=.tuple [.agg (yC k0),.bot]) (v:=.tuple #[e.key,e.val]) (by
     simp only [VRel]
     refine ⟨[e.key,e.val],rfl,.cons ?_ (.cons (by simp only [VRel]) .nil)⟩
     exact VRel.mono hs04.le _ _ he2)
    refine wpList_of (R:=fun t' H'=>H'=H4.new (.cells [.int .i64 k0.1,.int .i64 k0.2.1,.int .i64 k0.2.2] true)∧t'=(.ptr b 0 :: .func (.func m) [] caps :: xP 3 (kv :: .ptr H4.next 0 :: xP 7 (.ptr it 0 :: .tuple [.bool true,.bot,.bot] :: .bool true :: .tuple [.agg (yC k0),.bot] :: .agg (yC k0) :: xP 27 [])):xJ)) a92o4_ok ?_ ht5 hs4.heap ?_
    ·show opsW (Ret A) a92o4 (.ptr b 0 :: .func (.func m) [] caps :: xP 3 (kv :: xP 8 (.ptr it 0 :: .tuple [.bool true,.bot,.bot] :: .bool true :: .tuple [.agg (yC k0),.bot] :: xP 28 []))) H4 _
     unfold a92o4 yC
     simp (disch:=first | omega | (simp only [nx] <;> omega) | fail) only [vaw,Nat.reduceAdd,Nat.reduceMul,Nat.reduceLeDiff,Nat.reduceEqDiff,↓reduceIte]
     exact new_upd
    ·rintro t6 H6 ρ6 a6 w6 ⟨rfl,rfl⟩ ht6 hs6 hd6
     refine wpList_nil ?_
     refine wp_of_wpx (R:=fun x t' H'=>x=.normal∧∃ kv',(∀ id,id < Hz.next→H'.obj id=Hz.obj id)∧Hz.next≤H'.next ∧
      (((if p k0 then ks++[k0] else ks)=[]∧kv'=.nilSlice)∨((if p k0 then ks++[k0] else ks)≠[]∧∃ j,kv'=.slice j 0 (if p k0 then ks++[k0] else ks).length (.room 3)∧Hz.next≤j∧H'.obj j=some (.cells (xZ (if p k0 then ks++[k0] else ks)) true))) ∧
      yA t' 0=.ptr b 0∧yA t' 1=.func (.func m) [] caps∧yA t' 5=kv'∧yA t' 14=.ptr it 0∧t'.length=46) c92rest_ok ?_ ht6 hs6.heap ?_
     ·exact rest92 B.hm hpk B.fr hold hzn own (by have:=B.few; omega) hkv fun kv' H' t' g1 g2 g3 g4 g5 g6 g7 g8=>⟨rfl,kv',g1,g2,g3,g4,g5,g6,g7,g8⟩
     ·rintro x7 t7 H7 ρ7 a7 w7 ⟨rfl,kv',g1,g2,g3,g4,g5,g6,g7,g8⟩ ht7 hs7 hd7
      show Code.rounds Tryz.prog m92body Qb n a7 w7
      have hsz7:a7.tmps.size=46:=by rw [← ht7.1,g8]
      exact hnext _ _ a7 w7 (left_shrinks ents seen e he) (close92 B z0 hWb hWit (hs04.trans (hs6.trans hs7)) g1 hn' hm' ht7 hsz7 g4 g5 g6 g7 g3 (by rw [hd7,hd6,uG,hd4,hd3,uG]; exact h.defers))
end
end Go.Proofs.YtknhlpmmalcchaaGreat

namespace Go.Proofs.YtknhlpmmalcchaaGreat
open Go Go.VAI
set_option linter.unusedSimpArgs false

section
variable {m:Nat} {down:Bool} {H0:AHeap} {caps:List AVal} {ρ2:Ren} {Hz:AHeap} {r bm:Nat} {ents:Array MapEntry} {clock:Nat} {w1:World} {b it:Nat} {p:Key→Bool} {es:List (Key × Int)}
theorem loop92 (B:Base92 m down H0 caps ρ2 Hz r bm ents clock w1 b it p es) {Qb:Exit→Act→World→Prop}
  (hdone:∀ seen ks a' W',(leftOf ents seen).size=0→In92 ρ2 Hz r bm ents clock w1 b it (.func (.func m) [] caps) p es seen ks a' W'→Qb (.exit 0) a' W') :
  ∀ n seen ks a W,(leftOf ents seen).size < n→In92 ρ2 Hz r bm ents clock w1 b it (.func (.func m) [] caps) p es seen ks a W→Code.rounds Tryz.prog m92body Qb n a W
 | 0,_,_,_,_,h,_=>by omega
 | n+1,seen,ks,a,W,hn,h=>by
  rw [rounds_succ]
  exact round92 B h (fun seen' ks' a' W' hl h'=>loop92 B hdone n seen' ks' a' W' (by omega) h') (fun a' W' h0 h'=>hdone seen ks a' W' h0 h')
theorem keys_all (B:Base92 m down H0 caps ρ2 Hz r bm ents clock w1 b it p es) {fv:AVal} {seen:Array Nat} {ks:List Key} {a:Act} {W:World} (h:In92 ρ2 Hz r bm ents clock w1 b it fv p es seen ks a W) (h0:(leftOf ents seen).size=0) {sel:List (Key × Int)} (hsel:sel=es.filter fun e=>p e.1):ks.Perm (sel.map Prod.fst):=by
 have hs:(sel.map Prod.fst).Nodup:=by
  rw [hsel]
  exact B.nodup.sublist ((List.filter_sublist).map _)
 refine (List.perm_ext_iff_of_nodup h.nodup hs).2 fun k=>?_
 rw [h.mem k,hsel]
 simp only [List.mem_map,List.mem_filter]
 constructor
 ·rintro ⟨i,e,x,g1,g2,g3,g4⟩
  exact ⟨(k,x),⟨List.mem_of_getElem? g2,g4⟩,rfl⟩
 ·rintro ⟨⟨k',x⟩,⟨g1,g2⟩,rfl⟩
  obtain ⟨i,hi⟩:=List.mem_iff_getElem?.1 g1
  obtain ⟨e,he,_⟩:=B.key i k' x hi
  exact ⟨i,e,x,he,hi,all_seen ents seen h0 e (by rw [List.mem_iff_getElem?]; exact ⟨i,by rw [Array.getElem?_toList]; exact he⟩),g2⟩
end
theorem bind_rel {ρ:Ren} {B:Nat} {H:AHeap} {W:World} (hf:HRel ρ B H W) {l:Go.VAI.Loc} {c:List AVal} (hy:ρ H.next=none) (ho:ORel (xT ρ H.next l) B W l (.cells c true)) (hlt:l.b < W.heap.size) (hne:∀ id l' o,ρ id=some l'→H.obj id=some o→l'.b≠l.b):HRel (xT ρ H.next l) B (H.new (.cells c true)) W:=by
 refine ⟨fun id l2 e=>?_,fun id l2 o e1 e2=>?_,fun id id' l2 l3 o o' e1 e2 hn h1 h2 h3 h4=>?_,hf.base,fun id hid=>?_⟩
 ·unfold xT at e
  split at e
  ·rename_i he
   injection e with e; subst e
   exact ⟨by simp only [AHeap.new]; omega,hlt⟩
  ·exact ⟨by have:=(hf.dom id l2 e).1; simp only [AHeap.new]; omega,(hf.dom id l2 e).2⟩
 ·by_cases he:id=H.next
  ·subst he
   have:l2=l:=by simp [xT] at e1; exact e1.symm
   subst this
   rw [yB rfl] at e2
   injection e2 with e2; subst e2
   exact ho
  ·rw [xX he] at e2
   have e1':ρ id=some l2:=by simpa [xT,he] using e1
   exact (hf.obj id l2 o e1' e2).mono (zI hy) rfl
 ·have nx:∀ i l2 o,i≠H.next→xT ρ H.next l i=some l2→(H.new (.cells c true)).obj i=some o→ρ i=some l2∧H.obj i=some o:=fun i l2 o hi e1 e2=>by
   rw [xX hi] at e2
   exact ⟨by simpa [xT,hi] using e1,e2⟩
  by_cases hi:id=H.next
  ·subst hi
   have:l2=l:=by simp [xT] at e1; exact e1.symm
   subst this
   obtain ⟨q1,q2⟩:=nx id' l3 o' (fun e=>hn e.symm) e2 h2
   exact (hne id' l3 o' q1 q2).symm
  ·obtain ⟨q1,q2⟩:=nx id l2 o hi e1 h1
   by_cases hi':id'=H.next
   ·subst hi'
    have:l3=l:=by simp [xT] at e2; exact e2.symm
    subst this
    exact hne id l2 o q1 q2
   ·obtain ⟨q3,q4⟩:=nx id' l3 o' hi' e2 h2
    exact hf.inj id id' l2 l3 o o' q1 q3 hn q2 q4 h3 h4
 ·simp only [AHeap.new] at hid ⊢
  rw [if_neg (by omega)]
  exact hf.top id (by omega)
def t92 (x0 kv:AVal):xJ:=x0 :: .bot :: xP 3 (kv :: xP 40 [])
theorem ttail92 {ρ:Ren} {x0 kv:AVal} {T:Array Value} (hs:T.size=46) (h0:VRel ρ x0 (T.getD 0 undef)) (h5:VRel ρ kv (T.getD 5 undef)):TRel ρ (t92 x0 kv) T:=by
 refine ⟨by rw [hs]; rfl,fun i=>?_⟩
 rw [show t92 x0 kv=tset (tset (List.replicate 46 .bot) 0 x0) 5 kv from rfl,vQ,vQ,tget_bots]
 simp only [uL,List.length_replicate]
 by_cases i5:5=i
 ·subst i5; rw [if_pos ⟨rfl,by omega⟩]; exact h5
 rw [if_neg (fun e=>i5 e.1)]
 by_cases i0:0=i
 ·subst i0; rw [if_pos ⟨rfl,by omega⟩]; exact h0
 rw [if_neg (fun e=>i0 e.1)]
 simp only [VRel]
end Go.Proofs.YtknhlpmmalcchaaGreat

namespace Go.Proofs.YtknhlpmmalcchaaGreat
open Go Go.VAI
set_option linter.unusedSimpArgs false

def arcsV (H:AHeap) (es sel:List (Key × Int)):AVal × AHeap:=if sel=[] then (.nilSlice,H) else (.slice H.next 0 sel.length (.room 1),H.new (.cells (xL (vD es sel)) true))
set_option maxHeartbeats 1000000 in
theorem tailend92 {m:Nat} {down:Bool} {H:AHeap} {caps:List AVal} {ρ ρ1:Ren} {B0:Nat} {bm mid b:Nat} {ents:Array MapEntry} {clock:Nat} {w w1 W:World} {p:Key→Bool} {es sel:List (Key × Int)} {cb:List AVal} {rwb:Bool}
  (hH:HRel ρ B0 H w) (s1:Step ρ B0 H w ρ1 H w1) (B:Base92 m down H caps (xT ρ1 H.next ⟨w1.heap.size,0,0⟩) (frz H) w1.heap.size bm ents clock w1 b H.next p es)
  {fv:AVal} {seen:Array Nat} {ks:List Key} {a:Act} (h:In92 (xT ρ1 H.next ⟨w1.heap.size,0,0⟩) (frz H) w1.heap.size bm ents clock w1 b H.next fv p es seen ks a W) (h0:(leftOf ents seen).size=0) (hsel:sel=es.filter fun e=>p e.1)
  (hob:H.obj b=some (.cells cb rwb)) (hbl:b < H.next) (hmb:cb[6]? = some (.map mid)) (hml:mid < H.next) (hmo:H.obj mid=some (.amap (yU es))) (hu0:∃ u,VRel ρ1 (.ptr b 0) u) (hn1:ρ1 H.next=none) :
  m92tail.wp Tryz.prog (bodyPost Tryz.prog Tryz.f35 fun e w'=>∃ v',e=.returned v'∧Effect ρ B0 H w (arcsV H es sel).1 (arcsV H es sel).2 v' w') a W:=by
 have hle2:RLe ρ1 (xT ρ1 H.next ⟨w1.heap.size,0,0⟩):=zI hn1
 have hf:HRel ρ1 B0 H W:=s1.heap.world h.beneath.size fun id l e=>h.beneath.block l.b (s1.heap.dom id l e).2
 have sW:Step ρ1 B0 H w1 ρ1 H W:=⟨.refl _,hf,Beneath.mono h.beneath s1.heap.base,fun _ h1 h2=>absurd h1 h2,Nat.le_refl _,fun _ _ _=>rfl⟩
 have hperm:=keys_all B h h0 hsel
 have hlen:ks.length=sel.length:=by simpa using hperm.length_eq
 have hks:ks.length≤es.length:=by
  rw [hlen,hsel]
  exact List.length_filter_le _ _
 have core:∀ (ρk:Ren) (Hk:AHeap) (kv:AVal),TRel ρk (t92 (.ptr b 0) kv) a.tmps→Step ρ1 B0 H W ρk Hk W→(∀ id,id < H.next→Hk.obj id=H.obj id)→H.next≤Hk.next→Own H.next Hk kv 3 (xZ ks)→(ks=[]→kv=.nilSlice) →
   m92tail.wp Tryz.prog (bodyPost Tryz.prog Tryz.f35 fun e w'=>∃ v',e=.returned v'∧Effect ρ B0 H w (arcsV H es sel).1 (arcsV H es sel).2 v' w') a W:=by
  intro ρk Hk kv ht sk hk hkn own hnil
  refine wp_of_wpx (R:=fun e t' H'=>e=.ret∧∃ v,Own H.next H' v 1 (xL ((yF ks).map (yZ es)))∧(ks=[]→v=.nilSlice)∧(∀ j,j < H.next→H'.obj j=Hk.obj j)∧yA t' 4=v) c92tail_ok ?_ ht sk.heap ?_
  ·exact tail92 (lo:=H.next) (t1:=.bot) (rwb:=rwb) (by rw [hk b hbl]; exact hob) hbl hmb hml (by rw [hk mid hml]; exact hmo) hkn own hnil (by have:=B.few; omega) fun v H' t' g1 g2 g3 g4=>⟨rfl,v,g1,g2,g3,g4⟩
  ·rintro e t' H' ρ' a' w' ⟨rfl,v,ov,vnil,hold',ht4⟩ ht' hs' hd'
   show bodyPost Tryz.prog Tryz.f35 _ .ret a' w'
   have hv:=ht'.2 4
   rw [ht4] at hv
   refine ⟨by rw [hd']; exact h.defers,a'.tmps.getD 4 undef,results_run (us:=[a'.tmps.getD 4 undef]) (by rw [f92_results]; simp [resultOf]),_,rfl,?_⟩
   have S:=s1.trans (sW.trans (sk.trans hs'))
   have holdS:∀ id,id < H.next→H'.obj id=H.obj id:=fun id hid=>(hold' id hid).trans (hk id hid)
   have hout:(yF ks).map (yZ es)=vD es sel:=by
    unfold vD
    rw [sortKeys_perm hperm]
   have holen:(vD es sel).length=sel.length:=by
    rw [← hout,List.length_map,zZ,hlen]
   rw [hout] at ov
   have hint:∀ v∈xL (vD es sel),∃ z,v=AVal.int .i64 z:=fun v hv=>by
    obtain ⟨z,_,rfl⟩:=List.mem_map.1 hv
    exact ⟨z,rfl⟩
   by_cases hs0:sel=[]
   ·have e1:arcsV H es sel=(.nilSlice,H):=by unfold arcsV; rw [if_pos hs0]
    rw [e1]
    have hk0:ks=[]:=List.eq_nil_of_length_eq_zero (by rw [hlen,hs0]; rfl)
    rw [vnil hk0] at hv
    refine ⟨ρ,?_,S.none_left hH holdS⟩
    simp only [VRel] at hv ⊢
    exact hv
   ·have e1:arcsV H es sel=(.slice H.next 0 sel.length (.room 1),H.new (.cells (xL (vD es sel)) true)):=by unfold arcsV; rw [if_neg hs0]
    rw [e1]
    have hpos:0 < sel.length:=List.length_pos_iff.2 hs0
    obtain ⟨cs,hcs⟩:∃ cs,cs=xL (vD es sel):=⟨_,rfl⟩
    have hcl:cs.length=sel.length:=by rw [hcs,xE,holen]
    rw [← hcs] at ov hint ⊢
    have hy:xT ρ H.next=xT ρ H.next:=rfl
    cases ov with
    | nil=>simp at hcl; omega
    | @room id len _ _ hlo hhi ho hl =>
     have hll:len=sel.length:=by omega
     subst hll
     simp only [VRel] at hv
     obtain ⟨l,c,q,l1,l2,l3,l4⟩:=hv
     refine ⟨xT ρ H.next l,?_,S.one_left hH holdS hlo l1 ho hint⟩
     simp only [VRel]
     exact ⟨l,c,q,by simp [xT],l2,l3,l4⟩
    | @full id len _ _ hlo hhi ho hl =>
     have hll:len=sel.length:=by omega
     subst hll
     simp only [VRel] at hv
     obtain ⟨l,q,l1,l2,l3,l4⟩:=hv
     have hfit:=(S.heap.obj id l _ l1 ho).2.2.1
     refine ⟨xT ρ H.next l,?_,S.one_left hH holdS hlo l1 ho hint⟩
     simp only [VRel]
     rcases l4 with l4 | l4
     ·subst l4
      exact ⟨l,_,_,by simp [xT],l2,l3,.inl ⟨by omega,by omega⟩⟩
     ·exact absurd l4.1 (by omega)
 obtain ⟨ρc,Hc,kv,ht,hc,hcase⟩:=h.keys
 obtain ⟨u0,hu0⟩:=hu0
 have hsz:a.tmps.size=46:=ht.1.symm
 have g0:=ht.2 0
 change VRel ρc (.ptr b 0) _ at g0
 have g5:=ht.2 5
 change VRel ρc kv _ at g5
 rcases hcase with ⟨h1,rfl,rfl,rfl⟩ | ⟨h1,l,rfl,rfl,rfl⟩
 ·refine core ρ1 H .nilSlice (ttail92 hsz (VRel.back hle2 _ _ _ hu0 g0) (by simpa only [VRel] using g5)) (.refl hf) (fun _ _=>rfl) (Nat.le_refl _) (by rw [h1]; exact .nil) (fun _=>rfl)
 ·have hnx:(frz H).next=H.next+1:=rfl
  have hlz:xT (xT ρ1 H.next ⟨w1.heap.size,0,0⟩) (frz H).next l (frz H).next=some l:=by simp [xT]
  have hoz:((frz H).new (.cells (xZ ks) true)).obj (frz H).next=some (.cells (xZ ks) true):=yB rfl
  obtain ⟨o1,o2,o3,o4⟩:=hc.obj (frz H).next l _ hlz hoz
  have hlt:=(hc.dom (frz H).next l hlz).2
  have hB:=s1.heap.base
  have hno:(xT ρ1 H.next ⟨w1.heap.size,0,0⟩:Ren) (frz H).next=none:=B.none_
  have hle3:=zI (l:=l) hno
  have ho:ORel (xT ρ1 H.next l) B0 W l (.cells (xZ ks) true):=by
   refine ⟨by omega,⟨o2.1,fun i v hv=>?_⟩,o3,o4⟩
   obtain ⟨u,u1,u2⟩:=o2.2 i v hv
   refine ⟨u,u1,?_⟩
   have hm:=List.mem_of_getElem? hv
   simp only [xZ,List.mem_flatMap,yC,List.mem_cons,List.not_mem_nil,or_false] at hm
   obtain ⟨k,_,rfl | rfl | rfl⟩:=hm <;> simpa only [VRel] using u2
  have hb:=bind_rel hf hn1 ho hlt fun id l' o e1 _=>by
   have:=(s1.heap.dom id l' e1).2
   omega
  refine core (xT ρ1 H.next l) (H.new (.cells (xZ ks) true)) (.slice H.next 0 ks.length (.room 3)) (ttail92 hsz (VRel.mono (zI hn1) _ _ (VRel.back (hle2.trans hle3) _ _ _ hu0 g0)) ?_) (Step.bind hn1 rfl (fun _ _ _=>rfl) hb (.refl _ _)) (fun id hid=>xX (by omega)) (Nat.le_succ _) (.room (Nat.le_refl _) (Nat.lt_succ_self _) (yB rfl) (yI ks)) (fun h=>absurd h h1)
  simp only [VRel] at g5 ⊢
  obtain ⟨l',c,q,l1,l2,l3,l4⟩:=g5
  rw [hlz] at l1
  injection l1 with l1
  subst l1
  exact ⟨l,c,q,by simp [xT],l2,l3,l4⟩
end Go.Proofs.YtknhlpmmalcchaaGreat

namespace Go.Proofs.YtknhlpmmalcchaaGreat
open Go Go.VAI
set_option linter.unusedSimpArgs false

theorem kentries_cells:∀ es:List (Key × Int),kentries (yU es)=some es
 | []=>rfl
 | ((a,b,c),n) :: l=>by
  show bnd (kentry (.agg [.int .i64 a,.int .i64 b,.int .i64 c],.int .i64 n)) (fun x=>bnd (kentries (yU l)) fun r=>some (x :: r))=_
  rw [kentries_cells l]
  rfl
theorem pad_rel {ρ:Ren} {args:List AVal} {us:List Value} (hus:VRels ρ args us) (n:Nat):TRel ρ (pad args n) (us.toArray++Array.replicate (n - us.toArray.size) undef):=by
 refine ⟨by rw [pad_length]; simp [hus.length],fun s=>?_⟩
 rw [tget_pad]
 split
 ·rename_i hs
  have:=tget_rels hus s hs
  rw [← hus.length] at hs
  simpa [Array.getD_eq_getD_getElem?,Array.getElem?_append,hs] using this
 ·simp only [VRel]
set_option maxHeartbeats 4000000 in
theorem arcs_at {H:AHeap} {b mid m:Nat} {down:Bool} {caps cb:List AVal} {rwb:Bool} {es sel:List (Key × Int)} (hm:(m=36∨m=64)∧down=false∨m=65∧down=true)
  (hob:H.obj b=some (.cells cb rwb)) (hmb:cb[6]? = some (.map mid)) (hmo:H.obj mid=some (.amap (yU es))) (hsel:mayAll down H caps es=some sel) (hlen:es.length≤100000) (hnd:(es.map Prod.fst).Nodup) :
  CallAt Tryz.prog 35 [.ptr b 0,.func (.func m) [] caps] H (arcsV H es sel).1 (arcsV H es sel).2:=by
 refine ⟨⟨_,_,Tryz.func35,m92_shape,f92_name⟩,fun ρ B0 w us hH hus=>?_⟩
 obtain ⟨hmay,hsel'⟩:=mayAll_filter hsel
 have ht0:=pad_rel hus 46
 refine calls_of_wp Tryz.func35 m92_shape ?_
 rw [f92_ntmps]
 refine wp_seq (wp_of_wpx (R:=fun e t' H'=>e=.normal∧H'=H∧t'=(.ptr b 0 :: .func (.func m) [] caps :: xP 2 (.nilSlice :: xP 41 []):xJ)) c92r0_ok ?_ ht0 hH ?_)
 ·show wpx (Ret A) c92r0 (.ptr b 0 :: .func (.func m) [] caps :: xP 44 []) H _
  unfold c92r0
  simp (disch:=first | omega | (simp only [nx] <;> omega) | fail) only [vaw,Nat.reduceAdd,Nat.reduceMul,Nat.reduceLeDiff,Nat.reduceEqDiff,↓reduceIte]
 rintro x1 t1 H1 ρ1 a1 w1 ⟨rfl,rfl,rfl⟩ ht1 s1 d1
 refine wp_seq (wp_of_wpx (R:=fun e t' H'=>e=.normal∧H'=H1∧t'=(.ptr b 0 :: .func (.func m) [] caps :: xP 2 (.nilSlice :: .nilSlice :: xP 40 []):xJ)) c92r1_ok ?_ ht1 s1.heap ?_)
 ·unfold c92r1
  simp (disch:=first | omega | (simp only [nx] <;> omega) | fail) only [vaw,Nat.reduceAdd,Nat.reduceMul,Nat.reduceLeDiff,Nat.reduceEqDiff,↓reduceIte]
 rintro x2 t2 H2 ρ2 a2 w2 ⟨rfl,rfl,rfl⟩ ht2 s2 d2
 refine wp_seq (wp_seq (wp_region_list ?_))
 rw [← List.take_append_drop 4 m92o2.toList,m92o2_rest]
 refine wpList_of (R:=fun t' H'=>H'=H2∧t'=(.ptr b 0 :: .func (.func m) [] caps :: xP 2 (.nilSlice :: .nilSlice :: xP 4 (.ptr b 0 :: .ptr b 0 :: .ptr b 6 :: .map mid :: xP 32 [])):xJ)) a92o2_ok ?_ ht2 s2.heap ?_
 ·unfold a92o2
  simp (disch:=first | omega | (simp only [nx] <;> omega) | fail) only [vaw,hob,hmb,Nat.reduceAdd,Nat.reduceMul,Nat.reduceLeDiff,Nat.reduceEqDiff,↓reduceIte]
 rintro t3 H3 ρ3 a3 w3 ⟨rfl,rfl⟩ ht3 s3 d3
 have S:=s1.trans (s2.trans s3)
 have h3:=S.heap
 have g13:=ht3.2 13
 change VRel ρ3 (.map mid) _ at g13
 simp only [VRel] at g13
 obtain ⟨lm,m1,m2⟩:=g13
 obtain ⟨hBm,ents,clock,hbm,hsz,hent,hborn⟩:=h3.obj mid lm _ m1 hmo
 have hn3:ρ3 H3.next=none:=by
  cases e:ρ3 H3.next with
  | none=>rfl
  | some l=>have:=(h3.dom _ _ e).1; omega
 have hn4:ρ3 (H3.next+1)=none:=by
  cases e:ρ3 (H3.next+1) with
  | none=>rfl
  | some l=>have:=(h3.dom _ _ e).1; omega
 have hle:=zI (l:=(⟨w3.heap.size,0,0⟩:Go.VAI.Loc)) hn3
 have g0:=ht3.2 0
 change VRel ρ3 (.ptr b 0) _ at g0
 have g1:=ht3.2 1
 change VRel ρ3 (.func (.func m) [] caps) _ at g1
 have hb1:b < H3.next:=by
  have g:=g0
  simp only [VRel] at g
  obtain ⟨l,e,_⟩:=g
  exact (h3.dom _ _ e).1
 have hml:=(h3.dom _ _ m1).1
 have B:Base92 m down H3 caps (xT ρ3 H3.next ⟨w3.heap.size,0,0⟩) (frz H3) w3.heap.size lm.b ents clock w3 b H3.next (fun k=>(mayOf down H3 caps k).getD false) es:=by
  refine ⟨hm,hbm,(h3.dom _ _ m1).2,hborn,by rw [hsz]; simp [yU],fun i k x hk=>?_,by simp [xT],Nat.lt_succ_self _,⟨_,VRel.mono hle _ _ g0⟩,⟨_,VRel.mono hle _ _ g1⟩,fun id l o e1 e2=>?_,hmay,fun id c hc=>?_,hnd,hlen,?_⟩
  ·obtain ⟨e,q1,q2,_⟩:=hent i (.agg (yC k),.int .i64 x) (by simp [yU,hk])
   exact ⟨e,q1,VRel.mono hle _ _ q2⟩
  ·obtain ⟨c,rw',e3,_⟩:=frz_some e2
   unfold xT at e1
   split at e1
   ·rename_i he
    subst he
    rw [h3.top _ (Nat.le_refl _)] at e3
    cases e3
   ·exact (h3.dom id l e1).2
  ·refine ⟨frz_cells hc,?_⟩
   show id < H3.next+1
   by_cases hid:id < H3.next
   ·omega
   ·unfold AHeap.cells? at hc
    rw [h3.top id (by omega)] at hc
    cases hc
  ·show xT ρ3 H3.next _ (H3.next+1)=none
   simp [xT,hn4]
 refine wpList_one m92range_guard (exec_range (by rw [m2]; exact run_range_map w3 61 67 3 lm.b ents clock under119 hbm)) ?_
 refine wpList_nil ?_
 show (Code.block 0 _).wp _ _ _ _
 refine wp_block ?_
 rw [← m92body_eq]
 refine wp_loop_rounds ((leftOf ents #[]).size+1) (loop92 B (Qb:=Exit.inBlock 0 (Exit.then (m92tail.wp Tryz.prog _) _)) (fun seen ks a' W' h0 h'=>?_) _ #[] [] _ _ (Nat.lt_succ_self _) ?_)
 ·show m92tail.wp Tryz.prog _ a' W'
  exact tailend92 hH S B h' h0 hsel' hob hb1 hmb hml hmo ⟨_,g0⟩ hn3
 ·have ht4:=(ht3.mono hle).put (a:=a3) (some 14) (x:=.ptr H3.next 0) (v:=.pointer (some ⟨w3.heap.size,0,none⟩)) (by simp only [VRel]; exact ⟨⟨w3.heap.size,0,0⟩,by simp [xT],rfl⟩)
  rw [m92range_dst]
  have e0:=ht4.2 0
  have e1:=ht4.2 1
  have e5:=ht4.2 5
  have e14:=ht4.2 14
  have hz:=frz_rel h3 (.mapIter (some lm.b) clock #[] clock) hn3
  refine ⟨by rw [uG,d3,d2,d1],hz,(Go.VAI.Beneath.refl _ _).alloc (Nat.le_refl _) _,heap_alloc_new _ _,List.nodup_nil,fun k=>?_,_,_,.nilSlice,trel92 (ht4.1.symm.trans rfl) e0 e1 e5 e14,hz,.inl ⟨rfl,rfl,rfl,rfl⟩⟩
  constructor
  ·intro h; cases h
  ·rintro ⟨i,e,x,_,_,h,_⟩
   simp at h
theorem arcs_ret {H:AHeap} {b mid m:Nat} {down:Bool} {caps cb:List AVal} {rwb:Bool} {es sel:List (Key × Int)} {Q:AVal→AHeap→Prop} (hm:(m=36∨m=64)∧down=false∨m=65∧down=true)
  (hob:H.obj b=some (.cells cb rwb)) (hmb:cb[6]? = some (.map mid)) (hmo:H.obj mid=some (.amap (yU es))) (hsel:mayAll down H caps es=some sel) (hlen:es.length≤100000) (hnd:(es.map Prod.fst).Nodup)
  (hq:∀ v' H',Keep Nothing H H'→Own H.next H' v' 1 (xL (vD es sel))→Q v' H'):Ret A 35 [.ptr b 0,.func (.func m) [] caps] H Q:=by
 have hmd:decide (m=65)=down∧(m=36∨m=64∨m=65):=by
  rcases hm with ⟨rfl | rfl,rfl⟩ | ⟨rfl,rfl⟩ <;> simp
 have hke:kentries (yU es)=some es:=kentries_cells es
 have hc:H.cells? b=some cb:=by unfold AHeap.cells?; rw [hob]
 have hmm:H.map? mid=some (yU es):=by unfold AHeap.map?; rw [hmo]
 have hlib:libF 54 55 35 36 64 65 35 [.ptr b 0,.func (.func m) [] caps] H=some ((arcsV H es sel).1,(arcsV H es sel).2):=by
  have e1:libF 54 55 35 36 64 65 35 [.ptr b 0,.func (.func m) [] caps] H=arcsF 36 64 65 [.ptr b 0,.func (.func m) [] caps] H:=rfl
  rw [e1]
  simp only [arcsF,if_pos hmd.2,hc,bnd,Nat.zero_add,hmb,hmm,hke,hmd.1,hsel,if_pos (⟨hlen,hnd⟩:es.length≤100000∧(es.map Prod.fst).Nodup)]
  unfold arcsV
  split <;> rfl
 have hol:(vD es sel).length=sel.length:=by simp [vD,zZ]
 refine Ret.lib rfl (show lawful Tryz.prog (libP 61 62 (libF 54 55 35 36 64 65)) 35 _ H=_ from lawful_eq hlib (arcs_at hm hob hmb hmo hsel hlen hnd)) ?_
 unfold arcsV
 by_cases h0:sel=[]
 ·rw [if_pos h0]
  have hz:xL (vD es sel)=[]:=List.eq_nil_of_length_eq_zero (by rw [xE,hol,h0]; rfl)
  exact hq _ _ (.refl _ _) (by rw [hz]; exact .nil)
 ·rw [if_neg h0]
  exact hq _ _ ((Keep.refl _ _).new _) (.room (Nat.le_refl _) (Nat.lt_succ_self _) (yB rfl) (by rw [xE,hol]; omega))
end Go.Proofs.YtknhlpmmalcchaaGreat

namespace Go.Proofs.YtknhlpmmalcchaaGreat
open Go Go.VAI
set_option linter.unusedSimpArgs false

def zO (k:Key) (x:Int):List (Key × Int)→List (Key × Int)
 | []=>[(k,x)]
 | e :: l=>if k=e.1 then (k,x) :: l else e :: zO k x l
theorem setKey_find (k:Key) (x:Int):∀ (es:List (Key × Int)) (n:Nat),(match wL k es n with | some (i,_)=>(yU es).set (i - n) (.agg (yC k),.int .i64 x) | none=>yU es++[(.agg (yC k),.int .i64 x)])=yU (zO k x es)∧∀ i v,wL k es n=some (i,v)→n≤i
 | [],n=>⟨rfl,fun i v h=>by cases h⟩
 | e :: l,n=>by
  by_cases h:k=e.1
  ·have e1:wL k (e :: l) n=some (n,.int .i64 e.2):=by rw [wL,if_pos h]
   have e2:zO k x (e :: l)=(k,x) :: l:=by rw [zO,if_pos h]
   rw [e1,e2]
   refine ⟨?_,fun i v hi=>?_⟩
   ·simp only [Nat.sub_self]
    rfl
   ·injection hi with hi; injection hi with hi _; omega
  ·have e1:wL k (e :: l) n=wL k l (n+1):=by rw [wL,if_neg h]
   have e2:zO k x (e :: l)=e :: zO k x l:=by rw [zO,if_neg h]
   obtain ⟨i1,i2⟩:=setKey_find k x l (n+1)
   rw [e1,e2]
   have e3:yU (e :: zO k x l)=(.agg (yC e.1),.int .i64 e.2) :: yU (zO k x l):=rfl
   rw [e3,← i1]
   refine ⟨?_,fun i v hi=>by have:=i2 i v hi; omega⟩
   cases hf:wL k l (n+1) with
   | none=>rfl
   | some p =>
    obtain ⟨i,v⟩:=p
    have:=i2 i v hf
    have e4:i - n=(i - (n+1))+1:=by omega
    simp only
    rw [e4]
    rfl
theorem amapUpdate_keys {H:AHeap} {mid:Nat} {es:List (Key × Int)} (h:H.obj mid=some (.amap (yU es))) (k:Key) (x:Int):uK H (.many [.int,.int,.int]) (.map mid) (.agg (yC k)) (.int .i64 x)=some (H.upd mid (some (.amap (yU (zO k x es))))):=by
 have hm:H.map? mid=some (yU es):=by unfold AHeap.map?; rw [h]
 obtain ⟨h1,_⟩:=setKey_find k x es 0
 unfold uK
 simp only [isKey_key,if_true,hm,bnd,findKey_cells]
 cases hf:wL k es 0 with
 | none=>rw [hf] at h1; simp only at h1; rw [← h1]
 | some p =>
  obtain ⟨i,v⟩:=p
  rw [hf] at h1
  simp only [Nat.sub_zero] at h1
  rw [← h1]
theorem setKey_keys (k:Key) (x:Int):∀ es:List (Key × Int),(zO k x es).map Prod.fst=if k∈es.map Prod.fst then es.map Prod.fst else es.map Prod.fst++[k]
 | []=>by simp [zO]
 | e :: l=>by
  have ih:=setKey_keys k x l
  by_cases h:k=e.1
  ·subst h
   simp [zO]
  ·have h2:¬ e.1=k:=fun q=>h q.symm
   rw [zO,if_neg h,List.map_cons,ih]
   by_cases hm:k∈l.map Prod.fst
   ·rw [if_pos hm,if_pos (by simp [hm])]
    rfl
   ·rw [if_neg hm,if_neg (by rw [List.map_cons,List.mem_cons]; exact fun q=>q.elim h hm)]
    rfl
theorem setKey_nodup {k:Key} {x:Int} {es:List (Key × Int)} (h:(es.map Prod.fst).Nodup):((zO k x es).map Prod.fst).Nodup:=by
 rw [setKey_keys]
 split
 ·exact h
 ·rename_i hk
  rw [List.nodup_append]
  exact ⟨h,by simp,fun a ha c hc e=>by simp at hc; subst hc; subst e; exact hk ha⟩
theorem setKey_val (k:Key) (x:Int) (k':Key):∀ es:List (Key × Int),yZ (zO k x es) k'=(if k'=k then x else yZ es k')∧yW (zO k x es) k'=(decide (k'=k) || yW es k')
 | []=>by
  by_cases h:k'=k
  ·subst h; simp [zO,yZ,yW]
  ·have h':¬ k=k':=fun q=>h q.symm
   simp [zO,yZ,yW,h,h']
 | e :: l=>by
  obtain ⟨i1,i2⟩:=setKey_val k x k' l
  by_cases he:k=e.1
  ·subst he
   by_cases h:k'=e.1
   ·subst h; simp [zO,yZ,yW]
   ·have h':¬ e.1=k':=fun q=>h q.symm
    simp [zO,yZ,yW,h,h']
  ·rw [zO,if_neg he]
   by_cases h:e.1=k'
   ·subst h
    have he':¬ e.1=k:=fun q=>he q.symm
    simp [yZ,yW,he']
   ·have e1:∀ es':List (Key × Int),yZ (e :: es') k'=yZ es' k':=fun es'=>by simp [yZ,h]
    have e2:∀ es':List (Key × Int),yW (e :: es') k'=yW es' k':=fun es'=>by simp [yW,h]
    rw [e1,e1,e2,e2]
    exact ⟨i1,i2⟩

structure HLay (H:AHeap) (b mid rid uid did gid N:Nat) (es:List Edge) (ew av:AVal) (ms:List (Key × Int)) (arcs:List Arc) (gone:List Bool) (rank:List Int) (us ds:List AVal):Prop where
 bo:H.obj b=some (.cells [.int .i64 N,ew,.slice rid 0 N (.exact N),av,.slice uid 0 N (.exact N),.slice did 0 N (.exact N),.map mid,.slice gid 0 N (.exact N)] true)
 mo:H.obj mid=some (.amap (yU ms))
 ro:H.obj rid=some (.cells (xL rank) true)
 uo:H.obj uid=some (.cells us true)
 dO:H.obj did=some (.cells ds true)
 go:H.obj gid=some (.cells (xV gone) true)
 ord:rid < uid∧uid < did∧did < mid∧mid < gid∧gid < b∧b < H.next
 ewid:∀ j,sid ew=some j→j < rid
 edges:Row H ew 4 (xG es)
 arcsO:Own (b+1) H av 7 (xW arcs)
 rl:rank.length=N
 ul:us.length=N
 dl:ds.length=N
 gl:gone.length=N
end Go.Proofs.YtknhlpmmalcchaaGreat

namespace Go.Proofs.YtknhlpmmalcchaaGreat
open Go Go.VAI
set_option linter.unusedSimpArgs false

set_option maxHeartbeats 1000000 in
theorem add_ret {H:AHeap} {b mid rid uid did gid N:Nat} {es:List Edge} {ew av:AVal} {ms:List (Key × Int)} {arcs:List Arc} {gone:List Bool} {rank:List Int} {us ds:List AVal} {Q:AVal→AHeap→Prop}
  (h:HLay H b mid rid uid did gid N es ew av ms arcs gone rank us ds) (a:Arc) (hlen:arcs.length≤1000000)
  (hq:∀ H' av',Keep (fun j=>j=b∨j=mid∨sid av=some j) H H'→HLay H' b mid rid uid did gid N es ew av' (zO (a.src,a.dst,a.mode) arcs.length ms) (arcs++[a]) gone rank us ds→(∃ y,sid av'=some y∧H.next≤y)→Q (.tuple []) H') :
  Ret A 56 [.ptr b 0,.agg a.cells] H Q:=by
 refine Ret.of (fn:=F56) rfl ?_
 obtain ⟨o1,o2,o3,o4,o5,o6⟩:=h.ord
 have hl:=h.arcsO.row.len (by omega) (yJ arcs)
 have hav:=h.arcsO.cells
 have hsa:∀ j,sid av=some j→b+1≤j∧j < H.next:=fun j hj=>h.arcsO.sid_ge hj
 unfold Arc.cells
 have hup:=amapUpdate_keys (H:=H.new (.cells [.int .i64 a.src,.int .i64 a.dst,.int .i64 a.mode,.int .i64 a.cost,.int .i64 a.edge,.int .i64 a.a,.int .i64 a.b] true)) (mid:=mid) (es:=ms) (by rw [xX (by omega)]; exact h.mo) (a.src,a.dst,a.mode) arcs.length
 unfold yC at hup
 simp (disch:=first | omega | (simp only [nx] <;> omega) | fail) only [vaw,F56,h.bo,hl,hup,Nat.reduceAdd,Nat.reduceMul,Nat.reduceLeDiff,Nat.reduceEqDiff,↓reduceIte]
 refine vK (n:=arcs.length) (k:=1) h.arcsO (by simp (disch:=first | omega | (simp only [nx] <;> omega) | fail) only [xI]; rfl) rfl (by omega) (by omega) (yJ arcs) (by omega) (by omega) ?_
 intro v6 H6 n6 k6 g6 s6
 simp only [xB,xC] at n6 k6 s6
 have bo6:H6.obj b=some (.cells [.int .i64 N,ew,.slice rid 0 N (.exact N),av,.slice uid 0 N (.exact N),.slice did 0 N (.exact N),.map mid,.slice gid 0 N (.exact N)] true):=by
  rw [k6 b (by omega) (fun e=>by have:=hsa _ e; omega)]
  simp (disch:=first | omega | (simp only [nx] <;> omega) | fail) only [xI,h.bo]
 have mo6:H6.obj mid=some (.amap (yU (zO (a.src,a.dst,a.mode) arcs.length ms))):=by
  rw [k6 mid (by omega) (fun e=>by have:=hsa _ e; omega)]
  simp (disch:=first | omega | (simp only [nx] <;> omega) | fail) only [xI]
 have old6:∀ j,j < H.next→j≠mid→sid av≠some j→H6.obj j=H.obj j:=fun j hj hm hs=>by
  rw [k6 j (by omega) hs]
  simp (disch:=first | omega | (simp only [nx] <;> omega) | fail) only [xI]
 have c6:=g6.cells
 simp (disch:=first | omega | (simp only [nx] <;> omega) | fail) only [vaw,c6,bo6,Nat.reduceAdd,Nat.reduceMul,Nat.reduceLeDiff,Nat.reduceEqDiff,↓reduceIte]
 have hac:xW (arcs++[a])=xW arcs++[.int .i64 a.src,.int .i64 a.dst,.int .i64 a.mode,.int .i64 a.cost,.int .i64 a.edge,.int .i64 a.a,.int .i64 a.b]:=by
  rw [arcCells_append]
  rfl
 have s6':∀ j,sid v6=some j→j≠b:=fun j hj=>by
  obtain ⟨y,y1,y2⟩:=s6
  rw [y1] at hj
  injection hj with hj
  omega
 have own6:=g6.own.upd (id:=b) s6' (some (.cells [.int .i64 N,ew,.slice rid 0 N (.exact N),v6,.slice uid 0 N (.exact N),.slice did 0 N (.exact N),.map mid,.slice gid 0 N (.exact N)] true))
 rw [← hac] at own6
 have kF:Keep (fun j=>j=b∨j=mid∨sid av=some j) H (H6.upd b (some (.cells [.int .i64 N,ew,.slice rid 0 N (.exact N),v6,.slice uid 0 N (.exact N),.slice did 0 N (.exact N),.map mid,.slice gid 0 N (.exact N)] true))):=⟨by simp only [xC]; omega,fun j hj hM=>by
  rw [xQ (fun e=>hM (.inl e))]
  exact old6 j hj (fun e=>hM (.inr (.inl e))) (fun e=>hM (.inr (.inr e)))⟩
 have low:∀ j,j < b→j≠mid→(H6.upd b (some (.cells [.int .i64 N,ew,.slice rid 0 N (.exact N),v6,.slice uid 0 N (.exact N),.slice did 0 N (.exact N),.map mid,.slice gid 0 N (.exact N)] true))).obj j=H.obj j:=fun j hj hm=>kF.obj j (by omega) (fun e=>by rcases e with e | e | e; omega; exact hm e; have:=hsa _ e; omega)
 refine hq _ v6 kF ⟨xN rfl,?_,?_,?_,?_,?_,⟨o1,o2,o3,o4,o5,by simp only [xC]; omega⟩,h.ewid,?_,own6,h.rl,h.ul,h.dl,h.gl⟩ (by obtain ⟨y,y1,y2⟩:=s6; exact ⟨y,y1,by omega⟩)
 ·rw [xQ (by omega)]; exact mo6
 ·rw [low _ (by omega) (by omega)]; exact h.ro
 ·rw [low _ (by omega) (by omega)]; exact h.uo
 ·rw [low _ (by omega) (by omega)]; exact h.dO
 ·rw [low _ (by omega) (by omega)]; exact h.go
 ·exact h.edges.M kF (fun j hj e=>by
   have:=h.ewid j hj
   rcases e with e | e | e
   ·omega
   ·omega
   ·have:=hsa _ e; omega)
end Go.Proofs.YtknhlpmmalcchaaGreat

namespace Go.Proofs.YtknhlpmmalcchaaGreat
open Go Go.VAI
set_option linter.unusedSimpArgs false

def wV (ms:List (Key × Int)) (arcs:List Arc) (i k:Nat) (x y:Arc):Option Arc :=
 if x.mode≠y.mode then none
 else if yW ms (x.src,y.dst,x.mode)=false∨x.cost+y.cost < (arcs.getD (yZ ms (x.src,y.dst,x.mode)).toNat default).cost then some ⟨x.src,y.dst,x.mode,x.cost+y.cost,-1,i,k⟩ else none
abbrev MA:=List (Key × Int) × List Arc
def addTo (s:MA):Option Arc→MA
 | none=>s
 | some a=>(zO (a.src,a.dst,a.mode) s.2.length s.1,s.2++[a])
theorem HLay.kept {H H':AHeap} {b mid rid uid did gid N:Nat} {es:List Edge} {ew av:AVal} {ms:List (Key × Int)} {arcs:List Arc} {gone:List Bool} {rank:List Int} {us ds:List AVal} (h:HLay H b mid rid uid did gid N es ew av ms arcs gone rank us ds) (hk:Keep Nothing H H'):HLay H' b mid rid uid did gid N es ew av ms arcs gone rank us ds:=by
 obtain ⟨o1,o2,o3,o4,o5,o6⟩:=h.ord
 have hn:=hk.next
 exact ⟨(hk.old (by omega)).trans h.bo,(hk.old (by omega)).trans h.mo,(hk.old (by omega)).trans h.ro,(hk.old (by omega)).trans h.uo,(hk.old (by omega)).trans h.dO,(hk.old (by omega)).trans h.go,⟨o1,o2,o3,o4,o5,by omega⟩,h.ewid,h.edges.kept hk,h.arcsO.kept hk,h.rl,h.ul,h.dl,h.gl⟩
set_option maxHeartbeats 2000000 in
theorem around_ret {H:AHeap} {b mid rid uid did gid N:Nat} {es:List Edge} {ew av:AVal} {ms:List (Key × Int)} {arcs:List Arc} {gone:List Bool} {rank:List Int} {us ds:List AVal} {Q:AVal→AHeap→Prop}
  (h:HLay H b mid rid uid did gid N es ew av ms arcs gone rank us ds) {i k:Nat} {x y:Arc} (hi:arcs[i]? = some x) (hk:arcs[k]? = some y) (hx:0≤x.cost∧x.cost≤1000000000000000000) (hy:0≤y.cost∧y.cost≤1000000000000000000)
  (hat:∀ q,yW ms q=true→0≤yZ ms q∧∃ z,arcs[(yZ ms q).toNat]? = some z) (hlen:arcs.length≤1000000)
  (hq:∀ H' av',Keep (fun j=>j=b∨j=mid∨sid av=some j) H H'→HLay H' b mid rid uid did gid N es ew av' (addTo (ms,arcs) (wV ms arcs i k x y)).1 (addTo (ms,arcs) (wV ms arcs i k x y)).2 gone rank us ds→(∀ j,sid av'=some j→sid av=some j∨H.next≤j)→Q (.tuple []) H') :
  Ret A 66 [.ptr b 0,.int .i64 i,.int .i64 k] H Q:=by
 refine Ret.of (fn:=F66) rfl ?_
 obtain ⟨o1,o2,o3,o4,o5,o6⟩:=h.ord
 obtain ⟨id1,off1,a1,a2,a3,a4⟩:=vZ h.arcsO.row hi
 obtain ⟨id2,off2,b1,b2,b3,b4⟩:=vZ h.arcsO.row hk
 unfold Arc.cells at a4 b4
 have hav:=h.arcsO.cells
 have hbe:=h.arcsO.beq
 have hsa:∀ j,sid av=some j→b+1≤j∧j < H.next:=fun j hj=>h.arcsO.sid_ge hj
 have bq:∀ z:Arc,AVal.beq (.agg [.int .i64 z.src,.int .i64 z.dst,.int .i64 z.mode,.int .i64 z.cost,.int .i64 z.edge,.int .i64 z.a,.int .i64 z.b]) (.agg [.int .i64 z.src,.int .i64 z.dst,.int .i64 z.mode,.int .i64 z.cost,.int .i64 z.edge,.int .i64 z.a,.int .i64 z.b])=true:=fun z=>by simp [AVal.beq,AVal.beqs]
 have kA:Keep Nothing H ((((H.new (.cells [.int .i64 0,.int .i64 0,.int .i64 0,.int .i64 0,.int .i64 0,.int .i64 0,.int .i64 0] true)).new (.cells [.int .i64 0,.int .i64 0,.int .i64 0,.int .i64 0,.int .i64 0,.int .i64 0,.int .i64 0] true)).upd H.next (some (.cells [.int .i64 x.src,.int .i64 x.dst,.int .i64 x.mode,.int .i64 x.cost,.int .i64 x.edge,.int .i64 x.a,.int .i64 x.b] true))).upd (H.next+1) (some (.cells [.int .i64 y.src,.int .i64 y.dst,.int .i64 y.mode,.int .i64 y.cost,.int .i64 y.edge,.int .i64 y.a,.int .i64 y.b] true))):=((((Keep.refl _ _).new _).new _).upd (.inl (Nat.le_refl _)) _).upd (.inl (by omega)) _
 have oX:((((H.new (.cells [.int .i64 0,.int .i64 0,.int .i64 0,.int .i64 0,.int .i64 0,.int .i64 0,.int .i64 0] true)).new (.cells [.int .i64 0,.int .i64 0,.int .i64 0,.int .i64 0,.int .i64 0,.int .i64 0,.int .i64 0] true)).upd H.next (some (.cells [.int .i64 x.src,.int .i64 x.dst,.int .i64 x.mode,.int .i64 x.cost,.int .i64 x.edge,.int .i64 x.a,.int .i64 x.b] true))).upd (H.next+1) (some (.cells [.int .i64 y.src,.int .i64 y.dst,.int .i64 y.mode,.int .i64 y.cost,.int .i64 y.edge,.int .i64 y.a,.int .i64 y.b] true))).obj H.next=some (.cells [.int .i64 x.src,.int .i64 x.dst,.int .i64 x.mode,.int .i64 x.cost,.int .i64 x.edge,.int .i64 x.a,.int .i64 x.b] true):=by simp (disch:=first | omega | (simp only [nx] <;> omega) | fail) only [xI]
 have oY:((((H.new (.cells [.int .i64 0,.int .i64 0,.int .i64 0,.int .i64 0,.int .i64 0,.int .i64 0,.int .i64 0] true)).new (.cells [.int .i64 0,.int .i64 0,.int .i64 0,.int .i64 0,.int .i64 0,.int .i64 0,.int .i64 0] true)).upd H.next (some (.cells [.int .i64 x.src,.int .i64 x.dst,.int .i64 x.mode,.int .i64 x.cost,.int .i64 x.edge,.int .i64 x.a,.int .i64 x.b] true))).upd (H.next+1) (some (.cells [.int .i64 y.src,.int .i64 y.dst,.int .i64 y.mode,.int .i64 y.cost,.int .i64 y.edge,.int .i64 y.a,.int .i64 y.b] true))).obj (H.next+1)=some (.cells [.int .i64 y.src,.int .i64 y.dst,.int .i64 y.mode,.int .i64 y.cost,.int .i64 y.edge,.int .i64 y.a,.int .i64 y.b] true):=xN rfl
 have nA:((((H.new (.cells [.int .i64 0,.int .i64 0,.int .i64 0,.int .i64 0,.int .i64 0,.int .i64 0,.int .i64 0] true)).new (.cells [.int .i64 0,.int .i64 0,.int .i64 0,.int .i64 0,.int .i64 0,.int .i64 0,.int .i64 0] true)).upd H.next (some (.cells [.int .i64 x.src,.int .i64 x.dst,.int .i64 x.mode,.int .i64 x.cost,.int .i64 x.edge,.int .i64 x.a,.int .i64 x.b] true))).upd (H.next+1) (some (.cells [.int .i64 y.src,.int .i64 y.dst,.int .i64 y.mode,.int .i64 y.cost,.int .i64 y.edge,.int .i64 y.a,.int .i64 y.b] true))).next=H.next+2:=rfl
 by_cases hmode:x.mode=y.mode
 ·have hdm:decide (x.mode≠y.mode)=false:=by simp [hmode]
  simp (disch:=first | omega | (simp only [nx] <;> omega) | fail) only [vaw,F66,h.bo,a1,a4,b1,b4,xF hbe,xF (bq y),hdm,Nat.reduceAdd,Nat.reduceMul,Nat.reduceLeDiff,Nat.reduceEqDiff,↓reduceIte]
  generalize (((H.new (.cells [.int .i64 0,.int .i64 0,.int .i64 0,.int .i64 0,.int .i64 0,.int .i64 0,.int .i64 0] true)).new (.cells [.int .i64 0,.int .i64 0,.int .i64 0,.int .i64 0,.int .i64 0,.int .i64 0,.int .i64 0] true)).upd H.next (some (.cells [.int .i64 x.src,.int .i64 x.dst,.int .i64 x.mode,.int .i64 x.cost,.int .i64 x.edge,.int .i64 x.a,.int .i64 x.b] true))).upd (H.next+1) (some (.cells [.int .i64 y.src,.int .i64 y.dst,.int .i64 y.mode,.int .i64 y.cost,.int .i64 y.edge,.int .i64 y.a,.int .i64 y.b] true))=HA at *
  have hlk:=qE (H:=HA) (mid:=mid) (es:=ms) (by rw [kA.old (by omega)]; exact h.mo) (x.src,y.dst,x.mode) true
  unfold yC at hlk
  have boA:=(kA.old (i:=b) (by omega)).trans h.bo
  have hL:=h.kept kA
  have nA':=kA.next
  rw [hlk]
  cases hhk:yW ms (x.src,y.dst,x.mode) with
  | false =>
   simp (disch:=first | omega | (simp only [nx] <;> omega) | fail) only [vaw,zJ,oX,oY,boA,Nat.reduceAdd,Nat.reduceMul,Nat.reduceLeDiff,Nat.reduceEqDiff,↓reduceIte]
   have ha:wV ms arcs i k x y=some ⟨x.src,y.dst,x.mode,x.cost+y.cost,-1,i,k⟩:=by simp [wV,hmode] at hhk ⊢; simp [hhk]
   refine add_ret hL ⟨x.src,y.dst,x.mode,x.cost+y.cost,-1,i,k⟩ hlen fun H' av' kF h' s'=>?_
   simp (disch:=first | omega | (simp only [nx] <;> omega) | fail) only [vaw,Nat.reduceAdd,Nat.reduceMul,Nat.reduceLeDiff,Nat.reduceEqDiff,↓reduceIte]
   refine hq H' av' ((kA.any).trans' kF (fun _ _ e=>e)) (by rw [ha]; exact h') (fun j hj=>?_)
   obtain ⟨w,w1,w2⟩:=s'
   rw [w1] at hj
   injection hj with hj
   exact .inr (by omega)
  | true =>
   obtain ⟨v0,z,hz⟩:=hat _ hhk
   simp (disch:=first | omega | (simp only [nx] <;> omega) | fail) only [vaw,zJ,oX,oY,boA,Nat.reduceAdd,Nat.reduceMul,Nat.reduceLeDiff,Nat.reduceEqDiff,↓reduceIte]
   obtain ⟨n,hn⟩:=Int.eq_ofNat_of_zero_le v0
   rw [hn,Int.toNat_natCast] at hz
   obtain ⟨id3,off3,c1,c2,c3,_⟩:=vZ hL.arcsO.row hz
   have hgd:(arcs.getD (yZ ms (x.src,y.dst,x.mode)).toNat default).cost=z.cost:=by rw [hn,Int.toNat_natCast]; simp [hz]
   by_cases hcc:x.cost+y.cost < z.cost
   ·have ha:wV ms arcs i k x y=some ⟨x.src,y.dst,x.mode,x.cost+y.cost,-1,i,k⟩:=by
     unfold wV
     rw [if_neg (fun e=>e hmode),if_pos (.inr (by rw [hgd]; exact hcc))]
    simp (disch:=first | omega | (simp only [nx] <;> omega) | fail) only [vaw,zJ,hn,c1,c3,hcc,oX,oY,boA,Nat.reduceAdd,Nat.reduceMul,Nat.reduceLeDiff,Nat.reduceEqDiff,↓reduceIte]
    refine add_ret hL ⟨x.src,y.dst,x.mode,x.cost+y.cost,-1,i,k⟩ hlen fun H' av' kF h' s'=>?_
    simp (disch:=first | omega | (simp only [nx] <;> omega) | fail) only [vaw,Nat.reduceAdd,Nat.reduceMul,Nat.reduceLeDiff,Nat.reduceEqDiff,↓reduceIte]
    refine hq H' av' ((kA.any).trans' kF (fun _ _ e=>e)) (by rw [ha]; exact h') (fun j hj=>?_)
    obtain ⟨w,w1,w2⟩:=s'
    rw [w1] at hj
    injection hj with hj
    exact .inr (by omega)
   ·have ha:wV ms arcs i k x y=none:=by
     unfold wV
     rw [if_neg (fun e=>e hmode),if_neg (fun e=>by
      rcases e with e | e
      ·rw [hhk] at e; cases e
      ·rw [hgd] at e; exact hcc e)]
    simp (disch:=first | omega | (simp only [nx] <;> omega) | fail) only [vaw,zJ,hn,c1,c3,hcc,oX,oY,boA,Nat.reduceAdd,Nat.reduceMul,Nat.reduceLeDiff,Nat.reduceEqDiff,↓reduceIte]
    exact hq HA av kA.any (by rw [ha]; exact hL) (fun j hj=>.inl hj)
 ·have hdm:decide (x.mode≠y.mode)=true:=by simp [hmode]
  simp (disch:=first | omega | (simp only [nx] <;> omega) | fail) only [vaw,F66,h.bo,a1,a4,b1,b4,xF hbe,xF (bq y),hdm,Nat.reduceAdd,Nat.reduceMul,Nat.reduceLeDiff,Nat.reduceEqDiff,↓reduceIte]
  have ha:wV ms arcs i k x y=none:=by
   unfold wV
   rw [if_pos hmode]
  exact hq _ av kA.any (by rw [ha]; exact h.kept kA) (fun j hj=>.inl hj)
end Go.Proofs.YtknhlpmmalcchaaGreat

namespace Go.Proofs.YtknhlpmmalcchaaGreat
open Go Go.VAI
set_option linter.unusedSimpArgs false

structure MapCur (N:Nat) (ms:List (Key × Int)) (cur:List Int):Prop where
 len:cur.length=N*N*5
 nodup:(ms.map Prod.fst).Nodup
 rng:∀ e∈ms,(0≤e.1.1∧e.1.1 < N)∧(0≤e.1.2.1∧e.1.2.1 < N)∧(0≤e.1.2.2∧e.1.2.2 < 5)∧0≤e.2
 at_:∀ u v m:Nat,u < N→v < N→m < 5→cv N cur u v m=if yW ms ((u:Int),(v:Int),(m:Int))=true then yZ ms ((u:Int),(v:Int),(m:Int))+1 else 0
theorem uI {ms:List (Key × Int)} {k:Key}:yW ms k=true↔k∈ms.map Prod.fst:=by
 unfold yW
 rw [List.find?_isSome]
 simp only [List.mem_map,decide_eq_true_iff]
theorem valAt_mem {ms:List (Key × Int)} (h:(ms.map Prod.fst).Nodup) {k:Key} {x:Int} (hm:(k,x)∈ms):yZ ms k=x:=by
 induction ms with
 | nil=>cases hm
 | cons e l ih =>
  rw [List.map_cons,List.nodup_cons] at h
  rcases List.mem_cons.1 hm with rfl | hm
  ·simp [yZ]
  ·have hne:¬ e.1=k:=fun q=>h.1 (List.mem_map.2 ⟨(k,x),hm,q.symm⟩)
   have e1:yZ (e :: l) k=yZ l k:=by simp [yZ,hne]
   rw [e1]
   exact ih h.2 hm
theorem valAt_of {ms:List (Key × Int)} {k:Key} (h:yW ms k=true):(k,yZ ms k)∈ms:=by
 induction ms with
 | nil=>cases h
 | cons e l ih =>
  by_cases he:e.1=k
  ·subst he
   simp [yZ]
  ·have e1:yZ (e :: l) k=yZ l k:=by simp [yZ,he]
   have e2:yW (e :: l) k=yW l k:=by simp [yW,he]
   rw [e1]
   exact List.mem_cons_of_mem _ (ih (by rw [← e2]; exact h))
theorem MapCur.set {N:Nat} {ms:List (Key × Int)} {cur:List Int} (h:MapCur N ms cur) {u v m:Nat} (hu:u < N) (hv:v < N) (hm:m < 5) {x:Int} (hx:0≤x):MapCur N (zO ((u:Int),(v:Int),(m:Int)) x ms) (cur.set (xR N u v m) (x+1)):=by
 refine ⟨by rw [List.length_set]; exact h.len,setKey_nodup h.nodup,fun e he=>?_,fun u' v' m' hu' hv' hm'=>?_⟩
 ·have hk:e.1∈(zO ((u:Int),(v:Int),(m:Int)) x ms).map Prod.fst:=List.mem_map_of_mem he
  have hval:=valAt_mem (setKey_nodup (k:=((u:Int),(v:Int),(m:Int))) (x:=x) h.nodup) (k:=e.1) (x:=e.2) he
  obtain ⟨s1,s2⟩:=setKey_val ((u:Int),(v:Int),(m:Int)) x e.1 ms
  by_cases hq:e.1=((u:Int),(v:Int),(m:Int))
  ·rw [s1,if_pos hq] at hval
   rw [hq,← hval]
   simp only
   omega
  ·rw [setKey_keys] at hk
   have hk':e.1∈ms.map Prod.fst:=by
    split at hk
    ·exact hk
    ·rcases List.mem_append.1 hk with hk | hk
     ·exact hk
     ·exact absurd (List.mem_singleton.1 hk) hq
   have h2:=valAt_of (uI.2 hk')
   rw [s1,if_neg hq] at hval
   have h3:=h.rng _ h2
   simp only at h3
   rw [hval] at h3
   exact h3
 ·obtain ⟨s1,s2⟩:=setKey_val ((u:Int),(v:Int),(m:Int)) x ((u':Int),(v':Int),(m':Int)) ms
  rw [s1,s2]
  by_cases hq:u'=u∧v'=v∧m'=m
  ·obtain ⟨rfl,rfl,rfl⟩:=hq
   rw [cv_set_same h.len hu hv hm]
   simp
  ·have hne:¬ (((u':Int),(v':Int),(m':Int)):Key)=((u:Int),(v:Int),(m:Int)):=fun e=>hq (by
    injection e with e1 e2
    injection e2 with e2 e3
    omega)
   rw [vJ hv hm hv' hm' hq,h.at_ u' v' m' hu' hv' hm']
   simp [hne]
def keysBy (f:Nat→Nat→Key) (c:Nat→Nat→Bool) (N:Nat):List Key:=(List.range N).flatMap fun u=>(List.range 5).flatMap fun m=>if c u m then [f u m] else []
theorem keysBy_mem {f:Nat→Nat→Key} {c:Nat→Nat→Bool} {N:Nat} {k:Key}:k∈keysBy f c N↔∃ u m,u < N∧m < 5∧c u m=true∧k=f u m:=by
 simp only [keysBy,List.mem_flatMap,List.mem_range]
 constructor
 ·rintro ⟨u,hu,m,hm,hk⟩
  cases hc:c u m with
  | true=>rw [hc] at hk; simp at hk; exact ⟨u,m,hu,hm,hc,hk⟩
  | false=>rw [hc] at hk; simp at hk
 ·rintro ⟨u,m,hu,hm,hc,rfl⟩
  exact ⟨u,hu,m,hm,by rw [hc]; simp⟩
theorem keysBy_sorted {f:Nat→Nat→Key} {c:Nat→Nat→Bool} {N:Nat} (h1:∀ u m m',m < m'→keyLt (f u m) (f u m')=true) (h2:∀ u u' m m',u < u'→keyLt (f u m) (f u' m')=true):(keysBy f c N).Pairwise fun a b=>keyLt a b=true:=by
 unfold keysBy
 rw [List.pairwise_flatMap]
 refine ⟨fun u _=>?_,?_⟩
 ·rw [List.pairwise_flatMap]
  refine ⟨fun m _=>by split <;> simp,?_⟩
  refine List.pairwise_lt_range.imp fun {m m'} hm x hx y hy=>?_
  split at hx <;> simp at hx
  split at hy <;> simp at hy
  subst hx; subst hy
  exact h1 u m m' hm
 ·refine List.pairwise_lt_range.imp fun {u u'} hu x hx y hy=>?_
  simp only [List.mem_flatMap,List.mem_range] at hx hy
  obtain ⟨m,_,hx⟩:=hx
  obtain ⟨m',_,hy⟩:=hy
  split at hx <;> simp at hx
  split at hy <;> simp at hy
  subst hx; subst hy
  exact h2 u u' m m' hu
theorem sortKeys_eq {a b:List Key} (hn:a.Nodup) (hb:b.Pairwise fun x y=>keyLt x y=true) (hm:∀ k,k∈a↔k∈b):yF a=b:=by
 have hbn:b.Nodup:=by
  rw [List.nodup_iff_pairwise_ne]
  refine hb.imp fun {x y} h e=>?_
  subst e
  rw [vX] at h
  omega
 refine List.Perm.eq_of_pairwise (fun x y _ _=>keyLe_anti x y) (List.pairwise_mergeSort keyLe_trans keyLe_total a) (hb.imp fun {x y} h=>?_) ?_
 ·rw [Bool.not_eq_true',keyLt_not]
  rw [vX] at h
  omega
 ·exact (List.mergeSort_perm a _).trans ((List.perm_ext_iff_of_nodup hn hbn).2 hm)
theorem qC {α β:Type} {f g:α→List β}:∀ {l:List α},(∀ x∈l,f x=g x)→l.flatMap f=l.flatMap g
 | [],_=>rfl
 | x :: l,h=>by
  rw [List.flatMap_cons,List.flatMap_cons,h x List.mem_cons_self,qC (fun y hy=>h y (List.mem_cons_of_mem _ hy))]
theorem step_same {ms:List (Key × Int)} {k:Key} {g:Bool} (h:yW ms k=true→0≤yZ ms k):(if (yW ms k && !g)=true then [k] else []).map (yZ ms)=if 0 < (if yW ms k=true then yZ ms k+1 else 0)∧g=false then [(if yW ms k=true then yZ ms k+1 else 0) - 1] else []:=by
 cases hk:yW ms k with
 | false=>simp
 | true =>
  have:=h hk
  cases g with
  | true=>simp
  | false =>
   have h1:0 < yZ ms k+1:=by omega
   simp [h1]
def upSel (ms:List (Key × Int)) (gone:List Bool) (v:Nat):List (Key × Int):=ms.filter fun e=>decide (e.1.1=(v:Int)) && !gone.getD e.1.2.1.toNat false
def downSel (ms:List (Key × Int)) (gone:List Bool) (v:Nat):List (Key × Int):=ms.filter fun e=>decide (e.1.2.1=(v:Int)) && (decide (e.1.1≠(v:Int)) && !gone.getD e.1.1.toNat false)
theorem sel_nodup {ms:List (Key × Int)} (h:(ms.map Prod.fst).Nodup) (p:Key × Int→Bool):((ms.filter p).map Prod.fst).Nodup:=h.sublist ((List.filter_sublist).map _)
theorem up_eq {N:Nat} {ms:List (Key × Int)} {cur:List Int} (h:MapCur N ms cur) (gone:List Bool) {v:Nat} (hv:v < N):vD ms (upSel ms gone v)=zM N cur gone v N:=by
 have hs:yF ((upSel ms gone v).map Prod.fst)=keysBy (fun u m=>((v:Int),(u:Int),(m:Int))) (fun u m=>yW ms ((v:Int),(u:Int),(m:Int)) && !gone.getD u false) N:=by
  refine sortKeys_eq (sel_nodup h.nodup _) (keysBy_sorted (fun u m m' hm=>?_) (fun u u' m m' hu=>?_)) fun k=>?_
  ·rw [vX]
   exact .inr ⟨rfl,.inr ⟨rfl,Int.ofNat_lt.2 hm⟩⟩
  ·rw [vX]
   exact .inr ⟨rfl,.inl (Int.ofNat_lt.2 hu)⟩
  ·rw [keysBy_mem]
   simp only [upSel,List.mem_map,List.mem_filter,Bool.and_eq_true,decide_eq_true_iff]
   constructor
   ·rintro ⟨⟨⟨a,b,c⟩,x⟩,⟨h1,h2,h3⟩,rfl⟩
    have hr:=h.rng _ h1
    simp only at hr h2 h3
    refine ⟨b.toNat,c.toNat,by omega,by omega,⟨?_,h3⟩,?_⟩
    ·rw [uI]
     exact List.mem_map.2 ⟨_,h1,by simp only; rw [h2,Int.toNat_of_nonneg hr.2.1.1,Int.toNat_of_nonneg hr.2.2.1.1]⟩
    ·rw [h2,Int.toNat_of_nonneg hr.2.1.1,Int.toNat_of_nonneg hr.2.2.1.1]
   ·rintro ⟨u,m,hu,hm,⟨h1,h2⟩,rfl⟩
    exact ⟨_,⟨valAt_of h1,rfl,by simpa using h2⟩,rfl⟩
 unfold vD
 rw [hs]
 unfold keysBy zM outRow
 rw [List.map_flatMap]
 refine qC fun u hu=>?_
 rw [List.map_flatMap]
 refine qC fun m hm=>?_
 have hat:=h.at_ v u m hv (List.mem_range.1 hu) (List.mem_range.1 hm)
 unfold cv at hat
 unfold outStep
 simp only
 rw [hat]
 exact step_same fun hk=>(h.rng _ (valAt_of hk)).2.2.2
theorem down_eq {N:Nat} {ms:List (Key × Int)} {cur:List Int} (h:MapCur N ms cur) (gone:List Bool) {v:Nat} (hv:v < N):vD ms (downSel ms gone v)=vI N cur gone v N:=by
 have hs:yF ((downSel ms gone v).map Prod.fst)=keysBy (fun u m=>((u:Int),(v:Int),(m:Int))) (fun u m=>yW ms ((u:Int),(v:Int),(m:Int)) && (decide (u≠v) && !gone.getD u false)) N:=by
  refine sortKeys_eq (sel_nodup h.nodup _) (keysBy_sorted (fun u m m' hm=>?_) (fun u u' m m' hu=>?_)) fun k=>?_
  ·rw [vX]
   exact .inr ⟨rfl,.inr ⟨rfl,Int.ofNat_lt.2 hm⟩⟩
  ·rw [vX]
   exact .inl (Int.ofNat_lt.2 hu)
  ·rw [keysBy_mem]
   simp only [downSel,List.mem_map,List.mem_filter,Bool.and_eq_true,decide_eq_true_iff]
   constructor
   ·rintro ⟨⟨⟨a,b,c⟩,x⟩,⟨h1,h2,h3,h4⟩,rfl⟩
    have hr:=h.rng _ h1
    simp only at hr h2 h3 h4
    refine ⟨a.toNat,c.toNat,by omega,by omega,⟨?_,by omega,h4⟩,?_⟩
    ·rw [uI]
     exact List.mem_map.2 ⟨_,h1,by simp only; rw [h2,Int.toNat_of_nonneg hr.1.1,Int.toNat_of_nonneg hr.2.2.1.1]⟩
    ·rw [h2,Int.toNat_of_nonneg hr.1.1,Int.toNat_of_nonneg hr.2.2.1.1]
   ·rintro ⟨u,m,hu,hm,⟨h1,h2,h3⟩,rfl⟩
    exact ⟨_,⟨valAt_of h1,rfl,by simp only; omega,by simpa using h3⟩,rfl⟩
 unfold vD
 rw [hs]
 unfold keysBy vI inRow
 rw [List.map_flatMap]
 refine qC fun u hu=>?_
 by_cases huv:u=v
 ·subst huv
  rw [if_pos rfl,List.map_flatMap]
  refine List.flatMap_eq_nil_iff.2 fun m _=>?_
  simp
 ·rw [if_neg huv,List.map_flatMap]
  refine qC fun m hm=>?_
  have hat:=h.at_ u v m (List.mem_range.1 hu) hv (List.mem_range.1 hm)
  unfold cv at hat
  unfold inStep
  simp only
  rw [hat,← step_same fun hk=>(h.rng _ (valAt_of hk)).2.2.2]
  simp [huv]
theorem around_eq {N:Nat} {ms:List (Key × Int)} {cur:List Int} (h:MapCur N ms cur) {arcs:List Arc} {i k:Nat} {x y:Arc} (hx:0≤x.src∧x.src < N) (hy:0≤y.dst∧y.dst < N) (hm:0≤x.mode∧x.mode < 5) (hne:y.dst≠x.dst):wR N cur arcs i k x y=wV ms arcs i k x y:=by
 have hat:=h.at_ x.src.toNat y.dst.toNat x.mode.toNat (by omega) (by omega) (by omega)
 rw [Int.toNat_of_nonneg hx.1,Int.toNat_of_nonneg hy.1,Int.toNat_of_nonneg hm.1] at hat
 unfold cv at hat
 unfold wR wV
 simp only
 rw [hat]
 by_cases hmo:x.mode=y.mode
 ·have c1:¬ (x.mode≠y.mode∨y.dst=x.dst):=fun e=>e.elim (fun e=>e hmo) hne
  have c2:¬ (x.mode≠y.mode):=fun e=>e hmo
  rw [if_neg c1,if_neg c2]
  cases hk:yW ms (x.src,y.dst,x.mode) with
  | false=>simp
  | true =>
   have h0:=(h.rng _ (valAt_of hk)).2.2.2
   simp only at h0
   have e1:¬ (yZ ms (x.src,y.dst,x.mode)+1=0):=by omega
   have e2:(yZ ms (x.src,y.dst,x.mode)+1).toNat - 1=(yZ ms (x.src,y.dst,x.mode)).toNat:=by omega
   simp only [if_true,e1,e2,false_or,Bool.true_eq_false]
 ·have c1:x.mode≠y.mode∨y.dst=x.dst:=.inl hmo
  rw [if_pos c1,if_pos hmo]
end Go.Proofs.YtknhlpmmalcchaaGreat

namespace Go.Proofs.YtknhlpmmalcchaaGreat
open Go Go.VAI
set_option linter.unusedSimpArgs false

theorem mayAll_of {down:Bool} {H:AHeap} {caps:List AVal} {p:Key × Int→Bool}:∀ {es:List (Key × Int)},(∀ e∈es,mayOf down H caps e.1=some (p e))→mayAll down H caps es=some (es.filter p)
 | [],_=>rfl
 | e :: l,h=>by
  simp only [mayAll]
  rw [h e List.mem_cons_self,mayAll_of (fun x hx=>h x (List.mem_cons_of_mem _ hx)),List.filter_cons]
  rfl
theorem goneAt_of {H:AHeap} {gid N:Nat} {gone:List Bool} {rwg:Bool} (hg:H.obj gid=some (.cells (xV gone) rwg)) (gl:gone.length=N) {i:Int} (hi:0≤i∧i < N):goneAt H (.slice gid 0 N (.exact N)) i=some (gone.getD i.toNat false):=by
 have hc:H.cells? gid=some (xV gone):=by unfold AHeap.cells?; rw [hg]
 have hl:i.toNat < gone.length:=by omega
 unfold goneAt
 simp only [if_pos hi,hc,bnd,Nat.zero_add]
 have hat:(xV gone)[i.toNat]? = some (.bool (gone.getD i.toNat false)):=by simp [xV,hl]
 rw [hat]
theorem mayOf_of {H:AHeap} {vc bc b gid N v:Nat} {cb:List AVal} {gone:List Bool} {rw1 rw2 rw3 rw4:Bool} (hv:H.obj vc=some (.cells [.int .i64 v] rw1)) (hb:H.obj bc=some (.cells [.ptr b 0] rw2)) (hbo:H.obj b=some (.cells cb rw3)) (hg7:cb[7]? = some (.slice gid 0 N (.exact N)))
  (hg:H.obj gid=some (.cells (xV gone) rw4)) (gl:gone.length=N) {k:Key} (h1:0≤k.1∧k.1 < N) (h2:0≤k.2.1∧k.2.1 < N) :
  mayOf false H [.ptr vc 0,.ptr bc 0] k=some (decide (k.1=(v:Int)) && !gone.getD k.2.1.toNat false)∧mayOf true H [.ptr vc 0,.ptr bc 0] k=some (decide (k.2.1=(v:Int)) && (decide (k.1≠(v:Int)) && !gone.getD k.1.toNat false)):=by
 have c1:H.cells? vc=some [.int .i64 v]:=by unfold AHeap.cells?; rw [hv]
 have c2:H.cells? bc=some [.ptr b 0]:=by unfold AHeap.cells?; rw [hb]
 have c3:H.cells? b=some cb:=by unfold AHeap.cells?; rw [hbo]
 have g1:=goneAt_of hg gl h1
 have g2:=goneAt_of hg gl h2
 constructor
 ·unfold mayOf
  simp only [c1,c2,c3,bnd,List.getElem?_cons_zero,Nat.zero_add,hg7,Bool.false_eq_true,if_false,g2]
  by_cases e:k.1=(v:Int)
  ·simp [e]
  ·simp [e]
 ·unfold mayOf
  simp only [c1,c2,c3,bnd,List.getElem?_cons_zero,Nat.zero_add,hg7,if_true,g1]
  by_cases e:k.2.1=(v:Int)
  ·by_cases e2:k.1=(v:Int)
   ·simp [e,e2]
   ·simp [e,e2]
  ·simp [e]
theorem MapCur.few {N:Nat} {ms:List (Key × Int)} {cur:List Int} (h:MapCur N ms cur):ms.length≤N*N*5:=by
 have hs:∀ k∈ms.map Prod.fst,k∈(List.range N).flatMap fun (u:Nat)=>(List.range N).flatMap fun (v:Nat)=>(List.range 5).map fun (m:Nat)=>(((u:Int),(v:Int),(m:Int)):Key):=fun k hk=>by
  obtain ⟨⟨⟨a,b,c⟩,x⟩,he,rfl⟩:=List.mem_map.1 hk
  have hr:=h.rng _ he
  simp only at hr
  simp only [List.mem_flatMap,List.mem_map,List.mem_range]
  exact ⟨a.toNat,by omega,b.toNat,by omega,c.toNat,by omega,by rw [Int.toNat_of_nonneg hr.1.1,Int.toNat_of_nonneg hr.2.1.1,Int.toNat_of_nonneg hr.2.2.1.1]⟩
 have hl:=nodup_few h.nodup hs
 have e:((List.range N).flatMap fun (u:Nat)=>(List.range N).flatMap fun (v:Nat)=>(List.range 5).map fun (m:Nat)=>(((u:Int),(v:Int),(m:Int)):Key)).length=N*N*5:=by
  simp only [List.length_flatMap,List.length_map,List.length_range]
  simp [List.map_const',List.sum_replicate_nat,Nat.mul_assoc]
 rw [e,List.length_map] at hl
 exact hl
theorem arc_dst {H:AHeap} {v:AVal} {es:List Arc} (h:Row H v 7 (xW es)) {i:Nat} {e:Arc} (he:es[i]? = some e):∃ id off,xO 7 v (.int .i64 (i:Int))=some (.ptr id off)∧id < H.next∧(bnd (cellsOf (H.obj id)) fun c=>c[off+1]?)=some (.int .i64 e.dst):=by
 have hi:=(List.getElem?_eq_some_iff.1 he).1
 obtain ⟨id,off,c,h1,h2,h3,h4,h5⟩:=h.at (j:=i) (k:=.i64) (by omega) (by omega) (by rw [yJ,Int.toNat_natCast]; omega)
 rw [Int.toNat_natCast,arc_drop es i e he] at h5
 rw [cells?_of] at h3
 refine ⟨id,off,h1,h2,?_⟩
 simp only [h3,bnd]
 exact cell_at (f:=1) h5 rfl
theorem HLay.goes {H:AHeap} {b mid rid uid did gid N:Nat} {es:List Edge} {ew av:AVal} {ms:List (Key × Int)} {arcs:List Arc} {gone:List Bool} {rank:List Int} {us ds:List AVal} (h:HLay H b mid rid uid did gid N es ew av ms arcs gone rank us ds) {gone':List Bool} (hg:gone'.length=N) :
  HLay (H.upd gid (some (.cells (xV gone') true))) b mid rid uid did gid N es ew av ms arcs gone' rank us ds:=by
 obtain ⟨o1,o2,o3,o4,o5,o6⟩:=h.ord
 have kM:Keep (fun j=>j=gid) H (H.upd gid (some (.cells (xV gone') true))):=(Keep.refl (fun j=>j=gid) _).upd (.inr rfl) _
 exact ⟨(kM.obj _ (by omega) (by omega)).trans h.bo,(kM.obj _ (by omega) (by omega)).trans h.mo,(kM.obj _ (by omega) (by omega)).trans h.ro,(kM.obj _ (by omega) (by omega)).trans h.uo,(kM.obj _ (by omega) (by omega)).trans h.dO,xN rfl,⟨o1,o2,o3,o4,o5,o6⟩,h.ewid,h.edges.M kM (fun j hj e=>by have:=h.ewid j hj; omega),h.arcsO.keepM kM (fun j hj e=>by have:=(h.arcsO.sid_ge hj).1; omega),h.rl,h.ul,h.dl,hg⟩
theorem HLay.rows {H:AHeap} {b mid rid uid did gid N:Nat} {es:List Edge} {ew av:AVal} {ms:List (Key × Int)} {arcs:List Arc} {gone:List Bool} {rank:List Int} {us ds:List AVal} (h:HLay H b mid rid uid did gid N es ew av ms arcs gone rank us ds) {us' ds':List AVal} (hu:us'.length=N) (hd:ds'.length=N) :
  HLay ((H.upd uid (some (.cells us' true))).upd did (some (.cells ds' true))) b mid rid uid did gid N es ew av ms arcs gone rank us' ds':=by
 obtain ⟨o1,o2,o3,o4,o5,o6⟩:=h.ord
 have kM:Keep (fun j=>j=uid∨j=did) H ((H.upd uid (some (.cells us' true))).upd did (some (.cells ds' true))):=((Keep.refl _ _).upd (.inr (.inl rfl)) _).upd (.inr (.inr rfl)) _
 refine ⟨(kM.obj _ (by omega) (by omega)).trans h.bo,(kM.obj _ (by omega) (by omega)).trans h.mo,(kM.obj _ (by omega) (by omega)).trans h.ro,?_,xN rfl,(kM.obj _ (by omega) (by omega)).trans h.go,⟨o1,o2,o3,o4,o5,o6⟩,h.ewid,h.edges.M kM (fun j hj e=>by have:=h.ewid j hj; omega),h.arcsO.keepM kM (fun j hj e=>by have:=(h.arcsO.sid_ge hj).1; omega),h.rl,hu,hd,h.gl⟩
 rw [xQ (by omega)]
 exact xN rfl
set_option maxRecDepth 20000 in
set_option maxHeartbeats 4000000 in
theorem goes_ret {H:AHeap} {b mid rid uid did gid N:Nat} {es:List Edge} {ew av:AVal} {ms:List (Key × Int)} {s:BSt} {rank:List Int} {us ds:List AVal} {l:List Int} {k v:Nat} {ex:List (List Int)} {Q:AVal→AHeap→Prop}
  (h:HLay H b mid rid uid did gid N es ew av ms s.arcs s.gone rank us ds) (hc:MapCur N ms s.cur) (hcost:∀ e∈es,0≤e.cost∧e.cost≤2147483647) (hlo:OrderOk N l) (hgo:Gone N es l k s ex) (hk:k≤N) (hlv:l[k]? = some (v:Int)) (hvN:v < N) (hN:N≤21)
  (hq:∀ H' av' ms' ur dr,Keep (fun j=>j=b∨j=mid∨j=uid∨j=did∨j=gid∨sid av=some j) H H'→HLay H' b mid rid uid did gid N es ew av' ms' (vR N s k v).arcs (vR N s k v).gone rank (us.set v ur) (ds.set v dr)→MapCur N ms' (vR N s k v).cur →
   Own H.next H' ur 1 (xL (zM N s.cur s.gone v N))→Own H.next H' dr 1 (xL (vI N s.cur s.gone v N))→(∀ j,sid av'=some j→sid av=some j∨H.next≤j)→(∀ j,sid ur=some j→sid av'≠some j)→(∀ j,sid dr=some j→sid av'≠some j)→Q (.tuple []) H') :
  Ret A 34 [.ptr b 0,.int .i64 v] H Q:=by
 refine Ret.of (fn:=F34) rfl ?_
 obtain ⟨o1,o2,o3,o4,o5,o6⟩:=h.ord
 have hfew:=hc.few
 have hN2:N*N≤21*21:=Nat.mul_le_mul hN hN
 have kB:Keep Nothing H ((H.new (.cells [.ptr b 0] true)).new (.cells [.int .i64 v] true)):=((Keep.refl _ _).new _).new _
 have q1:((H.new (.cells [.ptr b 0] true)).new (.cells [.int .i64 v] true)).obj H.next=some (.cells [.ptr b 0] true):=by simp (disch:=first | omega | (simp only [nx] <;> omega) | fail) only [xI]
 have q2:((H.new (.cells [.ptr b 0] true)).new (.cells [.int .i64 v] true)).obj (H.next+1)=some (.cells [.int .i64 v] true):=yB rfl
 have nB:((H.new (.cells [.ptr b 0] true)).new (.cells [.int .i64 v] true)).next=H.next+2:=rfl
 simp (disch:=first | omega | (simp only [nx] <;> omega) | fail) only [vaw,F34,Nat.reduceAdd,Nat.reduceMul,Nat.reduceLeDiff,Nat.reduceEqDiff,↓reduceIte]
 generalize (H.new (.cells [.ptr b 0] true)).new (.cells [.int .i64 v] true)=HB at *
 have hB:=h.kept kB
 have hm1:=fun (e:Key × Int) (he:e∈ms)=>mayOf_of q2 q1 hB.bo rfl hB.go h.gl (k:=e.1) (hc.rng e he).1 (hc.rng e he).2.1
 refine arcs_ret (down:=false) (es:=ms) (sel:=upSel ms s.gone v) (.inl ⟨.inr rfl,rfl⟩) hB.bo rfl hB.mo (mayAll_of fun e he=>(hm1 e he).1) (by omega) hc.nodup fun ur H1 k1 g1=>?_
 rw [up_eq hc s.gone hvN] at g1
 have n1:=k1.next
 have h1:=hB.kept k1
 have p1:=(k1.old (by omega)).trans q1
 have p2:=(k1.old (by omega)).trans q2
 have hm2:=fun (e:Key × Int) (he:e∈ms)=>mayOf_of p2 p1 h1.bo rfl h1.go h.gl (k:=e.1) (hc.rng e he).1 (hc.rng e he).2.1
 have cu:=g1.cells
 simp (disch:=first | omega | (simp only [nx] <;> omega) | fail) only [vaw,p1,g1.notBot,Nat.reduceAdd,Nat.reduceMul,Nat.reduceLeDiff,Nat.reduceEqDiff,↓reduceIte]
 refine arcs_ret (down:=true) (es:=ms) (sel:=downSel ms s.gone v) (.inr ⟨rfl,rfl⟩) h1.bo rfl h1.mo (mayAll_of fun e he=>(hm2 e he).2) (by omega) hc.nodup fun dr H2 k2 g2=>?_
 rw [down_eq hc s.gone hvN] at g2
 have n2:=k2.next
 have h2:=h1.kept k2
 have r1:=(k2.old (by omega)).trans p1
 have r2:=(k2.old (by omega)).trans p2
 have cd:=g2.cells
 have gu2:=g1.kept k2
 have hvu:xO 1 (.slice uid 0 N (.exact N)) (.int .i64 (v:Int))=some (.ptr uid v):=by rw [xM ⟨by omega,by omega⟩]; simp
 have hvd:xO 1 (.slice did 0 N (.exact N)) (.int .i64 (v:Int))=some (.ptr did v):=by rw [xM ⟨by omega,by omega⟩]; simp
 have hle:v+1≤N:=hvN
 have hul:=h.ul
 have hdl:=h.dl
 have su:∀ j,sid ur=some j→H.next+2≤j∧j < H1.next:=fun j hj=>by have:=g1.sid_ge hj; omega
 have sd:∀ j,sid dr=some j→H1.next≤j∧j < H2.next:=fun j hj=>by have:=g2.sid_ge hj; omega
 have hla:=gu2.row.len1
 have hld:=g2.row.len1
 rw [xE] at hla hld
 have hsa:∀ j,sid av=some j→b+1≤j∧j < H.next:=fun j hj=>h.arcsO.sid_ge hj
 simp (disch:=first | omega | (simp only [nx] <;> omega) | fail) only [vaw,r1,r2,g2.notBot,gu2.notBot,h2.bo,hvu,hvd,h2.uo,h2.dO,hul,hdl,hle,cu,cd,yQ,Nat.reduceAdd,Nat.reduceMul,Nat.reduceLeDiff,Nat.reduceEqDiff,↓reduceIte]
 have h3:=h2.rows (us':=us.set v ur) (ds':=ds.set v dr) (by rw [List.length_set]; exact hul) (by rw [List.length_set]; exact hdl)
 have kM3:Keep (fun j=>j=uid∨j=did) H2 ((H2.upd uid (some (.cells (us.set v ur) true))).upd did (some (.cells (ds.set v dr) true))):=((Keep.refl _ _).upd (.inr (.inl rfl)) _).upd (.inr (.inr rfl)) _
 have t1:=(kM3.obj _ (by omega) (by omega)).trans r1
 have t2:=(kM3.obj _ (by omega) (by omega)).trans r2
 have gu3:=gu2.keepM kM3 (fun j hj e=>by have:=su j hj; omega)
 have gd3:=g2.keepM kM3 (fun j hj e=>by have:=sd j hj; omega)
 have n3:((H2.upd uid (some (.cells (us.set v ur) true))).upd did (some (.cells (ds.set v dr) true))).next=H2.next:=rfl
 simp (disch:=first | omega | (simp only [nx] <;> omega) | fail) only [vaw,hld,Nat.reduceAdd,Nat.reduceMul,Nat.reduceLeDiff,Nat.reduceEqDiff,↓reduceIte]
 generalize (H2.upd uid (some (.cells (us.set v ur) true))).upd did (some (.cells (ds.set v dr) true))=H3 at *
 have hnw:=not_went hlo hlv
 have hGm:∀ (ps:List (Int × Int)),(∀ p∈ps,p.1∈vI N s.cur s.gone v N∧p.2∈zM N s.cur s.gone v N)→∃ ex',Mid N es (Went l k) v (s.arcs,s.cur) ex ps (zB N (s.arcs,s.cur) ps) ex':=fun ps hps =>
  goes_mid (fun e he=>(hcost e he).1) hgo.good hgo.least hnw hvN hgo.gone ps hps
 have hup:vR N s k v=⟨(zB N (s.arcs,s.cur) (vA (vI N s.cur s.gone v N) (zM N s.cur s.gone v N))).1,(zB N (s.arcs,s.cur) (vA (vI N s.cur s.gone v N) (zM N s.cur s.gone v N))).2,s.gone.set v true,s.rank.set v k,s.up.set v (zM N s.cur s.gone v N),s.down.set v (vI N s.cur s.gone v N)⟩:=rfl
 have olen:=uW N s.cur s.gone v N
 have ilen:=inOf_length N s.cur s.gone v N
 have hupA:∀ p∈zM N s.cur s.gone v N,0≤p∧∃ a,s.arcs[p.toNat]? = some a:=by
  intro p hp
  obtain ⟨u,m,q1,q2,q3,q4,rfl⟩:=mem_outOf.1 hp
  obtain ⟨a,q5,_⟩:=hgo.good.key v u m hvN q1 q2 q3
  exact ⟨by omega,a,by rw [show (cv N s.cur v u m - 1).toNat=(cv N s.cur v u m).toNat - 1 by omega]; exact q5⟩
 have hdownA:∀ p∈vI N s.cur s.gone v N,0≤p∧∃ a,s.arcs[p.toNat]? = some a∧a.dst=v:=by
  intro p hp
  obtain ⟨u,m,q1,q0,q2,q3,q4,rfl⟩:=mem_inOf.1 hp
  obtain ⟨a,q5,_,q6,_⟩:=hgo.good.key u v m q1 hvN q2 q3
  exact ⟨by omega,a,by rw [show (cv N s.cur u v m - 1).toNat=(cv N s.cur u v m).toNat - 1 by omega]; exact q5,q6⟩
 have hcnt:=hgo.count
 have hkN:k*(25*(N*N))≤21*(25*(N*N)):=Nat.mul_le_mul_right _ (by omega)
 rw [hup] at hq
 generalize zM N s.cur s.gone v N=up at *
 generalize vI N s.cur s.gone v N=down at *
 refine xS (fun m t H'=>∃ (i:Nat) (av':AVal) (ms':List (Key × Int)),m=down.length - i∧i≤down.length∧t=(xP 2 (.ptr H.next 0 :: .ptr (H.next+1) 0 :: ur :: xP 1 (.func (.func 66) [.ptr b 0] [] :: xP 28 (dr :: .int .i64 down.length :: .int .i64 i :: xP 32 ([])))):xJ) ∧
  Keep (fun j=>j=b∨j=mid∨sid av=some j) H3 H'∧HLay H' b mid rid uid did gid N es ew av' ms' (zB N (s.arcs,s.cur) (yK down up i 0)).1 s.gone rank (us.set v ur) (ds.set v dr)∧MapCur N ms' (zB N (s.arcs,s.cur) (yK down up i 0)).2∧(∀ j,sid av'=some j→sid av=some j∨H3.next≤j)) down.length ?_ ?_
 ·exact ⟨0,av,ms,rfl,by omega,rfl,.refl _ _,by simpa [yK,vA,zB] using h3,by simpa [yK,vA,zB] using hc,fun j hj=>.inl hj⟩
 ·rintro m t H4 ⟨i,av1,ms1,rfl,hi1,rfl,k4,h4,c4,s4⟩
  by_cases hc3:(i:Int) < down.length
  ·have hil:i < down.length:=by omega
   have hdi:down[i]? = some down[i]:=by simp [hil]
   have gd4:=gd3.keepM k4 (fun j hj e=>by have:=sd j hj; rcases e with e | e | e <;> first | omega | (have:=hsa j e; omega))
   have gu4:=gu3.keepM k4 (fun j hj e=>by have:=su j hj; rcases e with e | e | e <;> first | omega | (have:=hsa j e; omega))
   obtain ⟨i1,f1,d1,d2,d3⟩:=gd4.row.int_at (k:=.i64) hdi
   have hla4:=gu4.row.len1
   rw [xE] at hla4
   simp (disch:=first | omega | (simp only [nx] <;> omega) | fail) only [vaw,hc3,d1,d3,gu4.notBot,hla4,Nat.reduceAdd,Nat.reduceMul,Nat.reduceLeDiff,Nat.reduceEqDiff,↓reduceIte]
   refine xS (fun m t H'=>∃ (j:Nat) (av':AVal) (ms':List (Key × Int)),m=up.length - j∧j≤up.length∧t=(xP 2 (.ptr H.next 0 :: .ptr (H.next+1) 0 :: ur :: xP 1 (.func (.func 66) [.ptr b 0] [] :: xP 1 (.int .i64 down[i] :: xP 26 (dr :: .int .i64 down.length :: .int .i64 i :: xP 3 (ur :: .int .i64 up.length :: .int .i64 j :: xP 26 ([])))))):xJ) ∧
    Keep (fun j=>j=b∨j=mid∨sid av=some j) H3 H'∧HLay H' b mid rid uid did gid N es ew av' ms' (zB N (s.arcs,s.cur) (yK down up i j)).1 s.gone rank (us.set v ur) (ds.set v dr)∧MapCur N ms' (zB N (s.arcs,s.cur) (yK down up i j)).2∧(∀ j,sid av'=some j→sid av=some j∨H3.next≤j)) up.length ?_ ?_
   ·exact ⟨0,av1,ms1,rfl,by omega,rfl,k4,h4,c4,s4⟩
   ·clear k4 h4 c4 s4 gd4 gu4 hla4 d1 d2 d3
    rintro m t H5 ⟨j,av2,ms2,rfl,hj1,rfl,k5,h5,c5,s5⟩
    have gu5:=gu3.keepM k5 (fun j hj e=>by have:=su j hj; rcases e with e | e | e <;> first | omega | (have:=hsa j e; omega))
    have hla5:=gu5.row.len1
    rw [xE] at hla5
    have n5:=k5.next
    by_cases hc4:(j:Int) < up.length
    ·have hjl:j < up.length:=by omega
     have huj:up[j]? = some up[j]:=by simp [hjl]
     have hdd:down.getD i 0=down[i]:=yS hdi
     obtain ⟨i2,f2,e1,e2,e3⟩:=gu5.row.int_at (k:=.i64) huj
     have u1:=(k5.obj _ (by omega) (fun e=>by rcases e with e | e | e <;> first | omega | (have:=hsa _ e; omega))).trans t1
     have u2:=(k5.obj _ (by omega) (fun e=>by rcases e with e | e | e <;> first | omega | (have:=hsa _ e; omega))).trans t2
     have hone:=pairsAt_one (down:=down) (up:=up) (i:=i) hjl
     have hmem:∀ p∈yK down up i j,p.1∈down∧p.2∈up:=fun p hp=>pairsAt_mem (.inl hil) hp
     obtain ⟨ex1,hm1⟩:=hGm (yK down up i j) hmem
     have hcount:=hm1.count
     simp only at hcount
     have hpl:=pairsAt_length (down:=down) (up:=up) (i:=i) (j:=j)
     have hmul:down.length*up.length≤105*105:=Nat.mul_le_mul (by omega) (by omega)
     rw [hdd] at hone
     obtain ⟨hd0,x,hx,hxd⟩:=hdownA _ (List.getElem_mem hil)
     obtain ⟨hu0,y,hy⟩:=hupA _ (List.getElem_mem hjl)
     generalize down[i]=di at *
     generalize up[j]=uj at *
     have hx1:=hm1.arcs _ _ hx
     have hy1:=hm1.arcs _ _ hy
     have hGb:∀ g,(Went l k g∨g=(v:Int))→0≤g∧g < N:=fun g hg=>by
      rcases hg with hg | hg
      ·exact went_bd hlo hg
      ·omega
     have fx:=hm1.good.fits hcost hGb (by omega) hx1
     have fy:=hm1.good.fits hcost hGb (by omega) hy1
     have hkey:=hm1.good.key
     have hsS:zB N (s.arcs,s.cur) (yK down up i (j+1))=match wR N (zB N (s.arcs,s.cur) (yK down up i j)).2 (zB N (s.arcs,s.cur) (yK down up i j)).1 di.toNat uj.toNat x y with | none=>zB N (s.arcs,s.cur) (yK down up i j) | some a=>vL N (zB N (s.arcs,s.cur) (yK down up i j)) a:=by
      rw [hone,shorts_one,shortStep_at hx1 hy1]
      try rfl
     clear hone
     generalize zB N (s.arcs,s.cur) (yK down up i j)=S at *
     obtain ⟨nd,rfl⟩:∃ n:Nat,di=n:=⟨di.toNat,by omega⟩
     obtain ⟨nu,rfl⟩:∃ n:Nat,uj=n:=⟨uj.toNat,by omega⟩
     simp only [Int.toNat_natCast] at hsS hx1 hy1
     obtain ⟨i3,f3,y1,y2,y3⟩:=arc_dst h5.arcsO.row hy1
     by_cases hyv:y.dst=(v:Int)
     ·have hdm:decide (y.dst≠(v:Int))=false:=by simp [hyv]
      simp (disch:=first | omega | (simp only [nx] <;> omega) | fail) only [vaw,hc4,e1,e3,u1,u2,h5.bo,y1,y3,hdm,Nat.reduceAdd,Nat.reduceMul,Nat.reduceLeDiff,Nat.reduceEqDiff,↓reduceIte]
      have hno:wR N S.2 S.1 nd nu x y=none:=by
       unfold wR
       rw [if_pos (.inr (by rw [hyv,hxd]))]
      rw [hno] at hsS
      exact ⟨up.length - (j+1),by omega,j+1,av2,ms2,rfl,by omega,rfl,k5,by rw [hsS]; exact h5,by rw [hsS]; exact c5,s5⟩
     ·have hdm:decide (y.dst≠(v:Int))=true:=by simp [hyv]
      simp (disch:=first | omega | (simp only [nx] <;> omega) | fail) only [vaw,hc4,e1,e3,u1,u2,h5.bo,y1,y3,hdm,Nat.reduceAdd,Nat.reduceMul,Nat.reduceLeDiff,Nat.reduceEqDiff,↓reduceIte]
      refine around_ret h5 hx1 hy1 fx.cost fy.cost (fun q hq=>?_) (by omega) fun H6 av3 k6 h6 s6=>?_
      ·have hr:=c5.rng _ (valAt_of hq)
       obtain ⟨q1,q2,q3⟩:=q
       simp only at hr
       have hat:=c5.at_ q1.toNat q2.toNat q3.toNat (by omega) (by omega) (by omega)
       rw [Int.toNat_of_nonneg hr.1.1,Int.toNat_of_nonneg hr.2.1.1,Int.toNat_of_nonneg hr.2.2.1.1,if_pos hq] at hat
       obtain ⟨a,ha,_⟩:=hkey q1.toNat q2.toNat q3.toNat (by omega) (by omega) (by omega) (by omega)
       refine ⟨hr.2.2.2,a,?_⟩
       rw [hat] at ha
       rw [← ha]
       congr 1
       omega
      ·have heq:=around_eq c5 (arcs:=S.1) (i:=nd) (k:=nu) (x:=x) (y:=y) fx.src fy.dst fx.mode (by rw [hxd]; exact hyv)
       rw [heq] at hsS
       have n6:=k6.next
       have k7:Keep (fun j=>j=b∨j=mid∨sid av=some j) H3 H6:=k5.trans' k6 (fun j hj e=>by
        rcases e with e | e | e
        ·exact .inl e
        ·exact .inr (.inl e)
        ·rcases s5 j e with h | h
         ·exact .inr (.inr h)
         ·omega)
       have s7:∀ j,sid av3=some j→sid av=some j∨H3.next≤j:=fun j hj=>by
        rcases s6 j hj with h | h
        ·exact s5 j h
        ·exact .inr (by omega)
       simp (disch:=first | omega | (simp only [nx] <;> omega) | fail) only [vaw,Nat.reduceAdd,Nat.reduceMul,Nat.reduceLeDiff,Nat.reduceEqDiff,↓reduceIte]
       cases ha:wV ms2 S.1 nd nu x y with
       | none =>
        rw [ha] at hsS h6
        simp only [addTo] at h6
        simp only at hsS
        exact ⟨up.length - (j+1),by omega,j+1,av3,ms2,rfl,by omega,rfl,k7,by rw [hsS]; exact h6,by rw [hsS]; exact c5,s7⟩
       | some a =>
        rw [ha] at hsS h6
        simp only [addTo] at h6
        simp only at hsS
        have hae:a.src=x.src∧a.dst=y.dst∧a.mode=x.mode:=by
         unfold wV at ha
         split at ha
         ·cases ha
         ·split at ha
          ·injection ha with ha; subst ha; exact ⟨rfl,rfl,rfl⟩
          ·cases ha
        have r1:=fx.src
        have r2:=fy.dst
        have r3:=fx.mode
        have cS:=c5.set (u:=a.src.toNat) (v:=a.dst.toNat) (m:=a.mode.toNat) (by omega) (by omega) (by omega) (x:=(S.1.length:Int)) (by omega)
        rw [Int.toNat_of_nonneg (by omega),Int.toNat_of_nonneg (by omega),Int.toNat_of_nonneg (by omega)] at cS
        exact ⟨up.length - (j+1),by omega,j+1,av3,_,rfl,by omega,rfl,k7,by rw [hsS]; exact h6,by rw [hsS]; exact cS,s7⟩
    ·have hj:up.length=j:=by omega
     have hrow:=pairsAt_row (down:=down) (up:=up) hil
     rw [hj] at hrow
     simp (disch:=first | omega | (simp only [nx] <;> omega) | fail) only [vaw,hc4,Nat.reduceAdd,Nat.reduceMul,Nat.reduceLeDiff,Nat.reduceEqDiff,↓reduceIte]
     exact ⟨down.length - (i+1),by omega,i+1,av2,ms2,rfl,by omega,rfl,k5,by rw [← hrow]; exact h5,by rw [← hrow]; exact c5,s5⟩
  ·have:i=down.length:=by omega
   subst this
   rw [pairsAt_all] at h4 c4
   have u1:=(k4.obj _ (by omega) (fun e=>by rcases e with e | e | e <;> first | omega | (have:=hsa _ e; omega))).trans t1
   have u2:=(k4.obj _ (by omega) (fun e=>by rcases e with e | e | e <;> first | omega | (have:=hsa _ e; omega))).trans t2
   have hvg:xO 1 (.slice gid 0 N (.exact N)) (.int .i64 (v:Int))=some (.ptr gid v):=by rw [xM ⟨by omega,by omega⟩]; simp
   have hbl:(xV s.gone).length=N:=by simp [xV,h.gl]
   have hset:yV (xV s.gone) v [.bool true]=xV (s.gone.set v true):=by
    rw [yQ (by rw [hbl]; exact hvN)]
    simp [xV,List.map_set]
   have n4:=k4.next
   simp (disch:=first | omega | (simp only [nx] <;> omega) | fail) only [vaw,hc3,u1,u2,h4.bo,hvg,h4.go,hbl,hle,hset,Nat.reduceAdd,Nat.reduceMul,Nat.reduceLeDiff,Nat.reduceEqDiff,↓reduceIte]
   have h5:=h4.goes (gone':=s.gone.set v true) (by rw [List.length_set]; exact h.gl)
   have kG:Keep (fun j=>j=gid) H4 (H4.upd gid (some (.cells (xV (s.gone.set v true)) true))):=(Keep.refl (fun j=>j=gid) _).upd (.inr rfl) _
   have gu5:=(gu3.keepM k4 (fun j hj e=>by have:=su j hj; rcases e with e | e | e <;> first | omega | (have:=hsa j e; omega))).keepM kG (fun j hj e=>by have:=su j hj; omega)
   have gd5:=(gd3.keepM k4 (fun j hj e=>by have:=sd j hj; rcases e with e | e | e <;> first | omega | (have:=hsa j e; omega))).keepM kG (fun j hj e=>by have:=sd j hj; omega)
   have kA:=(kB.trans k1).trans k2
   have kF:Keep (fun j=>j=b∨j=mid∨j=uid∨j=did∨j=gid∨sid av=some j) H (H4.upd gid (some (.cells (xV (s.gone.set v true)) true))) :=
    (((kA.any).trans' kM3 (fun j hj e=>by rcases e with e | e <;> simp [e])).trans' k4 (fun j hj e=>by rcases e with e | e | e <;> simp [e])).trans' kG (fun j hj e=>by simp [e])
   refine hq _ av1 ms1 ur dr kF h5 c4 (gu5.lower (by omega)) (gd5.lower (by omega)) (fun j hj=>by rcases s4 j hj with e | e; exact .inl e; exact .inr (by omega)) (fun j hj e=>by have:=su j hj; rcases s4 j e with e | e; have:=hsa j e; omega; omega) (fun j hj e=>by have:=sd j hj; rcases s4 j e with e | e; have:=hsa j e; omega; omega)
end Go.Proofs.YtknhlpmmalcchaaGreat

namespace Go.Proofs.YtknhlpmmalcchaaGreat
open Go Go.VAI
set_option linter.unusedSimpArgs false

def wH (N p:Nat):Key:=(((p / 5 / N:Nat):Int),((p / 5 % N:Nat):Int),((p % 5:Nat):Int))
theorem keyOf_lt {N p q:Nat} (h:p < q):keyLt (wH N p) (wH N q)=true:=by
 rw [vX]
 unfold wH
 simp only
 have h5:p / 5≤q / 5:=Nat.div_le_div_right (Nat.le_of_lt h)
 have hd:=Nat.div_le_div_right (c:=N) h5
 have e1:=Nat.div_add_mod (p / 5) N
 have e2:=Nat.div_add_mod (q / 5) N
 rcases Nat.lt_or_eq_of_le hd with hlt | heq
 ·exact .inl (Int.ofNat_lt.2 hlt)
 ·refine .inr ⟨by rw [heq],?_⟩
  rw [heq] at e1
  rcases Nat.lt_or_eq_of_le h5 with hlt | heq5
  ·exact .inl (Int.ofNat_lt.2 (by omega))
  ·exact .inr ⟨by rw [heq5],Int.ofNat_lt.2 (by omega)⟩
theorem keyOf_place {N u v m:Nat} (hv:v < N) (hm:m < 5):wH N (xR N u v m)=((u:Int),(v:Int),(m:Int)):=by
 unfold wH xR
 have h1:((u*N+v)*5+m) / 5=u*N+v:=by omega
 have h2:((u*N+v)*5+m) % 5=m:=by omega
 have h3:(u*N+v) / N=u:=by
  rw [Nat.add_comm,Nat.add_mul_div_right _ _ (by omega),Nat.div_eq_of_lt hv,Nat.zero_add]
 have h4:(u*N+v) % N=v:=by
  rw [Nat.add_comm,Nat.add_mul_mod_self_right,Nat.mod_eq_of_lt hv]
 rw [h1,h2,h3,h4]
def wY (best:List Int):List Nat:=(List.range best.length).filter fun p=>decide (0 < best.getD p 0)
theorem first_keys {N:Nat} {lm:List (Key × Int)} {best:List Int} (h:MapCur N lm best):yF (lm.map Prod.fst)=(wY best).map (wH N):=by
 refine sortKeys_eq h.nodup ?_ fun k=>?_
 ·rw [List.pairwise_map]
  exact (List.pairwise_lt_range.filter _).imp fun hpq=>keyOf_lt hpq
 ·simp only [wY,List.mem_map,List.mem_filter,List.mem_range,decide_eq_true_iff,h.len]
  constructor
  ·rintro ⟨⟨⟨a,b,c⟩,x⟩,he,rfl⟩
   have hr:=h.rng _ he
   simp only at hr
   have hat:=h.at_ a.toNat b.toNat c.toNat (by omega) (by omega) (by omega)
   rw [Int.toNat_of_nonneg hr.1.1,Int.toNat_of_nonneg hr.2.1.1,Int.toNat_of_nonneg hr.2.2.1.1,if_pos (uI.2 (List.mem_map_of_mem he)),valAt_mem h.nodup he] at hat
   unfold cv at hat
   refine ⟨xR N a.toNat b.toNat c.toNat,⟨vE (by omega) (by omega) (by omega),by rw [hat]; omega⟩,?_⟩
   rw [keyOf_place (by omega) (by omega),Int.toNat_of_nonneg hr.1.1,Int.toNat_of_nonneg hr.2.1.1,Int.toNat_of_nonneg hr.2.2.1.1]
  ·rintro ⟨p,⟨hp,hpos⟩,rfl⟩
   obtain ⟨u,v,m,hu,hv,hm,rfl⟩:=place_of hp
   have hat:=h.at_ u v m hu hv hm
   unfold cv at hat
   rw [keyOf_place hv hm]
   cases hk:yW lm ((u:Int),(v:Int),(m:Int)) with
   | true=>exact List.mem_map.1 (uI.1 hk)
   | false =>
    rw [hk] at hat
    simp at hat
    simp [List.getD_eq_getElem?_getD] at hpos
    omega
theorem first_val {N:Nat} {lm:List (Key × Int)} {best:List Int} (h:MapCur N lm best) {p:Nat} (hp:p∈wY best):0 < best.getD p 0∧yZ lm (wH N p)=best.getD p 0 - 1∧best.getD p 0∈best:=by
 simp only [wY,List.mem_filter,List.mem_range,decide_eq_true_iff] at hp
 obtain ⟨hl,hpos⟩:=hp
 have hl2:=hl
 rw [h.len] at hl2
 obtain ⟨u,v,m,hu,hv,hm,rfl⟩:=place_of hl2
 have hat:=h.at_ u v m hu hv hm
 unfold cv at hat
 rw [keyOf_place hv hm]
 refine ⟨hpos,?_,?_⟩
 ·cases hk:yW lm ((u:Int),(v:Int),(m:Int)) with
  | true=>rw [hk,if_pos rfl] at hat; omega
  | false=>rw [hk] at hat; simp at hat; simp [List.getD_eq_getElem?_getD] at hpos; omega
 ·rw [List.getD_eq_getElem?_getD,List.getElem?_eq_getElem hl]
  exact List.getElem_mem hl
def firstS (N:Nat) (es:List Edge) (best:List Int) (s:AC) (p:Nat):AC:=vL N s (vG es (best.getD p 0))
theorem range_getD (L:List Int):L=(List.range L.length).map fun p=>L.getD p 0:=by
 refine List.ext_getElem? fun i=>?_
 rw [List.getElem?_map]
 by_cases hi:i < L.length
 ·rw [List.getElem?_range hi]
  simp [hi]
 ·simp [hi]
theorem begin_eq (N:Nat) (es:List Edge) (cur best:List Int):zD N es cur best=(wY best).foldl (firstS N es best) ([],cur):=by
 unfold zD wY
 rw [List.foldl_filter]
 conv=>lhs; rw [range_getD best]
 rw [List.foldl_map]
 congr 1
 funext s p
 unfold beginStep firstS vL
 by_cases h:0 < best.getD p 0
 ·rw [if_pos h,if_pos (by simpa using h)]
 ·rw [if_neg h,if_neg (by simpa using h)]
end Go.Proofs.YtknhlpmmalcchaaGreat
