/- Rows of structs of whole numbers that came in. -/
import Derived.Test.YtknhlpmmalcchaaGreatG3Vca
import Derived.Test.YtknhlpmmalcchaaGreatG3Vba
import Derived.Test.YtknhlpmmalcchaaGreatG3Tg
import Derived.Test.YtknhlpmmalcchaaGreatRows
import Derived.ProofKit
import Derived.Test.YtknhlpmmalcchaaGreatG3Tb
set_option linter.all false
set_option linter.unusedVariables false
set_option linter.unusedSimpArgs false
set_option linter.unusedVariables false
namespace Go.VAI
open Go Go.ChangeShapes Go.WideShapes Go.ChangeAt Go.RowKit

theorem list_of {α:Type} {p:Nat→α→Prop}:∀ n,(∀ i,i < n→∃ x,p i x)→∃ l:List α,l.length=n∧∀ i x,l[i]? = some x→p i x
 | 0,_=>⟨[],rfl,fun i x h=>by simp at h⟩
 | n+1,h=>by
  obtain ⟨l,h1,h2⟩:=list_of n (fun i hi=>h i (by omega))
  obtain ⟨x,hx⟩:=h n (by omega)
  refine ⟨l++[x],by simp [h1],fun i y hy=>?_⟩
  by_cases hi:i < l.length
  ·rw [List.getElem?_append_left hi] at hy
   exact h2 i y hy
  ·have hl:=(List.getElem?_eq_some_iff.1 hy).1
   simp only [List.length_append,List.length_cons,List.length_nil] at hl
   have e:i=l.length:=by omega
   subst e
   simp at hy
   subst hy
   rw [h1]; exact hx
structure FlatT (P:Program) (e:TypeId) (k:IntKind) (m:Nat):Prop where
 flds:∃ fs:Array Field,P.underlying e=some (.struct fs)∧∀ i,i < m→∃ f,fs[i]? = some f∧f.offset=i∧P.underlying f.type=some (.int k)∧P.cellsOf f.type=1
 cells:P.cellsOf e=m
section
variable {H:Type} {enc:TypeId × Value→H} {P:Program} {W:World} {r:Reach} {base:Nat} {t e:TypeId} {k:IntKind} {m fuel:Nat} {spare:Nat→Bool} {held:Bool}
theorem flat_cells {cs:List Value} {x:DataW H × List MemPlace} (hf:FlatT P e k m) (h:DataW.trod enc P W base spare held fuel e cs=some x) :
  ∃ r:List Int,r.length=m∧(∀ z∈r,(Lit.int k z).wf=true)∧cs=r.map (Value.int k):=by
 obtain ⟨fs,hu,hfl⟩:=hf.flds
 obtain ⟨xs,n,_,_,hl,hxl,hel⟩:=DataW.trod_struct hu h
 rw [hf.cells] at hl
 have hz:∀ i,i < m→∃ z:Int,cs[i]? = some (.int k z)∧(Lit.int k z).wf=true:=by
  intro i hi
  obtain ⟨f,h1,h2,h3,h4⟩:=hfl i hi
  have hfi:i < fs.size:=(Array.getElem?_eq_some_iff.1 h1).1
  have h5:=hel i f h1
  rw [h2,h4,List.getElem?_eq_getElem (by omega)] at h5
  obtain ⟨z,h6,_,h7⟩:=DataW.trod_int h3 h5
  refine ⟨z,?_,h7⟩
  have:((cs.drop i).take 1)[0]? = some (.int k z):=by rw [h6]; rfl
  rw [List.getElem?_take,if_pos (by omega),List.getElem?_drop] at this
  exact this
 obtain ⟨r,hr,hrz⟩:=list_of m hz
 refine ⟨r,hr,fun z hz=>?_,?_⟩
 ·obtain ⟨i,hi⟩:=List.getElem?_of_mem hz
  exact (hrz i z hi).2
 ·apply List.ext_getElem?
  intro i
  rw [List.getElem?_map]
  by_cases hi:i < m
  ·rw [List.getElem?_eq_getElem (show i < r.length by omega),(hrz i _ (List.getElem?_eq_getElem (show i < r.length by omega))).1]
   rfl
  ·rw [List.getElem?_eq_none (by omega),List.getElem?_eq_none (by omega)]
   rfl
def yR (k:IntKind) (rs:List (List Int)):List AVal:=rs.flatMap fun r=>r.map (AVal.int k)
theorem flatCells_length {k:IntKind} {m:Nat}:∀ {rs:List (List Int)},(∀ r∈rs,r.length=m)→(yR k rs).length=rs.length*m
 | [],_=>by simp [yR]
 | r :: rs,h=>by
  have ih:=flatCells_length (k:=k) (rs:=rs) (fun x hx=>h x (List.mem_cons_of_mem _ hx))
  have h0:=h r List.mem_cons_self
  simp only [yR,List.flatMap_cons,List.length_append,List.length_map,List.length_cons] at ih ⊢
  rw [ih,h0,Nat.add_mul]; omega
theorem flatCells_get {k:IntKind} {m:Nat} (hm:0 < m):∀ {rs:List (List Int)},(∀ r∈rs,r.length=m)→∀ (j:Nat) (v:AVal),(yR k rs)[j]? = some v→∃ r z,rs[j / m]? = some r∧r[j % m]? = some z∧v=.int k z
 | [],_,j,v,h=>by simp [yR] at h
 | r :: rs,hl,j,v,h=>by
  have h0:=hl r List.mem_cons_self
  have e:yR k (r :: rs)=r.map (AVal.int k)++yR k rs:=by simp [yR]
  rw [e] at h
  by_cases hj:j < m
  ·rw [List.getElem?_append_left (by rw [List.length_map]; omega),List.getElem?_map] at h
   rw [Nat.div_eq_of_lt hj,Nat.mod_eq_of_lt hj]
   cases hz:r[j]? with
   | none=>rw [hz] at h; cases h
   | some z =>
    rw [hz] at h
    simp at h
    exact ⟨r,z,rfl,hz,h.symm⟩
  ·rw [List.getElem?_append_right (by rw [List.length_map]; omega),List.length_map,h0] at h
   obtain ⟨r',z,h1,h2,h3⟩:=flatCells_get hm (fun x hx=>hl x (List.mem_cons_of_mem _ hx)) (j - m) v h
   obtain ⟨q,hq⟩:∃ q,j=q+m:=⟨j - m,by omega⟩
   subst hq
   rw [Nat.add_sub_cancel] at h1 h2
   refine ⟨r',z,?_,?_,h3⟩
   ·rw [Nat.add_div_right _ hm]
    exact h1
   ·rw [Nat.add_mod_right]
    exact h2
theorem opened_flat {a0:Option Addr} {len cap:Nat} {x:DataW H × List MemPlace} (ht:P.underlying t=some (.slice e)) (hf:FlatT P e k m) (hm:0 < m) (hpl:∀ a,a0=some a→a.spot=none∧a.block < W.heap.size)
  (h0:DataW.trod enc P W 0 spare held fuel t [.slice a0 len cap]=some x) :
  ∃ (rs:List (List Int)) (v:Nat→AVal) (l:Option Loc),(∀ r∈rs,r.length=m∧∀ z∈r,(Lit.int k z).wf=true)∧rs.length≤maxLen ∧
   (∀ l' ρ,l=some l'→l'.b < W.heap.size∧CRel ρ W l' (yR k rs))∧(∀ (ρ:Ren) id,ρ id=l→VRel ρ (v id) (.slice a0 len cap)) ∧
   (∀ (H:AHeap) id,id < H.next→H.obj id=some (.cells (yR k rs) false)→Row H (v id) m (yR k rs)):=by
 rcases DataW.trod_slice ht h0 with ⟨hcs,_⟩ | ⟨a,len',cap',elems,rest,n,_,hcs,_,hb,hl,hmx,hlen,hel,_,_⟩
 ·injection hcs with hcs _
  injection hcs with h1 h2 h3
  subst h1 h2 h3
  exact ⟨[],fun _=>.nilSlice,none,by simp,by simp,fun l' ρ h=>(by cases h),fun ρ id _=>(by simp only [VRel]),fun H id _ _=>.nil⟩
 ·injection hcs with hcs _
  injection hcs with h1 h2 h3
  subst h1 h2 h3
  obtain ⟨hsp,hbk⟩:=hpl a rfl
  obtain ⟨b,off,spot⟩:=a
  simp only at hsp hbk
  subst hsp
  have hrow:∀ i,i < len→∃ r:List Int,r.length=m∧(∀ z∈r,(Lit.int k z).wf=true)∧∀ j z,r[j]? = some z→W.cell? ⟨b,off+(i*m+j),none⟩=some (.int k z):=by
   intro i hi
   have h:=hel i hi
   rw [List.getElem?_eq_getElem (by omega),Option.bind_eq_some_iff] at h
   obtain ⟨cs,hcs,hy⟩:=h
   obtain ⟨r,hr,hw,hcr⟩:=flat_cells hf hy
   refine ⟨r,hr,hw,fun j z hz=>?_⟩
   have hj:j < m:=by
    have:=(List.getElem?_eq_some_iff.1 hz).1
    omega
   have h2:=(World.cells?_some hcs).2.2 j (by rw [hf.cells]; exact hj)
   rw [hf.cells,add_plain,add_plain,hcr,List.getElem?_map,hz] at h2
   rw [← Nat.add_assoc]
   exact h2
  obtain ⟨rs,hrs,hrp⟩:=list_of len hrow
  have hall:∀ r∈rs,r.length=m∧∀ z∈r,(Lit.int k z).wf=true:=fun r hr=>by
   obtain ⟨i,hi⟩:=List.getElem?_of_mem hr
   exact ⟨(hrp i r hi).1,(hrp i r hi).2.1⟩
  have hfl:=flatCells_length (k:=k) (fun r hr=>(hall r hr).1)
  refine ⟨rs,fun id=>.slice id 0 len (.exact cap),some ⟨b,off,0⟩,hall,by omega,fun l' ρ h=>?_,fun ρ id h=>?_,fun H id hid ho=>?_⟩
  ·injection h with h; subst h
   refine ⟨hbk,fun x hx=>?_,fun i v hv=>?_⟩
   ·obtain ⟨i,hi⟩:=List.getElem?_of_mem hx
    obtain ⟨_,z,_,_,rfl⟩:=flatCells_get hm (fun r hr=>(hall r hr).1) i x hi
    rfl
   ·obtain ⟨r,z,h1,h2,rfl⟩:=flatCells_get hm (fun r hr=>(hall r hr).1) i v hv
    have h3:=(hrp _ r h1).2.2 _ z h2
    have h4:i / m*m+i % m=i:=by rw [Nat.mul_comm]; exact Nat.div_add_mod i m
    rw [h4] at h3
    exact ⟨_,h3,by simp only [VRel]⟩
  ·simp only [VRel]
   exact ⟨_,_,h,rfl,hl,.inl (by simp)⟩
  ·refine .mk (c:=yR k rs) hid (by rw [cells?_of,ho]; rfl) (by rw [hfl,hrs]; omega) ?_
   rw [List.drop_zero]
   exact List.take_of_length_le (by rw [hfl,hrs]; omega)
end
end Go.VAI

/- Rows of rows of whole numbers that came in. -/
set_option linter.unusedVariables false
namespace Go.VAI
open Go Go.ChangeShapes Go.WideShapes Go.ChangeAt Go.RowKit

section
variable {H:Type} {enc:TypeId × Value→H} {P:Program} {W:World} {r:Reach} {base:Nat} {t s e:TypeId} {k:IntKind} {m fuel:Nat} {spare:Nat→Bool} {held:Bool}
def IntsIn (W:World) (k:IntKind) (u:Value) (xs:List Int) (v:Nat→AVal) (l:Option Loc):Prop :=
 (∀ x∈xs,(Lit.int k x).wf=true)∧xs.length≤maxLen∧(∀ l' ρ,l=some l'→l'.b < W.heap.size∧CRel ρ W l' (xs.map (AVal.int k)))∧(∀ (ρ:Ren) id,ρ id=l→VRel ρ (v id) u) ∧
   (∀ (H:AHeap) id,id < H.next→H.obj id=some (.cells (xs.map (AVal.int k)) false)→Row H (v id) 1 (xs.map (AVal.int k)))∧∀ id,(v id).isCell=true
theorem cell_plain {a:Addr} {u:Value} (h:W.cell? a=some u):a.spot=none∧a.block < W.heap.size:=by
 unfold World.cell? at h
 split at h
 ·rename_i c e fz hc
  split at h
  ·cases h
  ·rename_i hs
   refine ⟨by simpa using hs,?_⟩
   exact (Array.getElem?_eq_some_iff.1 hc).1
 ·cases h
theorem ints_in {cs:List Value} {x:DataW H × List MemPlace} {b0:Nat} (ht:P.underlying t=some (.slice e)) (he:P.underlying e=some (.int k)) (hc:P.cellsOf e=1) (hsp:∀ b,spare b=true) (hb0:∀ a len cap,cs=[.slice (some a) len cap]→b0 < W.heap.size)
  (h0:DataW.trod enc P W 0 spare held fuel t cs=some x):∃ u,cs=[u]∧∃ xs v l,IntsIn W k u xs v l:=by
 rcases open_ints ht he hc h0 with ⟨hcs,_⟩ | ⟨a,len,cap,zs,hcs,_,hl,hm,hz,_,hcell,hwz⟩
 ·refine ⟨_,hcs,[],fun _=>.nilSlice,none,by simp,by simp,fun l' ρ h=>(by cases h),fun ρ id _=>(by simp only [VRel]),fun H id _ _=>.nil,fun _=>rfl⟩
 ·refine ⟨_,hcs,?_⟩
  rw [hsp,if_pos rfl] at hz
  rcases Nat.eq_zero_or_pos cap with hc0 | hc0
  ·have hl0:len=0:=by omega
   subst hl0
   refine ⟨[],fun id=>.slice id 0 0 (.exact cap),some ⟨b0,1,0⟩,by simp,by simp,fun l' ρ h=>?_,fun ρ id h=>?_,fun H id hid ho=>?_,fun _=>rfl⟩
   ·injection h with h; subst h
    exact ⟨hb0 a 0 cap hcs,by simp,by simp⟩
   ·simp only [VRel]
    exact ⟨_,a,h,rfl,hl,.inr ⟨hc0,.inr (by simp)⟩⟩
   ·exact .mk (c:=[]) hid (by rw [cells?_of,ho]; rfl) (by simp) (by simp)
  obtain ⟨hs,hb⟩:=cell_plain (hcell 0 (by omega))
  have e0:a.add 0=a:=by simp [Addr.add]
  rw [e0] at hs hb
  obtain ⟨b,off,spot⟩:=a
  simp only at hs hb
  subst hs
  have hzl:len≤zs.length:=by omega
  refine ⟨zs.take len,fun id=>.slice id 0 len (.exact cap),some ⟨b,off,0⟩,fun x hx=>hwz x (List.mem_of_mem_take hx),by simp; omega,fun l' ρ h=>?_,fun ρ id h=>?_,fun H id hid ho=>?_,fun _=>rfl⟩
  ·injection h with h; subst h
   refine ⟨hb,fun x hx=>?_,fun i v hv=>?_⟩
   ·obtain ⟨y,_,rfl⟩:=List.mem_map.1 hx
    rfl
   ·rw [List.getElem?_map] at hv
    cases hy:(zs.take len)[i]? with
    | none=>rw [hy] at hv; cases hv
    | some y =>
     rw [hy] at hv
     simp at hv
     subst hv
     have hi2:i < len:=by
      have:=(List.getElem?_eq_some_iff.1 hy).1
      simp at this; omega
     have:=hcell i (by omega)
     rw [add_plain] at this
     refine ⟨_,this,?_⟩
     simp only [VRel]
     rw [List.getElem?_take,if_pos hi2] at hy
     simp [List.getD_eq_getElem?_getD,hy]
  ·simp only [VRel]
   exact ⟨_,_,h,rfl,hl,.inl (by simp)⟩
  ·refine .mk (c:=(zs.take len).map (AVal.int k)) hid (by rw [cells?_of,ho]; rfl) (by simp; omega) ?_
   rw [List.drop_zero]
   exact List.take_of_length_le (by simp; omega)
def outer (fs:List (Nat→AVal)) (j:Nat):List AVal:=(List.range fs.length).map fun i=>(fs.getD i fun _=>.nilSlice) (j+i)
theorem outer_get {fs:List (Nat→AVal)} {j i:Nat} {v:AVal} (h:(outer fs j)[i]? = some v):∃ f,fs[i]? = some f∧v=f (j+i):=by
 unfold outer at h
 rw [List.getElem?_map] at h
 by_cases hi:i < fs.length
 ·rw [List.getElem?_range hi] at h
  simp only [Option.map_some] at h
  injection h with h
  refine ⟨fs[i],List.getElem?_eq_getElem hi,?_⟩
  rw [← h,List.getD_eq_getElem?_getD,List.getElem?_eq_getElem hi,Option.getD_some]
 ·rw [List.getElem?_eq_none (by simpa using hi)] at h
  cases h
theorem outer_length (fs:List (Nat→AVal)) (j:Nat):(outer fs j).length=fs.length:=by simp [outer]
theorem opened_rows {a0:Option Addr} {len cap:Nat} {x:DataW H × List MemPlace} (ht:P.underlying t=some (.slice s)) (hs:P.underlying s=some (.slice e)) (he:P.underlying e=some (.int .i64)) (hcs:P.cellsOf s=1) (hce:P.cellsOf e=1)
  (hsp:∀ b,spare b=true) (hpl:∀ a,a0=some a→a.spot=none∧a.block < W.heap.size)
  (h0:DataW.trod enc P W 0 spare held fuel t [.slice a0 len cap]=some x) :
  ∃ (ll:List (List Int)) (fs:List (Nat→AVal)) (ls:List (Option Loc)) (v:Nat→AVal) (l:Option Loc),fs.length=ll.length∧ls.length=ll.length∧ll.length≤maxLen∧(∀ r∈ll,r.length≤maxLen∧∀ z∈r,(Lit.int .i64 z).wf=true) ∧
   (∀ (i:Nat) li r,ls[i]? = some (some li)→ll[i]? = some r→li.b < W.heap.size∧∀ ρ,CRel ρ W li (xL r)) ∧
   (∀ l' (ρ:Ren) j,l=some l'→(∀ (i:Nat) li,ls[i]? = some li→ρ (j+i)=li)→l'.b < W.heap.size∧CRel ρ W l' (outer fs j)) ∧
   (∀ (ρ:Ren) id,ρ id=l→VRel ρ (v id) (.slice a0 len cap)) ∧
   (∀ (H:AHeap) id j,id < H.next→H.obj id=some (.cells (outer fs j) false)→(∀ (i:Nat) r,ll[i]? = some r→j+i < H.next∧H.obj (j+i)=some (.cells (xL r) false))→RowsOf H (v id) ll)∧∀ id,(v id).isCell=true:=by
 rcases DataW.trod_slice ht h0 with ⟨hcs0,_⟩ | ⟨a,len',cap',elems,rest,n,_,hcs0,_,hb,hl,hmx,hlen,hel,_,_⟩
 ·injection hcs0 with hcs0 _
  injection hcs0 with h1 h2 h3
  subst h1 h2 h3
  refine ⟨[],[],[],fun _=>.nilSlice,none,rfl,rfl,by simp,by simp,by simp,fun l' ρ j h=>(by cases h),fun ρ id _=>(by simp only [VRel]),fun H id j _ _ _=>⟨[],.nil,rfl,fun i r l h=>by simp at h⟩,fun _=>rfl⟩
 ·injection hcs0 with hcs0 _
  injection hcs0 with h1 h2 h3
  subst h1 h2 h3
  obtain ⟨hsp0,hbk⟩:=hpl a rfl
  obtain ⟨b,off,spot⟩:=a
  simp only at hsp0 hbk
  subst hsp0
  have hrow:∀ i,i < len→∃ q:List Int × (Nat→AVal) × Option Loc,∃ u,W.cell? ⟨b,off+i,none⟩=some u∧IntsIn W .i64 u q.1 q.2.1 q.2.2:=by
   intro i hi
   have h:=hel i hi
   rw [List.getElem?_eq_getElem (by omega),Option.bind_eq_some_iff] at h
   obtain ⟨cs,hcs',hy⟩:=h
   rw [hcs,Nat.mul_one] at hcs'
   obtain ⟨_,hcl,hcg⟩:=World.cells?_some hcs'
   have h2:=hcg 0 (by omega)
   rw [add_plain,add_plain,Nat.add_zero] at h2
   obtain ⟨u,rfl,xs,v,l,hin⟩:=ints_in hs he hce hsp (fun _ _ _ _=>hbk) hy
   exact ⟨(xs,v,l),u,h2,hin⟩
  obtain ⟨qs,hql,hqp⟩:=list_of len hrow
  have hget:∀ (i:Nat) q,qs[i]? = some q→i < len:=fun i q h=>by
   have:=(List.getElem?_eq_some_iff.1 h).1
   omega
  refine ⟨qs.map (·.1),qs.map (·.2.1),qs.map (·.2.2),fun id=>.slice id 0 len (.exact cap),some ⟨b,off,0⟩,by simp,by simp,by simp; omega,fun r hr=>?_,fun i li r h1 h2=>?_,fun l' ρ j h hρ=>?_,fun ρ id h=>?_,fun H id j hid ho hinner=>?_,fun _=>rfl⟩
  ·obtain ⟨q,hq,rfl⟩:=List.mem_map.1 hr
   obtain ⟨i,hi⟩:=List.getElem?_of_mem hq
   obtain ⟨u,_,h3,h4,_⟩:=hqp i q hi
   exact ⟨h4,h3⟩
  ·rw [List.getElem?_map] at h1 h2
   cases hq:qs[i]? with
   | none=>rw [hq] at h1; cases h1
   | some q =>
    rw [hq] at h1 h2
    simp only [Option.map_some] at h1 h2
    injection h1 with h1; injection h2 with h2
    subst h2
    obtain ⟨u,_,_,_,h5,_⟩:=hqp i q hq
    exact ⟨(h5 li (fun _=>none) h1).1,fun ρ=>(h5 li ρ h1).2⟩
  ·injection h with h; subst h
   refine ⟨hbk,fun x hx=>?_,fun i v hv=>?_⟩
   ·obtain ⟨i,hi⟩:=List.getElem?_of_mem hx
    obtain ⟨f,hf,rfl⟩:=outer_get hi
    rw [List.getElem?_map] at hf
    cases hq:qs[i]? with
    | none=>rw [hq] at hf; cases hf
    | some q =>
     rw [hq] at hf
     simp only [Option.map_some] at hf
     injection hf with hf
     subst hf
     obtain ⟨u,_,_,_,_,_,_,h8⟩:=hqp i q hq
     exact h8 _
   ·obtain ⟨f,hf,rfl⟩:=outer_get hv
    rw [List.getElem?_map] at hf
    cases hq:qs[i]? with
    | none=>rw [hq] at hf; cases hf
    | some q =>
     rw [hq] at hf
     simp only [Option.map_some] at hf
     injection hf with hf
     subst hf
     obtain ⟨u,h2,_,_,_,h6,_⟩:=hqp i q hq
     exact ⟨u,h2,h6 ρ _ (hρ i q.2.2 (by rw [List.getElem?_map,hq]; rfl))⟩
  ·simp only [VRel]
   exact ⟨_,_,h,rfl,hl,.inl (by simp)⟩
  ·refine ⟨outer (qs.map (·.2.1)) j,.mk (c:=outer (qs.map (·.2.1)) j) hid (by rw [cells?_of,ho]; rfl) (by rw [outer_length]; simp; omega) ?_,by rw [outer_length]; simp,fun i r l h1 h2=>?_⟩
   ·rw [List.drop_zero]
    exact List.take_of_length_le (by rw [outer_length]; simp; omega)
   ·obtain ⟨f,hf,rfl⟩:=outer_get h1
    have hin:=hinner i l h2
    rw [List.getElem?_map] at hf h2
    cases hq:qs[i]? with
    | none=>rw [hq] at hf; cases hf
    | some q =>
     rw [hq] at hf h2
     simp only [Option.map_some] at hf h2
     injection hf with hf; injection h2 with h2
     subst hf; subst h2
     obtain ⟨u,_,_,_,_,_,h7,_⟩:=hqp i q hq
     exact h7 H _ hin.1 hin.2
end
end Go.VAI

/- A hierarchy that came in: a struct of a network,a row of numbers,a row of structs,two rows of rows. -/
set_option linter.unusedVariables false
namespace Go.VAI
open Go Go.ChangeShapes Go.WideShapes Go.ChangeAt Go.RowKit

def FlatIn (W:World) (m:Nat) (u:Value) (rs:List (List Int)) (v:Nat→AVal) (l:Option Loc):Prop :=
 (∀ r∈rs,r.length=m∧∀ z∈r,(Lit.int .i64 z).wf=true)∧rs.length≤maxLen∧(∀ l' ρ,l=some l'→l'.b < W.heap.size∧CRel ρ W l' (yR .i64 rs))∧(∀ (ρ:Ren) id,ρ id=l→VRel ρ (v id) u) ∧
  (∀ (H:AHeap) id,id < H.next→H.obj id=some (.cells (yR .i64 rs) false)→Row H (v id) m (yR .i64 rs))
def RowsIn (W:World) (u:Value) (ll:List (List Int)) (fs:List (Nat→AVal)) (ls:List (Option Loc)) (v:Nat→AVal) (l:Option Loc):Prop :=
 fs.length=ll.length∧ls.length=ll.length∧ll.length≤maxLen∧(∀ r∈ll,r.length≤maxLen∧∀ z∈r,(Lit.int .i64 z).wf=true) ∧
   (∀ (i:Nat) li r,ls[i]? = some (some li)→ll[i]? = some r→li.b < W.heap.size∧∀ ρ,CRel ρ W li (xL r)) ∧
   (∀ l' (ρ:Ren) j,l=some l'→(∀ (i:Nat) li,ls[i]? = some li→ρ (j+i)=li)→l'.b < W.heap.size∧CRel ρ W l' (outer fs j)) ∧
   (∀ (ρ:Ren) id,ρ id=l→VRel ρ (v id) u) ∧
   (∀ (H:AHeap) id j,id < H.next→H.obj id=some (.cells (outer fs j) false)→(∀ (i:Nat) r,ll[i]? = some r→j+i < H.next∧H.obj (j+i)=some (.cells (xL r) false))→RowsOf H (v id) ll)∧∀ id,(v id).isCell=true
section
variable {H:Type} {enc:TypeId × Value→H} {P:Program} {W:World} {r:Reach} {base:Nat} {t s e:TypeId} {k:IntKind} {m fuel:Nat} {spare:Nat→Bool} {held:Bool}
theorem field_slice {cs:List Value} {x:DataW H × List MemPlace} (hs:P.underlying s=some (.slice e)) (h:DataW.trod enc P W 0 spare held fuel s cs=some x):∃ a0 len cap,cs=[.slice a0 len cap]:=by
 rcases DataW.trod_slice hs h with ⟨h,_⟩ | ⟨a,len,cap,_,_,_,_,h,_⟩
 ·exact ⟨_,_,_,h⟩
 ·exact ⟨_,_,_,h⟩
theorem okWide_cell {a:Addr} {len cap:Nat} (ht:P.underlying t=some (.slice e)) (h:Cell.okWide P W r base t (.slice (some a) len cap)):a.spot=none∧a.block < W.heap.size:=by
 simp only [Cell.okWide,ht,Cell.ok,World.has] at h
 obtain ⟨_,_,_,h1,row,cells,h2,_⟩:=h
 refine ⟨h1,?_⟩
 apply Classical.byContradiction
 intro hn
 have:W.heap[a.block]? = none:=by simp; omega
 simp [World.shape?,this] at h2
structure SliceF (P:Program) (fs:Array Field) (i:Nat) (off:Nat) (s:TypeId):Prop where
 f:∃ x:Field,fs[i]? = some x∧x.offset=off∧x.type=s
 cells:P.cellsOf s=1
theorem opened_net2 {fs:Array Field} {x0:Field} {cs:List Value} {x:DataW H × List MemPlace} (ht:P.underlying t=some (.struct fs)) (hct:P.cellsOf t=2) (f0:fs[0]? = some x0∧x0.offset=0∧P.underlying x0.type=some (.int .i64)∧P.cellsOf x0.type=1)
  (f1:SliceF P fs 1 1 s) (hs:P.underlying s=some (.slice e)) (h:DataW.trod enc P W 0 spare held fuel t cs=some x) :
  ∃ (n:Int) (a0:Option Addr) (len cap:Nat) (y:DataW H × List MemPlace) (fuel':Nat),cs=[.int .i64 n,.slice a0 len cap]∧(Lit.int .i64 n).wf=true∧DataW.trod enc P W 0 spare held fuel' s [.slice a0 len cap]=some y:=by
 obtain ⟨xs,n,_,_,hl,hxl,hel⟩:=DataW.trod_struct ht h
 obtain ⟨⟨x1,f1a,f1b,f1c⟩,f1d⟩:=f1
 rw [hct] at hl
 have e0:=hel 0 x0 f0.1
 have e1:=hel 1 x1 f1a
 have hf1:1 < fs.size:=(Array.getElem?_eq_some_iff.1 f1a).1
 rw [f0.2.1,f0.2.2.2,List.getElem?_eq_getElem (by omega)] at e0
 rw [f1b,f1c,f1d,List.getElem?_eq_getElem (by omega)] at e1
 obtain ⟨z,g0,_,hw⟩:=DataW.trod_int f0.2.2.1 e0
 obtain ⟨a0,len,cap,g1⟩:=field_slice hs e1
 rw [g1] at e1
 refine ⟨z,a0,len,cap,_,_,?_,hw,e1⟩
 match cs,hl with
 | [u,w],_ =>
  simp at g0 g1
  rw [g0,g1]
theorem opened_idx {fs gs:Array Field} {x0 y0:Field} {t0 tn sr sa so ee ea:TypeId} {v:Value} {d:DataW H} {p:List MemPlace} (ht:P.underlying t=some (.struct fs)) (hct:P.cellsOf t=6)
  (f0:fs[0]? = some x0∧x0.offset=0∧x0.type=tn∧P.cellsOf tn=2) (fr:SliceF P fs 1 2 sr) (fa:SliceF P fs 2 3 sa) (fu:SliceF P fs 3 4 so) (fd:SliceF P fs 4 5 so)
  (htn:P.underlying tn=some (.struct gs)) (g0:gs[0]? = some y0∧y0.offset=0∧P.underlying y0.type=some (.int .i64)∧P.cellsOf y0.type=1) (g1:SliceF P gs 1 1 s)
  (hts:P.cellTypes P.depth t=some [t0,s,sr,sa,so,so])
  (hs:P.underlying s=some (.slice ee)) (he:FlatT P ee .i64 4) (hsr:P.underlying sr=some (.slice e)) (hei:P.underlying e=some (.int .i64)) (hce:P.cellsOf e=1)
  (hsa:P.underlying sa=some (.slice ea)) (ha:FlatT P ea .i64 7) (hso:P.underlying so=some (.slice sr)) (hcr:P.cellsOf sr=1)
  (hok:Value.okWide P W r base t v) (h0:DataW.Trod enc P W 0 (fun _=>true) true t v d p) :
  ∃ (n:Int) (u1 u2 u3 u4 u5:Value) (es:List (List Int)) (fe:Nat→AVal) (le:Option Loc) (rk:List Int) (fk:Nat→AVal) (lk:Option Loc) (ars:List (List Int)) (fa:Nat→AVal) (la:Option Loc)
   (up:List (List Int)) (us:List (Nat→AVal)) (lus:List (Option Loc)) (fu:Nat→AVal) (lu:Option Loc) (dn:List (List Int)) (ds:List (Nat→AVal)) (lds:List (Option Loc)) (fd:Nat→AVal) (ld:Option Loc),
   v=.agg #[.int .i64 n,u1,u2,u3,u4,u5]∧(Lit.int .i64 n).wf=true∧FlatIn W 4 u1 es fe le∧IntsIn W .i64 u2 rk fk lk∧FlatIn W 7 u3 ars fa la∧RowsIn W u4 up us lus fu lu∧RowsIn W u5 dn ds lds fd ld:=by
 simp only [Value.okWide,ht] at hok
 obtain ⟨cs,rfl,hsz,ts,hts',_,hall⟩:=hok
 rw [hts] at hts'
 injection hts' with hts'
 subst hts'
 obtain ⟨fuel,hd⟩:=h0
 simp only [Value.cells] at hd
 obtain ⟨xs,n,_,_,hl,hxl,hel⟩:=DataW.trod_struct ht hd
 obtain ⟨⟨x1,r1,r2,r3⟩,r4⟩:=fr
 obtain ⟨⟨x2,a1,a2,a3⟩,a4⟩:=fa
 obtain ⟨⟨x3,u1,u2,u3⟩,u4⟩:=fu
 obtain ⟨⟨x4,d1,d2,d3⟩,d4⟩:=fd
 rw [hct] at hl hsz
 have hf4:4 < fs.size:=(Array.getElem?_eq_some_iff.1 d1).1
 have e0:=hel 0 x0 f0.1
 have e1:=hel 1 x1 r1
 have e2:=hel 2 x2 a1
 have e3:=hel 3 x3 u1
 have e4:=hel 4 x4 d1
 rw [f0.2.1,f0.2.2.1,f0.2.2.2,List.getElem?_eq_getElem (by omega)] at e0
 rw [r2,r3,r4,List.getElem?_eq_getElem (by omega)] at e1
 rw [a2,a3,a4,List.getElem?_eq_getElem (by omega)] at e2
 rw [u2,u3,u4,List.getElem?_eq_getElem (by omega)] at e3
 rw [d2,d3,d4,List.getElem?_eq_getElem (by omega)] at e4
 obtain ⟨z,b0,len0,cap0,y,fuel0,q0,hw,en⟩:=opened_net2 htn f0.2.2.2 g0 g1 hs e0
 obtain ⟨b1,len1,cap1,q1⟩:=field_slice hsr e1
 obtain ⟨b2,len2,cap2,q2⟩:=field_slice hsa e2
 obtain ⟨b3,len3,cap3,q3⟩:=field_slice hso e3
 obtain ⟨b4,len4,cap4,q4⟩:=field_slice hso e4
 rw [q1] at e1
 rw [q2] at e2
 rw [q3] at e3
 rw [q4] at e4
 have hcs:cs=#[.int .i64 z,.slice b0 len0 cap0,.slice b1 len1 cap1,.slice b2 len2 cap2,.slice b3 len3 cap3,.slice b4 len4 cap4]:=by
  obtain ⟨l⟩:=cs
  match l,hl with
  | [w0,w1,w2,w3,w4,w5],_ =>
   simp at q0 q1 q2 q3 q4
   rw [q0.1,q0.2,q1,q2,q3,q4]
 subst hcs
 have k1:=hall 1 _ rfl
 have k2:=hall 2 _ rfl
 have k3:=hall 3 _ rfl
 have k4:=hall 4 _ rfl
 have k5:=hall 5 _ rfl
 have k1:Cell.okWide P W r base s (.slice b0 len0 cap0):=by
  obtain ⟨u,hu1,hu2⟩:=k1
  simp at hu1
  rw [hu1]
  exact hu2
 have k2:Cell.okWide P W r base sr (.slice b1 len1 cap1):=by
  obtain ⟨u,hu1,hu2⟩:=k2
  simp at hu1
  rw [hu1]
  exact hu2
 have k3:Cell.okWide P W r base sa (.slice b2 len2 cap2):=by
  obtain ⟨u,hu1,hu2⟩:=k3
  simp at hu1
  rw [hu1]
  exact hu2
 have k4:Cell.okWide P W r base so (.slice b3 len3 cap3):=by
  obtain ⟨u,hu1,hu2⟩:=k4
  simp at hu1
  rw [hu1]
  exact hu2
 have k5:Cell.okWide P W r base so (.slice b4 len4 cap4):=by
  obtain ⟨u,hu1,hu2⟩:=k5
  simp at hu1
  rw [hu1]
  exact hu2
 obtain ⟨es,fe,le,h1⟩:=opened_flat hs he (by omega) (fun a ha=>okWide_cell hs (by rw [ha] at k1; exact k1)) en
 obtain ⟨w,hw1,rk,fk,lk,h2⟩:=ints_in (b0:=(b1.map (·.block)).getD 0) hsr hei hce (fun _=>rfl) (fun a len cap hc=>by
  injection hc with hc
  injection hc with hc1 hc2 hc3
  subst hc1
  exact (okWide_cell hsr k2).2) e1
 obtain ⟨ars,fa,la,h3⟩:=opened_flat hsa ha (by omega) (fun a ha=>okWide_cell hsa (by rw [ha] at k3; exact k3)) e2
 obtain ⟨up,us,lus,fu,lu,h4⟩:=opened_rows hso hsr hei hcr hce (fun _=>rfl) (fun a ha=>okWide_cell hso (by rw [ha] at k4; exact k4)) e3
 obtain ⟨dn,ds,lds,fd,ld,h5⟩:=opened_rows hso hsr hei hcr hce (fun _=>rfl) (fun a ha=>okWide_cell hso (by rw [ha] at k5; exact k5)) e4
 injection hw1 with hw1 _
 subst hw1
 exact ⟨z,_,_,_,_,_,es,fe,le,rk,fk,lk,ars,fa,la,up,us,lus,fu,lu,dn,ds,lds,fd,ld,rfl,hw,h1,h2,h3,h4,h5⟩
end
end Go.VAI

/- A hierarchy that came in,and a row of numbers: the memory they make. -/
set_option linter.unusedVariables false
namespace Go.VAI
open Go Go.ChangeShapes Go.WideShapes Go.ChangeAt Go.RowKit

def wT (es:List (List Int)) (rk:List Int) (ars:List (List Int)) (up:List (List Int)) (us:List (Nat→AVal)) (dn:List (List Int)) (ds:List (Nat→AVal)) (ns:List Int):List (List AVal) :=
 [yR .i64 es,xL rk,yR .i64 ars,outer us 6,outer ds (6+up.length),xL ns]++(up.map xL++dn.map xL)
def qB (le lk la lu ld ln:Option Loc) (lus lds:List (Option Loc)):List (Option Loc):=[le,lk,la,lu,ld,ln]++(lus++lds)
section
variable {es ars up dn:List (List Int)} {rk ns:List Int} {us ds:List (Nat→AVal)} {le lk la lu ld ln:Option Loc} {lus lds:List (Option Loc)}
theorem idxObjs_up {i:Nat} {r:List Int} (h:up[i]? = some r):(wT es rk ars up us dn ds ns)[6+i]? = some (xL r):=by
 unfold wT
 have hi:=(List.getElem?_eq_some_iff.1 h).1
 rw [List.getElem?_append_right (by simp),List.getElem?_append_left (by simp; omega),List.getElem?_map]
 simp [h]
theorem idxObjs_dn {i:Nat} {r:List Int} (h:dn[i]? = some r):(wT es rk ars up us dn ds ns)[6+up.length+i]? = some (xL r):=by
 unfold wT
 rw [List.getElem?_append_right (by simp; omega),List.getElem?_append_right (by simp; omega),List.getElem?_map]
 have:6+up.length+i - [yR .i64 es,xL rk,yR .i64 ars,outer us 6,outer ds (6+up.length),xL ns].length - (up.map xL).length=i:=by simp; omega
 rw [this,h]; rfl
theorem idxLocs_up {i:Nat} {l:Option Loc} (h:lus[i]? = some l):(qB le lk la lu ld ln lus lds)[6+i]? = some l:=by
 unfold qB
 have hi:=(List.getElem?_eq_some_iff.1 h).1
 rw [List.getElem?_append_right (by simp),List.getElem?_append_left (by simp; omega)]
 simpa using h
theorem idxLocs_dn {i:Nat} {l:Option Loc} (h:lds[i]? = some l):(qB le lk la lu ld ln lus lds)[6+lus.length+i]? = some l:=by
 unfold qB
 rw [List.getElem?_append_right (by simp; omega),List.getElem?_append_right (by simp; omega)]
 have:6+lus.length+i - [le,lk,la,lu,ld,ln].length - lus.length=i:=by simp; omega
 rw [this,h]
theorem idxObjs_len:(wT es rk ars up us dn ds ns).length=6+up.length+dn.length:=by simp [wT]; omega
theorem idxLocs_len:(qB le lk la lu ld ln lus lds).length=6+lus.length+lds.length:=by simp [qB]; omega
variable {W:World} {u1 u2 u3 u4 u5:Value} {fe fk fa fu fd:Nat→AVal}
theorem idx_init (h1:FlatIn W 4 u1 es fe le) (h2:IntsIn W .i64 u2 rk fk lk) (h3:FlatIn W 7 u3 ars fa la) (h4:RowsIn W u4 up us lus fu lu) (h5:RowsIn W u5 dn ds lds fd ld)
  (h6:∀ l' ρ,ln=some l'→l'.b < W.heap.size∧CRel ρ W l' (xL ns)) :
  (qB le lk la lu ld ln lus lds).length=(wT es rk ars up us dn ds ns).length ∧
  ∀ (i:Nat) c l,(wT es rk ars up us dn ds ns)[i]? = some c→(qB le lk la lu ld ln lus lds)[i]? = some (some l)→l.b < W.heap.size∧CRel (renOf (qB le lk la lu ld ln lus lds)) W l c:=by
 have e4:=h4.2.1
 have e5:=h5.2.1
 refine ⟨by rw [idxLocs_len,idxObjs_len,e4,e5],fun i c l hc hl=>?_⟩
 rcases i with _ | _ | _ | _ | _ | _ | i
 ·injection hc with hc; injection hl with hl; subst hc
  exact h1.2.2.1 l _ hl
 ·injection hc with hc; injection hl with hl; subst hc
  exact h2.2.2.1 l _ hl
 ·injection hc with hc; injection hl with hl; subst hc
  exact h3.2.2.1 l _ hl
 ·injection hc with hc; injection hl with hl; subst hc
  exact h4.2.2.2.2.2.1 l _ 6 hl (fun i li h=>by unfold renOf; rw [idxLocs_up h]; rfl)
 ·injection hc with hc; injection hl with hl; subst hc
  refine h5.2.2.2.2.2.1 l _ (6+up.length) hl (fun i li h=>by unfold renOf; rw [← e4,idxLocs_dn h]; rfl)
 ·injection hc with hc; injection hl with hl; subst hc
  exact h6 l _ hl
 ·have hi:i < up.length+dn.length:=by
   have:=(List.getElem?_eq_some_iff.1 hc).1
   rw [idxObjs_len] at this
   omega
  have ei:i+1+1+1+1+1+1=6+i:=by omega
  rw [ei] at hc hl
  by_cases hu:i < up.length
  ·obtain ⟨r,hr⟩:∃ r,up[i]? = some r:=⟨_,List.getElem?_eq_getElem hu⟩
   obtain ⟨q,hq⟩:∃ q,lus[i]? = some q:=⟨_,List.getElem?_eq_getElem (by omega)⟩
   rw [idxObjs_up hr] at hc
   rw [idxLocs_up hq] at hl
   injection hc with hc; injection hl with hl; subst hc; subst hl
   have:=h4.2.2.2.2.1 i l r hq hr
   exact ⟨this.1,this.2 _⟩
  ·obtain ⟨k,rfl⟩:∃ k,i=up.length+k:=⟨i - up.length,by omega⟩
   obtain ⟨r,hr⟩:∃ r,dn[k]? = some r:=⟨_,List.getElem?_eq_getElem (by omega)⟩
   obtain ⟨q,hq⟩:∃ q,lds[k]? = some q:=⟨_,List.getElem?_eq_getElem (by omega)⟩
   rw [← Nat.add_assoc] at hc hl
   rw [idxObjs_dn hr] at hc
   rw [← e4,idxLocs_dn hq] at hl
   injection hc with hc; injection hl with hl; subst hc; subst hl
   have:=h5.2.2.2.2.1 k l r hq hr
   exact ⟨this.1,this.2 _⟩
theorem idx_rows (h1:FlatIn W 4 u1 es fe le) (h2:IntsIn W .i64 u2 rk fk lk) (h3:FlatIn W 7 u3 ars fa la) (h4:RowsIn W u4 up us lus fu lu) (h5:RowsIn W u5 dn ds lds fd ld) :
  Row (vY (wT es rk ars up us dn ds ns)) (fe 0) 4 (yR .i64 es)∧Row (vY (wT es rk ars up us dn ds ns)) (fk 1) 1 (xL rk)∧Row (vY (wT es rk ars up us dn ds ns)) (fa 2) 7 (yR .i64 ars) ∧
  RowsOf (vY (wT es rk ars up us dn ds ns)) (fu 3) up∧RowsOf (vY (wT es rk ars up us dn ds ns)) (fd 4) dn:=by
 have hn:(vY (wT es rk ars up us dn ds ns)).next=6+up.length+dn.length:=idxObjs_len (es:=es)
 refine ⟨h1.2.2.2.2 _ 0 (by rw [hn]; omega) rfl,h2.2.2.2.2.1 _ 1 (by rw [hn]; omega) rfl,h3.2.2.2.2 _ 2 (by rw [hn]; omega) rfl,?_,?_⟩
 ·refine h4.2.2.2.2.2.2.2.1 _ 3 6 (by rw [hn]; omega) rfl (fun i r h=>?_)
  have hi:=(List.getElem?_eq_some_iff.1 h).1
  exact ⟨by rw [hn]; omega,by simp only [vY]; rw [idxObjs_up h]; rfl⟩
 ·refine h5.2.2.2.2.2.2.2.1 _ 4 (6+up.length) (by rw [hn]; omega) rfl (fun i r h=>?_)
  have hi:=(List.getElem?_eq_some_iff.1 h).1
  exact ⟨by rw [hn]; omega,by simp only [vY]; rw [idxObjs_dn h]; rfl⟩
theorem row_isCell {H:AHeap} {v:AVal} {sz:Nat} {cs:List AVal} (h:Row H v sz cs):v.isCell=true:=by cases h <;> rfl
theorem raw_isCell {f:Nat→AVal} {m:Nat} {cs:List AVal} (h:∀ (H:AHeap) id,id < H.next→H.obj id=some (.cells cs false)→Row H (f id) m cs) (id:Nat):(f id).isCell=true :=
 row_isCell (h ⟨fun _=>some (.cells cs false),id+1⟩ id (Nat.lt_succ_self _) rfl)
theorem idx_vrel {n:Int} (h1:FlatIn W 4 u1 es fe le) (h2:IntsIn W .i64 u2 rk fk lk) (h3:FlatIn W 7 u3 ars fa la) (h4:RowsIn W u4 up us lus fu lu) (h5:RowsIn W u5 dn ds lds fd ld) :
  VRel (renOf (qB le lk la lu ld ln lus lds)) (.agg [.int .i64 n,fe 0,fk 1,fa 2,fu 3,fd 4]) (.agg #[.int .i64 n,u1,u2,u3,u4,u5]):=by
 simp only [VRel]
 refine ⟨[_,_,_,_,_,_],rfl,.cons (by simp only [VRel]) (.cons (h1.2.2.2.1 _ 0 rfl) (.cons (h2.2.2.2.1 _ 1 rfl) (.cons (h3.2.2.2.1 _ 2 rfl) (.cons (h4.2.2.2.2.2.2.1 _ 3 rfl) (.cons (h5.2.2.2.2.2.2.1 _ 4 rfl) .nil))))),fun c hc=>?_⟩
 simp only [List.mem_cons,List.not_mem_nil,or_false] at hc
 rcases hc with rfl | rfl | rfl | rfl | rfl | rfl
 ·rfl
 ·exact raw_isCell h1.2.2.2.2 0
 ·exact h2.2.2.2.2.2 1
 ·exact raw_isCell h3.2.2.2.2 2
 ·exact h4.2.2.2.2.2.2.2.2 3
 ·exact h5.2.2.2.2.2.2.2.2 4
end
end Go.VAI

namespace Go.Proofs.YtknhlpmmalcchaaGreat
open Go Go.VAI
def edgesOf (rs:List (List Int)):List Edge:=rs.map fun r=>⟨r.getD 0 0,r.getD 1 0,r.getD 2 0,r.getD 3 0⟩
def arcsOf (rs:List (List Int)):List Arc:=rs.map fun r=>⟨r.getD 0 0,r.getD 1 0,r.getD 2 0,r.getD 3 0,r.getD 4 0,r.getD 5 0,r.getD 6 0⟩
theorem edges_flat:∀ (rs:List (List Int)),(∀ r∈rs,r.length=4)→xG (edgesOf rs)=yR .i64 rs
 | [],_=>rfl
 | r :: rs,h=>by
  have ih:=edges_flat rs (fun x hx=>h x (List.mem_cons_of_mem _ hx))
  have h4:=h r List.mem_cons_self
  match r,h4 with
  | [a,b,c,d],_ =>
   have e1:xG (edgesOf ([a,b,c,d] :: rs))=[.int .i64 a,.int .i64 b,.int .i64 c,.int .i64 d]++xG (edgesOf rs):=by simp [edgesOf,xG,Edge.cells]
   rw [e1,ih]
   simp [yR]
theorem arcs_flat:∀ (rs:List (List Int)),(∀ r∈rs,r.length=7)→xW (arcsOf rs)=yR .i64 rs
 | [],_=>rfl
 | r :: rs,h=>by
  have ih:=arcs_flat rs (fun x hx=>h x (List.mem_cons_of_mem _ hx))
  have h4:=h r List.mem_cons_self
  match r,h4 with
  | [a,b,c,d,e,f,g],_ =>
   have e1:xW (arcsOf ([a,b,c,d,e,f,g] :: rs))=[.int .i64 a,.int .i64 b,.int .i64 c,.int .i64 d,.int .i64 e,.int .i64 f,.int .i64 g]++xW (arcsOf rs):=by simp [arcsOf,xW,Arc.cells]
   rw [e1,ih]
   simp [yR]
theorem idx_in {W:World} {es ars up dn:List (List Int)} {rk ns:List Int} {us ds:List (Nat→AVal)} {le lk la lu ld:Option VAI.Loc} {lus lds:List (Option VAI.Loc)} {u1 u2 u3 u4 u5:Value} {fe fk fa fu fd:Nat→AVal} (n:Int)
  (h1:FlatIn W 4 u1 es fe le) (h2:IntsIn W .i64 u2 rk fk lk) (h3:FlatIn W 7 u3 ars fa la) (h4:VAI.RowsIn W u4 up us lus fu lu) (h5:VAI.RowsIn W u5 dn ds lds fd ld) :
  IdxAt (vY (wT es rk ars up us dn ds ns)) (fe 0) (fk 1) (fa 2) (fu 3) (fd 4) ⟨n,edgesOf es,rk,arcsOf ars,up,dn⟩:=by
 obtain ⟨a,b,c,d,e⟩:=idx_rows (ns:=ns) h1 h2 h3 h4 h5
 exact ⟨by rw [edges_flat es (fun r hr=>(h1.1 r hr).1)]; exact a,b,by rw [arcs_flat ars (fun r hr=>(h3.1 r hr).1)]; exact c,d,e⟩
end Go.Proofs.YtknhlpmmalcchaaGreat

/- Closed facts of the program: what its head says,read ars a list of signs (the kernel is slow at a long text's own signs). -/
namespace Go.Proofs.YtknhlpmmalcchaaGreat
open Go Go.ChangeShapes Go.WideShapes Go.ChangeAt Go.RowKit
set_option maxRecDepth 100000
def headSigns:List Char:=List.map Char.ofNat [104,97,114,110,101,115,115,32,49,97,53,53,48,55,99,101,102,48,56,49,55,55,57,50,54,55,54,97,50,57,99,51,49,97,101,102,57,100,102,101,54,57,48,54,54,51,99,55,100,102,102,98,51,102,57,97,101,55,97,100,55,54,99,56,100,98,100,56,55,100,57,97,32,99,117,116,32,97,116,32,109,105,108,101,115,116,111,110,101,47,109,105,108,101,115,116,111,110,101,108,97,119,49,49,46,72,105,101,114,67,104,101,99,107,115,32,109,105,108,101,115,116,111,110,101,47,109,105,108,101,115,116,111,110,101,108,97,119,49,49,46,72,105,101,114,76,105,110,101]
theorem head_eq:Tryz.prog.initOrder=String.ofList headSigns:=by kernel_rfl
theorem head_list:Tryz.prog.initOrder.toList=headSigns:=by rw [head_eq,String.toList_ofList]
theorem head_words : ∃ rest,behindMainWord (wordsSigns headSigns) = "cut".toList :: rest := ⟨(behindMainWord (wordsSigns headSigns)).tail,by kernel_rfl⟩
theorem strip_cut (rest : List (List Char)) : stripLifts liftWords ("cut".toList :: rest) = ([],"cut".toList :: rest) := by kernel_rfl
theorem ne2 : ("cut".toList == "spec".toList) = false := by kernel_rfl
theorem ne3 : ("cut".toList == "carried".toList) = false := by kernel_rfl
theorem words_of : ∃ rest,behindMainWord (wordsSigns Tryz.prog.initOrder.toList) = "cut".toList :: rest := by
 obtain ⟨rest,h⟩:=head_words
 exact ⟨rest,(congrArg (fun l=>behindMainWord (wordsSigns l)) head_list).trans h⟩
theorem make_of (P : Program) (rest : List (List Char)) (h : behindMainWord (wordsSigns P.initOrder.toList) = "cut".toList :: rest) : P.make = some .cut := by
 unfold Program.make
 rw [h]
 simp only [ne1,ne2,beq_self_eq_true,Bool.false_or,Bool.true_or,Bool.or_self,Bool.false_eq_true,if_true,if_false]
theorem lifts_of (P : Program) (rest : List (List Char)) (h : behindMainWord (wordsSigns P.initOrder.toList) = "cut".toList :: rest) : P.liftsFinal = false := by
 unfold Program.liftsFinal Program.headLifts
 rw [h]
 have e : ((some "cut".toList : Option (List Char)) == some "carried".toList) = false := by kernel_rfl
 simp only [strip_cut,List.head?_cons,beq_self_eq_true,if_true,e,Bool.false_and,Bool.false_or]
 rfl
theorem enter_of (P : Program) (rest : List (List Char)) (h : behindMainWord (wordsSigns P.initOrder.toList) = "cut".toList :: rest) (h1 : P.laysLater = false) (h2 : P.bearsReflect = false) (h3 : P.doorFits [] = true) : P.mayEnter = true := by
 unfold Program.mayEnter
 rw [h]
 simp only [strip_cut,ne1,ne2,ne3,h1,h2,h3,List.head?_cons,beq_self_eq_true,Bool.false_or,Bool.or_false,Bool.false_and,Bool.true_and,Bool.and_true,Bool.not_false,Bool.or_true,List.contains_nil]
theorem fact_make:Tryz.prog.make=some .cut:=by
 obtain ⟨rest,h⟩:=words_of
 exact make_of _ _ h
theorem fact_lifts:Tryz.prog.liftsFinal=false:=by
 obtain ⟨rest,h⟩:=words_of
 exact lifts_of _ _ h
theorem fact_later:Tryz.prog.laysLater=false:=by kernel_rfl
theorem fact_reflect:Tryz.prog.bearsReflect=false:=by kernel_rfl
theorem fact_door:Tryz.prog.doorFits []=true:=by kernel_rfl
theorem fact_enter:Tryz.prog.mayEnter=true:=by
 obtain ⟨rest,h⟩:=words_of
 exact enter_of _ _ h fact_later fact_reflect fact_door
theorem uQ:laidOutB Tryz.prog=true:=by kernel_rfl
theorem fact_maps:mapsRowed Tryz.prog=true:=by kernel_rfl
theorem fact_heard:Tryz.prog.stopsHeard=true:=by kernel_rfl
end Go.Proofs.YtknhlpmmalcchaaGreat
