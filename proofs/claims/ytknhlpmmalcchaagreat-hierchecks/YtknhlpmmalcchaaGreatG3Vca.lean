/- From the interpreter's run of a law to the statement's words: arguments opened,the old memory as it was. -/
import Derived.Test.YtknhlpmmalcchaaGreatG3Vba
import Derived.ProofKit
import Derived.Carry
import Derived.JoinedOf
set_option linter.all false
set_option linter.unusedVariables false
set_option linter.unusedSimpArgs false
set_option linter.unusedVariables false
namespace Go.VAI
open Go Go.ChangeShapes Go.WideShapes Go.ChangeAt Go.RowKit

def vY (objs:List (List AVal)):AHeap:=⟨fun i=>(objs[i]?).map fun c=>.cells c false,objs.length⟩
def renOf (locs:List (Option Loc)):Ren:=fun i=>(locs[i]?).bind id
theorem hrel_init {w:World} {objs:List (List AVal)} {locs:List (Option Loc)} (hlen:locs.length=objs.length)
  (h:∀ (i:Nat) c l,objs[i]? = some c→locs[i]? = some (some l)→l.b < w.heap.size∧CRel (renOf locs) w l c):HRel (renOf locs) w.heap.size (vY objs) w:=by
 have key:∀ id l,renOf locs id=some l→id < objs.length∧locs[id]? = some (some l):=by
  intro id l e
  unfold renOf at e
  cases hl:locs[id]? with
  | none=>rw [hl] at e; cases e
  | some o =>
   rw [hl] at e
   have:id < locs.length:=(List.getElem?_eq_some_iff.1 hl).1
   refine ⟨by omega,?_⟩
   simp at e
   rw [e]
 refine ⟨fun id l e=>?_,fun id l o e1 e2=>?_,fun id id' l l' o o' e1 e2 hne h1 h2 h3 h4=>?_,Nat.le_refl _,fun id hid=>?_⟩
 ·obtain ⟨h1,h2⟩:=key id l e
  exact ⟨h1,(h id _ l (List.getElem?_eq_getElem h1) h2).1⟩
 ·obtain ⟨h1,h2⟩:=key id l e1
  simp only [vY,List.getElem?_eq_getElem h1,Option.map_some] at e2
  injection e2 with e2; subst e2
  exact h id _ l (List.getElem?_eq_getElem h1) h2
 ·exfalso
  simp only [vY] at h1
  cases ho:objs[id]? with
  | none=>rw [ho] at h1; cases h1
  | some c =>
   rw [ho] at h1
   simp at h1
   rw [← h1] at h3
   cases h3
 ·simp only [vY] at hid ⊢
  rw [List.getElem?_eq_none (by omega)]; rfl
theorem law_calls {P:Program} {A:AProg} {tab:Tab} (hm:P.follows .mixedOrders=true) (hT:TabOk P tab) (hA:ProgOk P tab A) {f:Nat} {args:List AVal} {objs:List (List AVal)} {locs:List (Option Loc)} {us:List Value} {w:World}
  (h:Ret A f args (vY objs) (fun v _=>v=.bool true)) (hlen:locs.length=objs.length) (hH:∀ (i:Nat) c l,objs[i]? = some c→locs[i]? = some (some l)→l.b < w.heap.size∧CRel (renOf locs) w l c) (hus:VRels (renOf locs) args us) :
  Calls P f us.toArray w fun e w'=>e=.returned (.bool true)∧Below w.heap.size w w':=by
 obtain ⟨n,⟨v,H'⟩,h1,h2⟩:=h
 simp only at h2
 subst h2
 obtain ⟨_,hc⟩:=callA_ok hm hT hA n f args _ _ _ h1
 refine (hc _ _ _ _ (hrel_init hlen hH) hus).mono fun e w' ⟨v',he,ρ',hv,hs⟩=>?_
 simp only [VRel] at hv
 subst hv
 exact ⟨he,hs.below.base⟩

theorem slice_has {P:Program} {w:World} {r:Reach} {base:Nat} {t e:TypeId} {a:Addr} {len cap:Nat} (ht:P.underlying t=some (.slice e)) (h:Value.okWide P w r base t (.slice (some a) len cap)):a.spot=none∧a.block < w.heap.size:=by
 simp only [Value.okWide,ht,Cell.okWide,Cell.ok,World.has] at h
 obtain ⟨_,_,_,h1,row,cells,h2,_⟩:=h
 refine ⟨h1,?_⟩
 apply Classical.byContradiction
 intro hn
 have:w.heap[a.block]? = none:=by simp; omega
 simp [World.shape?,this] at h2
theorem opened_ints {H:Type} {enc:TypeId × Value→H} {P:Program} {W:World} {r:Reach} {base:Nat} {t e:TypeId} {k:IntKind} {a0:Option Addr} {len cap:Nat} {d0:DataW H} {p:List MemPlace} (ht:P.underlying t=some (.slice e)) (he:P.underlying e=some (.int k)) (hc:P.cellsOf e=1)
  (hok:Value.okWide P W r base t (.slice a0 len cap)) (h0:DataW.Trod enc P W 0 (fun _=>true) true t (.slice a0 len cap) d0 p) :
  ∃ (xs:List Int) (v:Nat→AVal) (l:Option Loc),(∀ x∈xs,(Lit.int k x).wf=true)∧xs.length≤maxLen ∧
   (∀ l' ρ,l=some l'→l'.b < W.heap.size∧CRel ρ W l' (xs.map (AVal.int k)))∧(∀ (ρ:Ren) id,ρ id=l→VRel ρ (v id) (.slice a0 len cap)) ∧
   (∀ (H:AHeap) id,id < H.next→H.obj id=some (.cells (xs.map (AVal.int k)) false)→Row H (v id) 1 (xs.map (AVal.int k))):=by
 obtain ⟨fuel,hf⟩:=h0
 rcases open_ints ht he hc hf with ⟨hcs,hx⟩ | ⟨a,len',cap',zs,hcs,_,hl,hm,hz,hx,hcell,hwz⟩
 ·simp [Value.cells] at hcs
  obtain ⟨rfl,rfl,rfl⟩:=hcs
  exact ⟨[],fun _=>.nilSlice,none,by simp,by simp,fun l' ρ h=>(by cases h),fun ρ id _=>(by simp only [VRel]),fun H id _ _=>.nil⟩
 ·simp [Value.cells] at hcs
  obtain ⟨rfl,rfl,rfl⟩:=hcs
  simp only [if_true] at hz
  obtain ⟨hs,hb⟩:=slice_has ht hok
  obtain ⟨b,off,spot⟩:=a
  simp only at hs hb
  subst hs
  refine ⟨zs.take len,fun id=>.slice id 0 len (.exact cap),some ⟨b,off,0⟩,fun x hx=>hwz x (List.mem_of_mem_take hx),by simp; omega,fun l' ρ h=>?_,fun ρ id h=>?_,fun H id hid ho=>?_⟩
  ·injection h with h; subst h
   refine ⟨hb,fun x hx=>?_,fun i v hv=>?_⟩
   ·obtain ⟨y,_,rfl⟩:=List.mem_map.1 hx
    rfl
   ·rw [List.getElem?_map] at hv
    cases hy:(zs.take len)[i]? with
    | none=>rw [hy] at hv; cases hv
    | some y =>
     rw [hy] at hv
     simp at hv
     subst hv
     have hi:i < zs.length:=by
      have:=(List.getElem?_eq_some_iff.1 hy).1
      simp at this; omega
     have hi2:i < len:=by
      have:=(List.getElem?_eq_some_iff.1 hy).1
      simp at this; omega
     have:=hcell i hi
     rw [add_plain] at this
     refine ⟨_,this,?_⟩
     simp only [VRel]
     rw [List.getElem?_take,if_pos hi2] at hy
     simp [List.getD_eq_getElem?_getD,hy]
  ·simp only [VRel]
   exact ⟨_,_,h,rfl,hl,.inl (by simp)⟩
  ·refine .mk (c:=(zs.take len).map (AVal.int k)) hid (by rw [cells?_of,ho]; rfl) (by simp; omega) ?_
   rw [List.drop_zero]
   exact List.take_of_length_le (by simp; omega)
end Go.VAI

/- The closed facts of a row,out of their parts. -/
set_option linter.unusedVariables false
set_option linter.unusedSimpArgs false
namespace Go.VAI
open Go
theorem joined_of {P:Program} {f:FuncId} {fn:Func} {s:ChangeSpec} {c:OpenClaim}
  (a1:c.wf (OpenSpec.ofChange s)=true) (a2:laidOutB P=true) (a3:mapsRowed P=true) (a4:fn.params.all (P.readableRec ·)=true) (a5:namedTie P c.named s.vars=true)
  (a6:(c.stops == [])=true) (a7:(P.stops == [])=true) (a8:(c.knobs == [])=true) (a9:(P.stopKnobs == [])=true)
  (b1:(c.inPlace == P.inPlace f)=true) (b2:(c.unfollowed == P.unfollowed f)=true) (b3:(c.recurses == P.recurses f)=true) (b4:(c.named == P.varsNamed f)=true)
  (c1:(c.maps == (fn.params.toList++s.plain.varTypes P).any (P.mapsRec ·))=true) (c2:(c.ifaces == (fn.params.toList++s.plain.varTypes P).any (P.ifacesRec ·))=true) (c3:(c.mapsOut == P.mapsAmong fn.resultTypes.toList)=true)
  (c4:(c.loops == (fn.params.toList++s.plain.varTypes P).any (P.loopsFrom ·))=true) (c5:(c.wideKeys == (fn.params.toList++s.plain.varTypes P++fn.resultTypes.toList).any (P.wideKeysFrom ·))=true)
  (d1:s.vars.all (P.varReadable ·)=true) (d2:fn.resultTypes.all (fun t=>P.readableRec t && decide (t < P.types.size))=true) (d3:(c.ifacesOut == fn.resultTypes.toList.any (P.ifacesRec ·))=true) (d4:(c.loopsOut == fn.resultTypes.toList.any (P.loopsFrom ·))=true)
  (d5:(c.plainKeys == P.plainKeys)=true) (d6:c.shortTexts.isNone=true) (d7:P.stopsHeard=true) (d8:P.mayEnter=true) (e1:P.liftsFinal=false) (e2:c.lifted=false) (e3:P.make=some .cut) (e4:c.make=.cut)
  (d9:(c.kinds == (if c.domain.isEmpty then [] else fn.params.toList.map fun t=>match P.underlying t with | some (.int k)=>some k | _=>none))=true) (g1:(c.pinned == c.pinnedBy)=true)
  (g2:(c.veiled == (fn.params.toList++s.plain.varTypes P++fn.resultTypes.toList).any (P.veiledRec ·))=true) (g3:c.veiledFits P fn.params.toList (fn.params.toList++s.plain.varTypes P++fn.resultTypes.toList)=true):joinedFacts P f fn s c=true:=by
 have e5:(c.lifted == P.liftsFinal)=true:=by rw [e1,e2]; rfl
 have e6:(P.make == some c.make)=true:=by rw [e3,e4]; rfl
 unfold joinedFacts
 simp only [Bool.and_eq_true]
 exact ⟨⟨⟨⟨⟨⟨⟨⟨⟨⟨⟨⟨⟨⟨⟨⟨⟨⟨⟨⟨⟨⟨⟨⟨⟨⟨⟨⟨⟨⟨⟨a1,a2⟩,a3⟩,a4⟩,a5⟩,a6⟩,a7⟩,a8⟩,a9⟩,b1⟩,b2⟩,b3⟩,b4⟩,c1⟩,c2⟩,c3⟩,c4⟩,c5⟩,d1⟩,d2⟩,d3⟩,d4⟩,d5⟩,d6⟩,d7⟩,d8⟩,e5⟩,e6⟩,d9⟩,g1⟩,g2⟩,g3⟩
end Go.VAI
