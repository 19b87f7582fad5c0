/- Regions that draw their order: whatever order the machine takes,it does what the interpreter does in one. -/
import Derived.Test.YtknhlpmmalcchaaGreatG3Vaa
import Derived.LoopN
import Derived.ScopeJumps
set_option linter.all false
set_option linter.unusedVariables false
set_option linter.unusedSimpArgs false
set_option linter.unusedVariables false
set_option linter.unusedSimpArgs false
namespace Go.VAI
open Go Go.RowKit

def waits (o:Oper):List Nat:=(o.after.toList.filter (Region.binds .any)).map (·.on)
def zG (ops:Array Oper) (i:Nat):List Nat :=
  match ops[i]? with
  | some o=>waits o
  | none=>[]
def wD (ops:Array Oper) (i:Nat):Option Nat :=
  match ops[i]? with
  | some o=>o.dst
  | none=>none
def befAt (before:List (List Nat)) (i:Nat):List Nat:=before.getD i []

def befOk (ops:Array Oper) (before:List (List Nat)):Bool :=
  (List.range ops.size).all fun i =>
    (zG ops i).all (fun m=>decide (m < i)) &&
    (befAt before i).all (fun j=>(zG ops i).any fun m=>decide (m=j) || (befAt before m).contains j) &&
    (List.range ops.size).all (fun j=>decide (i=j) || (match wD ops i,wD ops j with | some s,some t=>decide (s≠t) | _,_=>true))
def slotsOk (ops:Array Oper) (before:List (List Nat)) (i:Nat) (reads:List Nat) (anti:Bool):Bool :=
  reads.all fun s=>(List.range ops.size).all fun j=>decide (i=j) || (match wD ops j with | some d=>decide (d≠s) | none=>true) || (zG ops i).contains j || (anti && (befAt before j).contains i)
def asked:List DStep→List Nat
  | .re i _ :: l=>i :: asked l
  | _=>[]
def later:List DStep→List Nat
  | []=>[]
  | .op i _ :: l=>i :: later l
  | .re _ _ :: l=>later l
def wP (ops:Array Oper) (before:List (List Nat)):List DStep→List Nat→List Nat→List Nat→Bool
  | [],done,_,todo=>todo.isEmpty && (List.range ops.size).all (done.contains ·)
  | .re i ao :: l,done,reads,todo =>
    (match todo with | j :: todo=>decide (i=j) && reads.contains i && ao.dst.isSome && decide (ao.op.cls=.read) && slotsOk ops before i ao.reads false && (match ao.dst with | some d => !ao.reads.contains d | none=>true) && wP ops before l done reads todo | []=>false)
  | .op i ao :: l,done,reads,todo =>
    todo.isEmpty && decide (i < ops.size) && !done.contains i && (zG ops i).all (done.contains ·) && slotsOk ops before i ao.reads true &&
    (if ao.op.cls=.eff then (later l).all (fun f=>(befAt before f).contains i) && reads.all (fun r=>(befAt before i).contains r || (asked l).contains r) && wP ops before l (i :: done) reads (asked l)
     else wP ops before l (i :: done) (if ao.op.cls=.read then i :: reads else reads) [])
def cstep (tab:Tab) (ops:Array Oper):DStep→Option DStep
  | .op i _=>bnd ops[i]? fun o=>bnd (coper tab ops o) fun ao=>some (.op i ao)
  | .re i _=>bnd ops[i]? fun o=>bnd (coper tab ops o) fun ao=>some (.re i ao)
def csteps (tab:Tab) (ops:Array Oper):List DStep→Option (List DStep)
  | []=>some []
  | s :: l=>bnd (cstep tab ops s) fun a=>bnd (csteps tab ops l) fun as=>some (a :: as)

section
variable {P:Program} {B:Nat} {tab:Tab} {call:zN} {ops:Array Oper} {before:List (List Nat)}

theorem befOk_spec (h:befOk ops before=true):(∀ i m,i < ops.size→m∈zG ops i→m < i)∧(∀ i j,i < ops.size→j∈befAt before i→∃ m∈zG ops i,m=j∨j∈befAt before m) ∧
    (∀ i j s,i < ops.size→j < ops.size→i≠j→wD ops i=some s→wD ops j≠some s):=by
  simp only [befOk,List.all_eq_true,List.mem_range,Bool.and_eq_true,List.any_eq_true,Bool.or_eq_true,decide_eq_true_eq,List.contains_iff_mem] at h
  refine ⟨fun i m hi hm=>(h i hi).1.1 m hm,fun i j hi hj=>?_,fun i j s hi hj hne h1 h2=>?_⟩
  · obtain ⟨m,h1,h2⟩:=(h i hi).1.2 j hj
    exact ⟨m,h1,h2⟩
  · rcases (h i hi).2 j hj with h3 | h3
    · exact hne h3
    · rw [h1,h2] at h3
      simp at h3
theorem closed (h:befOk ops before=true) {L:Nat→Prop} (hL:∀ i,i < ops.size→L i→∀ m∈zG ops i,L m):∀ (n i:Nat),i < n→i < ops.size→L i→∀ j∈befAt before i,L j
  | 0,_,hi,_,_,_,_=>by omega
  | n+1,i,hi,his,hLi,j,hj=>by
    obtain ⟨h1,h2,_⟩:=befOk_spec h
    obtain ⟨m,hm,hmj⟩:=h2 i j his hj
    have hmi:=h1 i m his hm
    have hLm:=hL i his hLi m hm
    rcases hmj with rfl | hmj
    · exact hLm
    · exact closed h hL n m (by omega) (by omega) hLm j hmj
theorem uU {i:Nat} {reads:List Nat} {anti:Bool} (h:slotsOk ops before i reads anti=true):∀ s∈reads,∀ j,j < ops.size→j≠i→wD ops j=some s→j∈zG ops i∨anti=true∧i∈befAt before j:=by
  intro s hs j hj hne hd
  simp only [slotsOk,List.all_eq_true,List.mem_range,Bool.or_eq_true,decide_eq_true_eq,List.contains_iff_mem,Bool.and_eq_true] at h
  rcases h s hs j hj with ((h1 | h1) | h1) | h1
  · exact absurd h1.symm hne
  · rw [hd] at h1; simp at h1
  · exact .inl h1
  · exact .inr h1

theorem cells?_mono {H H':AHeap} (h:∀ id o,H.obj id=some o→H'.obj id=some o) {id:Nat} {c:List AVal} (hc:H.cells? id=some c):H'.cells? id=some c:=by
  unfold AHeap.cells? at hc ⊢
  split at hc
  · rename_i c' rw e
    rw [h id _ e]; exact hc
  · cases hc
theorem rw?_mono {H H':AHeap} (h:∀ id o,H.obj id=some o→H'.obj id=some o) {id:Nat} {c:List AVal} (hc:H.rw? id=some c):H'.rw? id=some c:=by
  unfold AHeap.rw? at hc ⊢
  split at hc
  · rename_i c' e
    rw [h id _ e]; exact hc
  · cases hc
theorem map?_mono {H H':AHeap} (h:∀ id o,H.obj id=some o→H'.obj id=some o) {id:Nat} {c:List (AVal × AVal)} (hc:H.map? id=some c):H'.map? id=some c:=by
  unfold AHeap.map? at hc ⊢
  split at hc
  · rename_i c' e
    rw [h id _ e]; exact hc
  · cases hc
theorem aread_mono {H H':AHeap} (h:∀ id o,H.obj id=some o→H'.obj id=some o) {o:AOp} {t:xJ} {v:AVal} (hv:vP o t H=some v):vP o t H'=some v:=by
  cases o <;> simp only [vP] at hv ⊢ <;> first | (cases hv; done) | skip
  case load1 x =>
    unfold aload1 at hv ⊢
    split at hv
    · obtain ⟨c,h1,h2⟩:=xA hv; simp only [bnd,cells?_mono h h1]; exact h2
    · cases hv
  case loadN n x =>
    unfold aloadN at hv ⊢
    split at hv
    · obtain ⟨c,h1,h2⟩:=xA hv; simp only [bnd,cells?_mono h h1]; exact h2
    · cases hv
  case sameBytes x =>
    unfold uJ at hv ⊢
    split at hv
    · obtain ⟨c,h1,h2⟩:=xA hv; simp only [bnd,rw?_mono h h1]; exact h2
    · cases hv
  case bytesToStr x =>
    unfold uS at hv ⊢
    split at hv
    · exact hv
    · obtain ⟨c,h1,h2⟩:=xA hv; simp only [bnd,cells?_mono h h1]; exact h2
    · cases hv
  case lookup f z x k ok =>
    unfold alookup at hv ⊢
    simp only at hv ⊢
    split at hv
    · cases hv
    · rename_i hk
      rw [if_neg hk]
      split at hv
      · exact hv
      · obtain ⟨c,h1,h2⟩:=xA hv; simp only [bnd,map?_mono h h1]; exact h2
      · cases hv
  case lenM x =>
    unfold alenM at hv ⊢
    split at hv
    · obtain ⟨c,h1,h2⟩:=xA hv; simp only [bnd,map?_mono h h1]; exact h2
    · exact hv
    · cases hv

inductive Waits (call:zN) (H:AHeap) (ρ:Ren) (N:Nat) (ao:AOper) (tm:xJ) (v:AVal) (y:Nat) (al:Bool):Prop where
  | calm (h:∀ H',gop call ao tm H'=some (v,H'))
  | read (hc:ao.op.cls=.read) (h:gop call ao tm H=some (v,H))
  | alloc (hal:al=true) (obj:AObj) (mk:Nat→AVal) (hc:ao.op.cls=.alloc) (h:wJ ao.op tm=some (obj,mk)) (hg:ao.guard=none∨∃ s want,ao.guard=some (s,want)∧yA tm s=.bool want) (hv:v=mk y) (ho:H.obj y=some obj) (hn:y < H.next) (hN:N≤y) (hy:ρ y=none)

def vM (listed:Array Bool) (i:Nat):Prop:=listed.getD i false=true

structure Inv (tab:Tab) (call:zN) (ops:Array Oper) (before:List (List Nat)) (B:Nat) (T0:xJ) (ρ0:Ren) (H0:AHeap) (w0:World) (a0:Act)
    (done reads todo:List Nat) (T:xJ) (H:AHeap) (vals:Nat→AVal) (tms:Nat→xJ) (ys:Nat→Nat) (alc:Nat→Bool) (listed:Array Bool) (ρ:Ren) (a:Act) (w:World):Prop where
  size:listed.size=ops.size
  sub:∀ i,vM listed i→i∈done
  closedL:∀ i,vM listed i→∀ m∈zG ops i,vM listed m
  closedD:∀ i∈done,∀ m∈zG ops i,m∈done
  doneLt:∀ i∈done,i < ops.size
  slotW:∀ j s,vM listed j→wD ops j=some s→s < a.tmps.size→VRel ρ (vals j) (a.tmps.getD s undef)
  slot0:∀ s,(∀ j,vM listed j→wD ops j≠some s)→VRel ρ (yA T0 s) (a.tmps.getD s undef)
  lenT:T.length=a.tmps.size
  len0:T0.length=a.tmps.size
  canW:∀ j∈done,∀ s,wD ops j=some s→s < T.length→yA T s=vals j
  can0:∀ s,(∀ j∈done,wD ops j≠some s)→yA T s=yA T0 s
  step:Step ρ0 B H0 w0 ρ H w
  pend:∀ i∈done,¬ vM listed i→∃ o ao,ops[i]? = some o∧coper tab ops o=some ao∧slotsOk ops before i ao.reads true=true∧(tms i).length=T0.length ∧
    (∀ s∈ao.reads,∀ j∈zG ops i,wD ops j=some s→s < T0.length→yA (tms i) s=vals j) ∧
    (∀ s∈ao.reads,(∀ j,j < ops.size→j≠i→wD ops j=some s→j ∉ zG ops i)→yA (tms i) s=yA T0 s) ∧
    (i∈reads∨ao.op.cls≠.read)∧((i∈todo∧ao.op.cls=.read)∨Waits call H ρ H0.next ao (tms i) (vals i) (ys i) (alc i))
  ysLt:∀ i∈done,alc i=true→ys i < H.next
  ysNe:∀ i∈done,∀ j∈done,i≠j→alc i=true→alc j=true→ys i≠ys j
  defers:a.defers=a0.defers

def mask (l:List Nat):Nat→xJ→xJ
  | _,[]=>[]
  | n,v :: t=>(if l.contains n then v else .bot) :: mask l (n+1) t
theorem mask_length (l:List Nat):∀ (n:Nat) (t:xJ),(mask l n t).length=t.length
  | _,[]=>rfl
  | n,_ :: t=>by simp [mask,mask_length l (n+1) t]
theorem tget_mask (l:List Nat):∀ (n:Nat) (t:xJ) (i:Nat),yA (mask l n t) i=if (n+i)∈l then yA t i else .bot
  | n,[],i=>by simp [mask,yA]
  | n,v :: t,0=>by simp [mask,yA]
  | n,v :: t,i+1=>by
    simp only [mask,yA,tget_mask l (n+1) t i]
    rw [show n+1+i=n+(i+1) by omega]

theorem zW {listed:Array Bool} {i:Nat} (hi:i < listed.size) (j:Nat):vM (listed.setIfInBounds i true) j↔j=i∨vM listed j:=by
  unfold vM
  by_cases h:i=j
  · subst h; simp [hi]
  · simp only [Array.getD_eq_getD_getElem?,Array.getElem?_setIfInBounds,if_neg h]
    constructor
    · exact .inr
    · rintro (e | e)
      · exact absurd e.symm h
      · exact e

theorem guard_run' {ρ:Ren} {t:xJ} {a:Act} {w:World} {o:Oper} {ao:AOper} {R:Value→World→Prop} (hc:coper tab ops o=some ao) (ht:TRel ρ t a.tmps) (hg:ao.guard=none∨∃ s want,ao.guard=some (s,want)∧yA t s=.bool want) (h:RunsTo P o a w R):GRuns P ops o a w R:=by
  intro next Q hn
  have hw:Region.wanted o (yielded ops a.tmps)=true:=by
    rcases guard_run hc ht with ⟨_,h2⟩ | ⟨s,want,h1,h2,_⟩
    · exact h2
    · rcases hg with hg | ⟨s',want',hg,hg2⟩
      · rw [hg] at h1; cases h1
      · rw [hg] at h1; injection h1 with h1; injection h1 with h1 h3; subst h1; subst h3
        rw [h2 _ hg2]; simp
  rw [if_pos hw]
  exact .inl (h next Q hn)

section main
variable {T0:xJ} {ρ0:Ren} {H0:AHeap} {w0:World} {a0:Act} {done reads todo:List Nat} {T:xJ} {H:AHeap} {vals:Nat→AVal} {tms:Nat→xJ} {ys:Nat→Nat} {alc:Nat→Bool} {listed:Array Bool} {ρ:Ren} {a:Act} {w:World}

theorem Inv.exec (hb:befOk ops before=true) (hT:TabOk P tab) (hcall:CallOk P call) (I:Inv tab call ops before B T0 ρ0 H0 w0 a0 done reads [] T H vals tms ys alc listed ρ a w)
    {i:Nat} (hi:i∈done) (hoff:¬ vM listed i) (hready:∀ m∈zG ops i,vM listed m) {o:Oper} (ho:ops[i]? = some o) :
    GRuns P ops o a w (fun v' w'=>∃ ρ',Inv tab call ops before B T0 ρ0 H0 w0 a0 done reads [] T H vals tms ys alc (listed.setIfInBounds i true) ρ' (a.put o.dst v') w'):=by
  obtain ⟨o',ao,ho',hco,hslots,hlen,hpw,hp0,_,hwait⟩:=I.pend i hi hoff
  rw [ho] at ho'; injection ho' with ho'; subst ho'
  have hwait:Waits call H ρ H0.next ao (tms i) (vals i) (ys i) (alc i):=by
    rcases hwait with ⟨h,_⟩ | h
    · cases h
    · exact h
  have hdst:wD ops i=o.dst:=by simp [wD,ho]
  have hilt:i < listed.size:=by rw [I.size]; exact I.doneLt i hi
  -- the slots that it looks at
  have hrel:∀ s∈ao.reads,VRel ρ (yA (tms i) s) (a.tmps.getD s undef):=by
    intro s hs
    by_cases hsl:s < T0.length
    · by_cases hex:∃ j,j < ops.size∧j≠i∧wD ops j=some s∧j∈zG ops i
      · obtain ⟨j,h1,h2,h3,h4⟩:=hex
        rw [hpw s hs j h4 h3 hsl]
        exact I.slotW j s (hready j h4) h3 (by rw [← I.len0]; exact hsl)
      · rw [hp0 s hs (fun j h1 h2 h3 h4=>hex ⟨j,h1,h2,h3,h4⟩)]
        refine I.slot0 s (fun j hj hd=>?_)
        have hjs:=I.doneLt j (I.sub j hj)
        have hne:j≠i:=fun e=>hoff (e ▸ hj)
        rcases uU hslots s hs j hjs hne hd with h | ⟨_,h⟩
        · exact hex ⟨j,hjs,hne,hd,h⟩
        · exact hoff (closed hb (L:=vM listed) (fun i _ hL=>I.closedL i hL) _ j (Nat.lt_succ_self _) hjs hj i h)
    · rw [tget_lt (by rw [hlen]; exact hsl)]; simp only [VRel]
  have htm:TRel ρ (mask ao.reads 0 (tms i)) a.tmps:=by
    refine ⟨by rw [mask_length,hlen,I.len0],fun s=>?_⟩
    rw [tget_mask,Nat.zero_add]
    split
    · rename_i h; exact hrel s h
    · simp only [VRel]
  have hmk:∀ s∈ao.reads,yA (mask ao.reads 0 (tms i)) s=yA (tms i) s:=by
    intro s hs; rw [tget_mask,Nat.zero_add,if_pos hs]
  -- what is left when it has been carried out
  have after:∀ (ρ':Ren) (v':Value) (w':World),VRel ρ' (vals i) v'→RLe ρ ρ'→Step ρ0 B H0 w0 ρ' H w'→(∀ j∈done,j≠i→¬ vM listed j→alc j=true→ρ (ys j)=none→ys j < H.next→H0.next≤ys j→ρ' (ys j)=none) →
      Inv tab call ops before B T0 ρ0 H0 w0 a0 done reads [] T H vals tms ys alc (listed.setIfInBounds i true) ρ' (a.put o.dst v') w':=by
    intro ρ' v' w' hv hle hstep hys
    have hsz:(a.put o.dst v').tmps.size=a.tmps.size:=by cases o.dst <;> simp [Act.put]
    have hput:∀ s,(a.put o.dst v').tmps.getD s undef=if o.dst=some s∧s < a.tmps.size then v' else a.tmps.getD s undef:=by
      intro s
      cases hd:o.dst with
      | none=>simp [Act.put]
      | some d =>
        show (a.tmps.setIfInBounds d v').getD s undef=_
        rw [getD_set]
        by_cases hds:d=s
        · subst hds; simp
        · rw [if_neg (fun h=>hds h.1),if_neg (fun h=>hds (by injection h.1))]
    obtain ⟨_,_,huniq⟩:=befOk_spec hb
    refine ⟨by simpa using I.size,fun j hj=>?_,fun j hj m hm=>?_,I.closedD,I.doneLt,fun j s hj hd hs=>?_,fun s hs=>?_,by rw [hsz]; exact I.lenT,by rw [hsz]; exact I.len0,I.canW,I.can0,hstep,fun j hj hjoff=>?_,I.ysLt,I.ysNe,by rw [uG]; exact I.defers⟩
    · rcases (zW hilt j).1 hj with rfl | hj
      · exact hi
      · exact I.sub j hj
    · refine (zW hilt m).2 (.inr ?_)
      rcases (zW hilt j).1 hj with rfl | hj
      · exact hready m hm
      · exact I.closedL j hj m hm
    · rw [hsz] at hs
      rw [hput s]
      rcases (zW hilt j).1 hj with rfl | hj
      · rw [hdst] at hd
        rw [if_pos ⟨hd,hs⟩]; exact hv
      · rw [if_neg]
        · exact VRel.mono hle _ _ (I.slotW j s hj hd hs)
        · rintro ⟨h1,_⟩
          have hne:i≠j:=fun e=>hoff (e ▸ hj)
          exact huniq i j s (I.doneLt i hi) (I.doneLt j (I.sub j hj)) hne (by rw [hdst]; exact h1) hd
    · rw [hput s,if_neg]
      · exact VRel.mono hle _ _ (I.slot0 s (fun j hj=>hs j ((zW hilt j).2 (.inr hj))))
      · rintro ⟨h1,_⟩
        exact hs i ((zW hilt i).2 (.inl rfl)) (by rw [hdst]; exact h1)
    · have hjoff':¬ vM listed j:=fun h=>hjoff ((zW hilt j).2 (.inr h))
      have hji:j≠i:=fun e=>hjoff ((zW hilt j).2 (.inl e))
      obtain ⟨o2,ao2,g1,g2,g3,g4,g5,g6,g7,g8⟩:=I.pend j hj hjoff'
      refine ⟨o2,ao2,g1,g2,g3,g4,g5,g6,g7,?_⟩
      rcases g8 with ⟨g8,_⟩ | g8
      · cases g8
      · refine .inr ?_
        cases g8 with
        | calm h=>exact .calm h
        | read hc h=>exact .read hc h
        | alloc hal obj mk hc h hg hv ho hn hN hy=>exact .alloc hal obj mk hc h hg hv ho hn hN (hys j hj hji hjoff' hal hy hn hN)
  -- the run
  have general:gop call ao (tms i) H=some (vals i,H)→GRuns P ops o a w (fun v' w'=>∃ ρ',Inv tab call ops before B T0 ρ0 H0 w0 a0 done reads [] T H vals tms ys alc (listed.setIfInBounds i true) ρ' (a.put o.dst v') w'):=by
    intro h
    rw [← gop_congr hmk] at h
    have hg:=gop_sound hT hcall hco h htm I.step.heap
    intro next Q hn
    refine hg next Q (fun v' w'=>?_)
    rintro ⟨ρ',g1,g2⟩
    refine hn v' w' ⟨ρ',after ρ' v' w' g1 g2.le (I.step.trans g2) (fun j _ _ _ _ h1 h2 _=>?_)⟩
    cases e:ρ' (ys j) with
    | none=>rfl
    | some l=>exact absurd (g2.new (ys j) h1 (by rw [e]; simp)) (by omega)
  cases hwait with
  | calm h=>exact general (h H)
  | read hc h=>exact general h
  | alloc hal obj mk hc h hg hv ho' hn hN hy =>
    have h2:wJ ao.op (mask ao.reads 0 (tms i))=some (obj,mk):=by
      rw [← h]
      refine (aop_congr (call:=call) (H:=H) (fun s hs=>hmk s ?_)).2
      unfold AOper.reads
      split
      · exact hs
      · exact List.mem_cons_of_mem _ hs
    obtain ⟨l,v',w',g1,g2,g3,g4⟩:=alloc_sound hT (uR hco).2.1 hc h2 htm I.step.heap hy hn ho'
    have hle:=zI (l:=l) hy
    have hgm:ao.guard=none∨∃ s want,ao.guard=some (s,want)∧yA (mask ao.reads 0 (tms i)) s=.bool want:=by
      rcases hg with hg | ⟨s,want,hg,hg2⟩
      · exact .inl hg
      · refine .inr ⟨s,want,hg,?_⟩
        rw [hmk s (by unfold AOper.reads; rw [hg]; simp)]; exact hg2
    refine guard_run' hco htm hgm (RunsTo.value g1 ⟨xT ρ (ys i) l,after _ v' w' (by rw [hv]; exact g2) hle ?_ (fun j hj hji _ halj h1 _ _=>?_)⟩)
    · refine ⟨I.step.le.trans hle,g3,I.step.below.trans g4,fun id h1 h2=>?_,I.step.next,I.step.far⟩
      unfold xT at h2
      by_cases hid:id=ys i
      · rw [hid]; exact hN
      · rw [if_neg hid] at h2; exact I.step.new id h1 h2
    · unfold xT
      rw [if_neg (I.ysNe j hj i hi hji halj hal)]; exact h1
end main
end
end Go.VAI

/- Regions that draw their order: the whole of one. -/
set_option linter.unusedVariables false
set_option linter.unusedSimpArgs false
namespace Go.VAI
open Go Go.RowKit

theorem beqs_eq_aux:(∀ a b:AVal,AVal.beq a b=true→a=b)∧(∀ a b:List AVal,AVal.beqs a b=true→a=b):=by
 have key:∀ n:Nat,(∀ a b:AVal,SizeOf.sizeOf a≤n→AVal.beq a b=true→a=b)∧(∀ a b:List AVal,SizeOf.sizeOf a≤n→AVal.beqs a b=true→a=b):=by
  intro n
  induction n with
  | zero =>
   constructor
   ·intro a b hn; cases a <;> simp at hn
   ·intro a b hn; cases a <;> simp at hn
  | succ n ih =>
   constructor
   ·intro a b hn h
    cases a <;> cases b <;> simp [AVal.beq] at h <;> first
     | rfl
     | (subst h; rfl)
     | (obtain ⟨rfl,rfl⟩:=h; rfl)
     | (obtain ⟨⟨⟨rfl,rfl⟩,rfl⟩,rfl⟩:=h; rfl)
     | (obtain ⟨rfl,h2⟩:=h; rw [ih.1 _ _ (by simp at hn; omega) h2])
     | (rw [ih.2 _ _ (by simp at hn; omega) h])
     | (obtain ⟨⟨rfl,h1⟩,h2⟩:=h; rw [ih.2 _ _ (by simp at hn; omega) h1,ih.2 _ _ (by simp at hn; omega) h2])
   ·intro a b hn h
    cases a <;> cases b <;> simp [AVal.beqs] at h
    ·rfl
    ·obtain ⟨h1,h2⟩:=h
     rw [ih.1 _ _ (by simp at hn; omega) h1,ih.2 _ _ (by simp at hn; omega) h2]
 exact ⟨fun a b h=>(key _).1 a b (Nat.le_refl _) h,fun a b h=>(key _).2 a b (Nat.le_refl _) h⟩
theorem beq_eq {a b:AVal} (h:AVal.beq a b=true):a=b:=beqs_eq_aux.1 a b h

section
variable {P:Program} {B:Nat} {tab:Tab} {call:zN} {ops:Array Oper} {before:List (List Nat)}
variable {T0:xJ} {ρ0:Ren} {H0:AHeap} {w0:World} {a0:Act}

theorem pure_calm {ao:AOper} {T:xJ} {H H1:AHeap} {v:AVal} (hc:ao.op.cls=.pure) (h:gop call ao T H=some (v,H1)):H1=H∧∀ H',gop call ao T H'=some (v,H'):=by
 have ap:aop call ao.op T H=some (v,H1)→H1=H∧∀ H',aop call ao.op T H'=some (v,H'):=by
  intro h
  unfold aop at h
  rw [hc] at h
  obtain ⟨v1,h1,h2⟩:=xA h
  injection h2 with h2; injection h2 with h2 h3
  subst h2
  refine ⟨h3.symm,fun H'=>?_⟩
  unfold aop
  rw [hc]
  simp only [onlyV,h1,bnd]
 unfold gop at h ⊢
 split at h
 ·exact ap h
 ·rename_i s want hg
  try simp only at h
  split at h
  ·rename_i b hb
   split at h
   ·rename_i hbw
    obtain ⟨h1,h2⟩:=ap h
    exact ⟨h1,fun H'=>by (try rw [hb]); (try simp only [if_pos hbw]); exact h2 H'⟩
   ·rename_i hbw
    injection h with h; injection h with h1 h2
    exact ⟨h2.symm,fun H'=>by (try rw [hb]); (try simp only [if_neg hbw,h1])⟩
  ·rename_i hb
   injection h with h; injection h with h1 h2
   exact ⟨h2.symm,fun H'=>by (try rw [hb]); (try simp only [h1])⟩
  ·cases h
theorem read_calm {ao:AOper} {T:xJ} {H H1:AHeap} {v:AVal} (hc:ao.op.cls=.read) (h:gop call ao T H=some (v,H1)):H1=H∧∀ H',(∀ id o,H.obj id=some o→H'.obj id=some o)→gop call ao T H'=some (v,H'):=by
 have ap:aop call ao.op T H=some (v,H1)→H1=H∧∀ H',(∀ id o,H.obj id=some o→H'.obj id=some o)→aop call ao.op T H'=some (v,H'):=by
  intro h
  unfold aop at h
  rw [hc] at h
  obtain ⟨v1,h1,h2⟩:=xA h
  injection h2 with h2; injection h2 with h2 h3
  subst h2
  refine ⟨h3.symm,fun H' hm=>?_⟩
  unfold aop
  rw [hc]
  simp only [onlyV,aread_mono hm h1,bnd]
 unfold gop at h ⊢
 split at h
 ·exact ap h
 ·rename_i s want hg
  try simp only at h
  split at h
  ·rename_i b hb
   split at h
   ·rename_i hbw
    obtain ⟨h1,h2⟩:=ap h
    exact ⟨h1,fun H' hm=>by (try rw [hb]); (try simp only [if_pos hbw]); exact h2 H' hm⟩
   ·rename_i hbw
    injection h with h; injection h with h1 h2
    exact ⟨h2.symm,fun H' _=>by (try rw [hb]); (try simp only [if_neg hbw,h1])⟩
  ·rename_i hb
   injection h with h; injection h with h1 h2
   exact ⟨h2.symm,fun H' _=>by (try rw [hb]); (try simp only [h1])⟩
  ·cases h
theorem alloc_calm {ao:AOper} {T:xJ} {H H1:AHeap} {v:AVal} (hc:ao.op.cls=.alloc) (h:gop call ao T H=some (v,H1)) :
  (H1=H∧∀ H',gop call ao T H'=some (v,H'))∨∃ obj mk,wJ ao.op T=some (obj,mk)∧(ao.guard=none∨∃ s want,ao.guard=some (s,want)∧yA T s=.bool want)∧v=mk H.next∧H1=H.new obj:=by
 have ap:aop call ao.op T H=some (v,H1)→∃ obj mk,wJ ao.op T=some (obj,mk)∧v=mk H.next∧H1=H.new obj:=by
  intro h
  unfold aop at h
  rw [hc] at h
  obtain ⟨⟨obj,mk⟩,h1,h2⟩:=xA h
  injection h2 with h2; injection h2 with h2 h3
  exact ⟨obj,mk,h1,h2.symm,h3.symm⟩
 unfold gop at h ⊢
 split at h
 ·rename_i hg
  obtain ⟨obj,mk,h1,h2,h3⟩:=ap h
  exact .inr ⟨obj,mk,h1,.inl hg,h2,h3⟩
 ·rename_i s want hg
  try simp only at h
  split at h
  ·rename_i b hb
   split at h
   ·rename_i hbw
    obtain ⟨obj,mk,h1,h2,h3⟩:=ap h
    exact .inr ⟨obj,mk,h1,.inr ⟨s,want,hg,by first | rw [hb,hbw] | rw [hbw]⟩,h2,h3⟩
   ·rename_i hbw
    injection h with h; injection h with h1 h2
    exact .inl ⟨h2.symm,fun H'=>by (try rw [hb]); (try simp only [if_neg hbw,h1])⟩
  ·rename_i hb
   injection h with h; injection h with h1 h2
   exact .inl ⟨h2.symm,fun H'=>by (try rw [hb]); (try simp only [h1])⟩
  ·cases h

section main
variable {done reads todo:List Nat} {T:xJ} {H:AHeap} {vals:Nat→AVal} {tms:Nat→xJ} {ys:Nat→Nat} {alc:Nat→Bool} {listed:Array Bool} {ρ:Ren} {a:Act} {w:World}

def at_ {α:Type} (f:Nat→α) (i:Nat) (x:α):Nat→α:=fun j=>if j=i then x else f j
theorem wG {α:Type} (f:Nat→α) (i:Nat) (x:α):at_ f i x i=x:=by simp [at_]
theorem vO {α:Type} (f:Nat→α) {i j:Nat} (x:α) (h:j≠i):at_ f i x j=f j:=by simp [at_,h]

theorem Inv.virtual (hb:befOk ops before=true) (I:Inv tab call ops before B T0 ρ0 H0 w0 a0 done reads [] T H vals tms ys alc listed ρ a w)
  {i:Nat} {o:Oper} {ao:AOper} (ho:ops[i]? = some o) (hco:coper tab ops o=some ao) (hi:i ∉ done) (hw:∀ m∈zG ops i,m∈done) (hs:slotsOk ops before i ao.reads true=true) (hcl:ao.op.cls≠.eff)
  {v:AVal} {H1:AHeap} (hv:gop call ao T H=some (v,H1)) :
  ∃ ys' alc',Inv tab call ops before B T0 ρ0 H0 w0 a0 (i :: done) (if ao.op.cls=.read then i :: reads else reads) [] (tput T ao.dst v) H1 (at_ vals i v) (at_ tms i T) ys' alc' listed ρ a w:=by
 obtain ⟨_,_,huniq⟩:=befOk_spec hb
 have hdst:wD ops i=ao.dst:=by simp [wD,ho,(uR hco).1]
 have hilt:i < ops.size:=(Array.getElem?_eq_some_iff.1 ho).1
 have hoff:¬ vM listed i:=fun h=>hi (I.sub i h)
 have ne:∀ {j},j∈done→j≠i:=fun hj e=>hi (e ▸ hj)
 -- what the new one waits for
 have hnew:(∀ s∈ao.reads,∀ j∈zG ops i,wD ops j=some s→s < T0.length→yA T s=vals j)∧(∀ s∈ao.reads,(∀ j,j < ops.size→j≠i→wD ops j=some s→j ∉ zG ops i)→yA T s=yA T0 s):=by
  refine ⟨fun s _ j hj hd hsl=>I.canW j (hw j hj) s hd (by rw [I.lenT,← I.len0]; exact hsl),fun s hs' h=>I.can0 s (fun j hj hd=>?_)⟩
  rcases uU hs s hs' j (I.doneLt j hj) (ne hj) hd with h1 | ⟨_,h1⟩
  ·exact h j (I.doneLt j hj) (ne hj) hd h1
  ·exact hi (closed hb (L:=(· ∈ done)) (fun i _ hL=>I.closedD i hL) _ j (Nat.lt_succ_self _) (I.doneLt j hj) hj i h1)
 -- the frame that any of the three kinds shares
 have share:∀ (ys':Nat→Nat) (alc':Nat→Bool),(∀ j∈done,ys' j=ys j)→(∀ j∈done,alc' j=alc j)→Step ρ0 B H0 w0 ρ H1 w→(∀ id o,H.obj id=some o→H1.obj id=some o)→H.next≤H1.next →
   Waits call H1 ρ H0.next ao T v (ys' i) (alc' i)→(alc' i=true→ys' i < H1.next)→(alc' i=true→ys' i=H.next) →
   Inv tab call ops before B T0 ρ0 H0 w0 a0 (i :: done) (if ao.op.cls=.read then i :: reads else reads) [] (tput T ao.dst v) H1 (at_ vals i v) (at_ tms i T) ys' alc' listed ρ a w:=by
  intro ys' alc' hys halc hstep hmono hnext hwt hlt heq
  have hTl:(tput T ao.dst v).length=T.length:=by cases ao.dst <;> simp [tput,uL]
  have hTg:∀ s,yA (tput T ao.dst v) s=if ao.dst=some s∧s < T.length then v else yA T s:=by
   intro s
   cases hd:ao.dst with
   | none=>simp [tput]
   | some d =>
    simp only [tput,vQ]
    by_cases hds:d=s
    ·subst hds; simp
    ·rw [if_neg (fun h=>hds h.1),if_neg (fun h=>hds (by injection h.1))]
  refine ⟨I.size,fun j hj=>List.mem_cons_of_mem _ (I.sub j hj),I.closedL,fun j hj m hm=>?_,fun j hj=>?_,fun j s hj hd hsl=>?_,I.slot0,by rw [hTl]; exact I.lenT,I.len0,fun j hj s hd hsl=>?_,fun s hs'=>?_,hstep,fun j hj hjoff=>?_,fun j hj ha=>?_,fun j hj k hk hjk ha1 ha2=>?_,I.defers⟩
  ·rcases List.mem_cons.1 hj with rfl | hj
   ·exact List.mem_cons_of_mem _ (hw m hm)
   ·exact List.mem_cons_of_mem _ (I.closedD j hj m hm)
  ·rcases List.mem_cons.1 hj with rfl | hj
   ·exact hilt
   ·exact I.doneLt j hj
  ·rw [vO _ _ (ne (I.sub j hj))]; exact I.slotW j s hj hd hsl
  ·rw [hTl] at hsl
   rw [hTg s]
   rcases List.mem_cons.1 hj with rfl | hj
   ·rw [hdst] at hd
    rw [if_pos ⟨hd,hsl⟩,wG]
   ·rw [if_neg,vO _ _ (ne hj)]
    ·exact I.canW j hj s hd hsl
    ·rintro ⟨h1,_⟩
     exact huniq i j s hilt (I.doneLt j hj) (fun e=>ne hj e.symm) (by rw [hdst]; exact h1) hd
  ·rw [hTg s,if_neg]
   ·exact I.can0 s (fun j hj=>hs' j (List.mem_cons_of_mem _ hj))
   ·rintro ⟨h1,_⟩
    exact hs' i (List.mem_cons_self ..) (by rw [hdst]; exact h1)
  ·rcases List.mem_cons.1 hj with rfl | hj
   ·refine ⟨o,ao,ho,hco,hs,by rw [wG,I.lenT,← I.len0],fun s hs' k hk hd hsl=>?_,fun s hs' h=>?_,?_,.inr ?_⟩
    ·rw [wG,vO _ _ (ne (hw k hk))]; exact hnew.1 s hs' k hk hd hsl
    ·rw [wG]; exact hnew.2 s hs' h
    ·by_cases hr:ao.op.cls=.read
     ·rw [if_pos hr]; exact .inl (List.mem_cons_self ..)
     ·exact .inr hr
    ·rw [wG,wG]; exact hwt
   ·obtain ⟨o2,ao2,g1,g2,g3,g4,g5,g6,g7,g8⟩:=I.pend j hj hjoff
    have hne:=ne hj
    refine ⟨o2,ao2,g1,g2,g3,by rw [vO _ _ hne]; exact g4,fun s hs' k hk hd hsl=>?_,fun s hs' h=>?_,?_,.inr ?_⟩
    ·rw [vO _ _ hne,vO _ _ (ne (I.closedD j hj k hk))]; exact g5 s hs' k hk hd hsl
    ·rw [vO _ _ hne]; exact g6 s hs' h
    ·rcases g7 with g7 | g7
     ·left; split
      ·exact List.mem_cons_of_mem _ g7
      ·exact g7
     ·exact .inr g7
    ·rw [vO _ _ hne,vO _ _ hne,hys j hj,halc j hj]
     rcases g8 with ⟨g8,_⟩ | g8
     ·cases g8
     ·cases g8 with
      | calm h=>exact .calm h
      | read hc h=>exact .read hc ((read_calm hc h).2 H1 hmono)
      | alloc hal obj mk hc h hg hv' ho' hn hN hy=>exact .alloc hal obj mk hc h hg hv' (hmono _ _ ho') (by omega) hN hy
  ·rcases List.mem_cons.1 hj with rfl | hj
   ·exact hlt ha
   ·rw [hys j hj]; exact Nat.lt_of_lt_of_le (I.ysLt j hj (by rw [← halc j hj]; exact ha)) hnext
  ·rcases List.mem_cons.1 hj with ej | hj2
   ·rcases List.mem_cons.1 hk with ek | hk2
    ·exact absurd (ej.trans ek.symm) hjk
    ·have h1:=heq (ej ▸ ha1)
     have h2:=I.ysLt k hk2 (by rw [← halc k hk2]; exact ha2)
     rw [ej,h1,hys k hk2]
     omega
   ·rcases List.mem_cons.1 hk with ek | hk2
    ·have h1:=heq (ek ▸ ha2)
     have h2:=I.ysLt j hj2 (by rw [← halc j hj2]; exact ha1)
     rw [ek,h1,hys j hj2]
     omega
    ·rw [hys j hj2,hys k hk2]
     exact I.ysNe j hj2 k hk2 hjk (by rw [← halc j hj2]; exact ha1) (by rw [← halc k hk2]; exact ha2)
 have calm:H1=H→(∀ H',gop call ao T H'=some (v,H'))→∃ ys' alc',Inv tab call ops before B T0 ρ0 H0 w0 a0 (i :: done) (if ao.op.cls=.read then i :: reads else reads) [] (tput T ao.dst v) H1 (at_ vals i v) (at_ tms i T) ys' alc' listed ρ a w:=by
  intro e h
  subst e
  exact ⟨ys,at_ alc i false,share ys (at_ alc i false) (fun _ _=>rfl) (fun j hj=>vO _ _ (ne hj)) I.step (fun _ _ h=>h) (Nat.le_refl _) (.calm h) (fun h=>by rw [wG] at h; cases h) (fun h=>by rw [wG] at h; cases h)⟩
 rcases hk:(⟨ao.op.cls,rfl⟩:{c // c=ao.op.cls}) with ⟨c,hc⟩
 clear hk
 have hk:=hc.symm
 cases c with
 | eff=>exact absurd hk hcl
 | pure =>
  obtain ⟨h1,h2⟩:=pure_calm hk hv
  exact calm h1 h2
 | read =>
  obtain ⟨h1,h2⟩:=read_calm hk hv
  subst h1
  exact ⟨ys,at_ alc i false,share ys (at_ alc i false) (fun _ _=>rfl) (fun j hj=>vO _ _ (ne hj)) I.step (fun _ _ h=>h) (Nat.le_refl _) (.read hk hv) (fun h=>by rw [wG] at h; cases h) (fun h=>by rw [wG] at h; cases h)⟩
 | alloc =>
  rcases alloc_calm hk hv with ⟨h1,h2⟩ | ⟨obj,mk,h1,h2,h3,h4⟩
  ·exact calm h1 h2
  ·subst h4
   refine ⟨at_ ys i H.next,at_ alc i true,share _ _ (fun j hj=>vO _ _ (ne hj)) (fun j hj=>vO _ _ (ne hj)) ?_ ?_ (by simp [AHeap.new]) ?_ (fun _=>by rw [wG]; simp [AHeap.new]) (fun _=>wG _ _ _)⟩
   ·refine ⟨I.step.le,I.step.heap.new_ obj,I.step.below,I.step.new,by have:=I.step.next; simp [AHeap.new]; omega,fun id h5 h6=>?_⟩
    have:=I.step.next
    simp only [AHeap.new]
    rw [if_neg (by omega)]; exact I.step.far id h5 h6
   ·intro id o' ho'
    simp only [AHeap.new]
    rw [if_neg]; exact ho'
    intro e; subst e
    rw [I.step.heap.top _ (Nat.le_refl _)] at ho'; cases ho'
   ·rw [wG,wG]
    exact .alloc rfl obj mk hk h1 h2 h3 (by simp [AHeap.new]) (by simp [AHeap.new]) I.step.next I.step.heap.fresh
end main
end
end Go.VAI

/- Regions that draw their order: the whole of one. -/
set_option linter.unusedVariables false
set_option linter.unusedSimpArgs false
namespace Go.VAI
open Go Go.RowKit

theorem beq_bot (v:AVal):AVal.beq v .bot=false:=by cases v <;> simp [AVal.beq]

section
variable {P:Program} {B:Nat} {tab:Tab} {call:zN} {ops:Array Oper} {before:List (List Nat)}
variable {T0:xJ} {ρ0:Ren} {H0:AHeap} {w0:World} {a0:Act}

theorem isOn_of {listed:Array Bool} {j:Nat} (d:Bool) (hj:j < listed.size):listed.getD j d=true↔vM listed j:=by
 unfold vM; simp [hj]
theorem ready_iff {listed:Array Bool} (hsz:listed.size=ops.size) (j:Nat):j∈Region.ready .any ops listed↔j < ops.size∧¬ vM listed j∧∀ m∈zG ops j,vM listed m:=by
 rw [mem_ready]
 constructor
 ·rintro ⟨h1,o,ho,h2⟩
  have hj:=(Array.getElem?_eq_some_iff.1 ho).1
  refine ⟨hj,fun h=>?_,fun m hm=>?_⟩
  ·rw [(isOn_of true (by omega)).2 h] at h1; cases h1
  ·simp only [zG,ho,waits,List.mem_map,List.mem_filter] at hm
   obtain ⟨e,⟨he,hb⟩,rfl⟩:=hm
   exact h2 e (by simpa using he) hb
 ·rintro ⟨hj,h1,h2⟩
  refine ⟨?_,ops[j],by simp [hj],fun e he hb=>h2 e.on ?_⟩
  ·cases e:listed.getD j true with
   | false=>rfl
   | true=>exact absurd ((isOn_of true (by omega)).1 e) h1
  ·simp only [zG,waits,List.mem_map,List.mem_filter]
   have:ops[j]? = some ops[j]:=by simp [hj]
   rw [this]
   exact List.mem_map.2 ⟨e,List.mem_filter.2 ⟨by simpa using he,hb⟩,rfl⟩
theorem some_ready (hb:befOk ops before=true) {listed:Array Bool} (hsz:listed.size=ops.size):∀ (n i:Nat),i < n→i < ops.size→¬ vM listed i→Region.ready .any ops listed≠[]
 | 0,_,h,_,_=>by omega
 | n+1,i,hn,hi,hoff=>by
  by_cases h:∀ m∈zG ops i,vM listed m
  ·intro e
   have:i∈Region.ready .any ops listed:=(ready_iff hsz i).2 ⟨hi,hoff,h⟩
   rw [e] at this; cases this
  ·have:∃ m,m∈zG ops i∧¬ vM listed m:=by
    refine Classical.byContradiction fun hc=>h fun m hm=>?_
    exact Classical.byContradiction fun hx=>hc ⟨m,hm,hx⟩
   obtain ⟨m,hm,hx⟩:=this
   have:=(befOk_spec hb).1 i m hi hm
   exact some_ready hb hsz n m (by omega) (by omega) hx
theorem wpOp_of {Q:Exit→Act→World→Prop} {i:Nat} {o:Oper} (ho:ops[i]? = some o) {a:Act} {w:World} {R:Value→World→Prop} (h:GRuns P ops o a w R) {K:Act→World→Prop} (hK:∀ v' w',R v' w'→K (a.put o.dst v') w'):wpOp P ops Q i K a w:=by
 unfold wpOp
 rw [ho]
 exact h K Q hK
theorem uA:∀ (l:List DStep) (done reads todo:List Nat),wP ops before l done reads todo=true→∀ j,j < ops.size→j∈done∨j∈later l
 | [],done,reads,todo,h,j,hj=>by
  simp only [wP,Bool.and_eq_true,List.all_eq_true,List.mem_range,List.contains_iff_mem] at h
  exact .inl (h.2 j hj)
 | .re i ao :: l,done,reads,todo,h,j,hj=>by
  simp only [wP] at h
  split at h
  ·simp only [Bool.and_eq_true] at h
   exact uA l _ _ _ h.2 j hj
  ·cases h
 | .op i ao :: l,done,reads,todo,h,j,hj=>by
  simp only [wP,Bool.and_eq_true] at h
  have:j∈i :: done∨j∈later l:=by
   split at h
   ·simp only [Bool.and_eq_true] at h
    exact uA l _ _ _ h.2.2 j hj
   ·exact uA l _ _ _ h.2 j hj
  simp only [later,List.mem_cons] at this ⊢
  rcases this with (h | h) | h
  ·exact .inr (.inl h)
  ·exact .inl h
  ·exact .inr (.inr h)

section main
variable {done reads todo:List Nat} {T:xJ} {H:AHeap} {vals:Nat→AVal} {tms:Nat→xJ} {ys:Nat→Nat} {alc:Nat→Bool} {listed:Array Bool} {ρ:Ren} {a:Act} {w:World}

theorem Inv.todo_drop {i:Nat} (I:Inv tab call ops before B T0 ρ0 H0 w0 a0 done reads (i :: todo) T H vals tms ys alc listed ρ a w)
  (h:∀ o ao,i∈done→¬ vM listed i→ops[i]? = some o→coper tab ops o=some ao→ao.op.cls=.read→(∀ s∈ao.reads,∀ j∈zG ops i,wD ops j=some s→s < T0.length→yA (tms i) s=vals j) →
   (∀ s∈ao.reads,(∀ j,j < ops.size→j≠i→wD ops j=some s→j ∉ zG ops i)→yA (tms i) s=yA T0 s)→(tms i).length=T0.length→Waits call H ρ H0.next ao (tms i) (vals i) (ys i) (alc i)) :
  Inv tab call ops before B T0 ρ0 H0 w0 a0 done reads todo T H vals tms ys alc listed ρ a w:=by
 refine { I with pend:=fun j hj hoff=>?_ }
 obtain ⟨o2,ao2,g1,g2,g3,g4,g5,g6,g7,g8⟩:=I.pend j hj hoff
 refine ⟨o2,ao2,g1,g2,g3,g4,g5,g6,g7,?_⟩
 rcases g8 with ⟨g8,hc⟩ | g8
 ·rcases List.mem_cons.1 g8 with e | g8
  ·right
   subst e
   exact h o2 ao2 hj hoff g1 g2 hc g5 g6 g4
  ·exact .inl ⟨g8,hc⟩
 ·exact .inr g8

theorem Inv.reask {α:Type} {k:xJ→AHeap→Option α} {r:α}:∀ (l hl:List DStep) (todo:List Nat),Inv tab call ops before B T0 ρ0 H0 w0 a0 done reads todo T H vals tms ys alc listed ρ a w →
  csteps tab ops hl=some l→wP ops before l done reads todo=true→zT call l T H k=some r →
  ∃ l' hl',l'.length≤l.length∧csteps tab ops hl'=some l'∧wP ops before l' done reads []=true∧zT call l' T H k=some r∧Inv tab call ops before B T0 ρ0 H0 w0 a0 done reads [] T H vals tms ys alc listed ρ a w
 | l,hl,[],I,hc,hs,hr=>⟨l,hl,Nat.le_refl _,hc,hs,hr,I⟩
 | [],hl,i :: todo,I,hc,hs,hr=>by simp [wP] at hs
 | .op _ _ :: l,hl,i :: todo,I,hc,hs,hr=>by simp [wP] at hs
 | .re i ao :: l,hl,j :: todo,I,hc,hs,hr=>by
  cases hl with
  | nil=>simp [csteps] at hc
  | cons s hl =>
   obtain ⟨s',h1,hc⟩:=xA hc
   obtain ⟨l2,h2,hc⟩:=xA hc
   injection hc with hc; injection hc with hc1 hc2
   subst hc1; subst hc2
   have hs1:∃ o,ops[i]? = some o∧coper tab ops o=some ao:=by
    cases s with
    | op i2 a2 =>
     obtain ⟨o,_,h1⟩:=xA h1
     obtain ⟨ao2,_,h1⟩:=xA h1
     cases h1
    | re i2 a2 =>
     obtain ⟨o,g1,h1⟩:=xA h1
     obtain ⟨ao2,g2,h1⟩:=xA h1
     injection h1 with h1; injection h1 with h1 h3; subst h1; subst h3
     exact ⟨o,g1,g2⟩
   obtain ⟨o,ho,hco⟩:=hs1
   obtain ⟨⟨v,H1⟩,h3,hr⟩:=xA hr
   simp only [wP,Bool.and_eq_true,decide_eq_true_eq] at hs
   obtain ⟨⟨⟨⟨⟨⟨hij,hrd⟩,hds⟩,hcl⟩,hsl⟩,hnd⟩,hs⟩:=hs
   subst hij
   have hdst:wD ops i=ao.dst:=by simp [wD,ho,(uR hco).1]
   obtain ⟨d,hd⟩:∃ d,ao.dst=some d:=by
    cases e:ao.dst with
    | none=>rw [e] at hds; cases hds
    | some d=>exact ⟨d,rfl⟩
   rw [hd] at hr hnd
   simp only at hr hnd
   split at hr
   ·rename_i hbeq
    have hdl:d < T.length:=by
     refine Classical.byContradiction fun h=>?_
     rw [tget_lt h,beq_bot] at hbeq; cases hbeq
    have hve:=beq_eq hbeq
    have I':=I.todo_drop (fun o2 ao2 hid hoff g1 g2 gc g5 g6 g4=>by
     rw [ho] at g1; injection g1 with g1; subst g1
     rw [hco] at g2; injection g2 with g2; subst g2
     obtain ⟨hH,hm⟩:=read_calm hcl h3
     subst hH
     refine .read hcl ?_
     rw [I.canW i hid d (by rw [hdst,hd]) hdl] at hve
     rw [← hve,← h3]
     refine gop_congr (fun s hsr=>?_)
     by_cases hsl2:s < T0.length
     ·by_cases hex:∃ m,m < ops.size∧m≠i∧wD ops m=some s∧m∈zG ops i
      ·obtain ⟨m,e1,e2,e3,e4⟩:=hex
       rw [g5 s hsr m e4 e3 hsl2]
       exact (I.canW m (I.closedD i hid m e4) s e3 (by rw [I.lenT,← I.len0]; exact hsl2)).symm
      ·rw [g6 s hsr (fun m e1 e2 e3 e4=>hex ⟨m,e1,e2,e3,e4⟩)]
       refine (I.can0 s (fun m hm hdm=>?_)).symm
       by_cases hmi:m=i
       ·subst hmi
        rw [hdst,hd] at hdm; injection hdm with hdm; subst hdm
        simp only [Bool.not_eq_true',List.contains_eq_mem,decide_eq_false_iff_not] at hnd
        exact hnd hsr
       ·rcases uU hsl s hsr m (I.doneLt m hm) hmi hdm with h | ⟨h,_⟩
        ·exact hex ⟨m,I.doneLt m hm,hmi,hdm,h⟩
        ·cases h
     ·rw [tget_lt (by rw [g4]; exact hsl2),tget_lt (by rw [I.lenT,← I.len0]; exact hsl2)])
    obtain ⟨l',hl',e1,e2,e3,e4,e5⟩:=Inv.reask l2 hl todo I' h2 hs hr
    exact ⟨l',hl',by simp; omega,e2,e3,e4,e5⟩
   ·cases hr

theorem Inv.effect (hb:befOk ops before=true) (hT:TabOk P tab) (hcall:CallOk P call) (I:Inv tab call ops before B T0 ρ0 H0 w0 a0 done reads [] T H vals tms ys alc listed ρ a w)
  {i:Nat} {o:Oper} {ao:AOper} (ho:ops[i]? = some o) (hco:coper tab ops o=some ao) (hi:i ∉ done) (hready:∀ m∈zG ops i,vM listed m) (hs:slotsOk ops before i ao.reads true=true)
  {ask:List Nat} (hask:∀ q∈reads,q∈befAt before i∨q∈ask) {v:AVal} {H1:AHeap} (hv:gop call ao T H=some (v,H1)) :
  GRuns P ops o a w (fun v' w'=>∃ ρ',Inv tab call ops before B T0 ρ0 H0 w0 a0 (i :: done) reads ask (tput T ao.dst v) H1 (at_ vals i v) (at_ tms i T) ys (at_ alc i false) (listed.setIfInBounds i true) ρ' (a.put o.dst v') w'):=by
 obtain ⟨_,hbef,huniq⟩:=befOk_spec hb
 have hdo:ao.dst=o.dst:=(uR hco).1
 have hdst:wD ops i=ao.dst:=by simp [wD,ho,hdo]
 have hilt:i < ops.size:=(Array.getElem?_eq_some_iff.1 ho).1
 have hill:i < listed.size:=by rw [I.size]; exact hilt
 have hoff:¬ vM listed i:=fun h=>hi (I.sub i h)
 have ne:∀ {j},j∈done→j≠i:=fun hj e=>hi (e ▸ hj)
 have noBef:∀ j,vM listed j→i ∉ befAt before j:=fun j hj h =>
  hoff (closed hb (L:=vM listed) (fun i _ hL=>I.closedL i hL) _ j (Nat.lt_succ_self _) (I.doneLt j (I.sub j hj)) hj i h)
 have noBefD:∀ j,j∈done→i ∉ befAt before j:=fun j hj h =>
  hi (closed hb (L:=(· ∈ done)) (fun i _ hL=>I.closedD i hL) _ j (Nat.lt_succ_self _) (I.doneLt j hj) hj i h)
 have hrel:∀ s∈ao.reads,VRel ρ (yA T s) (a.tmps.getD s undef):=by
  intro s hsr
  by_cases hsl:s < T0.length
  ·by_cases hex:∃ j,j < ops.size∧j≠i∧wD ops j=some s∧j∈zG ops i
   ·obtain ⟨j,h1,h2,h3,h4⟩:=hex
    rw [I.canW j (I.sub j (hready j h4)) s h3 (by rw [I.lenT,← I.len0]; exact hsl)]
    exact I.slotW j s (hready j h4) h3 (by rw [← I.len0]; exact hsl)
   ·rw [I.can0 s (fun j hj hd=>?_)]
    ·refine I.slot0 s (fun j hj hd=>?_)
     rcases uU hs s hsr j (I.doneLt j (I.sub j hj)) (ne (I.sub j hj)) hd with h | ⟨_,h⟩
     ·exact hex ⟨j,I.doneLt j (I.sub j hj),ne (I.sub j hj),hd,h⟩
     ·exact noBef j hj h
    ·rcases uU hs s hsr j (I.doneLt j hj) (ne hj) hd with h | ⟨_,h⟩
     ·exact hex ⟨j,I.doneLt j hj,ne hj,hd,h⟩
     ·exact noBefD j hj h
  ·rw [tget_lt (by rw [I.lenT,← I.len0]; exact hsl)]; simp only [VRel]
 have htm:TRel ρ (mask ao.reads 0 T) a.tmps:=by
  refine ⟨by rw [mask_length]; exact I.lenT,fun s=>?_⟩
  rw [tget_mask,Nat.zero_add]
  split
  ·rename_i h; exact hrel s h
  ·simp only [VRel]
 have hmk:∀ s∈ao.reads,yA (mask ao.reads 0 T) s=yA T s:=by
  intro s hs; rw [tget_mask,Nat.zero_add,if_pos hs]
 have hv':=hv
 rw [← gop_congr hmk] at hv'
 have hg:=gop_sound hT hcall hco hv' htm I.step.heap
 intro next Q hn
 refine hg next Q (fun v' w'=>?_)
 rintro ⟨ρ',hvr,g2⟩
 refine hn v' w' ⟨ρ',?_⟩
 have hTl:(tput T ao.dst v).length=T.length:=by cases ao.dst <;> simp [tput,uL]
 have hTg:∀ s,yA (tput T ao.dst v) s=if ao.dst=some s∧s < T.length then v else yA T s:=by
  intro s
  cases hd:ao.dst with
  | none=>simp [tput]
  | some d =>
   simp only [tput,vQ]
   by_cases hds:d=s
   ·subst hds; simp
   ·rw [if_neg (fun h=>hds h.1),if_neg (fun h=>hds (by injection h.1))]
 have hsz:(a.put o.dst v').tmps.size=a.tmps.size:=by cases o.dst <;> simp [Act.put]
 have hput:∀ s,(a.put o.dst v').tmps.getD s undef=if o.dst=some s∧s < a.tmps.size then v' else a.tmps.getD s undef:=by
  intro s
  cases hd:o.dst with
  | none=>simp [Act.put]
  | some d =>
   show (a.tmps.setIfInBounds d v').getD s undef=_
   rw [getD_set]
   by_cases hds:d=s
   ·subst hds; simp
   ·rw [if_neg (fun h=>hds h.1),if_neg (fun h=>hds (by injection h.1))]
 have hstep:=I.step.trans g2
 refine ⟨by simpa using I.size,fun j hj=>?_,fun j hj m hm=>?_,fun j hj m hm=>?_,fun j hj=>?_,fun j s hj hd hsl=>?_,fun s hs'=>?_,by rw [hTl,hsz]; exact I.lenT,by rw [hsz]; exact I.len0,fun j hj s hd hsl=>?_,fun s hs'=>?_,hstep,fun j hj hjoff=>?_,fun j hj ha=>?_,fun j hj m hm hjm ha1 ha2=>?_,by rw [uG]; exact I.defers⟩
 ·rcases (zW hill j).1 hj with e | hj
  ·rw [e]; exact List.mem_cons_self ..
  ·exact List.mem_cons_of_mem _ (I.sub j hj)
 ·refine (zW hill m).2 (.inr ?_)
  rcases (zW hill j).1 hj with e | hj
  ·rw [e] at hm; exact hready m hm
  ·exact I.closedL j hj m hm
 ·rcases List.mem_cons.1 hj with e | hj
  ·rw [e] at hm; exact List.mem_cons_of_mem _ (I.sub m (hready m hm))
  ·exact List.mem_cons_of_mem _ (I.closedD j hj m hm)
 ·rcases List.mem_cons.1 hj with e | hj
  ·rw [e]; exact hilt
  ·exact I.doneLt j hj
 ·rw [hsz] at hsl
  rw [hput s]
  rcases (zW hill j).1 hj with e | hj
  ·rw [e,wG]
   rw [e,hdst,hdo] at hd
   rw [if_pos ⟨hd,hsl⟩]; exact hvr
  ·rw [vO _ _ (ne (I.sub j hj)),if_neg]
   ·exact VRel.mono g2.le _ _ (I.slotW j s hj hd hsl)
   ·rintro ⟨h1,_⟩
    exact huniq i j s hilt (I.doneLt j (I.sub j hj)) (fun e=>ne (I.sub j hj) e.symm) (by rw [hdst,hdo]; exact h1) hd
 ·rw [hput s,if_neg]
  ·exact VRel.mono g2.le _ _ (I.slot0 s (fun j hj=>hs' j ((zW hill j).2 (.inr hj))))
  ·rintro ⟨h1,_⟩
   exact hs' i ((zW hill i).2 (.inl rfl)) (by rw [hdst,hdo]; exact h1)
 ·rw [hTl] at hsl
  rw [hTg s]
  rcases List.mem_cons.1 hj with e | hj
  ·rw [e,hdst] at hd
   rw [e,if_pos ⟨hd,hsl⟩,wG]
  ·rw [if_neg,vO _ _ (ne hj)]
   ·exact I.canW j hj s hd hsl
   ·rintro ⟨h1,_⟩
    exact huniq i j s hilt (I.doneLt j hj) (fun e=>ne hj e.symm) (by rw [hdst]; exact h1) hd
 ·rw [hTg s,if_neg]
  ·exact I.can0 s (fun j hj=>hs' j (List.mem_cons_of_mem _ hj))
  ·rintro ⟨h1,_⟩
   exact hs' i (List.mem_cons_self ..) (by rw [hdst]; exact h1)
 ·have hjoff':¬ vM listed j:=fun h=>hjoff ((zW hill j).2 (.inr h))
  have hji:j≠i:=fun e=>hjoff ((zW hill j).2 (.inl e))
  rcases List.mem_cons.1 hj with e | hj
  ·exact absurd e hji
  ·obtain ⟨o2,ao2,q1,q2,q3,q4,q5,q6,q7,q8⟩:=I.pend j hj hjoff'
   refine ⟨o2,ao2,q1,q2,q3,by rw [vO _ _ hji]; exact q4,fun s hs' m hm hd hsl=>?_,fun s hs' h=>?_,q7,?_⟩
   ·rw [vO _ _ hji,vO _ _ (ne (I.closedD j hj m hm))]; exact q5 s hs' m hm hd hsl
   ·rw [vO _ _ hji]; exact q6 s hs' h
   ·rw [vO _ _ hji,vO _ _ hji,vO _ _ hji]
    by_cases hcr:ao2.op.cls=.read
    ·left
     refine ⟨?_,hcr⟩
     have hjr:j∈reads:=by
      rcases q7 with q7 | q7
      ·exact q7
      ·exact absurd hcr q7
     rcases hask j hjr with h | h
     ·exfalso
      obtain ⟨m,hm,hmj⟩:=hbef i j hilt h
      rcases hmj with e | hmj
      ·exact hjoff' (e ▸ hready m hm)
      ·exact hjoff' (closed hb (L:=vM listed) (fun i _ hL=>I.closedL i hL) _ m (Nat.lt_succ_self _) (I.doneLt m (I.sub m (hready m hm))) (hready m hm) j hmj)
     ·exact h
    ·right
     rcases q8 with ⟨q8,_⟩ | q8
     ·cases q8
     ·cases q8 with
      | calm h=>exact .calm h
      | read hc h=>exact absurd hc hcr
      | alloc hal obj mk hc h hgd hv2 ho' hn2 hN hy =>
       refine .alloc hal obj mk hc h hgd hv2 (by rw [g2.far _ hn2 hy]; exact ho') (Nat.lt_of_lt_of_le hn2 g2.next) hN ?_
       cases e:ρ' (ys j) with
       | none=>rfl
       | some l=>exact absurd (g2.new (ys j) hy (by rw [e]; simp)) (by omega)
 ·rcases List.mem_cons.1 hj with e | hj
  ·rw [e,wG] at ha; cases ha
  ·rw [vO _ _ (ne hj)] at ha
   exact Nat.lt_of_lt_of_le (I.ysLt j hj ha) g2.next
 ·rcases List.mem_cons.1 hj with e | hj
  ·rw [e,wG] at ha1; cases ha1
  ·rcases List.mem_cons.1 hm with e | hm
   ·rw [e,wG] at ha2; cases ha2
   ·rw [vO _ _ (ne hj)] at ha1
    rw [vO _ _ (ne hm)] at ha2
    exact I.ysNe j hj m hm hjm ha1 ha2

theorem Inv.final (I:Inv tab call ops before B T0 ρ0 H0 w0 a0 done reads [] T H vals tms ys alc listed ρ a w) (hall:∀ j∈done,vM listed j):TRel ρ T a.tmps:=by
 refine ⟨I.lenT,fun s=>?_⟩
 by_cases hsl:s < T.length
 ·by_cases hex:∃ j,j∈done∧wD ops j=some s
  ·obtain ⟨j,h1,h2⟩:=hex
   rw [I.canW j h1 s h2 hsl]
   exact I.slotW j s (hall j h1) h2 (by rw [← I.lenT]; exact hsl)
  ·rw [I.can0 s (fun j hj hd=>hex ⟨j,hj,hd⟩)]
   exact I.slot0 s (fun j hj hd=>hex ⟨j,I.sub j hj,hd⟩)
 ·rw [tget_lt hsl]; simp only [VRel]
end main

theorem draw_main {α:Type} (hb:befOk ops before=true) (hT:TabOk P tab) (hcall:CallOk P call) {Q:Exit→Act→World→Prop} {k:xJ→AHeap→Option α} {r:α}
  (hQ:∀ ρ' T' H' a' w',k T' H'=some r→TRel ρ' T' a'.tmps→Step ρ0 B H0 w0 ρ' H' w'→a'.defers=a0.defers→Q .normal a' w') :
  ∀ (m fuel:Nat) (l hl:List DStep) (done reads:List Nat) (T:xJ) (H:AHeap) (vals:Nat→AVal) (tms:Nat→xJ) (ys:Nat→Nat) (alc:Nat→Bool) (listed:Array Bool) (ρ:Ren) (a:Act) (w:World) (U:List Nat),
   l.length+fuel < m→U.Nodup→(∀ j,j∈U↔j < ops.size∧¬ vM listed j)→U.length=fuel →
   Inv tab call ops before B T0 ρ0 H0 w0 a0 done reads [] T H vals tms ys alc listed ρ a w→csteps tab ops hl=some l→wP ops before l done reads []=true→zT call l T H k=some r →
   wpAny P .any ops Q fuel listed a w:=by
 intro m
 induction m with
 | zero=>intro fuel l; intros; omega
 | succ m ih =>
  intro fuel l hl done reads T H vals tms ys alc listed ρ a w U hlen hU hUm hUl I hc hs hr
  have hnoready:∀ u U',U=u :: U'→Region.ready .any ops listed≠[]:=by
   intro u U' e
   obtain ⟨h1,h2⟩:=(hUm u).1 (by rw [e]; exact List.mem_cons_self ..)
   exact some_ready hb I.size _ u (Nat.lt_succ_self _) h1 h2
  have erase:∀ j,j < ops.size→¬ vM listed j→(U.erase j).Nodup∧(∀ i,i∈U.erase j↔i < ops.size∧¬ vM (listed.setIfInBounds j true) i)∧(U.erase j).length=U.length - 1:=by
   intro j h1 h2
   have hill:j < listed.size:=by rw [I.size]; exact h1
   refine ⟨hU.erase j,fun i=>?_,List.length_erase_of_mem ((hUm j).2 ⟨h1,h2⟩)⟩
   rw [hU.mem_erase_iff,hUm i,zW hill]
   constructor
   ·rintro ⟨e1,e2,e3⟩; exact ⟨e2,fun h=>h.elim e1 e3⟩
   ·rintro ⟨e1,e2⟩; exact ⟨fun h=>e2 (.inl h),e1,fun h=>e2 (.inr h)⟩
  -- an operation that was waiting
  have behind:∀ fuel',fuel=fuel'+1→∀ j,j∈Region.ready .any ops listed→j∈done→wpOp P ops Q j (wpAny P .any ops Q fuel' (listed.setIfInBounds j true)) a w:=by
   intro fuel' hf j hj hjd
   obtain ⟨h1,h2,h3⟩:=(ready_iff I.size j).1 hj
   have ho:ops[j]? = some ops[j]:=by simp [h1]
   refine wpOp_of ho (I.exec hb hT hcall hjd h2 h3 ho) (fun v' w'=>?_)
   rintro ⟨ρ',I'⟩
   obtain ⟨e1,e2,e3⟩:=erase j h1 h2
   exact ih fuel' l hl done reads T H vals tms ys alc _ ρ' _ w' (U.erase j) (by omega) e1 e2 (by omega) I' hc hs hr
  cases l with
  | nil =>
   simp only [zT] at hr
   cases fuel with
   | zero =>
    have hnil:U=[]:=by simpa using hUl
    have hallon:∀ j,j < ops.size→vM listed j:=fun j hj=>Classical.byContradiction fun h=>by have:=(hUm j).2 ⟨hj,h⟩; rw [hnil] at this; cases this
    refine ⟨?_,hQ ρ T H a w hr (I.final (fun j hj=>hallon j (I.doneLt j hj))) I.step I.defers⟩
    refine List.eq_nil_iff_forall_not_mem.2 fun j hj=>?_
    obtain ⟨h1,h2,_⟩:=(ready_iff I.size j).1 hj
    exact h2 (hallon j h1)
   | succ fuel =>
    refine ⟨fun hre=>?_,fun j hj=>behind fuel rfl j hj ?_⟩
    ·cases U with
     | nil=>simp at hUl
     | cons u U=>exact absurd hre (hnoready u U rfl)
    ·rcases uA _ _ _ _ hs j ((ready_iff I.size j).1 hj).1 with h | h
     ·exact h
     ·cases h
  | cons st l =>
   cases hl with
   | nil=>simp [csteps] at hc
   | cons s hl =>
    obtain ⟨s',g1,hc2⟩:=xA hc
    obtain ⟨l2,g2,hc2⟩:=xA hc2
    injection hc2 with hc2; injection hc2 with hc3 hc4
    subst hc3; subst hc4
    cases s' with
    | re i ao=>simp [wP] at hs
    | op i ao =>
     have hs1:∃ o,ops[i]? = some o∧coper tab ops o=some ao:=by
      cases s with
      | re i2 a2 =>
       obtain ⟨o,_,h1⟩:=xA g1
       obtain ⟨ao2,_,h1⟩:=xA h1
       cases h1
      | op i2 a2 =>
       obtain ⟨o,p1,h1⟩:=xA g1
       obtain ⟨ao2,p2,h1⟩:=xA h1
       injection h1 with h1; injection h1 with h1 h3; subst h1; subst h3
       exact ⟨o,p1,p2⟩
     obtain ⟨o,ho,hco⟩:=hs1
     have hcover:=uA _ _ _ _ hs
     simp only [wP,Bool.and_eq_true,decide_eq_true_eq,Bool.not_eq_true',List.all_eq_true,List.contains_iff_mem] at hs
     obtain ⟨⟨⟨⟨_,hlt⟩,hnd⟩,hwd⟩,hslots⟩:=hs.1
     have hs2:=hs.2
     have hnd:i ∉ done:=by simpa using hnd
     obtain ⟨⟨v,H1⟩,h3,hr2⟩:=xA hr
     by_cases heff:ao.op.cls=.eff
     ·rw [if_pos heff] at hs2
      simp only [Bool.and_eq_true,List.all_eq_true,List.contains_iff_mem,Bool.or_eq_true] at hs2
      obtain ⟨⟨hbefl,hreads⟩,hrest⟩:=hs2
      have hoffi:¬ vM listed i:=fun h=>hnd (I.sub i h)
      cases fuel with
      | zero =>
       have hnil:U=[]:=by simpa using hUl
       have:=(hUm i).2 ⟨hlt,hoffi⟩
       rw [hnil] at this; cases this
      | succ fuel =>
       refine ⟨fun hre=>?_,fun j hj=>?_⟩
       ·cases U with
        | nil=>simp at hUl
        | cons u U=>exact absurd hre (hnoready u U rfl)
       ·obtain ⟨h1,h2,h4⟩:=(ready_iff I.size j).1 hj
        by_cases hji:j=i
        ·subst hji
         refine wpOp_of ho (I.effect hb hT hcall ho hco hnd h4 hslots (ask:=asked l2) hreads h3) (fun v' w'=>?_)
         rintro ⟨ρ',I'⟩
         obtain ⟨e1,e2,e3⟩:=erase j h1 h2
         obtain ⟨l',hl',q1,q2,q3,q4,I2⟩:=I'.reask l2 hl (asked l2) g2 hrest hr2
         simp only [List.length_cons] at hlen
         exact ih fuel l' hl' _ _ _ _ _ _ _ _ _ ρ' _ w' (U.erase j) (by omega) e1 e2 (by omega) I2 q2 q3 q4
        ·refine behind fuel rfl j hj ?_
         rcases hcover j h1 with h | h
         ·exact h
         ·simp only [later,List.mem_cons] at h
          rcases h with h | h
          ·exact absurd h hji
          ·exfalso
           obtain ⟨m',hm',hmj⟩:=(befOk_spec hb).2.1 j i h1 (hbefl j h)
           have hmon:=h4 m' hm'
           rcases hmj with e | hmj
           ·exact hoffi (e ▸ hmon)
           ·exact hoffi (closed hb (L:=vM listed) (fun i _ hL=>I.closedL i hL) _ m' (Nat.lt_succ_self _) (I.doneLt m' (I.sub m' hmon)) hmon i hmj)
     ·rw [if_neg heff] at hs2
      obtain ⟨ys',alc',I'⟩:=I.virtual hb ho hco hnd hwd hslots heff h3
      simp only [List.length_cons] at hlen
      exact ih fuel l2 hl _ _ _ _ _ _ ys' alc' listed ρ a w U (by omega) hU hUm hUl I' g2 hs2 hr2

theorem draw_sound {α:Type} {steps hints:List DStep} (hb:befOk ops before=true) (hs:wP ops before steps [] [] []=true) (hc:csteps tab ops hints=some steps) (hm:P.follows .mixedOrders=true) (hT:TabOk P tab) (hcall:CallOk P call)
  {Q:Exit→Act→World→Prop} {k:xJ→AHeap→Option α} {r:α} {t:xJ} {H:AHeap} {ρ:Ren} {a:Act} {w:World} {id:Nat} (hr:zT call steps t H k=some r) (ht:TRel ρ t a.tmps) (hH:HRel ρ B H w)
  (hk:∀ t' H' ρ' a' w',k t' H'=some r→TRel ρ' t' a'.tmps→Step ρ B H w ρ' H' w'→a'.defers=a.defers→Q .normal a' w'):(Code.region id ops true).wp P Q a w:=by
 refine wp_region_any hm ?_
 have hH':HRel ρ B H { w with drawn:=w.drawn+1 }:=⟨hH.dom,hH.obj,hH.inj,hH.base,hH.top⟩
 have hoff:∀ j,¬ vM (Array.replicate ops.size false) j:=by
  intro j h
  unfold vM at h
  simp only [Array.getD_eq_getD_getElem?,Array.getElem?_replicate] at h
  split at h <;> simp at h
 refine draw_main (ρ0:=ρ) (H0:=H) (w0:={ w with drawn:=w.drawn+1 }) (a0:=a) (T0:=t) (B:=B) hb hT hcall (fun ρ' T' H' a' w' h1 h2 h3 h4=>hk T' H' ρ' a' w' h1 h2 ?_ h4) _ ops.size steps hints [] [] t H (fun _=>.bot) (fun _=>[]) (fun _=>0) (fun _=>false) _ ρ a _ (List.range ops.size) (Nat.lt_succ_self _) List.nodup_range (fun j=>?_) (by simp) ?_ hc hs hr
 ·exact ⟨h3.le,h3.heap,(Beneath.drew (Beneath.refl _ w)).trans h3.below,h3.new,h3.next,h3.far⟩
 ·rw [List.mem_range]; exact ⟨fun h=>⟨h,hoff j⟩,fun h=>h.1⟩
 ·refine ⟨by simp,fun i h=>absurd h (hoff i),fun i h=>absurd h (hoff i),fun i h=>(by cases h),fun i h=>(by cases h),fun j s h=>absurd h (hoff j),fun s _=>ht.2 s,ht.1,ht.1,fun j h=>(by cases h),fun s _=>rfl,.refl hH',fun i h=>(by cases h),fun i h=>(by cases h),fun i h=>(by cases h),rfl⟩
end
end Go.VAI

/- Whole functions: control,results,calls. -/
set_option linter.unusedVariables false
set_option linter.unusedSimpArgs false
namespace Go.VAI
open Go Go.RowKit

def wI (tab:Tab):ACode→Code→Option ACode
 | .skip,.skip=>some .skip
 | .skip,.label _=>some .skip
 | .region _,.region _ ops false=>bnd (copers tab ops ops.toList) fun l=>some (.region l)
 | .dregion before hs,.region _ ops true=>bnd (csteps tab ops hs) fun l=>if befOk ops before && wP ops before l [] [] [] then some (.dregion before l) else none
 | .seq x y,.seq a b=>bnd (wI tab x a) fun x=>bnd (wI tab y b) fun y=>some (.seq x y)
 | .cond _ x y,.cond c a b=>bnd (cod c) fun c=>bnd (wI tab x a) fun x=>bnd (wI tab y b) fun y=>some (.cond c x y)
 | .block _ x,.block id a=>bnd (wI tab x a) fun x=>some (.block id x)
 | .loop live out x,.loop a=>bnd (wI tab x a) fun x=>some (.loop live out x)
 | .join out x,a=>bnd (wI tab x a) fun x=>some (.join out x)
 | .exit _,.exit id=>some (.exit id)
 | .scope x l r,.scope a=>bnd (wI tab x a) fun x=>bnd (findLabel a l) fun c=>bnd (wI tab r c) fun r=>some (.scope x l r)
 | .goto _,.goto l=>some (.goto l)
 | .ret,.ret=>some .ret
 | _,_=>none
def cress (tab:Tab):List ResultVar→Option (List ARes)
 | []=>some []
 | .tmp t :: l=>bnd (cress tab l) fun rs=>some (.tmp t :: rs)
 | .cell a t :: l=>bnd (tab t) fun ti=>bnd (cress tab l) fun rs=>some (.cell ti.size ti.desc.agg a :: rs)
def cfn (tab:Tab) (hint:ACode) (fn:Func):Option AFn :=
 bnd fn.body fun c=>bnd (wI tab hint c) fun ac=>bnd (cress tab fn.results.toList) fun rs =>
 if (fn.name == "runtime.NumGoroutine") = false then some ⟨fn.ntmps,rs,ac⟩ else none
def ProgOk (P:Program) (tab:Tab) (A:AProg):Prop:=(∀ f afn,A f=some afn→∃ fn hint,P.funcs[f]? = some fn∧cfn tab hint fn=some afn)∧CallOk P A.base

def xexit:AExit→Exit
 | .normal=>.normal
 | .exit i=>.exit i
 | .goto l=>.goto l
 | .ret=>.ret

section
variable {P:Program} {tab:Tab} {call:zN} {n:Nat}

def Follows (P:Program) (c:Code) (run:xJ→AHeap→(AExit→xJ→AHeap→Option Res)→Option Res):Prop :=
 ∀ (t:xJ) (H:AHeap) (k:AExit→xJ→AHeap→Option Res) (r:Res) (ρ:Ren) (B:Nat) (a:Act) (w:World) (Q:Exit→Act→World→Prop),
  run t H k=some r→TRel ρ t a.tmps→HRel ρ B H w →
  (∀ e t' H' ρ' a' w',k e t' H'=some r→TRel ρ' t' a'.tmps→Step ρ B H w ρ' H' w'→a'.defers=a.defers→Q (xexit e) a' w')→c.wp P Q a w

theorem iter_sound {c:Code} {body:xJ→AHeap→(AExit→xJ→AHeap→Option Res)→Option Res} (hf:Follows P c body) {live out:List Bool} {r:Res} {Q:Exit→Act→World→Prop} {ρ0:Ren} {B:Nat} {H0:AHeap} {w0:World} {a0:Act}
  (hQ:∀ ρ' a' w',TRel ρ' r.2.1 a'.tmps→Step ρ0 B H0 w0 ρ' r.2.2 w'→a'.defers=a0.defers→Q (xexit r.1) a' w') :
  ∀ (n:Nat) (t:xJ) (H:AHeap) (ρ:Ren) (a:Act) (w:World),iter body live out n t H=some r→TRel ρ t a.tmps→Step ρ0 B H0 w0 ρ H w→a.defers=a0.defers→Code.rounds P c Q n a w
 | 0,t,H,ρ,a,w,h,_,_,_=>by simp [iter] at h
 | n+1,t,H,ρ,a,w,h,ht,hs,hd=>by
  rw [rounds_succ]
  rw [iter] at h
  refine hf t H _ r ρ B a w _ h ht hs.heap (fun e t' H' ρ' a' w' hk ht' hs' hd'=>?_)
  cases e with
  | normal=>exact iter_sound hf hQ n (keep live t') H' ρ' a' w' hk (ht'.keep live) (hs.trans hs') (by rw [hd',hd])
  | exit i=>simp only at hk; injection hk with hk; subst hk; exact hQ ρ' a' w' (ht'.keep out) (hs.trans hs') (by rw [hd',hd])
  | goto l=>simp only at hk; injection hk with hk; subst hk; exact hQ ρ' a' w' (ht'.keep out) (hs.trans hs') (by rw [hd',hd])
  | ret=>simp only at hk; injection hk with hk; subst hk; exact hQ ρ' a' w' (ht'.keep out) (hs.trans hs') (by rw [hd',hd])

theorem exec_sound (hm:P.follows .mixedOrders=true) (hT:TabOk P tab) (hcall:CallOk P call) :
  ∀ (hint:ACode) {α:Type} (c:Code) (ac:ACode) (t:xJ) (H:AHeap) (k:AExit→xJ→AHeap→Option α) (r:α) (ρ:Ren) (B:Nat) (a:Act) (w:World) (Q:Exit→Act→World→Prop),
   wI tab hint c=some ac→exec call n ac t H k=some r→TRel ρ t a.tmps→HRel ρ B H w →
   (∀ e t' H' ρ' a' w',k e t' H'=some r→TRel ρ' t' a'.tmps→Step ρ B H w ρ' H' w'→a'.defers=a.defers→Q (xexit e) a' w')→c.wp P Q a w:=by
 intro hint
 induction hint with
 | skip =>
  intro α c ac t H k r ρ B a w Q hc hr ht hH hk
  cases c <;> simp only [wI] at hc <;> first | (cases hc; done) | (injection hc with hc; subst hc)
  ·exact wp_skip (hk .normal t H ρ a w hr ht (.refl hH) rfl)
  ·exact wp_label (hk .normal t H ρ a w hr ht (.refl hH) rfl)
 | region l0 =>
  intro α c ac t H k r ρ B a w Q hc hr ht hH hk
  cases c <;> (try simp only [wI] at hc) <;> first | (cases hc; done) | skip
  rename_i id ops draw
  cases draw <;> (try simp only [wI] at hc) <;> first | (cases hc; done) | skip
  obtain ⟨l,h1,hc⟩:=xA hc
  injection hc with hc; subst hc
  rw [exec] at hr
  exact wp_region_list (runOps_sound hT hcall _ _ ρ t H a w h1 hr ht hH (fun t' H' ρ' a' w'=>hk .normal t' H' ρ' a' w'))
 | dregion before hs =>
  intro α c ac t H k r ρ B a w Q hc hr ht hH hk
  cases c <;> (try simp only [wI] at hc) <;> first | (cases hc; done) | skip
  rename_i id ops draw
  cases draw <;> (try simp only [wI] at hc) <;> first | (cases hc; done) | skip
  obtain ⟨l,h1,hc⟩:=xA hc
  split at hc
  ·rename_i hcond
   injection hc with hc; subst hc
   rw [exec] at hr
   simp only [Bool.and_eq_true] at hcond
   exact draw_sound hcond.1 hcond.2 h1 hm hT hcall hr ht hH (fun t' H' ρ' a' w'=>hk .normal t' H' ρ' a' w')
  ·cases hc
 | seq x y ihx ihy =>
  intro α c ac t H k r ρ B a w Q hc hr ht hH hk
  cases c <;> (try simp only [wI] at hc) <;> first | (cases hc; done) | skip
  rename_i c1 c2
  obtain ⟨x',h1,hc⟩:=xA hc
  obtain ⟨y',h2,hc⟩:=xA hc
  injection hc with hc; subst hc
  rw [exec] at hr
  refine wp_seq (ihx c1 x' t H _ r ρ B a w _ h1 hr ht hH (fun e t' H' ρ' a' w' hk' ht' hs' hd'=>?_))
  cases e with
  | normal=>exact ihy c2 y' t' H' k r ρ' B a' w' Q h2 hk' ht' hs'.heap (fun e t2 H2 ρ2 a2 w2 q1 q2 q3 q4=>hk e t2 H2 ρ2 a2 w2 q1 q2 (hs'.trans q3) (by rw [q4,hd']))
  | exit i=>exact hk (.exit i) t' H' ρ' a' w' hk' ht' hs' hd'
  | goto l=>exact hk (.goto l) t' H' ρ' a' w' hk' ht' hs' hd'
  | ret=>exact hk .ret t' H' ρ' a' w' hk' ht' hs' hd'
 | cond c0 x y ihx ihy =>
  intro α c ac t H k r ρ B a w Q hc hr ht hH hk
  cases c <;> (try simp only [wI] at hc) <;> first | (cases hc; done) | skip
  rename_i cc c1 c2
  obtain ⟨cc',h0,hc⟩:=xA hc
  obtain ⟨x',h1,hc⟩:=xA hc
  obtain ⟨y',h2,hc⟩:=xA hc
  injection hc with hc; subst hc
  rw [exec] at hr
  have hrel:=yM ht h0
  split at hr
  ·rename_i e
   rw [e] at hrel
   exact wp_cond_true hrel.bool_inv (ihx c1 x' t H k r ρ B a w Q h1 hr ht hH hk)
  ·rename_i e
   rw [e] at hrel
   exact wp_cond_false hrel.bool_inv (ihy c2 y' t H k r ρ B a w Q h2 hr ht hH hk)
  ·cases hr
 | block i0 x ihx =>
  intro α c ac t H k r ρ B a w Q hc hr ht hH hk
  cases c <;> (try simp only [wI] at hc) <;> first | (cases hc; done) | skip
  rename_i id c1
  obtain ⟨x',h1,hc⟩:=xA hc
  injection hc with hc; subst hc
  rw [exec] at hr
  refine wp_block (ihx c1 x' t H _ r ρ B a w _ h1 hr ht hH (fun e t' H' ρ' a' w' hk' ht' hs' hd'=>?_))
  cases e with
  | normal=>exact hk .normal t' H' ρ' a' w' hk' ht' hs' hd'
  | exit i =>
   simp only at hk'
   simp only [xexit,Exit.inBlock]
   split at hk'
   ·rename_i e; rw [if_pos e]; exact hk .normal t' H' ρ' a' w' hk' ht' hs' hd'
   ·rename_i e; rw [if_neg e]; exact hk (.exit i) t' H' ρ' a' w' hk' ht' hs' hd'
  | goto l=>exact hk (.goto l) t' H' ρ' a' w' hk' ht' hs' hd'
  | ret=>exact hk .ret t' H' ρ' a' w' hk' ht' hs' hd'
 | loop live out x ihx =>
  intro α c ac t H k r ρ B a w Q hc hr ht hH hk
  cases c <;> (try simp only [wI] at hc) <;> first | (cases hc; done) | skip
  rename_i c1
  obtain ⟨x',h1,hc⟩:=xA hc
  injection hc with hc; subst hc
  rw [exec] at hr
  obtain ⟨⟨e,t',H'⟩,h2,hr⟩:=xA hr
  refine wp_loop_rounds n (iter_sound (ρ0:=ρ) (B:=B) (H0:=H) (w0:=w) (a0:=a) (fun t H k r ρ B a w Q g1 g2 g3 g4=>ihx c1 x' t H k r ρ B a w Q h1 g1 g2 g3 g4) (fun ρ' a' w' g1 g2 g3=>hk e t' H' ρ' a' w' hr g1 g2 g3) n _ H ρ a w h2 (ht.keep live) (.refl hH) rfl)
 | join out x ihx =>
  intro α c ac t H k r ρ B a w Q hc hr ht hH hk
  have hc:(bnd (wI tab x c) fun x=>some (ACode.join out x))=some ac:=by
   rw [← hc]; cases c <;> simp only [wI]
  obtain ⟨x',h1,hc⟩:=xA hc
  injection hc with hc; subst hc
  rw [exec] at hr
  obtain ⟨⟨e,t2,H2⟩,h2,hr⟩:=xA hr
  refine ihx c x' t H _ (e,t2,H2) ρ B a w Q h1 h2 ht hH (fun e' t' H' ρ' a' w' hk' ht' hs' hd'=>?_)
  injection hk' with hk'; injection hk' with q1 q2; injection q2 with q2 q3
  subst q1; subst q2; subst q3
  exact hk e' _ H' ρ' a' w' hr (ht'.keep out) hs' hd'
 | exit i0 =>
  intro α c ac t H k r ρ B a w Q hc hr ht hH hk
  cases c <;> simp only [wI] at hc <;> first | (cases hc; done) | (injection hc with hc; subst hc)
  exact wp_exit (hk (.exit _) t H ρ a w hr ht (.refl hH) rfl)
 | scope x l rest ihx ihr =>
  intro α c ac t H k r ρ B a w Q hc hr ht hH hk
  cases c <;> (try simp only [wI] at hc) <;> first | (cases hc; done) | skip
  rename_i c1
  obtain ⟨x',h1,hc⟩:=xA hc
  obtain ⟨c2,h2,hc⟩:=xA hc
  obtain ⟨r',h3,hc⟩:=xA hc
  injection hc with hc; subst hc
  rw [exec] at hr
  refine wp_scope_jumps l (fun a' w'=>∃ t' H' ρ',exec call n r' t' H' (fun e t H=>match e with | .goto _=>none | e=>k e t H)=some r∧TRel ρ' t' a'.tmps∧Step ρ B H w ρ' H' w'∧a'.defers=a.defers) (fun _ _=>0) h2 ?_ ?_
  ·refine ihx c1 x' t H _ r ρ B a w _ h1 hr ht hH (fun e t' H' ρ' a' w' hk' ht' hs' hd'=>?_)
   cases e with
   | normal=>exact hk .normal t' H' ρ' a' w' hk' ht' hs' hd'
   | exit i=>exact hk (.exit i) t' H' ρ' a' w' hk' ht' hs' hd'
   | ret=>exact hk .ret t' H' ρ' a' w' hk' ht' hs' hd'
   | goto i =>
    simp only at hk'
    split at hk'
    ·rename_i e
     exact ⟨e,t',H',ρ',hk',ht',hs',hd'⟩
    ·cases hk'
  ·rintro a1 w1 ⟨t1,H1,ρ1,q1,q2,q3,q4⟩
   refine ihr c2 r' t1 H1 _ r ρ1 B a1 w1 _ h3 q1 q2 q3.heap (fun e t' H' ρ' a' w' hk' ht' hs' hd'=>?_)
   cases e with
   | normal=>exact hk .normal t' H' ρ' a' w' hk' ht' (q3.trans hs') (by rw [hd',q4])
   | exit i=>exact hk (.exit i) t' H' ρ' a' w' hk' ht' (q3.trans hs') (by rw [hd',q4])
   | ret=>exact hk .ret t' H' ρ' a' w' hk' ht' (q3.trans hs') (by rw [hd',q4])
   | goto i=>cases hk'
 | goto l0 =>
  intro α c ac t H k r ρ B a w Q hc hr ht hH hk
  cases c <;> simp only [wI] at hc <;> first | (cases hc; done) | (injection hc with hc; subst hc)
  exact wp_goto (hk (.goto _) t H ρ a w hr ht (.refl hH) rfl)
 | ret =>
  intro α c ac t H k r ρ B a w Q hc hr ht hH hk
  cases c <;> simp only [wI] at hc <;> first | (cases hc; done) | (injection hc with hc; subst hc)
  exact wp_ret (hk .ret t H ρ a w hr ht (.refl hH) rfl)

def resultOf (tmps:Array Value):ResultVar→Sem Value
 | .tmp t=>pure (tmps.getD t undef)
 | .cell a t=>do loadVar t (← asAddr (tmps.getD a undef))

theorem ress_run (hT:TabOk P tab) {ρ:Ren} {B:Nat} {H:AHeap} {w:World} {t:xJ} {tmps:Array Value} (ht:TRel ρ t tmps) (hH:HRel ρ B H w):∀ (l:List ResultVar) (rs:List ARes) (vs:List AVal),cress tab l=some rs→aresl t H rs=some vs →
  ∃ us,(l.mapM (resultOf tmps)).run P w=.ok us w∧VRels ρ vs us
 | [],rs,vs,hc,hv=>by
  simp only [cress] at hc; injection hc with hc; subst hc
  simp only [aresl] at hv; injection hv with hv; subst hv
  exact ⟨[],by simp,.nil⟩
 | .tmp i :: l,rs,vs,hc,hv=>by
  obtain ⟨rs,h1,hc⟩:=xA hc
  injection hc with hc; subst hc
  obtain ⟨v,h2,hv⟩:=xA hv
  obtain ⟨vs,h3,hv⟩:=xA hv
  injection hv with hv; subst hv
  obtain ⟨us,g1,g2⟩:=ress_run hT ht hH l rs vs h1 h3
  refine ⟨tmps.getD i undef :: us,by simp [resultOf,g1],.cons ?_ g2⟩
  simp only [ares] at h2
  have:=ht.2 i
  split at h2
  ·cases h2
  ·injection h2 with h2; rw [← h2]; exact this
 | .cell i ty :: l,rs,vs,hc,hv=>by
  obtain ⟨ti,h0,hc⟩:=xA hc
  obtain ⟨rs,h1,hc⟩:=xA hc
  injection hc with hc; subst hc
  obtain ⟨v,h2,hv⟩:=xA hv
  obtain ⟨vs,h3,hv⟩:=xA hv
  injection hv with hv; subst hv
  obtain ⟨us,g1,g2⟩:=ress_run hT ht hH l rs vs h1 h3
  obtain ⟨inf,d,hok⟩:=yL (hT _ _ h0)
  have hagg:=hok.run_agg w
  have r1:=ht.2 i
  simp only [ares] at h2
  have:∃ u,(resultOf tmps (.cell i ty)).run P w=.ok u w∧VRel ρ v u:=by
   split at h2
   ·rename_i hg
    rw [hg] at hagg
    generalize yA t i=xv at h2 r1
    unfold aloadN at h2
    split at h2
    ·rename_i id off
     obtain ⟨c,hcs,h2⟩:=xA h2
     split at h2
     ·rename_i hb
      injection h2 with h2; subst h2
      obtain ⟨l,hl,he⟩:=r1.ptr_inv
      have hcr:=hH.cells hl hcs
      obtain ⟨us,g1,g2,g3⟩:=hcr.part off ti.size hb
      have hld:=run_loadCells_list (P:=P) w ⟨l.b,l.o+off,none⟩ us g3
      rw [g2] at hld
      refine ⟨.agg us.toArray,?_,?_⟩
      ·simp [resultOf,he,asAddr,loadVar,hagg,hok.run_size,hld]
      ·simp only [VRel]
       exact ⟨us,rfl,g1,fun y hy=>hcr.1 y (List.mem_of_mem_drop (List.mem_of_mem_take hy))⟩
     ·cases h2
    ·cases h2
   ·rename_i hg
    have hg:ti.desc.agg=false:=by simpa using hg
    rw [hg] at hagg
    generalize yA t i=xv at h2 r1
    unfold aload1 at h2
    split at h2
    ·rename_i id off
     obtain ⟨c,hcs,h2⟩:=xA h2
     obtain ⟨l,hl,he⟩:=r1.ptr_inv
     obtain ⟨u,e1,e2⟩:=(hH.cells hl hcs).2 off v h2
     exact ⟨u,by simp [resultOf,he,asAddr,loadVar,hagg,e1],e2⟩
    ·cases h2
  obtain ⟨u,e1,e2⟩:=this
  exact ⟨u :: us,by simp [e1,g1],.cons e2 g2⟩

def oneOr:List Value→Value
 | [v]=>v
 | us=>.tuple us.toArray
theorem results_run {fn:Func} {tmps:Array Value} {w:World} {us:List Value} (h:(fn.results.toList.mapM (resultOf tmps)).run P w=.ok us w) :
  (results fn tmps).run P w=.ok (oneOr us) w:=by
 have e:results fn tmps=(do let vs ← fn.results.mapM (resultOf tmps); pure (if h:vs.size=1 then vs[0] else .tuple vs)):=by
  unfold results
  congr 2
 rw [e]
 clear e
 revert h
 generalize fn.results=rs
 intro h
 obtain ⟨l⟩:=rs
 simp only at h
 simp only [List.mapM_toArray,Sem.run_bind,Sem.run_map,h,Result.andThen_ok,Sem.run_pure]
 match us with
 | []=>rfl
 | [v]=>rfl
 | u :: v :: us=>simp [oneOr]

theorem pad_length (l:List AVal) (n:Nat):(pad l n).length=l.length+(n - l.length):=by simp [pad]
theorem tget_append:∀ (l m:List AVal) (s:Nat),yA (l++m) s=if s < l.length then yA l s else yA m (s - l.length)
 | [],m,s=>by simp
 | v :: l,m,0=>by simp [yA]
 | v :: l,m,s+1=>by
  have:=tget_append l m s
  simp only [List.cons_append,yA,List.length_cons,this]
  by_cases h:s < l.length
  ·rw [if_pos h,if_pos (by omega)]
  ·rw [if_neg h,if_neg (by omega)]; congr 1; omega
theorem tget_bots:∀ (n s:Nat),yA (List.replicate n .bot) s=.bot
 | 0,s=>by simp [yA]
 | n+1,0=>by simp [List.replicate,yA]
 | n+1,s+1=>by simpa [List.replicate,yA] using tget_bots n s
theorem tget_pad (l:List AVal) (n s:Nat):yA (pad l n) s=if s < l.length then yA l s else .bot:=by
 rw [pad,tget_append,tget_bots]
theorem tget_rels {ρ:Ren}:∀ {vs:List AVal} {us:List Value},VRels ρ vs us→∀ s,s < vs.length→VRel ρ (yA vs s) (us.getD s undef)
 | [],_,_,s,h=>by simp at h
 | v :: vs,us,hr,s,h=>by
  obtain ⟨u,us',rfl,h1,h2⟩:=hr.cons_inv
  cases s with
  | zero=>simpa [yA] using h1
  | succ s=>simpa [yA] using tget_rels h2 s (by simpa using h)

theorem callA_ok (hm:P.follows .mixedOrders=true) (hT:TabOk P tab) {A:AProg} (hA:ProgOk P tab A):∀ n,CallOk P (qD A n)
 | 0=>by intro f args H v H' h; simp [qD] at h
 | n+1=>by
  have ih:=callA_ok hm hT hA n
  intro f args H v H' h
  simp only [qD] at h
  split at h
  ·exact hA.2 f args H v H' h
  ·rename_i afn haf
   obtain ⟨fn,hint,hfn,hc⟩:=hA.1 f afn haf
   obtain ⟨c,h1,hc⟩:=xA hc
   obtain ⟨ac,h2,hc⟩:=xA hc
   obtain ⟨rs,h3,hc⟩:=xA hc
   split at hc
   ·rename_i hname
    injection hc with hc; subst hc
    refine ⟨⟨fn,c,hfn,h1,hname⟩,fun ρ B w us hH hus=>?_⟩
    have fin:∀ (t':xJ) (H2:AHeap) (ρ':Ren) (a':Act) (w':World),result rs t' H2=some (v,H')→TRel ρ' t' a'.tmps→Step ρ B H w ρ' H2 w'→a'.defers=[] →
      a'.defers=[]∧∃ v',(results fn a'.tmps).run P w'=.ok v' w'∧∃ v'',Ending.returned v'=.returned v''∧Effect ρ B H w v H' v'' w':=by
     intro t' H2 ρ' a' w' hr ht' hs' hd'
     refine ⟨hd',?_⟩
     unfold result at hr
     split at hr
     ·rename_i r
      obtain ⟨v1,e1,hr⟩:=xA hr
      injection hr with hr; injection hr with q1 q2
      subst q1; subst q2
      obtain ⟨us',g1,g2⟩:=ress_run hT ht' hs'.heap _ _ [v1] h3 (by simp [aresl,e1,bnd])
      obtain ⟨u,us2,rfl,g4,g3⟩:=g2.cons_inv
      have:=g3.nil_inv
      subst this
      exact ⟨_,results_run g1,_,rfl,ρ',g4,hs'⟩
     ·rename_i hne
      obtain ⟨vs,e1,hr⟩:=xA hr
      injection hr with hr; injection hr with q1 q2
      subst q1; subst q2
      obtain ⟨us',g1,g2⟩:=ress_run hT ht' hs'.heap _ _ vs h3 e1
      refine ⟨_,results_run g1,_,rfl,ρ',?_,hs'⟩
      have hlen:∀ (l:List ARes) (vs:List AVal),aresl t' H2 l=some vs→l.length=vs.length:=by
       intro l
       induction l with
       | nil=>intro vs h; simp only [aresl] at h; injection h with h; subst h; rfl
       | cons r l ih =>
        intro vs h
        obtain ⟨v,_,h⟩:=xA h
        obtain ⟨vs',h2,h⟩:=xA h
        injection h with h; subst h
        simp [ih vs' h2]
      have hl:=hlen _ _ e1
      simp only [VRel]
      match us',g2 with
      | [],g2=>exact ⟨[],rfl,g2⟩
      | [u],g2 =>
       exfalso
       have:=g2.length
       match rs,hl with
       | [r],_=>exact hne r rfl
       | [],hl=>simp at hl this; omega
       | _ :: _ :: _,hl=>simp at hl this; omega
      | u :: u2 :: us',g2=>exact ⟨_,rfl,g2⟩
    refine calls_of_wp hfn h1 (exec_sound hm hT ih hint c ac _ H _ (v,H') ρ B _ w _ h2 h ?_ hH ?_)
    ·refine ⟨by rw [pad_length]; simp [hus.length],fun s=>?_⟩
     rw [tget_pad]
     split
     ·rename_i hs
      have:=tget_rels hus s hs
      rw [← hus.length] at hs
      simpa [Array.getD_eq_getD_getElem?,Array.getElem?_append,hs] using this
     ·simp only [VRel]
    ·intro e t' H2 ρ' a' w' hk ht' hs' hd'
     cases e with
     | normal=>exact fin t' H2 ρ' a' w' hk ht' hs' hd'
     | ret=>exact fin t' H2 ρ' a' w' hk ht' hs' hd'
     | exit i=>cases hk
     | goto i=>cases hk
   ·cases hc
end
end Go.VAI
