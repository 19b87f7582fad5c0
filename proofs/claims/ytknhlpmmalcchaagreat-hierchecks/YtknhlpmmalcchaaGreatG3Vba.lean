/- Reasoning about the interpreter's runs: what must hold ahead of a piece of code for something to hold behind it. -/
import Derived.Test.YtknhlpmmalcchaaGreatG3Vab
import Derived.Sort.Grow
import Derived.Laws.IdiomRangeMap
set_option linter.all false
set_option linter.unusedVariables false
set_option linter.unusedSimpArgs false
set_option linter.unusedVariables false
set_option linter.unusedSimpArgs false
namespace Go.VAI
open Go

def CLe (c d:zN):Prop:=∀ f a H r,c f a H=some r→d f a H=some r
theorem CLe.refl (c:zN):CLe c c:=fun _ _ _ _ h=>h

theorem aeff_le {c d:zN} (h:CLe c d) {o:AOp} {t:xJ} {H:AHeap} {r:AVal × AHeap} (hr:aeff c o t H=some r):aeff d o t H=some r:=by
 cases o <;> simp only [aeff] at hr ⊢ <;> first | exact hr | (cases hr; done) | exact h _ _ _ _ hr | skip
 split at hr
 ·rename_i e; exact h _ _ _ _ hr
 ·cases hr
theorem aop_le {c d:zN} (h:CLe c d) {o:AOp} {t:xJ} {H:AHeap} {r:AVal × AHeap} (hr:aop c o t H=some r):aop d o t H=some r:=by
 unfold aop at hr ⊢
 split at hr <;> first | exact hr | exact aeff_le h hr
theorem gop_le {c d:zN} (h:CLe c d) {o:AOper} {t:xJ} {H:AHeap} {r:AVal × AHeap} (hr:gop c o t H=some r):gop d o t H=some r:=by
 unfold gop at hr ⊢
 split at hr
 ·exact aop_le h hr
 ·rename_i s want hg
  try simp only at hr ⊢
  split at hr
  ·rename_i b hb
   split at hr
   ·rename_i hw; try rw [hb]
    simp only [if_pos hw]; exact aop_le h hr
   ·rename_i hw; try rw [hb]
    simp only [if_neg hw]; exact hr
  ·rename_i hb; try rw [hb]
   exact hr
  ·cases hr
theorem runOps_le {α:Type} {c d:zN} (h:CLe c d) {k k':xJ→AHeap→Option α} {r:α} (hk:∀ t H,k t H=some r→k' t H=some r):∀ (l:List AOper) (t:xJ) (H:AHeap),runOps c l t H k=some r→runOps d l t H k'=some r
 | [],t,H,hr=>hk t H hr
 | o :: l,t,H,hr=>by
  obtain ⟨r1,h1,h2⟩:=xA hr
  simp only [runOps,gop_le h h1,bnd]
  exact runOps_le h hk l _ _ h2
def reB (o:AOper) (t:xJ) (v:AVal):Bool:=AVal.beq v (match o.dst with | some d=>yA t d | none=>v)
theorem runSteps_re {α:Type} (c:zN) (i:Nat) (o:AOper) (l:List DStep) (t:xJ) (H:AHeap) (k:xJ→AHeap→Option α):zT c (.re i o :: l) t H k=bnd (gop c o t H) fun r=>if reB o t r.1=true then zT c l t H k else none:=rfl
theorem runSteps_le {α:Type} {c d:zN} (h:CLe c d) {k k':xJ→AHeap→Option α} {r:α} (hk:∀ t H,k t H=some r→k' t H=some r):∀ (l:List DStep) (t:xJ) (H:AHeap),zT c l t H k=some r→zT d l t H k'=some r
 | [],t,H,hr=>hk t H hr
 | .op i o :: l,t,H,hr=>by
  obtain ⟨r1,h1,h2⟩:=xA hr
  simp only [zT,gop_le h h1,bnd]
  exact runSteps_le h hk l _ _ h2
 | .re i o :: l,t,H,hr=>by
  rw [runSteps_re] at hr ⊢
  obtain ⟨r1,h1,h2⟩:=xA hr
  simp only [gop_le h h1,bnd]
  by_cases hc:reB o t r1.1=true
  ·rw [if_pos hc] at h2 ⊢
   exact runSteps_le h hk l _ _ h2
  ·rw [if_neg hc] at h2; cases h2
theorem iter_le {b b':xJ→AHeap→(AExit→xJ→AHeap→Option Res)→Option Res} {live out:List Bool} {r:Res}
  (hb:∀ t H k k',(∀ e t H,k e t H=some r→k' e t H=some r)→b t H k=some r→b' t H k'=some r):∀ (n m:Nat) (t:xJ) (H:AHeap),n≤m→iter b live out n t H=some r→iter b' live out m t H=some r
 | 0,_,_,_,_,h=>by simp [iter] at h
 | n+1,0,_,_,hn,_=>by omega
 | n+1,m+1,t,H,hn,h=>by
  rw [iter] at h ⊢
  refine hb t H _ _ (fun e t' H' hk=>?_) h
  cases e with
  | normal=>exact iter_le hb n m _ _ (by omega) hk
  | exit i=>exact hk
  | goto i=>exact hk
  | ret=>exact hk
theorem exec_le {c d:zN} (h:CLe c d) {n m:Nat} (hn:n≤m):∀ (ac:ACode) {α:Type} (t:xJ) (H:AHeap) (k k':AExit→xJ→AHeap→Option α) (r:α),(∀ e t H,k e t H=some r→k' e t H=some r)→exec c n ac t H k=some r→exec d m ac t H k'=some r:=by
 intro ac
 induction ac with
 | skip=>intro α t H k k' r hk hr; exact hk _ _ _ hr
 | region ops=>intro α t H k k' r hk hr; rw [exec] at hr ⊢; exact runOps_le h (fun t H=>hk .normal t H) _ _ _ hr
 | dregion b st=>intro α t H k k' r hk hr; rw [exec] at hr ⊢; exact runSteps_le h (fun t H=>hk .normal t H) _ _ _ hr
 | seq a b iha ihb =>
  intro α t H k k' r hk hr
  rw [exec] at hr ⊢
  refine iha t H _ _ r (fun e t' H' hk'=>?_) hr
  cases e with
  | normal=>exact ihb t' H' k k' r hk hk'
  | exit i=>exact hk _ _ _ hk'
  | goto i=>exact hk _ _ _ hk'
  | ret=>exact hk _ _ _ hk'
 | cond x a b iha ihb =>
  intro α t H k k' r hk hr
  rw [exec] at hr ⊢
  split at hr
  ·rename_i e; exact iha t H k k' r hk hr
  ·rename_i e; exact ihb t H k k' r hk hr
  ·cases hr
 | block id a iha =>
  intro α t H k k' r hk hr
  rw [exec] at hr ⊢
  refine iha t H _ _ r (fun e t' H' hk'=>?_) hr
  cases e with
  | normal=>exact hk _ _ _ hk'
  | exit i =>
   simp only at hk' ⊢
   split at hk'
   ·rename_i e; rw [if_pos e]; exact hk _ _ _ hk'
   ·rename_i e; rw [if_neg e]; exact hk _ _ _ hk'
  | goto i=>exact hk _ _ _ hk'
  | ret=>exact hk _ _ _ hk'
 | loop live out a iha =>
  intro α t H k k' r hk hr
  rw [exec] at hr ⊢
  obtain ⟨r1,h1,h2⟩:=xA hr
  rw [iter_le (fun t H k k' hk hb=>iha t H k k' r1 hk hb) n m _ _ hn h1]
  exact hk _ _ _ h2
 | join out a iha =>
  intro α t H k k' r hk hr
  rw [exec] at hr ⊢
  obtain ⟨r1,h1,h2⟩:=xA hr
  rw [iha t H _ _ r1 (fun _ _ _ h=>h) h1]
  exact hk _ _ _ h2
 | exit id=>intro α t H k k' r hk hr; exact hk _ _ _ hr
 | scope a l rest iha ihr =>
  intro α t H k k' r hk hr
  rw [exec] at hr ⊢
  refine iha t H _ _ r (fun e t' H' hk'=>?_) hr
  cases e with
  | normal=>exact hk _ _ _ hk'
  | exit i=>exact hk _ _ _ hk'
  | ret=>exact hk _ _ _ hk'
  | goto i =>
   simp only at hk' ⊢
   split at hk'
   ·rename_i e
    rw [if_pos e]
    refine ihr t' H' _ _ r (fun e t2 H2 hk2=>?_) hk'
    cases e with
    | goto i=>cases hk2
    | normal=>exact hk _ _ _ hk2
    | exit i=>exact hk _ _ _ hk2
    | ret=>exact hk _ _ _ hk2
   ·cases hk'
 | goto l=>intro α t H k k' r hk hr; exact hk _ _ _ hr
 | ret=>intro α t H k k' r hk hr; exact hk _ _ _ hr
theorem wU {A:AProg}:∀ (n m:Nat),n≤m→CLe (qD A n) (qD A m)
 | 0,_,_=>fun f a H r h=>by simp [qD] at h
 | n+1,0,hn=>by omega
 | n+1,m+1,hn=>by
  intro f a H r h
  have ih:=wU (A:=A) n m (by omega)
  simp only [qD] at h ⊢
  split at h
  ·exact h
  ·exact exec_le ih (by omega) _ _ _ _ _ r (fun _ _ _ h=>h) h

def ret3 (e:AExit) (t:xJ) (H:AHeap):Option Res:=some (e,t,H)
def Ret (A:AProg) (f:Nat) (args:List AVal) (H:AHeap) (Q:AVal→AHeap→Prop):Prop:=∃ n r,qD A n f args H=some r∧Q r.1 r.2
def Run (A:AProg) (c:ACode) (t:xJ) (H:AHeap) (Q:AExit→xJ→AHeap→Prop):Prop:=∃ n r,exec (qD A n) n c t H ret3=some r∧Q r.1 r.2.1 r.2.2
theorem Ret.mono {A:AProg} {f:Nat} {args:List AVal} {H:AHeap} {Q Q':AVal→AHeap→Prop} (h:Ret A f args H Q) (hq:∀ v H',Q v H'→Q' v H'):Ret A f args H Q':=by
 obtain ⟨n,r,h1,h2⟩:=h
 exact ⟨n,r,h1,hq _ _ h2⟩
theorem Run.mono {A:AProg} {c:ACode} {t:xJ} {H:AHeap} {Q Q':AExit→xJ→AHeap→Prop} (h:Run A c t H Q) (hq:∀ e t H',Q e t H'→Q' e t H'):Run A c t H Q':=by
 obtain ⟨n,r,h1,h2⟩:=h
 exact ⟨n,r,h1,hq _ _ _ h2⟩

abbrev PostT:=AExit→xJ→AHeap→Prop
abbrev qG:=Nat→List AVal→AHeap→(AVal→AHeap→Prop)→Prop
def noCall:zN:=fun _ _ _=>none
def zL (x:Option (AVal × AHeap)) (Q:AVal→AHeap→Prop):Prop :=
 match x with
 | some r=>Q r.1 r.2
 | none=>False
def opW (K:qG) (o:AOp) (t:xJ) (H:AHeap) (Q:AVal→AHeap→Prop):Prop :=
 match o with
 | .call f args=>K f (evs t args) H Q
 | .callv f args=>(match f.ev t with | .func (.func g) a b=>K g (a++evs t args++b) H Q | _=>False)
 | o=>zL (aop noCall o t H) Q
def guardW (g:Option (Nat × Bool)) (t:xJ) (yes no:Prop):Prop :=
 match g with
 | none=>yes
 | some (s,want)=>(match yA t s with | .bool b=>if b=want then yes else no | .tuple []=>no | _=>False)
def opsW (K:qG):List AOper→xJ→AHeap→(xJ→AHeap→Prop)→Prop
 | [],t,H,Q=>Q t H
 | o :: os,t,H,Q=>guardW o.guard t (opW K o.op t H fun v H1=>opsW K os (tput t o.dst v) H1 Q) (opsW K os (tput t o.dst (.tuple [])) H Q)
def yT (K:qG):List DStep→xJ→AHeap→(xJ→AHeap→Prop)→Prop
 | [],t,H,Q=>Q t H
 | .op _ o :: os,t,H,Q=>guardW o.guard t (opW K o.op t H fun v H1=>yT K os (tput t o.dst v) H1 Q) (yT K os (tput t o.dst (.tuple [])) H Q)
 | .re _ o :: os,t,H,Q=>zL (gop noCall o t H) fun v _=>reB o t v=true∧yT K os t H Q
def condW (c:AVal) (yes no:Prop):Prop :=
 match c with
 | .bool true=>yes
 | .bool false=>no
 | _=>False
def wpx (K:qG):ACode→xJ→AHeap→PostT→Prop
 | .skip,t,H,Q=>Q .normal t H
 | .region ops,t,H,Q=>opsW K ops t H (Q .normal)
 | .dregion _ steps,t,H,Q=>yT K steps t H (Q .normal)
 | .seq a b,t,H,Q=>wpx K a t H fun e t H=>match e with | .normal=>wpx K b t H Q | e=>Q e t H
 | .cond c a b,t,H,Q=>condW (c.ev t) (wpx K a t H Q) (wpx K b t H Q)
 | .block id a,t,H,Q=>wpx K a t H fun e t H=>match e with | .exit i=>if i=id then Q .normal t H else Q (.exit i) t H | e=>Q e t H
 | .loop live out a,t,H,Q=>∃ (I:Nat→xJ→AHeap→Prop) (m:Nat),I m (keep live t) H∧∀ m t H,I m t H→wpx K a t H fun e t H=>match e with | .normal=>∃ m',m' < m∧I m' (keep live t) H | e=>Q e (keep out t) H
 | .join out a,t,H,Q=>wpx K a t H fun e t H=>Q e (keep out t) H
 | .exit id,t,H,Q=>Q (.exit id) t H
 | .scope a l rest,t,H,Q=>wpx K a t H fun e t H=>match e with | .goto i=>i=l∧wpx K rest t H (fun e t H=>match e with | .goto _=>False | e=>Q e t H) | e=>Q e t H
 | .goto l,t,H,Q=>Q (.goto l) t H
 | .ret,t,H,Q=>Q .ret t H
def thenW (K:qG) (b:ACode) (Q:PostT) (e:AExit) (t:xJ) (H:AHeap):Prop :=
 match e with
 | .normal=>wpx K b t H Q
 | e=>Q e t H
theorem wpx_seq {K:qG} {a b:ACode} {t:xJ} {H:AHeap} {Q:PostT}:wpx K (.seq a b) t H Q=wpx K a t H (thenW K b Q):=rfl


theorem vF {α β γ:Type} (x:Option α) (f:α→Option β) (g:β→Option γ):bnd (bnd x f) g=bnd x (fun a=>bnd (f a) g):=by cases x <;> rfl
def pair2 (t:xJ) (H:AHeap):Option (xJ × AHeap):=some (t,H)
theorem runOps_bind {α:Type} {c:zN} (k:xJ→AHeap→Option α):∀ (l:List AOper) (t:xJ) (H:AHeap),runOps c l t H k=bnd (runOps c l t H pair2) fun r=>k r.1 r.2
 | [],t,H=>rfl
 | o :: l,t,H=>by
  simp only [runOps,vF]
  congr 1; funext r
  exact runOps_bind k l _ _
theorem uC {α:Type} {c:zN} (k:xJ→AHeap→Option α):∀ (l:List DStep) (t:xJ) (H:AHeap),zT c l t H k=bnd (zT c l t H pair2) fun r=>k r.1 r.2
 | [],t,H=>rfl
 | .op _ o :: l,t,H=>by
  simp only [zT,vF]
  congr 1; funext r
  exact uC k l _ _
 | .re _ o :: l,t,H=>by
  rw [runSteps_re,runSteps_re,vF]
  congr 1; funext r
  by_cases hc:reB o t r.1=true
  ·rw [if_pos hc,if_pos hc]; exact uC k l _ _
  ·rw [if_neg hc,if_neg hc]; rfl
theorem zA {c:zN} {n:Nat}:∀ (ac:ACode) {α:Type} (t:xJ) (H:AHeap) (k:AExit→xJ→AHeap→Option α),exec c n ac t H k=bnd (exec c n ac t H ret3) fun r=>k r.1 r.2.1 r.2.2:=by
 intro ac
 induction ac with
 | skip=>intros; rfl
 | region ops=>intro α t H k; rw [exec,exec,runOps_bind,runOps_bind (ret3 .normal),vF]; rfl
 | dregion b st=>intro α t H k; rw [exec,exec,uC,uC (ret3 .normal),vF]; rfl
 | seq a b iha ihb =>
  intro α t H k
  rw [exec,exec]
  refine (iha t H _).trans (Eq.trans ?_ (congrArg (fun x=>bnd x fun r=>k r.1 r.2.1 r.2.2) (iha (α:=Res) t H _).symm))
  rw [vF]
  congr 1; funext r
  obtain ⟨e,t',H'⟩:=r
  cases e with
  | normal=>exact ihb t' H' k
  | exit i=>rfl
  | goto i=>rfl
  | ret=>rfl
 | cond x a b iha ihb =>
  intro α t H k
  rw [exec,exec]
  split
  ·exact iha t H k
  ·exact ihb t H k
  ·rfl
 | block id a iha =>
  intro α t H k
  rw [exec,exec]
  refine (iha t H _).trans (Eq.trans ?_ (congrArg (fun x=>bnd x fun r=>k r.1 r.2.1 r.2.2) (iha (α:=Res) t H _).symm))
  rw [vF]
  congr 1; funext r
  obtain ⟨e,t',H'⟩:=r
  cases e with
  | exit i=>simp only; split <;> rfl
  | normal=>rfl
  | goto i=>rfl
  | ret=>rfl
 | loop live out a iha=>intro α t H k; rw [exec,exec,vF]; rfl
 | join out a iha=>intro α t H k; rw [exec,exec,vF]; rfl
 | exit id=>intros; rfl
 | scope a l rest iha ihr =>
  intro α t H k
  rw [exec,exec]
  refine (iha t H _).trans (Eq.trans ?_ (congrArg (fun x=>bnd x fun r=>k r.1 r.2.1 r.2.2) (iha (α:=Res) t H _).symm))
  rw [vF]
  congr 1; funext r
  obtain ⟨e,t',H'⟩:=r
  cases e with
  | goto i =>
   simp only
   split
   ·refine (ihr t' H' _).trans (Eq.trans ?_ (congrArg (fun x=>bnd x fun r=>k r.1 r.2.1 r.2.2) (ihr (α:=Res) t' H' _).symm))
    rw [vF]
    congr 1; funext r
    obtain ⟨e,t',H'⟩:=r
    cases e <;> rfl
   ·rfl
  | normal=>rfl
  | exit i=>rfl
  | ret=>rfl
 | goto l=>intros; rfl
 | ret=>intros; rfl

section
variable {A:AProg}
theorem noCall_le (c:zN):CLe noCall c:=fun _ _ _ _ h=>by cases h
theorem opW_sound {o:AOp} {t:xJ} {H:AHeap} {Q:AVal→AHeap→Prop} (h:opW (Ret A) o t H Q):∃ n r,aop (qD A n) o t H=some r∧Q r.1 r.2:=by
 unfold opW at h
 split at h
 ·rename_i f args
  obtain ⟨n,r,h1,h2⟩:=h
  exact ⟨n,r,h1,h2⟩
 ·rename_i f args
  split at h
  ·rename_i g a b e
   obtain ⟨n,r,h1,h2⟩:=h
   refine ⟨n,r,?_,h2⟩
   simp only [aop,AOp.cls,aeff,e]; exact h1
  ·exact h.elim
 ·unfold zL at h
  split at h
  ·rename_i r e
   exact ⟨0,r,aop_le (noCall_le _) e,h⟩
  ·exact h.elim
theorem guardW_sound {o:AOper} {t:xJ} {H:AHeap} {Q:AVal→AHeap→Prop} (h:guardW o.guard t (opW (Ret A) o.op t H Q) (Q (.tuple []) H)):∃ n r,gop (qD A n) o t H=some r∧Q r.1 r.2:=by
 unfold guardW at h
 split at h
 ·rename_i hg
  obtain ⟨n,r,h1,h2⟩:=opW_sound h
  exact ⟨n,r,by simp only [gop,hg]; exact h1,h2⟩
 ·rename_i s want hg
  split at h
  ·rename_i b hb
   split at h
   ·rename_i hw
    obtain ⟨n,r,h1,h2⟩:=opW_sound h
    exact ⟨n,r,by simp only [gop,hg,hb,if_pos hw]; exact h1,h2⟩
   ·rename_i hw
    exact ⟨0,_,by simp only [gop,hg,hb,if_neg hw]; rfl,h⟩
  ·rename_i hb
   exact ⟨0,_,by simp only [gop,hg,hb]; rfl,h⟩
  ·exact h.elim
theorem opsW_sound:∀ {l:List AOper} {t:xJ} {H:AHeap} {Q:xJ→AHeap→Prop},opsW (Ret A) l t H Q→∃ n r,runOps (qD A n) l t H pair2=some r∧Q r.1 r.2
 | [],t,H,Q,h=>⟨0,(t,H),rfl,h⟩
 | o :: l,t,H,Q,h=>by
  obtain ⟨n,r,h1,h2⟩:=guardW_sound (Q:=fun v H1=>opsW (Ret A) l (tput t o.dst v) H1 Q) h
  obtain ⟨m,r2,h3,h4⟩:=opsW_sound h2
  refine ⟨max n m,r2,?_,h4⟩
  rw [runOps,gop_le (wU n (max n m) (Nat.le_max_left ..)) h1]
  exact runOps_le (wU m (max n m) (Nat.le_max_right ..)) (fun _ _ h=>h) l _ _ h3
theorem stepsW_sound:∀ {l:List DStep} {t:xJ} {H:AHeap} {Q:xJ→AHeap→Prop},yT (Ret A) l t H Q→∃ n r,zT (qD A n) l t H pair2=some r∧Q r.1 r.2
 | [],t,H,Q,h=>⟨0,(t,H),rfl,h⟩
 | .op i o :: l,t,H,Q,h=>by
  obtain ⟨n,r,h1,h2⟩:=guardW_sound (Q:=fun v H1=>yT (Ret A) l (tput t o.dst v) H1 Q) h
  obtain ⟨m,r2,h3,h4⟩:=stepsW_sound h2
  refine ⟨max n m,r2,?_,h4⟩
  rw [zT,gop_le (wU n (max n m) (Nat.le_max_left ..)) h1]
  exact runSteps_le (wU m (max n m) (Nat.le_max_right ..)) (fun _ _ h=>h) l _ _ h3
 | .re i o :: l,t,H,Q,h=>by
  simp only [yT,zL] at h
  split at h
  ·rename_i r e
   obtain ⟨m,r2,h3,h4⟩:=stepsW_sound h.2
   refine ⟨m,r2,?_,h4⟩
   rw [runSteps_re,gop_le (noCall_le _) e]
   simp only [bnd]
   rw [if_pos h.1]; exact h3
  ·exact h.elim

theorem wpx_sound:∀ (c:ACode) {t:xJ} {H:AHeap} {Q:PostT},wpx (Ret A) c t H Q→Run A c t H Q:=by
 intro c
 induction c with
 | skip=>intro t H Q h; exact ⟨0,_,rfl,h⟩
 | region ops =>
  intro t H Q h
  obtain ⟨n,r,h1,h2⟩:=opsW_sound h
  exact ⟨n,(.normal,r.1,r.2),by rw [exec,runOps_bind,h1]; rfl,h2⟩
 | dregion b st =>
  intro t H Q h
  obtain ⟨n,r,h1,h2⟩:=stepsW_sound h
  exact ⟨n,(.normal,r.1,r.2),by rw [exec,uC,h1]; rfl,h2⟩
 | seq a b iha ihb =>
  intro t H Q h
  obtain ⟨n,⟨e,t1,H1⟩,h1,h2⟩:=iha h
  cases e with
  | normal =>
   obtain ⟨m,r,h3,h4⟩:=ihb h2
   refine ⟨max n m,r,?_,h4⟩
   rw [exec,zA,exec_le (wU n (max n m) (Nat.le_max_left ..)) (Nat.le_max_left ..) a t H ret3 ret3 _ (fun _ _ _ h=>h) h1]
   exact exec_le (wU m (max n m) (Nat.le_max_right ..)) (Nat.le_max_right ..) b t1 H1 ret3 ret3 _ (fun _ _ _ h=>h) h3
  | exit i=>exact ⟨n,(.exit i,t1,H1),by rw [exec,zA,h1]; rfl,h2⟩
  | goto i=>exact ⟨n,(.goto i,t1,H1),by rw [exec,zA,h1]; rfl,h2⟩
  | ret=>exact ⟨n,(.ret,t1,H1),by rw [exec,zA,h1]; rfl,h2⟩
 | cond x a b iha ihb =>
  intro t H Q h
  simp only [wpx,condW] at h
  split at h
  ·rename_i e
   obtain ⟨n,r,h1,h2⟩:=iha h
   exact ⟨n,r,by rw [exec,e]; exact h1,h2⟩
  ·rename_i e
   obtain ⟨n,r,h1,h2⟩:=ihb h
   exact ⟨n,r,by rw [exec,e]; exact h1,h2⟩
  ·exact h.elim
 | block id a iha =>
  intro t H Q h
  obtain ⟨n,⟨e,t1,H1⟩,h1,h2⟩:=iha h
  cases e with
  | exit i =>
   simp only at h2
   split at h2
   ·rename_i e; exact ⟨n,(.normal,t1,H1),by rw [exec,zA,h1]; simp only [bnd,if_pos e]; rfl,h2⟩
   ·rename_i e; exact ⟨n,(.exit i,t1,H1),by rw [exec,zA,h1]; simp only [bnd,if_neg e]; rfl,h2⟩
  | normal=>exact ⟨n,(.normal,t1,H1),by rw [exec,zA,h1]; rfl,h2⟩
  | goto i=>exact ⟨n,(.goto i,t1,H1),by rw [exec,zA,h1]; rfl,h2⟩
  | ret=>exact ⟨n,(.ret,t1,H1),by rw [exec,zA,h1]; rfl,h2⟩
 | loop live out a iha =>
  intro t H Q h
  obtain ⟨I,m,h0,hI⟩:=h
  have key:∀ m t H,I m t H→∃ n r,iter (fun t H k=>exec (qD A n) n a t H k) live out n t H=some r∧Q r.1 r.2.1 r.2.2:=by
   intro m
   induction m using Nat.strongRecOn with
   | _ m ih =>
    intro t H hi
    obtain ⟨n,⟨e,t1,H1⟩,h1,h2⟩:=iha (hI m t H hi)
    cases e with
    | normal =>
     obtain ⟨m',hm',hi'⟩:=h2
     obtain ⟨n2,r,h3,h4⟩:=ih m' hm' _ _ hi'
     refine ⟨max n n2+1,r,?_,h4⟩
     have hn1:n≤max n n2+1:=by have:=Nat.le_max_left n n2; omega
     have hn2:n2≤max n n2+1:=by have:=Nat.le_max_right n n2; omega
     rw [iter,zA,exec_le (wU n (max n n2+1) hn1) hn1 a t H ret3 ret3 _ (fun _ _ _ h=>h) h1]
     simp only [bnd]
     exact iter_le (fun t H k k' hk hb=>exec_le (wU n2 (max n n2+1) hn2) hn2 a t H k k' _ hk hb) n2 _ _ _ (Nat.le_max_right ..) h3
    | exit i=>exact ⟨n+1,(.exit i,keep out t1,H1),by rw [iter,zA,exec_le (wU n (n+1) (Nat.le_succ n)) (Nat.le_succ n) a t H ret3 ret3 _ (fun _ _ _ h=>h) h1]; rfl,h2⟩
    | goto i=>exact ⟨n+1,(.goto i,keep out t1,H1),by rw [iter,zA,exec_le (wU n (n+1) (Nat.le_succ n)) (Nat.le_succ n) a t H ret3 ret3 _ (fun _ _ _ h=>h) h1]; rfl,h2⟩
    | ret=>exact ⟨n+1,(.ret,keep out t1,H1),by rw [iter,zA,exec_le (wU n (n+1) (Nat.le_succ n)) (Nat.le_succ n) a t H ret3 ret3 _ (fun _ _ _ h=>h) h1]; rfl,h2⟩
  obtain ⟨n,r,h1,h2⟩:=key m _ _ h0
  exact ⟨n,r,by rw [exec,h1]; rfl,h2⟩
 | join out a iha =>
  intro t H Q h
  obtain ⟨n,⟨e,t1,H1⟩,h1,h2⟩:=iha h
  refine ⟨n,(e,keep out t1,H1),?_,h2⟩
  rw [exec,zA,h1]; rfl
 | exit id=>intro t H Q h; exact ⟨0,_,rfl,h⟩
 | scope a l rest iha ihr =>
  intro t H Q h
  obtain ⟨n,⟨e,t1,H1⟩,h1,h2⟩:=iha h
  cases e with
  | goto i =>
   obtain ⟨rfl,h2⟩:=h2
   obtain ⟨m,⟨e,t2,H2⟩,h3,h4⟩:=ihr h2
   have hm:=exec_le (wU (A:=A) m (max n m) (Nat.le_max_right ..)) (Nat.le_max_right n m) rest t1 H1 ret3 ret3 _ (fun _ _ _ h=>h) h3
   refine ⟨max n m,(e,t2,H2),?_,?_⟩
   ·rw [exec,zA,exec_le (wU n (max n m) (Nat.le_max_left ..)) (Nat.le_max_left ..) a t H ret3 ret3 _ (fun _ _ _ h=>h) h1]
    simp only [bnd,if_pos]
    rw [zA,hm]
    cases e <;> first | rfl | exact h4.elim
   ·cases e <;> first | exact h4 | exact h4.elim
  | normal=>exact ⟨n,(.normal,t1,H1),by rw [exec,zA,h1]; rfl,h2⟩
  | exit i=>exact ⟨n,(.exit i,t1,H1),by rw [exec,zA,h1]; rfl,h2⟩
  | ret=>exact ⟨n,(.ret,t1,H1),by rw [exec,zA,h1]; rfl,h2⟩
 | goto l=>intro t H Q h; exact ⟨0,_,rfl,h⟩
 | ret=>intro t H Q h; exact ⟨0,_,rfl,h⟩

def retW (rs:List ARes) (Q:AVal→AHeap→Prop) (e:AExit) (t:xJ) (H:AHeap):Prop :=
 match e with
 | .normal=>zL (result rs t H) Q
 | .ret=>zL (result rs t H) Q
 | _=>False
theorem Ret.lib {f:Nat} (hf:A f=none) {args:List AVal} {H H':AHeap} {v:AVal} {Q:AVal→AHeap→Prop} (h:A.base f args H=some (v,H')) (hq:Q v H'):Ret A f args H Q:=by
 refine ⟨1,(v,H'),?_,hq⟩
 simp only [qD,hf]
 exact h
theorem Ret.of {f:Nat} {fn:AFn} (hf:A f=some fn) {args:List AVal} {H:AHeap} {Q:AVal→AHeap→Prop} (h:wpx (Ret A) fn.body (pad args fn.ntmps) H (retW fn.results Q)):Ret A f args H Q:=by
 obtain ⟨n,⟨e,t,H1⟩,h1,h2⟩:=wpx_sound _ h
 have fin:∀ {x:Option (AVal × AHeap)},zL x Q→∃ r,x=some r∧Q r.1 r.2:=by
  intro x hx
  unfold zL at hx
  split at hx
  ·exact ⟨_,rfl,hx⟩
  ·exact hx.elim
 cases e with
 | normal =>
  obtain ⟨r,h3,h4⟩:=fin h2
  refine ⟨n+1,r,?_,h4⟩
  simp only [qD,hf]
  rw [zA,h1]; exact h3
 | ret =>
  obtain ⟨r,h3,h4⟩:=fin h2
  refine ⟨n+1,r,?_,h4⟩
  simp only [qD,hf]
  rw [zA,h1]; exact h3
 | exit i=>exact h2.elim
 | goto i=>exact h2.elim
end
end Go.VAI

/- Going through code in words: laws that take one step each. -/
set_option linter.unusedVariables false
set_option linter.unusedSimpArgs false
namespace Go.VAI
open Go

section
variable {K:qG} {t:xJ} {H:AHeap} {Q:PostT} {R:xJ→AHeap→Prop} {W:AVal→AHeap→Prop}

def atV (x:Option AVal) (H:AHeap) (W:AVal→AHeap→Prop):Prop :=
 match x with
 | some v=>W v H
 | none=>False
def atH (x:Option AHeap) (W:AVal→AHeap→Prop):Prop :=
 match x with
 | some H=>W (.tuple []) H
 | none=>False
theorem atV_some {v:AVal}:atV (some v) H W=W v H:=rfl
theorem atH_some {H':AHeap}:atH (some H') W=W (.tuple []) H':=rfl
theorem atResult_some {r:AVal × AHeap}:zL (some r) W=W r.1 r.2:=rfl
def condK (K:qG) (c:AVal) (a b:ACode) (t:xJ) (H:AHeap) (Q:PostT):Prop:=condW c (wpx K a t H Q) (wpx K b t H Q)
theorem condK_true {a b:ACode}:condK K (.bool true) a b t H Q=wpx K a t H Q:=rfl
theorem condK_false {a b:ACode}:condK K (.bool false) a b t H Q=wpx K b t H Q:=rfl
theorem condK_pos {a b:ACode} {c:Prop} [Decidable c] (h:c):condK K (.bool (decide c)) a b t H Q=wpx K a t H Q:=by simp [condK,condW,h]
theorem condK_neg {a b:ACode} {c:Prop} [Decidable c] (h:¬ c):condK K (.bool (decide c)) a b t H Q=wpx K b t H Q:=by simp [condK,condW,h]
theorem condK_split {a b:ACode} {c:Prop} [Decidable c] (h1:c→wpx K a t H Q) (h2:¬ c→wpx K b t H Q):condK K (.bool (decide c)) a b t H Q:=by
 by_cases h:c
 ·rw [condK_pos h]; exact h1 h
 ·rw [condK_neg h]; exact h2 h
def thenB (id:Nat) (Q:PostT) (e:AExit) (t:xJ) (H:AHeap):Prop :=
 match e with
 | .exit i=>if i=id then Q .normal t H else Q (.exit i) t H
 | e=>Q e t H
def thenJ (out:List Bool) (Q:PostT) (e:AExit) (t:xJ) (H:AHeap):Prop:=Q e (keep out t) H
theorem wpx_skip:wpx K .skip t H Q=Q .normal t H:=rfl
theorem wpx_region {l:List AOper}:wpx K (.region l) t H Q=opsW K l t H (Q .normal):=rfl
theorem wpx_dregion {b:List (List Nat)} {l:List DStep}:wpx K (.dregion b l) t H Q=yT K l t H (Q .normal):=rfl
theorem wpx_cond {c:AOpd} {a b:ACode}:wpx K (.cond c a b) t H Q=condK K (c.ev t) a b t H Q:=rfl
theorem wpx_block {id:Nat} {a:ACode}:wpx K (.block id a) t H Q=wpx K a t H (thenB id Q):=rfl
theorem wpx_join {out:List Bool} {a:ACode}:wpx K (.join out a) t H Q=wpx K a t H (thenJ out Q):=rfl
theorem wpx_exit {id:Nat}:wpx K (.exit id) t H Q=Q (.exit id) t H:=rfl
theorem wpx_ret:wpx K .ret t H Q=Q .ret t H:=rfl
theorem wpx_goto {l:Nat}:wpx K (.goto l) t H Q=Q (.goto l) t H:=rfl
theorem thenW_normal {b:ACode}:thenW K b Q .normal t H=wpx K b t H Q:=rfl
theorem thenW_exit {b:ACode} {i:Nat}:thenW K b Q (.exit i) t H=Q (.exit i) t H:=rfl
theorem thenW_goto {b:ACode} {i:Nat}:thenW K b Q (.goto i) t H=Q (.goto i) t H:=rfl
theorem thenW_ret {b:ACode}:thenW K b Q .ret t H=Q .ret t H:=rfl
theorem thenB_normal {id:Nat}:thenB id Q .normal t H=Q .normal t H:=rfl
theorem thenB_ret {id:Nat}:thenB id Q .ret t H=Q .ret t H:=rfl
theorem thenB_goto {id i:Nat}:thenB id Q (.goto i) t H=Q (.goto i) t H:=rfl
theorem thenB_same {id:Nat}:thenB id Q (.exit id) t H=Q .normal t H:=by simp [thenB]
theorem thenJ_def {out:List Bool} {e:AExit}:thenJ out Q e t H=Q e (keep out t) H:=rfl
theorem retW_normal {rs:List ARes}:retW rs W .normal t H=zL (result rs t H) W:=rfl
theorem retW_ret {rs:List ARes}:retW rs W .ret t H=zL (result rs t H) W:=rfl

def loopW (K:qG) (live out:List Bool) (I:Nat→xJ→AHeap→Prop) (m:Nat) (Q:PostT) (e:AExit) (t:xJ) (H:AHeap):Prop :=
 match e with
 | .normal=>∃ m',m' < m∧I m' (keep live t) H
 | e=>Q e (keep out t) H
theorem xS {live out:List Bool} {a:ACode} (I:Nat→xJ→AHeap→Prop) (m:Nat) (h0:I m (keep live t) H) (h:∀ m t H,I m t H→wpx K a t H (loopW K live out I m Q)):wpx K (.loop live out a) t H Q:=⟨I,m,h0,h⟩
theorem loopW_exit {live out:List Bool} {I:Nat→xJ→AHeap→Prop} {m i:Nat}:loopW K live out I m Q (.exit i) t H=Q (.exit i) (keep out t) H:=rfl
theorem loopW_ret {live out:List Bool} {I:Nat→xJ→AHeap→Prop} {m:Nat}:loopW K live out I m Q .ret t H=Q .ret (keep out t) H:=rfl
theorem loopW_normal {live out:List Bool} {I:Nat→xJ→AHeap→Prop} {m:Nat}:loopW K live out I m Q .normal t H=∃ m',m' < m∧I m' (keep live t) H:=rfl

def nextW (K:qG) (os:List AOper) (d:Option Nat) (t:xJ) (R:xJ→AHeap→Prop) (v:AVal) (H:AHeap):Prop:=opsW K os (tput t d v) H R
def nextS (K:qG) (os:List DStep) (d:Option Nat) (t:xJ) (R:xJ→AHeap→Prop) (v:AVal) (H:AHeap):Prop:=yT K os (tput t d v) H R
theorem nextW_some {os:List AOper} {d:Nat} {v:AVal}:nextW K os (some d) t R v H=opsW K os (tset t d v) H R:=rfl
theorem nextW_none {os:List AOper} {v:AVal}:nextW K os none t R v H=opsW K os t H R:=rfl
theorem nextS_some {os:List DStep} {d:Nat} {v:AVal}:nextS K os (some d) t R v H=yT K os (tset t d v) H R:=rfl
theorem nextS_none {os:List DStep} {v:AVal}:nextS K os none t R v H=yT K os t H R:=rfl
theorem opsW_nil:opsW K [] t H R=R t H:=rfl
theorem opsW_cons {d:Option Nat} {o:AOp} {os:List AOper}:opsW K (⟨d,o,none⟩ :: os) t H R=opW K o t H (nextW K os d t R):=rfl
def guardK (K:qG) (g:AVal) (w:Bool) (d:Option Nat) (o:AOp) (os:List AOper) (t:xJ) (H:AHeap) (R:xJ→AHeap→Prop):Prop :=
 match g with
 | .bool b=>if b=w then opW K o t H (nextW K os d t R) else nextW K os d t R (.tuple []) H
 | .tuple []=>nextW K os d t R (.tuple []) H
 | _=>False
theorem opsW_guard {d:Option Nat} {o:AOp} {s:Nat} {os:List AOper} {w:Bool}:opsW K (⟨d,o,some (s,w)⟩ :: os) t H R=guardK K (yA t s) w d o os t H R:=rfl
theorem guardK_tt {d:Option Nat} {o:AOp} {os:List AOper}:guardK K (.bool true) true d o os t H R=opW K o t H (nextW K os d t R):=rfl
theorem guardK_ff {d:Option Nat} {o:AOp} {os:List AOper}:guardK K (.bool false) false d o os t H R=opW K o t H (nextW K os d t R):=rfl
theorem guardK_tf {d:Option Nat} {o:AOp} {os:List AOper}:guardK K (.bool true) false d o os t H R=nextW K os d t R (.tuple []) H:=rfl
theorem guardK_ft {d:Option Nat} {o:AOp} {os:List AOper}:guardK K (.bool false) true d o os t H R=nextW K os d t R (.tuple []) H:=rfl
theorem guardK_no {w:Bool} {d:Option Nat} {o:AOp} {os:List AOper}:guardK K (.tuple []) w d o os t H R=nextW K os d t R (.tuple []) H:=rfl
theorem stepsW_nil:yT K [] t H R=R t H:=rfl
theorem stepsW_cons {i:Nat} {d:Option Nat} {o:AOp} {os:List DStep}:yT K (.op i ⟨d,o,none⟩ :: os) t H R=opW K o t H (nextS K os d t R):=rfl
def guardS (K:qG) (g:AVal) (w:Bool) (d:Option Nat) (o:AOp) (os:List DStep) (t:xJ) (H:AHeap) (R:xJ→AHeap→Prop):Prop :=
 match g with
 | .bool b=>if b=w then opW K o t H (nextS K os d t R) else nextS K os d t R (.tuple []) H
 | .tuple []=>nextS K os d t R (.tuple []) H
 | _=>False
theorem stepsW_guard {i:Nat} {d:Option Nat} {o:AOp} {s:Nat} {os:List DStep} {w:Bool}:yT K (.op i ⟨d,o,some (s,w)⟩ :: os) t H R=guardS K (yA t s) w d o os t H R:=rfl
theorem guardS_tt {d:Option Nat} {o:AOp} {os:List DStep}:guardS K (.bool true) true d o os t H R=opW K o t H (nextS K os d t R):=rfl
theorem guardS_ff {d:Option Nat} {o:AOp} {os:List DStep}:guardS K (.bool false) false d o os t H R=opW K o t H (nextS K os d t R):=rfl
theorem guardS_tf {d:Option Nat} {o:AOp} {os:List DStep}:guardS K (.bool true) false d o os t H R=nextS K os d t R (.tuple []) H:=rfl
theorem guardS_ft {d:Option Nat} {o:AOp} {os:List DStep}:guardS K (.bool false) true d o os t H R=nextS K os d t R (.tuple []) H:=rfl
theorem guardS_no {w:Bool} {d:Option Nat} {o:AOp} {os:List DStep}:guardS K (.tuple []) w d o os t H R=nextS K os d t R (.tuple []) H:=rfl
def reK (K:qG) (x:Option AVal) (v:AVal) (os:List DStep) (t:xJ) (H:AHeap) (R:xJ→AHeap→Prop):Prop :=
 match x with
 | some u=>AVal.beq u v=true∧yT K os t H R
 | none=>False
theorem vW {i d:Nat} {o:AOp} {os:List DStep} (hc:o.cls=.read):yT K (.re i ⟨some d,o,none⟩ :: os) t H R=reK K (vP o t H) (yA t d) os t H R:=by
 simp only [yT,gop,aop,hc,onlyV,reB]
 cases vP o t H <;> rfl
theorem stepsW_load1 {i d:Nat} {x:AOpd} {os:List DStep}:yT K (.re i ⟨some d,.load1 x,none⟩ :: os) t H R=reK K (aload1 H (x.ev t)) (yA t d) os t H R:=vW rfl
theorem stepsW_loadN {i d n:Nat} {x:AOpd} {os:List DStep}:yT K (.re i ⟨some d,.loadN n x,none⟩ :: os) t H R=reK K (aloadN H n (x.ev t)) (yA t d) os t H R:=vW rfl
theorem stepsW_sameBytes {i d:Nat} {x:AOpd} {os:List DStep}:yT K (.re i ⟨some d,.sameBytes x,none⟩ :: os) t H R=reK K (uJ H (x.ev t)) (yA t d) os t H R:=vW rfl
theorem stepsW_bytesToStr {i d:Nat} {x:AOpd} {os:List DStep}:yT K (.re i ⟨some d,.bytesToStr x,none⟩ :: os) t H R=reK K (uS H (x.ev t)) (yA t d) os t H R:=vW rfl
theorem stepsW_lenM {i d:Nat} {x:AOpd} {os:List DStep}:yT K (.re i ⟨some d,.lenM x,none⟩ :: os) t H R=reK K (alenM H (x.ev t)) (yA t d) os t H R:=vW rfl
theorem stepsW_lookup {i d:Nat} {k:KeyK} {z:AVal} {x y:AOpd} {ok:Bool} {os:List DStep}:yT K (.re i ⟨some d,.lookup k z x y ok,none⟩ :: os) t H R=reK K (alookup H k z (x.ev t) (y.ev t) ok) (yA t d) os t H R:=vW rfl
theorem xF {v:AVal} {os:List DStep} (h:AVal.beq v v=true):reK K (some v) v os t H R=yT K os t H R:=by simp only [reK,h,true_and]
theorem reK_int {k:IntKind} {n:Int} {os:List DStep}:reK K (some (.int k n)) (.int k n) os t H R=yT K os t H R:=xF (by simp [AVal.beq])
theorem reK_bool {b:Bool} {os:List DStep}:reK K (some (.bool b)) (.bool b) os t H R=yT K os t H R:=xF (by simp [AVal.beq])
theorem reK_str {b:ByteArray} {os:List DStep}:reK K (some (.str b)) (.str b) os t H R=yT K os t H R:=xF (by simp [AVal.beq])
theorem reK_ptr {a b:Nat} {os:List DStep}:reK K (some (.ptr a b)) (.ptr a b) os t H R=yT K os t H R:=xF (by simp [AVal.beq])
theorem reK_slice {a b c:Nat} {d:ACap} {os:List DStep}:reK K (some (.slice a b c d)) (.slice a b c d) os t H R=yT K os t H R:=xF (by simp [AVal.beq])
theorem reK_nilSlice {os:List DStep}:reK K (some .nilSlice) .nilSlice os t H R=yT K os t H R:=xF (by simp [AVal.beq])

theorem opW_move {x:AOpd}:opW K (.move x) t H W=W (x.ev t) H:=rfl
theorem opW_pick {c a b:AOpd}:opW K (.pick c a b) t H W=atV (apick (c.ev t) (a.ev t) (b.ev t)) H W:=by
 simp only [opW,aop,AOp.cls,zU,onlyV]; cases apick (c.ev t) (a.ev t) (b.ev t) <;> rfl
theorem yX {x:Option AVal}:zL (onlyV x H) W=atV x H W:=by cases x <;> rfl
theorem onlyH_at {x:Option AHeap}:zL (onlyH x) W=atH x W:=by cases x <;> rfl
theorem opW_build {zs:List AVal} {ps:List (Nat × Nat × AOpd)}:opW K (.build zs ps) t H W=atV (bnd (afill zs (evp t ps)) fun cs=>some (.agg cs)) H W:=yX
theorem opW_nilCheck {x:AOpd}:opW K (.nilCheck x) t H W=atV (anilCheck (x.ev t)) H W:=yX
theorem opW_bin {op:BinOp} {e:EqK} {x y:AOpd}:opW K (.bin op e x y) t H W=atV (wW op e (x.ev t) (y.ev t)) H W:=yX
theorem opW_un {op:UnOp} {x:AOpd}:opW K (.un op x) t H W=atV (aun op (x.ev t)) H W:=yX
theorem opW_toInt {k:IntKind} {x:AOpd}:opW K (.toInt k x) t H W=atV (atoInt k (x.ev t)) H W:=yX
theorem opW_same {x:AOpd}:opW K (.same x) t H W=atV (asame (x.ev t)) H W:=yX
theorem opW_mkIface {y:TypeId} {x:AOpd}:opW K (.mkIface y x) t H W=atV (amkIface y (x.ev t)) H W:=yX
theorem opW_mkFunc {f:Fn} {a b:List AOpd}:opW K (.mkFunc f a b) t H W=W (.func f (evs t a) (evs t b)) H:=rfl
theorem opW_slice {sz:Nat} {x:AOpd} {lo hi mx:Option AOpd}:opW K (.slice sz x lo hi mx) t H W=atV (wB sz (x.ev t) (lo.map (AOpd.ev t)) (hi.map (AOpd.ev t)) (mx.map (AOpd.ev t))) H W:=yX
theorem opW_sliceStr {x:AOpd} {lo hi:Option AOpd}:opW K (.sliceStr x lo hi) t H W=atV (asliceStr (x.ev t) (lo.map (AOpd.ev t)) (hi.map (AOpd.ev t))) H W:=yX
theorem opW_fieldAddr {o:Nat} {x:AOpd}:opW K (.fieldAddr o x) t H W=atV (afieldAddr o (x.ev t)) H W:=yX
theorem opW_indexAddrS {sz:Nat} {x i:AOpd}:opW K (.indexAddrS sz x i) t H W=atV (xO sz (x.ev t) (i.ev t)) H W:=yX
theorem opW_indexAddrA {l sz:Nat} {x i:AOpd}:opW K (.indexAddrA l sz x i) t H W=atV (aindexAddrA l sz (x.ev t) (i.ev t)) H W:=yX
theorem opW_field {o sz:Nat} {g:Bool} {x:AOpd}:opW K (.field o sz g x) t H W=atV (afield o sz g (x.ev t)) H W:=yX
theorem opW_indexA {l sz:Nat} {g:Bool} {x i:AOpd}:opW K (.indexA l sz g x i) t H W=atV (aindexA l sz g (x.ev t) (i.ev t)) H W:=yX
theorem opW_indexStr {x i:AOpd}:opW K (.indexStr x i) t H W=atV (aindexStr (x.ev t) (i.ev t)) H W:=yX
theorem opW_extract {x:AOpd} {i:Nat}:opW K (.extract x i) t H W=atV (aextract i (x.ev t)) H W:=yX
theorem opW_lenS {x:AOpd}:opW K (.lenS x) t H W=atV (alenS (x.ev t)) H W:=yX
theorem opW_lenStr {x:AOpd}:opW K (.lenStr x) t H W=atV (alenStr (x.ev t)) H W:=yX
theorem opW_max {xs:List AOpd}:opW K (.max xs) t H W=atV (afolds amax2 (evs t xs)) H W:=yX
theorem opW_min {xs:List AOpd}:opW K (.min xs) t H W=atV (afolds amin2 (evs t xs)) H W:=yX
theorem opW_load1 {x:AOpd}:opW K (.load1 x) t H W=atV (aload1 H (x.ev t)) H W:=yX
theorem opW_loadN {n:Nat} {x:AOpd}:opW K (.loadN n x) t H W=atV (aloadN H n (x.ev t)) H W:=yX
theorem opW_sameBytes {x:AOpd}:opW K (.sameBytes x) t H W=atV (uJ H (x.ev t)) H W:=yX
theorem opW_bytesToStr {x:AOpd}:opW K (.bytesToStr x) t H W=atV (uS H (x.ev t)) H W:=yX
theorem opW_lookup {k:KeyK} {z:AVal} {x i:AOpd} {ok:Bool}:opW K (.lookup k z x i ok) t H W=atV (alookup H k z (x.ev t) (i.ev t) ok) H W:=yX
theorem opW_lenM {x:AOpd}:opW K (.lenM x) t H W=atV (alenM H (x.ev t)) H W:=yX
def newAt (x:Option (AObj × (Nat→AVal))) (H:AHeap) (W:AVal→AHeap→Prop):Prop :=
 match x with
 | some r=>W (r.2 H.next) (H.new r.1)
 | none=>False
theorem newAt_some {o:AObj} {f:Nat→AVal}:newAt (some (o,f)) H W=W (f H.next) (H.new o):=rfl
theorem newAt_at {x:Option (AObj × (Nat→AVal))}:zL (bnd x fun r=>some (r.2 H.next,H.new r.1)) W=newAt x H W:=by cases x <;> rfl
theorem opW_alloc {zs:List AVal}:opW K (.alloc zs) t H W=W (.ptr H.next 0) (H.new (.cells zs true)):=rfl
theorem opW_box {n:Nat} {x:AOpd}:opW K (.box n x) t H W=newAt (bnd (x.ev t).cells fun vs=>if vs.length=n then some (.cells vs true,fun y=>.ptr y 0) else none) H W:=newAt_at
theorem opW_buildSlice {zs:List AVal} {n:Nat} {ps:List (Nat × Nat × AOpd)}:opW K (.buildSlice zs n ps) t H W=newAt (bnd (afill zs (evp t ps)) fun cs=>some (.cells cs true,fun y=>.slice y 0 n (.exact n))) H W:=newAt_at
theorem opW_mkMap:opW K .mkMap t H W=W (.map H.next) (H.new (.amap [])):=rfl
theorem opW_mkSlice {zs:List AVal} {b:Nat} {l c:AOpd}:opW K (.mkSlice zs b l c) t H W=newAt (amkSlice zs b (l.ev t) (c.ev t)) H W:=newAt_at
theorem opW_store {n:Nat} {x v:AOpd}:opW K (.store n x v) t H W=atH (astore H n (x.ev t) (v.ev t)) W:=onlyH_at
theorem opW_mapUpdate {k:KeyK} {m a v:AOpd}:opW K (.mapUpdate k m a v) t H W=atH (uK H k (m.ev t) (a.ev t) (v.ev t)) W:=onlyH_at
theorem opW_append {s b:Nat} {x y:AOpd}:opW K (.append s b x y) t H W=zL (zY H s b (x.ev t) (y.ev t)) W:=rfl
theorem opW_call {f:Nat} {xs:List AOpd}:opW K (.call f xs) t H W=K f (evs t xs) H W:=rfl
theorem ev_tmp {i:Nat}:(AOpd.tmp i).ev t=yA t i:=rfl
theorem ev_con {v:AVal}:(AOpd.con v).ev t=v:=rfl
end
theorem xH {z:Int} (h1 : -9223372036854775808≤z) (h2:z < 9223372036854775808):IntKind.i64.wrap z=z:=by
 have e1:(2:Int) ^ 64=18446744073709551616:=by decide
 have e2:(2:Int) ^ (64 - 1)=9223372036854775808:=by decide
 simp only [IntKind.wrap,IntKind.bits,IntKind.signed,Bool.true_and,e1,e2,decide_eq_true_eq]
 split <;> omega
section
variable {a b:Int} {k:IntKind} {e:EqK}
theorem abin_add:wW .add e (.int k a) (.int k b)=some (.int k (k.wrap (a+b))):=by simp [wW,zX,aint]
theorem abin_sub:wW .sub e (.int k a) (.int k b)=some (.int k (k.wrap (a - b))):=by simp [wW,zX,aint]
theorem abin_mul:wW .mul e (.int k a) (.int k b)=some (.int k (k.wrap (a*b))):=by simp [wW,zX,aint]
theorem abin_quo (h:b≠0):wW .quo e (.int k a) (.int k b)=some (.int k (k.wrap (a.tdiv b))):=by simp [wW,zX,aint,h]
theorem abin_rem (h:b≠0):wW .rem e (.int k a) (.int k b)=some (.int k (a.tmod b)):=by simp [wW,zX,aint,h]
theorem abin_eql:wW .eql e (.int k a) (.int k b)=some (.bool (decide (a=b))):=by simp [wW,zX,aint]
theorem abin_neq:wW .neq e (.int k a) (.int k b)=some (.bool (decide (a≠b))):=by simp [wW,zX,aint]
theorem abin_lss:wW .lss e (.int k a) (.int k b)=some (.bool (decide (a < b))):=by simp [wW,zX,aint]
theorem abin_leq:wW .leq e (.int k a) (.int k b)=some (.bool (decide (a≤b))):=by simp [wW,zX,aint]
theorem abin_gtr:wW .gtr e (.int k a) (.int k b)=some (.bool (decide (b < a))):=by simp [wW,zX,aint]
theorem abin_geq:wW .geq e (.int k a) (.int k b)=some (.bool (decide (b≤a))):=by simp [wW,zX,aint]
end

def orI (k:IntKind) (a b:Int):Int:=k.wrap (BitVec.ofInt k.bits a ||| BitVec.ofInt k.bits b).toNat
def andI (k:IntKind) (a b:Int):Int:=k.wrap (BitVec.ofInt k.bits a &&& BitVec.ofInt k.bits b).toNat
def shlI (k:IntKind) (a b:Int):Int:=k.wrap (a*2 ^ (Nat.min b.toNat k.bits))
def shrI (k:IntKind) (a b:Int):Int:=a.fdiv (2 ^ (Nat.min b.toNat k.bits))
section
variable {a b:Int} {k l:IntKind} {e:EqK}
theorem abin_or:wW .or e (.int k a) (.int k b)=some (.int k (orI k a b)):=by simp [wW,zX,aint,orI]
theorem abin_and:wW .and e (.int k a) (.int k b)=some (.int k (andI k a b)):=by simp [wW,zX,aint,andI]
theorem abin_shl (h:0≤b):wW .shl e (.int k a) (.int l b)=some (.int k (shlI k a b)):=by
 have:¬ b < 0:=by omega
 simp [wW,zX,ashift,shlI,this]
theorem abin_shr (h:0≤b):wW .shr e (.int k a) (.int l b)=some (.int k (shrI k a b)):=by
 have:¬ b < 0:=by omega
 simp [wW,zX,ashift,shrI,this]
theorem atoInt_int:atoInt k (.int l a)=some (.int k (k.wrap a)):=rfl
theorem wrapU64 (h1:0≤a) (h2:a < 18446744073709551616):IntKind.u64.wrap a=a:=by
 have e1:(2:Int) ^ 64=18446744073709551616:=by decide
 simp only [IntKind.wrap,IntKind.bits,IntKind.signed,Bool.false_and,e1,Bool.false_eq_true,if_false]
 omega
end
theorem tget_zero {v:AVal} {t:xJ}:yA (v :: t) 0=v:=rfl
theorem tget_succ {v:AVal} {t:xJ} {n:Nat}:yA (v :: t) (n+1)=yA t n:=rfl
theorem tset_zero {v x:AVal} {t:xJ}:tset (v :: t) 0 x=x :: t:=rfl
theorem tset_succ {v x:AVal} {t:xJ} {n:Nat}:tset (v :: t) (n+1) x=v :: tset t n x:=rfl
theorem keep_nil {l:List Bool}:keep l []=[]:=by cases l with | nil=>rfl | cons b l=>cases b <;> rfl
theorem keep_over {v:AVal} {t:xJ}:keep [] (v :: t)=.bot :: keep [] t:=rfl
theorem keep_true {l:List Bool} {v:AVal} {t:xJ}:keep (true :: l) (v :: t)=v :: keep l t:=rfl
theorem keep_false {l:List Bool} {v:AVal} {t:xJ}:keep (false :: l) (v :: t)=.bot :: keep l t:=rfl
theorem pad_cons {v:AVal} {l:List AVal} {n:Nat}:pad (v :: l) (n+1)=v :: pad l n:=by simp [pad]
theorem pad_nil {n:Nat}:pad [] (n+1)=.bot :: pad [] n:=by simp [pad,List.replicate]
theorem pad_end:pad [] 0=[]:=rfl
theorem bnd_def {α β:Type} {a:α} {f:α→Option β}:bnd (some a) f=f a:=rfl
theorem evs_nil {t:xJ}:evs t []=[]:=rfl
theorem evs_cons {t:xJ} {x:AOpd} {l:List AOpd}:evs t (x :: l)=x.ev t :: evs t l:=rfl
theorem evp_nil {t:xJ}:evp t []=[]:=rfl
theorem evp_cons {t:xJ} {i j:Nat} {x:AOpd} {l:List (Nat × Nat × AOpd)}:evp t ((i,j,x) :: l)=(i,j,x.ev t) :: evp t l:=rfl
theorem aun_not {b:Bool}:aun .not (.bool b)=some (.bool !b):=rfl
theorem aun_neg {k:IntKind} {n:Int}:aun .neg (.int k n)=some (.int k (k.wrap (0 - n))):=rfl
def notBot (v:AVal):Option AVal:=match v with | .bot=>none | v=>some v
theorem ares_tmp {t:xJ} {H:AHeap} {i:Nat}:ares t H (.tmp i)=notBot (yA t i):=rfl
theorem ares_cell {t:xJ} {H:AHeap} {n i:Nat}:ares t H (.cell n false i)=aload1 H (yA t i):=rfl
theorem ares_cells {t:xJ} {H:AHeap} {n i:Nat}:ares t H (.cell n true i)=aloadN H n (yA t i):=rfl
theorem notBot_int {k:IntKind} {n:Int}:notBot (.int k n)=some (.int k n):=rfl
theorem notBot_bool {b:Bool}:notBot (.bool b)=some (.bool b):=rfl
theorem notBot_str {b:ByteArray}:notBot (.str b)=some (.str b):=rfl
theorem notBot_agg {b:List AVal}:notBot (.agg b)=some (.agg b):=rfl
theorem notBot_slice {a b c:Nat} {d:ACap}:notBot (.slice a b c d)=some (.slice a b c d):=rfl
theorem notBot_ptr {a b:Nat}:notBot (.ptr a b)=some (.ptr a b):=rfl
theorem notBot_nilSlice:notBot .nilSlice=some .nilSlice:=rfl
theorem result_one {r:ARes} {t:xJ} {H:AHeap}:result [r] t H=bnd (ares t H r) fun v=>some (v,H):=rfl
theorem result_none {t:xJ} {H:AHeap}:result [] t H=some (.tuple [],H):=rfl
theorem result_two {a b:ARes} {l:List ARes} {t:xJ} {H:AHeap}:result (a :: b :: l) t H=bnd (aresl t H (a :: b :: l)) fun vs=>some (.tuple vs,H):=rfl
theorem aresl_nil {t:xJ} {H:AHeap}:aresl t H []=some []:=rfl
theorem aresl_cons {a:ARes} {l:List ARes} {t:xJ} {H:AHeap}:aresl t H (a :: l)=bnd (ares t H a) fun v=>bnd (aresl t H l) fun vs=>some (v :: vs):=rfl

set_option linter.defProp false in
def vai:=And.intro @condK_true (And.intro @condK_false (And.intro @wpx_skip (And.intro @wpx_region (And.intro @wpx_dregion (And.intro @wpx_seq (And.intro @wpx_cond (And.intro @wpx_block (And.intro @wpx_join (And.intro @wpx_exit (And.intro @wpx_ret (And.intro @wpx_goto (And.intro @thenW_normal (And.intro @thenW_exit (And.intro @thenW_goto (And.intro @thenW_ret (And.intro @thenB_normal (And.intro @thenB_ret (And.intro @thenB_goto (And.intro @thenB_same (And.intro @thenJ_def (And.intro @retW_normal (And.intro @retW_ret (And.intro @loopW_exit (And.intro @loopW_ret (And.intro @loopW_normal (And.intro @nextW_some (And.intro @nextW_none (And.intro @nextS_some (And.intro @nextS_none (And.intro @opsW_nil (And.intro @opsW_cons (And.intro @opsW_guard (And.intro @guardK_tt (And.intro @guardK_ff (And.intro @guardK_tf (And.intro @guardK_ft (And.intro @guardK_no (And.intro @stepsW_nil (And.intro @stepsW_cons (And.intro @stepsW_guard (And.intro @guardS_tt (And.intro @guardS_ff (And.intro @guardS_tf (And.intro @guardS_ft (And.intro @guardS_no (And.intro @stepsW_load1 (And.intro @stepsW_loadN (And.intro @stepsW_sameBytes (And.intro @stepsW_bytesToStr (And.intro @stepsW_lenM (And.intro @stepsW_lookup (And.intro @reK_int (And.intro @reK_bool (And.intro @reK_str (And.intro @reK_ptr (And.intro @reK_slice (And.intro @reK_nilSlice (And.intro @opW_move (And.intro @opW_pick (And.intro @opW_build (And.intro @opW_nilCheck (And.intro @opW_bin (And.intro @opW_un (And.intro @opW_toInt (And.intro @opW_same (And.intro @opW_mkIface (And.intro @opW_mkFunc (And.intro @opW_slice (And.intro @opW_sliceStr (And.intro @opW_fieldAddr (And.intro @opW_indexAddrS (And.intro @opW_indexAddrA (And.intro @opW_field (And.intro @opW_indexA (And.intro @opW_indexStr (And.intro @opW_extract (And.intro @opW_lenS (And.intro @opW_lenStr (And.intro @opW_max (And.intro @opW_min (And.intro @opW_load1 (And.intro @opW_loadN (And.intro @opW_sameBytes (And.intro @opW_bytesToStr (And.intro @opW_lookup (And.intro @opW_lenM (And.intro @opW_alloc (And.intro @opW_box (And.intro @opW_buildSlice (And.intro @opW_mkMap (And.intro @opW_mkSlice (And.intro @opW_store (And.intro @opW_mapUpdate (And.intro @opW_append (And.intro @opW_call (And.intro @atV_some (And.intro @atH_some (And.intro @atResult_some (And.intro @newAt_some (And.intro @ev_tmp (And.intro @ev_con (And.intro @tget_zero (And.intro @tget_succ (And.intro @tset_zero (And.intro @tset_succ (And.intro @keep_nil (And.intro @keep_over (And.intro @keep_true (And.intro @keep_false (And.intro @pad_cons (And.intro @pad_nil (And.intro @pad_end (And.intro @bnd_def (And.intro @evs_nil (And.intro @evs_cons (And.intro @evp_nil (And.intro @evp_cons (And.intro @aun_not (And.intro @aun_neg (And.intro @ares_tmp (And.intro @ares_cell (And.intro @ares_cells (And.intro @notBot_int (And.intro @notBot_bool (And.intro @notBot_str (And.intro @notBot_agg (And.intro @notBot_slice (And.intro @notBot_ptr (And.intro @notBot_nilSlice (And.intro @result_one (And.intro @result_none (And.intro @result_two (And.intro @aresl_nil (And.intro @aresl_cons (And.intro @abin_or (And.intro @abin_and (And.intro @abin_shl (And.intro @abin_shr (And.intro @atoInt_int (And.intro @abin_add (And.intro @abin_sub (And.intro @abin_mul (And.intro @abin_quo (And.intro @abin_rem (And.intro @abin_eql (And.intro @abin_neq (And.intro @abin_lss (And.intro @abin_leq (And.intro @abin_gtr (@abin_geq))))))))))))))))))))))))))))))))))))))))))))))))))))))))))))))))))))))))))))))))))))))))))))))))))))))))))))))))))))))))))))))))))))))))))))))))))))))
end Go.VAI

/- Words for memory: what an object is behind a step; rows of numbers; what a call leaves. -/
set_option linter.unusedVariables false
set_option linter.unusedSimpArgs false
namespace Go.VAI
open Go

section
variable {H:AHeap} {id i:Nat} {o:AObj} {x:Option AObj}
theorem xB:(H.new o).next=H.next+1:=(Eq.refl (H.next+1)).trans (Eq.refl _)
theorem xC:(H.upd id x).next=H.next:=(Eq.refl H.next).trans (Eq.refl _)
theorem yB (h:i=H.next):(H.new o).obj i=some o:=by simp [AHeap.new,h]
theorem xX (h:i≠H.next):(H.new o).obj i=H.obj i:=by simp [AHeap.new,h]
theorem xN (h:i=id):(H.upd id x).obj i=x:=by simp [AHeap.upd,h]
theorem xQ (h:i≠id):(H.upd id x).obj i=H.obj i:=by simp [AHeap.upd,h]

def cellsOf:Option AObj→Option (List AVal)
 | some (.cells c _)=>some c
 | _=>none
def uH:Option AObj→Option (List AVal)
 | some (.cells c true)=>some c
 | _=>none
def entriesOf:Option AObj→Option (List (AVal × AVal))
 | some (.amap c)=>some c
 | _=>none
theorem cells?_of:H.cells? id=cellsOf (H.obj id):=by unfold AHeap.cells? cellsOf; rfl
theorem rw?_of:H.rw? id=uH (H.obj id):=by unfold AHeap.rw? uH; rfl
theorem map?_of:H.map? id=entriesOf (H.obj id):=by unfold AHeap.map? entriesOf; rfl
theorem cellsOf_some {c:List AVal} {rw:Bool}:cellsOf (some (.cells c rw))=some c:=rfl
theorem ownCellsOf_some {c:List AVal}:uH (some (.cells c true))=some c:=rfl
theorem entriesOf_some {c:List (AVal × AVal)}:entriesOf (some (.amap c))=some c:=rfl
theorem aload1_ptr {off:Nat}:aload1 H (.ptr id off)=bnd (cellsOf (H.obj id)) fun c=>c[off]? := by rw [← cells?_of]; rfl
theorem aloadN_ptr {n off:Nat}:aloadN H n (.ptr id off)=bnd (cellsOf (H.obj id)) fun c=>if off+n≤c.length then some (.agg ((c.drop off).take n)) else none:=by rw [← cells?_of]; rfl
theorem storeCells_of {off:Nat} {vs:List AVal}:storeCells H id off vs=bnd (uH (H.obj id)) fun c=>if off+vs.length≤c.length then some (H.upd id (some (.cells (yV c off vs) true))) else none:=by rw [← rw?_of]; rfl
theorem cells_int {k:IntKind} {n:Int}:(AVal.int k n).cells=some [.int k n]:=rfl
theorem cells_bool {b:Bool}:(AVal.bool b).cells=some [.bool b]:=rfl
theorem cells_str {b:ByteArray}:(AVal.str b).cells=some [.str b]:=rfl
theorem cells_agg {c:List AVal}:(AVal.agg c).cells=some c:=rfl
theorem cells_ptr {a b:Nat}:(AVal.ptr a b).cells=some [.ptr a b]:=rfl
theorem cells_slice {a b c:Nat} {d:ACap}:(AVal.slice a b c d).cells=some [.slice a b c d]:=rfl
theorem cells_nilSlice:AVal.nilSlice.cells=some [.nilSlice]:=rfl
theorem cells_func {f:Fn} {a b:List AVal}:(AVal.func f a b).cells=some [.func f a b]:=rfl
theorem astore_ptr {n off:Nat} {v:AVal}:astore H n (.ptr id off) v=bnd v.cells fun vs=>if vs.length=n then storeCells H id off vs else none:=rfl
theorem afieldAddr_ptr {o off:Nat}:afieldAddr o (.ptr id off)=some (.ptr id (off+o)):=rfl
theorem anilCheck_ptr {off:Nat}:anilCheck (.ptr id off)=some (.ptr id off):=rfl
theorem alenS_slice {off len:Nat} {c:ACap}:alenS (.slice id off len c)=some (.int .i64 len):=rfl
theorem alenS_nil:alenS .nilSlice=some (.int .i64 0):=rfl
theorem alenStr_str {s:ByteArray}:alenStr (.str s)=some (.int .i64 s.size):=rfl
theorem aextract_tuple {i:Nat} {l:List AVal}:aextract i (.tuple l)=l[i]? := rfl
theorem apick_true {a b:AVal}:apick (.bool true) a b=some a:=rfl
theorem apick_false {a b:AVal}:apick (.bool false) a b=some b:=rfl
theorem afill_nil {cs:List AVal}:afill cs []=some cs:=rfl
theorem afill_cons {cs:List AVal} {off sz:Nat} {v:AVal} {r:List (Nat × Nat × AVal)}:afill cs ((off,sz,v) :: r)=bnd v.cells fun vs=>if vs.length=sz∧off+sz≤cs.length then afill (yV cs off vs) r else none:=rfl
theorem xM {sz off len:Nat} {c:ACap} {k:IntKind} {j:Int} (h:0≤j∧j < len):xO sz (.slice id off len c) (.int k j)=some (.ptr id (off+j.toNat*sz)):=by simp only [xO,if_pos h]
theorem splice_nil {c:List AVal}:yV c 0 []=c:=by simp [yV]
theorem splice_zero {c vs:List AVal} {v u:AVal}:yV (u :: c) 0 (v :: vs)=v :: yV c 0 vs:=by simp [yV]
theorem splice_succ {c vs:List AVal} {u:AVal} {n:Nat}:yV (u :: c) (n+1) vs=u :: yV c n vs:=by simp [yV,Nat.add_right_comm]
end
theorem len_cons {α:Type} {a:α} {l:List α}:(a :: l).length=l.length+1:=rfl
theorem len_nil {α:Type}:([]:List α).length=0:=rfl
theorem at_zero {α:Type} {a:α} {l:List α}:(a :: l)[0]? = some a:=rfl
theorem at_succ {α:Type} {a:α} {l:List α} {n:Nat}:(a :: l)[n+1]? = l[n]? := rfl
theorem drop_zero' {α:Type} {l:List α}:l.drop 0=l:=rfl
theorem drop_succ' {α:Type} {a:α} {l:List α} {n:Nat}:(a :: l).drop (n+1)=l.drop n:=rfl
theorem take_zero' {α:Type} {l:List α}:l.take 0=[]:=by simp
theorem take_succ' {α:Type} {a:α} {l:List α} {n:Nat}:(a :: l).take (n+1)=a :: l.take n:=rfl
theorem map_some' {α β:Type} {a:α} {f:α→β}:(some a).map f=some (f a):=rfl
theorem map_none' {α β:Type} {f:α→β}:(none:Option α).map f=none:=rfl
theorem ncons_app {α:Type} {a:α} {l m:List α}:(a :: l)++m=a :: (l++m):=rfl
theorem nil_app {α:Type} {m:List α}:[]++m=m:=rfl
theorem tn0:Int.toNat 0=0:=rfl
set_option linter.defProp false
def xI:=And.intro @xB (And.intro @xC (And.intro @yB (And.intro @xX (And.intro @xN (And.intro @xQ (And.intro @cells?_of (And.intro @rw?_of (And.intro @map?_of (And.intro @cellsOf_some (And.intro @ownCellsOf_some (And.intro @entriesOf_some (And.intro @aload1_ptr (And.intro @aloadN_ptr (And.intro @storeCells_of (And.intro @cells_int (And.intro @cells_bool (And.intro @cells_str (And.intro @cells_agg (And.intro @cells_ptr (And.intro @cells_slice (And.intro @cells_nilSlice (And.intro @cells_func (And.intro @astore_ptr (And.intro @afieldAddr_ptr (And.intro @anilCheck_ptr (And.intro @alenS_slice (And.intro @alenS_nil (And.intro @alenStr_str (And.intro @aextract_tuple (And.intro @apick_true (And.intro @apick_false (And.intro @afill_nil (And.intro @afill_cons (And.intro @xM (And.intro @splice_nil (And.intro @splice_zero (And.intro @splice_succ (And.intro @len_cons (And.intro @len_nil (And.intro @at_zero (And.intro @at_succ (And.intro @drop_zero' (And.intro @drop_succ' (And.intro @take_zero' (And.intro @take_succ' (And.intro @map_some' (And.intro @map_none' (And.intro @ncons_app (And.intro @nil_app (And.intro @tn0 (And.intro @Nat.zero_add (And.intro @Nat.add_zero (And.intro @Nat.mul_one (And.intro @Nat.le_refl (And.intro @true_and (And.intro @and_true (@and_self)))))))))))))))))))))))))))))))))))))))))))))))))))))))))

structure Keep (M:Nat→Prop) (H H':AHeap):Prop where
 next:H.next≤H'.next
 obj:∀ i,i < H.next→¬ M i→H'.obj i=H.obj i
theorem Keep.refl (M:Nat→Prop) (H:AHeap):Keep M H H:=⟨Nat.le_refl _,fun _ _ _=>rfl⟩
theorem Keep.trans {M:Nat→Prop} {H H1 H2:AHeap} (h:Keep M H H1) (k:Keep M H1 H2):Keep M H H2:=⟨Nat.le_trans h.next k.next,fun i hi hm=>by rw [k.obj i (Nat.lt_of_lt_of_le hi h.next) hm,h.obj i hi hm]⟩
theorem Keep.mono {M N:Nat→Prop} {H H':AHeap} (h:Keep M H H') (hm:∀ i,i < H.next→M i→N i):Keep N H H':=⟨h.next,fun i hi hn=>h.obj i hi (fun hM=>hn (hm i hi hM))⟩
theorem Keep.new {M:Nat→Prop} {H H':AHeap} (h:Keep M H H') (o:AObj):Keep M H (H'.new o):=⟨Nat.le_succ_of_le h.next,fun i hi hm=>by rw [xX (by have:=h.next; omega)]; exact h.obj i hi hm⟩
theorem Keep.upd {M:Nat→Prop} {H H':AHeap} (h:Keep M H H') {id:Nat} (hid:H.next≤id∨M id) (o:Option AObj):Keep M H (H'.upd id o):=⟨h.next,fun i hi hm=>by
 rw [xQ]
 ·exact h.obj i hi hm
 ·rintro rfl
  rcases hid with hid | hid
  ·omega
  ·exact hm hid⟩
def Nothing:Nat→Prop:=fun _=>False

inductive Row (H:AHeap):AVal→Nat→List AVal→Prop where
 | nil {sz:Nat}:Row H .nilSlice sz []
 | mk {id off len sz:Nat} {cap:ACap} {c cs:List AVal} (hid:id < H.next) (h:H.cells? id=some c) (hlen:off+len*sz≤c.length) (hcs:(c.drop off).take (len*sz)=cs):Row H (.slice id off len cap) sz cs

inductive Grown (lo:Nat) (H:AHeap):AVal→Nat→List AVal→Prop where
 | nil {sz:Nat}:Grown lo H .nilSlice sz []
 | mk {id len sz:Nat} {cs:List AVal} (hlo:lo≤id) (hhi:id < H.next) (ho:H.obj id=some (.cells cs true)) (hlen:cs.length=len*sz):Grown lo H (.slice id 0 len (.room sz)) sz cs
theorem Grown.row {lo sz:Nat} {H:AHeap} {v:AVal} {cs:List AVal} (h:Grown lo H v sz cs):Row H v sz cs:=by
 cases h with
 | nil=>exact .nil
 | mk hlo hhi ho hlen=>exact .mk (c:=cs) hhi (by rw [cells?_of,ho]; rfl) (by omega) (by simp [← hlen])
theorem Grown.keep {lo sz:Nat} {H H':AHeap} {v:AVal} {cs:List AVal} (h:Grown lo H v sz cs) (hn:H.next≤H'.next) (hk:∀ i,lo≤i→i < H.next→H'.obj i=H.obj i):Grown lo H' v sz cs:=by
 cases h with
 | nil=>exact .nil
 | mk hlo hhi ho hlen=>exact .mk hlo (by omega) (by rw [hk _ hlo hhi]; exact ho) hlen
theorem Grown.keep' {lo lo' sz:Nat} {H H':AHeap} {v:AVal} {cs:List AVal} (h:Grown lo H v sz cs) (hn:lo'≤lo∧H.next≤H'.next) (hk:∀ i,lo≤i→i < H.next→H'.obj i=H.obj i):Grown lo' H' v sz cs:=by
 cases h with
 | nil=>exact .nil
 | mk hlo hhi ho hlen=>exact .mk (by omega) (by omega) (by rw [hk _ hlo hhi]; exact ho) hlen
theorem Grown.upd {lo sz:Nat} {H:AHeap} {v:AVal} {cs:List AVal} (h:Grown lo H v sz cs) {id:Nat} (hid:id < lo) (o:Option AObj):Grown lo (H.upd id o) v sz cs:=h.keep (Nat.le_refl H.next) (fun j h1 _=>xQ (by omega))
theorem Grown.new {lo sz:Nat} {H:AHeap} {v:AVal} {cs:List AVal} (h:Grown lo H v sz cs) (o:AObj):Grown lo (H.new o) v sz cs:=h.keep (Nat.le_succ H.next) (fun j _ h2=>xX (by omega))
theorem Grown.cells {lo sz:Nat} {H:AHeap} {v:AVal} {cs:List AVal} (h:Grown lo H v sz cs):v.cells=some [v]:=by cases h <;> rfl
theorem Grown.isCell {lo sz:Nat} {H:AHeap} {v:AVal} {cs:List AVal} (h:Grown lo H v sz cs):v.isCell=true:=by cases h <;> rfl
theorem Grown.notBot {lo sz:Nat} {H:AHeap} {v:AVal} {cs:List AVal} (h:Grown lo H v sz cs):notBot v=some v:=by cases h <;> rfl
theorem taken_one {H:AHeap} {y sz k:Nat} {cap:ACap} {vs:List AVal} (h:H.cells? y=some vs) (hl:vs.length=k*sz):taken H sz (.slice y 0 k cap)=some (k,vs):=by
 simp [taken,h,bnd,← hl]
theorem Grown.append {lo sz bytes k n:Nat} {H:AHeap} {v x:AVal} {cs vs:List AVal} (h:Grown lo H v sz cs) (hx:taken H sz x=some (k,vs)) (hvs:vs.length=k*sz) (hk:0 < k) (hsz:0 < sz) (hn:cs.length=n*sz) (hb:(n+k)*bytes≤70368744177664) (hb0:0 < bytes) (hlo:lo≤H.next) :
  ∃ v' H',zY H sz bytes v x=some (v',H')∧H.next≤H'.next∧(∀ j,j < lo→H'.obj j=H.obj j)∧Grown lo H' v' sz (cs++vs):=by
 have hk0:k≠0:=by omega
 cases h with
 | nil =>
  have hn0:n=0:=by
   rcases Nat.eq_zero_or_pos n with h | h
   ·exact h
   ·have:=Nat.mul_pos h hsz; simp at hn; omega
  subst hn0
  refine ⟨.slice H.next 0 k (.room sz),H.new (.cells vs true),?_,Nat.le_succ _,fun j hj=>xX (by omega),.mk hlo (by rw [xB]; omega) (yB rfl) hvs⟩
  simp only [zY,hx,bnd,if_neg hk0]
  rw [if_pos ⟨by simpa using hb,hb0⟩]
 | @mk id len _ _ hlo' hhi ho hlen =>
  have hln:len=n:=by
   have:len*sz=n*sz:=by omega
   exact Nat.eq_of_mul_eq_mul_right hsz this
  subst hln
  refine ⟨.slice H.next 0 (len+k) (.room sz),(H.upd id none).new (.cells (cs++vs) true),?_,Nat.le_succ _,fun j hj=>?_,.mk hlo (by rw [xB,xC]; omega) (yB rfl) ?_⟩
  ·simp only [zY,hx,bnd,if_neg hk0,rw?_of,ho,uH]
   rw [if_pos ⟨hb,hb0⟩,if_pos (by refine ⟨?_,?_,?_⟩ <;> first | trivial | omega)]
   simp
  ·rw [xX (by rw [xC]; omega),xQ (by omega)]
  ·simp [hlen,hvs,Nat.add_mul]

theorem wC {lo sz bytes k n y:Nat} {H0 H:AHeap} {v:AVal} {cs vs:List AVal} {cap:ACap} {W:AVal→AHeap→Prop} (hg:Grown lo H0 v sz cs) (hn:H0.next≤H.next) (hkeep:∀ i,lo≤i→i < H0.next→H.obj i=H0.obj i)
  (hy:cellsOf (H.obj y)=some vs) (hvs:vs.length=k*sz) (hk:0 < k) (hsz:0 < sz) (hcs:cs.length=n*sz) (hb:(n+k)*bytes≤70368744177664) (hb0:0 < bytes) (hlo:lo≤H.next)
  (hW:∀ v' H',H.next≤H'.next→(∀ j,j < lo→H'.obj j=H.obj j)→Grown lo H' v' sz (cs++vs)→W v' H'):zL (zY H sz bytes v (.slice y 0 k cap)) W:=by
 obtain ⟨v',H',h1,h2,h3,h4⟩:=(hg.keep hn hkeep).append (taken_one (by rw [cells?_of]; exact hy) hvs) hvs hk hsz hcs hb hb0 hlo
 rw [h1]
 exact hW v' H' h2 h3 h4
def xL (xs:List Int):List AVal:=xs.map (AVal.int .i64)
theorem Row.len1 {H:AHeap} {v:AVal} {cs:List AVal} (h:Row H v 1 cs):alenS v=some (.int .i64 cs.length):=by
 cases h with
 | nil=>rfl
 | mk hid hc hl hcs =>
  subst hcs
  simp only [alenS,Nat.mul_one,List.length_take,List.length_drop] at hl ⊢
  congr 2; omega
theorem Row.at1 {H:AHeap} {v:AVal} {cs:List AVal} (h:Row H v 1 cs) {j:Int} {x:AVal} (h0:0≤j) (hx:cs[j.toNat]? = some x) {k:IntKind}:∃ id off,xO 1 v (.int k j)=some (.ptr id off)∧id < H.next∧(bnd (cellsOf (H.obj id)) fun c=>c[off]?)=some x:=by
 cases h with
 | nil=>simp at hx
 | @mk id off len _ cap c _ hid hc hl hcs =>
  subst hcs
  simp only [Nat.mul_one] at hl hx
  have hj:j.toNat < len:=by
   have:=(List.getElem?_eq_some_iff.1 hx).1
   simp at this; omega
  refine ⟨id,off+j.toNat*1,by simp only [xO]; rw [if_pos ⟨h0,by omega⟩],hid,?_⟩
  rw [cells?_of] at hc
  simp only [hc,bnd,Nat.mul_one]
  rw [List.getElem?_take] at hx
  rw [if_pos hj,List.getElem?_drop] at hx
  exact hx
theorem Row.keep {H H':AHeap} {v:AVal} {sz:Nat} {cs:List AVal} (h:Row H v sz cs) (hn:H.next≤H'.next) (hk:∀ id,id < H.next→H'.obj id=H.obj id):Row H' v sz cs:=by
 cases h with
 | nil=>exact .nil
 | mk hid hc hl hcs=>exact .mk (by omega) (by rw [cells?_of] at hc ⊢; rw [hk _ hid]; exact hc) hl hcs
theorem Row.kept {H H':AHeap} {v:AVal} {sz:Nat} {cs:List AVal} (h:Row H v sz cs) (hk:Keep Nothing H H'):Row H' v sz cs:=h.keep hk.next (fun id hid=>hk.obj id hid (fun h=>h))
theorem Row.at {H:AHeap} {v:AVal} {sz:Nat} {cs:List AVal} (h:Row H v sz cs) {j:Int} (h0:0≤j) (hsz:0 < sz) (hj:j.toNat*sz+sz≤cs.length) {k:IntKind}:∃ id off c,xO sz v (.int k j)=some (.ptr id off)∧id < H.next∧H.cells? id=some c∧off+sz≤c.length∧(c.drop off).take sz=(cs.drop (j.toNat*sz)).take sz:=by
 cases h with
 | nil=>simp at hj; omega
 | @mk id off len _ cap c _ hid hc hl hcs =>
  subst hcs
  simp only [List.length_take,List.length_drop] at hj
  have hlen:j.toNat < len:=by
   refine Nat.lt_of_mul_lt_mul_right (a:=sz) ?_
   omega
  refine ⟨id,off+j.toNat*sz,c,by simp only [xO]; rw [if_pos ⟨h0,by omega⟩],hid,hc,by omega,?_⟩
  rw [List.drop_take,List.take_take,List.drop_drop]
  congr 1
  omega
theorem cell_at {c ds:List AVal} {off sz f:Nat} {x:AVal} (h:(c.drop off).take sz=ds) (hx:ds[f]? = some x):c[off+f]? = some x:=by
 subst h
 rw [List.getElem?_take] at hx
 split at hx
 ·rwa [List.getElem?_drop] at hx
 ·cases hx
theorem Row.len {H:AHeap} {v:AVal} {sz n:Nat} {cs:List AVal} (h:Row H v sz cs) (hsz:0 < sz) (hn:cs.length=n*sz):alenS v=some (.int .i64 n):=by
 cases h with
 | nil =>
  have:n=0:=by
   rcases Nat.eq_zero_or_pos n with h | h
   ·exact h
   ·have:=Nat.mul_pos h hsz; simp at hn; omega
  subst this; rfl
 | @mk id off len _ cap c _ hid hc hl hcs =>
  subst hcs
  simp only [List.length_take,List.length_drop] at hn
  have:len*sz=n*sz:=by omega
  have:=Nat.eq_of_mul_eq_mul_right hsz this
  subst this; rfl
theorem zF (a b:List Int):xL (a++b)=xL a++xL b:=by simp [xL]
theorem xE (a:List Int):(xL a).length=a.length:=by simp [xL]
theorem Row.beq {H:AHeap} {v:AVal} {sz:Nat} {cs:List AVal} (h:Row H v sz cs):AVal.beq v v=true:=by cases h <;> simp [AVal.beq]
theorem Row.isCell {H:AHeap} {v:AVal} {sz:Nat} {cs:List AVal} (h:Row H v sz cs):v.isCell=true:=by cases h <;> rfl
theorem Row.cells {H:AHeap} {v:AVal} {sz:Nat} {cs:List AVal} (h:Row H v sz cs):v.cells=some [v]:=by cases h <;> rfl
theorem Grown.alen1 {lo:Nat} {H:AHeap} {v:AVal} {cs:List AVal} (h:Grown lo H v 1 cs):alenS v=some (.int .i64 cs.length):=h.row.len1
def sid:AVal→Option Nat
 | .slice id _ _ _=>some id
 | _=>none
theorem Grown.append' {lo sz bytes k n:Nat} {H:AHeap} {v x:AVal} {cs vs:List AVal} (h:Grown lo H v sz cs) (hx:taken H sz x=some (k,vs)) (hvs:vs.length=k*sz) (hk:0 < k) (hsz:0 < sz) (hn:cs.length=n*sz) (hb:(n+k)*bytes≤70368744177664) (hb0:0 < bytes) (hlo:lo≤H.next) :
  ∃ v' H',zY H sz bytes v x=some (v',H')∧H.next≤H'.next∧(∀ j,j < H.next→sid v≠some j→H'.obj j=H.obj j)∧Grown lo H' v' sz (cs++vs)∧(∃ y,sid v'=some y∧H.next≤y):=by
 have hk0:k≠0:=by omega
 cases h with
 | nil =>
  have hn0:n=0:=by
   rcases Nat.eq_zero_or_pos n with h | h
   ·exact h
   ·have:=Nat.mul_pos h hsz; simp at hn; omega
  subst hn0
  refine ⟨.slice H.next 0 k (.room sz),H.new (.cells vs true),?_,Nat.le_succ _,fun j hj _=>xX (by omega),.mk hlo (by rw [xB]; omega) (yB rfl) hvs,_,rfl,Nat.le_refl _⟩
  simp only [zY,hx,bnd,if_neg hk0]
  rw [if_pos ⟨by simpa using hb,hb0⟩]
 | @mk id len _ _ hlo' hhi ho hlen =>
  have hln:len=n:=by
   have:len*sz=n*sz:=by omega
   exact Nat.eq_of_mul_eq_mul_right hsz this
  subst hln
  refine ⟨.slice H.next 0 (len+k) (.room sz),(H.upd id none).new (.cells (cs++vs) true),?_,Nat.le_succ _,fun j hj hne=>?_,.mk hlo (by rw [xB,xC]; omega) (yB rfl) ?_,_,rfl,Nat.le_refl _⟩
  ·simp only [zY,hx,bnd,if_neg hk0,rw?_of,ho,uH]
   rw [if_pos ⟨hb,hb0⟩,if_pos (by refine ⟨?_,?_,?_⟩ <;> first | trivial | omega)]
   simp
  ·rw [xX (by rw [xC]; omega),xQ]
   rintro rfl
   exact hne rfl
  ·simp [hlen,hvs,Nat.add_mul]
theorem append_ret' {lo sz bytes k n y:Nat} {H0 H:AHeap} {v:AVal} {cs vs:List AVal} {cap:ACap} {W:AVal→AHeap→Prop} (hg:Grown lo H0 v sz cs) (hn:H0.next≤H.next) (hkeep:∀ i,lo≤i→i < H0.next→H.obj i=H0.obj i)
  (hy:cellsOf (H.obj y)=some vs) (hvs:vs.length=k*sz) (hk:0 < k) (hsz:0 < sz) (hcs:cs.length=n*sz) (hb:(n+k)*bytes≤70368744177664) (hb0:0 < bytes) (hlo:lo≤H.next)
  (hW:∀ v' H',H.next≤H'.next→(∀ j,j < H.next→sid v≠some j→H'.obj j=H.obj j)→Grown lo H' v' sz (cs++vs)→(∃ y,sid v'=some y∧H.next≤y)→W v' H'):zL (zY H sz bytes v (.slice y 0 k cap)) W:=by
 obtain ⟨v',H',h1,h2,h3,h4,h5⟩:=(hg.keep hn hkeep).append' (taken_one (by rw [cells?_of]; exact hy) hvs) hvs hk hsz hcs hb hb0 hlo
 rw [h1]
 exact hW v' H' h2 h3 h4 h5
theorem Grown.sid_ge {lo sz:Nat} {H:AHeap} {v:AVal} {cs:List AVal} (h:Grown lo H v sz cs) {j:Nat} (hj:sid v=some j):lo≤j∧j < H.next:=by
 cases h with
 | nil=>cases hj
 | mk hlo hhi ho hlen=>injection hj with hj; subst hj; exact ⟨hlo,hhi⟩
end Go.VAI

/- From a run that has been reckoned out to what must hold ahead. -/
set_option linter.unusedVariables false
set_option linter.unusedSimpArgs false
namespace Go.VAI
open Go

section
variable {A:AProg} {n:Nat}
end
end Go.VAI

/- More words for memory: rows of one's own,rows of rows,what an append and a copy leave. -/
set_option linter.unusedVariables false
set_option linter.unusedSimpArgs false
namespace Go.VAI
open Go

theorem Keep.old {H H':AHeap} (hk:Keep Nothing H H') {i:Nat} (hi:i < H.next):H'.obj i=H.obj i:=hk.obj i hi (fun h=>h)
theorem Keep.any {M:Nat→Prop} {H H':AHeap} (hk:Keep Nothing H H'):Keep M H H':=hk.mono (fun _ _ h=>h.elim)
theorem Keep.trans' {M N:Nat→Prop} {H H1 H2:AHeap} (h:Keep M H H1) (k:Keep N H1 H2) (hm:∀ i,i < H.next→N i→M i):Keep M H H2:=⟨Nat.le_trans h.next k.next,fun i hi hM=>by rw [k.obj i (Nat.lt_of_lt_of_le hi h.next) (fun hN=>hM (hm i hi hN)),h.obj i hi hM]⟩
inductive Own (lo:Nat) (H:AHeap):AVal→Nat→List AVal→Prop where
 | nil {sz:Nat}:Own lo H .nilSlice sz []
 | room {id len sz:Nat} {cs:List AVal} (hlo:lo≤id) (hhi:id < H.next) (ho:H.obj id=some (.cells cs true)) (hlen:cs.length=len*sz):Own lo H (.slice id 0 len (.room sz)) sz cs
 | full {id len sz:Nat} {cs:List AVal} (hlo:lo≤id) (hhi:id < H.next) (ho:H.obj id=some (.cells cs true)) (hlen:cs.length=len*sz):Own lo H (.slice id 0 len (.exact len)) sz cs
theorem Grown.own {lo sz:Nat} {H:AHeap} {v:AVal} {cs:List AVal} (h:Grown lo H v sz cs):Own lo H v sz cs:=by
 cases h with
 | nil=>exact .nil
 | mk h1 h2 h3 h4=>exact .room h1 h2 h3 h4
section
variable {lo sz:Nat} {H H':AHeap} {v:AVal} {cs:List AVal}
theorem Own.row (h:Own lo H v sz cs):Row H v sz cs:=by
 cases h with
 | nil=>exact .nil
 | room hlo hhi ho hlen=>exact .mk (c:=cs) hhi (by rw [cells?_of,ho]; rfl) (by omega) (by simp [← hlen])
 | full hlo hhi ho hlen=>exact .mk (c:=cs) hhi (by rw [cells?_of,ho]; rfl) (by omega) (by simp [← hlen])
theorem Own.keep (h:Own lo H v sz cs) (hn:H.next≤H'.next) (hk:∀ i,lo≤i→i < H.next→H'.obj i=H.obj i):Own lo H' v sz cs:=by
 cases h with
 | nil=>exact .nil
 | room hlo hhi ho hlen=>exact .room hlo (by omega) (by rw [hk _ hlo hhi]; exact ho) hlen
 | full hlo hhi ho hlen=>exact .full hlo (by omega) (by rw [hk _ hlo hhi]; exact ho) hlen
theorem Own.lower {lo':Nat} (h:Own lo H v sz cs) (hl:lo'≤lo):Own lo' H v sz cs:=by
 cases h with
 | nil=>exact .nil
 | room hlo hhi ho hlen=>exact .room (by omega) hhi ho hlen
 | full hlo hhi ho hlen=>exact .full (by omega) hhi ho hlen
theorem Own.keepM {M:Nat→Prop} (h:Own lo H v sz cs) (hk:Keep M H H') (hM:∀ j,sid v=some j→¬ M j):Own lo H' v sz cs:=by
 have hn:=hk.next
 cases h with
 | nil=>exact .nil
 | room hlo hhi ho hlen=>exact .room hlo (by omega) (by rw [hk.obj _ hhi (hM _ rfl)]; exact ho) hlen
 | full hlo hhi ho hlen=>exact .full hlo (by omega) (by rw [hk.obj _ hhi (hM _ rfl)]; exact ho) hlen
theorem Own.kept (h:Own lo H v sz cs) (hk:Keep Nothing H H'):Own lo H' v sz cs:=h.keepM hk (fun _ _ h=>h)
theorem Own.new (h:Own lo H v sz cs) (o:AObj):Own lo (H.new o) v sz cs:=h.keep (Nat.le_succ H.next) (fun j _ h2=>xX (by omega))
theorem Own.upd (h:Own lo H v sz cs) {id:Nat} (hid:∀ j,sid v=some j→j≠id) (o:Option AObj):Own lo (H.upd id o) v sz cs:=by
 cases h with
 | nil=>exact .nil
 | room hlo hhi ho hlen=>exact .room hlo hhi (by rw [xQ (hid _ rfl)]; exact ho) hlen
 | full hlo hhi ho hlen=>exact .full hlo hhi (by rw [xQ (hid _ rfl)]; exact ho) hlen
theorem Own.cells (h:Own lo H v sz cs):v.cells=some [v]:=by cases h <;> rfl
theorem Own.isCell (h:Own lo H v sz cs):v.isCell=true:=by cases h <;> rfl
theorem Own.notBot (h:Own lo H v sz cs):notBot v=some v:=by cases h <;> rfl
theorem Own.beq (h:Own lo H v sz cs):AVal.beq v v=true:=h.row.beq
theorem Own.sid_ge (h:Own lo H v sz cs) {j:Nat} (hj:sid v=some j):lo≤j∧j < H.next:=by
 cases h with
 | nil=>cases hj
 | room hlo hhi ho hlen=>injection hj with hj; subst hj; exact ⟨hlo,hhi⟩
 | full hlo hhi ho hlen=>injection hj with hj; subst hj; exact ⟨hlo,hhi⟩
theorem Row.notBot (h:Row H v sz cs):notBot v=some v:=by cases h <;> rfl
theorem Row.sid_lt (h:Row H v sz cs) {j:Nat} (hj:sid v=some j):j < H.next:=by
 cases h with
 | nil=>cases hj
 | mk hid hc hl hcs=>injection hj with hj; subst hj; exact hid
theorem Row.M {M:Nat→Prop} (h:Row H v sz cs) (hk:Keep M H H') (hM:∀ j,sid v=some j→¬ M j):Row H' v sz cs:=by
 cases h with
 | nil=>exact .nil
 | mk hid hc hl hcs=>exact .mk (Nat.lt_of_lt_of_le hid hk.next) (by rw [cells?_of] at hc ⊢; rw [hk.obj _ hid (hM _ rfl)]; exact hc) hl hcs
theorem Row.taken {n:Nat} (h:Row H v sz cs) (hsz:0 < sz) (hn:cs.length=n*sz):taken H sz v=some (n,cs):=by
 cases h with
 | nil =>
  have:n=0:=by
   rcases Nat.eq_zero_or_pos n with h | h
   ·exact h
   ·have:=Nat.mul_pos h hsz; simp at hn; omega
  subst this; rfl
 | @mk id off len _ cap c _ hid hc hl hcs =>
  subst hcs
  simp only [List.length_take,List.length_drop] at hn
  have:len*sz=n*sz:=by omega
  have:=Nat.eq_of_mul_eq_mul_right hsz this
  subst this
  simp only [VAI.taken,hc,bnd,if_pos hl]
theorem Own.slot (h:Own lo H v 1 cs) {j:Nat} (hj:j < cs.length) {k:IntKind}:∃ id,sid v=some id∧lo≤id∧id < H.next∧xO 1 v (.int k (j:Int))=some (.ptr id j)∧H.obj id=some (.cells cs true) ∧
  ∀ (H':AHeap) c',H.next≤H'.next→H'.obj id=some (.cells c' true)→c'.length=cs.length→Own lo H' v 1 c':=by
 cases h with
 | nil=>simp at hj
 | @room id len _ _ hlo hhi ho hlen=>exact ⟨id,rfl,hlo,hhi,by rw [xM ⟨by omega,by omega⟩]; simp,ho,fun H' c' h1 h2 h3=>.room hlo (by omega) h2 (by omega)⟩
 | @full id len _ _ hlo hhi ho hlen=>exact ⟨id,rfl,hlo,hhi,by rw [xM ⟨by omega,by omega⟩]; simp,ho,fun H' c' h1 h2 h3=>.full hlo (by omega) h2 (by omega)⟩
end
theorem Own.append {lo sz bytes k n:Nat} {H:AHeap} {v x:AVal} {cs vs:List AVal} (h:Own lo H v sz cs) (hx:taken H sz x=some (k,vs)) (hvs:vs.length=k*sz) (hk:0 < k) (hsz:0 < sz) (hn:cs.length=n*sz) (hb:(n+k)*bytes≤70368744177664) (hb0:0 < bytes) (hlo:lo≤H.next) :
  ∃ v' H',zY H sz bytes v x=some (v',H')∧H.next≤H'.next∧(∀ j,j < H.next→sid v≠some j→H'.obj j=H.obj j)∧Grown lo H' v' sz (cs++vs)∧(∃ y,sid v'=some y∧H.next≤y):=by
 have hk0:k≠0:=by omega
 cases h with
 | nil=>exact Grown.append' .nil hx hvs hk hsz hn hb hb0 hlo
 | room h1 h2 h3 h4=>exact Grown.append' (.mk h1 h2 h3 h4) hx hvs hk hsz hn hb hb0 hlo
 | @full id len _ _ hlo' hhi ho hlen =>
  have hln:len=n:=by
   have:len*sz=n*sz:=by omega
   exact Nat.eq_of_mul_eq_mul_right hsz this
  subst hln
  refine ⟨.slice H.next 0 (len+k) (.room sz),H.new (.cells (cs++vs) true),?_,Nat.le_succ _,fun j hj _=>xX (by omega),.mk hlo (by rw [xB]; omega) (yB rfl) (by simp [hlen,hvs,Nat.add_mul]),_,rfl,Nat.le_refl _⟩
  have ht:taken H sz (.slice id 0 len (.exact len))=some (len,cs):=by
   simp [taken,cells?_of,ho,cellsOf,bnd,← hlen]
  simp only [zY,hx,bnd,if_neg hk0]
  rw [if_pos ⟨hb,hb0⟩,if_neg (by omega),ht]
theorem vK {lo sz bytes k n y:Nat} {H0 H:AHeap} {v:AVal} {cs vs:List AVal} {cap:ACap} {W:AVal→AHeap→Prop} (hg:Own lo H0 v sz cs)
  (hy:cellsOf (H.obj y)=some vs) (hvs:vs.length=k*sz) (hk:0 < k) (hsz:0 < sz) (hcs:cs.length=n*sz) (hb:(n+k)*bytes≤70368744177664) (hb0:0 < bytes)
  (hW:∀ v' H',H.next≤H'.next→(∀ j,j < H.next→sid v≠some j→H'.obj j=H.obj j)→Grown lo H' v' sz (cs++vs)→(∃ y,sid v'=some y∧H.next≤y)→W v' H')
  (hlo:lo≤H.next:=by simp only [xB,xC]; omega) (hn:H0.next≤H.next:=by simp only [xB,xC]; omega)
  (hkeep:∀ i,lo≤i→i < H0.next→H.obj i=H0.obj i:=by intro i h1 h2; simp (disch:=first | omega | (simp only [xB,xC] <;> omega) | fail) only [xI]):zL (zY H sz bytes v (.slice y 0 k cap)) W:=by
 obtain ⟨v',H',h1,h2,h3,h4,h5⟩:=(hg.keep hn hkeep).append (taken_one (by rw [cells?_of]; exact hy) hvs) hvs hk hsz hcs hb hb0 hlo
 rw [h1]
 exact hW v' H' h2 h3 h4 h5
theorem copy_ret {sz bytes n y:Nat} {H:AHeap} {x:AVal} {vs:List AVal} {W:AVal→AHeap→Prop} (hy:H.obj y=some (.cells [] true)) (hyn:y < H.next)
  (hx:Row H x sz vs) (hvs:vs.length=n*sz) (hsz:0 < sz) (hb:n*bytes≤70368744177664) (hb0:0 < bytes)
  (hW:∀ v' H',Keep Nothing H H'→Own y H' v' sz vs→(∃ j,sid v'=some j)→W v' H'):zL (zY H sz bytes (.slice y 0 0 (.exact 0)) x) W:=by
 have ht:=hx.taken hsz hvs
 rcases Nat.eq_zero_or_pos n with hn | hn
 ·subst hn
  have:vs=[]:=List.eq_nil_of_length_eq_zero (by simpa using hvs)
  subst this
  have:zY H sz bytes (.slice y 0 0 (.exact 0)) x=some (.slice y 0 0 (.exact 0),H):=by simp [zY,ht,bnd]
  rw [this]
  exact hW _ _ (.refl _ _) (.full (Nat.le_refl _) hyn hy (by simp)) ⟨_,rfl⟩
 ·have h0:taken H sz (.slice y 0 0 (.exact 0))=some (0,[]):=by simp [VAI.taken,cells?_of,hy,cellsOf,bnd]
  have:zY H sz bytes (.slice y 0 0 (.exact 0)) x=some (.slice H.next 0 n (.room sz),H.new (.cells vs true)):=by
   simp only [zY,ht,bnd,if_neg (show n≠0 by omega)]
   rw [if_pos ⟨by simpa using hb,hb0⟩,if_neg (by omega),h0]
   simp
  rw [this]
  exact hW _ _ ((Keep.refl _ _).new _) (.room (by omega) (by rw [xB]; omega) (yB rfl) hvs) ⟨_,rfl⟩
def RowsOf (H:AHeap) (v:AVal) (ll:List (List Int)):Prop:=∃ vs,Row H v 1 vs∧vs.length=ll.length∧∀ (i:Nat) r l,vs[i]? = some r→ll[i]? = some l→Row H r 1 (xL l)
theorem RowsOf.kept {H H':AHeap} {v:AVal} {ll:List (List Int)} (h:RowsOf H v ll) (hk:Keep Nothing H H'):RowsOf H' v ll:=by
 obtain ⟨vs,h1,h2,h3⟩:=h
 exact ⟨vs,h1.kept hk,h2,fun i r l e1 e2=>(h3 i r l e1 e2).kept hk⟩
theorem RowsOf.row {H:AHeap} {v:AVal} {ll:List (List Int)} (h:RowsOf H v ll):∃ vs,Row H v 1 vs∧vs.length=ll.length:=by
 obtain ⟨vs,h1,h2,h3⟩:=h
 exact ⟨vs,h1,h2⟩
theorem RowsOf.len {H:AHeap} {v:AVal} {ll:List (List Int)} (h:RowsOf H v ll):alenS v=some (.int .i64 ll.length):=by
 obtain ⟨vs,h1,h2,h3⟩:=h
 rw [h1.len1,h2]
theorem RowsOf.beq {H:AHeap} {v:AVal} {ll:List (List Int)} (h:RowsOf H v ll):AVal.beq v v=true:=by
 obtain ⟨vs,h1,h2,h3⟩:=h
 exact h1.beq
theorem RowsOf.cells {H:AHeap} {v:AVal} {ll:List (List Int)} (h:RowsOf H v ll):v.cells=some [v]:=by
 obtain ⟨vs,h1,h2,h3⟩:=h
 exact h1.cells
theorem RowsOf.notBot {H:AHeap} {v:AVal} {ll:List (List Int)} (h:RowsOf H v ll):notBot v=some v:=by
 obtain ⟨vs,h1,h2,h3⟩:=h
 exact h1.notBot
theorem RowsOf.at {H:AHeap} {v:AVal} {ll:List (List Int)} (h:RowsOf H v ll) {j:Nat} {l:List Int} (hl:ll[j]? = some l) {k:IntKind}:∃ id off r,xO 1 v (.int k (j:Int))=some (.ptr id off)∧id < H.next∧(bnd (cellsOf (H.obj id)) fun c=>c[off]?)=some r∧Row H r 1 (xL l):=by
 obtain ⟨vs,h1,h2,h3⟩:=h
 have hj:j < vs.length:=by rw [h2]; exact (List.getElem?_eq_some_iff.1 hl).1
 have hv:vs[j]? = some vs[j]:=by simp [hj]
 obtain ⟨id,off,e1,e2,e3⟩:=h1.at1 (j:=(j:Int)) (x:=vs[j]) (k:=k) (by omega) (by rw [Int.toNat_natCast]; exact hv)
 exact ⟨id,off,vs[j],e1,e2,e3,h3 j _ l hv hl⟩
theorem Row.int_at {H:AHeap} {v:AVal} {xs:List Int} (h:Row H v 1 (xL xs)) {j:Nat} {x:Int} (hx:xs[j]? = some x) {k:IntKind}:∃ id off,xO 1 v (.int k (j:Int))=some (.ptr id off)∧id < H.next∧(bnd (cellsOf (H.obj id)) fun c=>c[off]?)=some (.int .i64 x) :=
 h.at1 (by omega) (by rw [Int.toNat_natCast]; simp [xL,hx])
theorem yQ {l:List AVal} {p:Nat} {x:AVal} (h:p < l.length):yV l p [x]=l.set p x:=by
 rw [List.set_eq_take_append_cons_drop,if_pos h]
 simp [yV]
def callvK (K:qG) (f:AVal) (xs:List AVal) (H:AHeap) (W:AVal→AHeap→Prop):Prop :=
 match f with
 | .func (.func g) a b=>K g (a++xs++b) H W
 | _=>False
section
variable {K:qG} {t:xJ} {H:AHeap} {W:AVal→AHeap→Prop}
theorem opW_callv' {f:AOpd} {xs:List AOpd}:opW K (.callv f xs) t H W=callvK K (f.ev t) (evs t xs) H W:=rfl
theorem callvK_func {g:Nat} {a b xs:List AVal}:callvK K (.func (.func g) a b) xs H W=K g (a++xs++b) H W:=rfl
theorem asameBytes_slice {id off len:Nat} {cap:ACap}:uJ H (.slice id off len cap)=bnd (uH (H.obj id)) fun _=>some (.slice id off len cap):=by rw [← rw?_of]; rfl
end
theorem afield_agg {off sz:Nat} {g:Bool} {cs:List AVal}:afield off sz g (.agg cs)=apart off sz g cs:=rfl
theorem apart_false {off sz:Nat} {cs:List AVal}:apart off sz false cs=cs[off]? := rfl
theorem apart_true {off sz:Nat} {cs:List AVal}:apart off sz true cs=if off+sz≤cs.length then some (.agg ((cs.drop off).take sz)) else none:=rfl
theorem aindexA_agg {len sz:Nat} {g:Bool} {cs:List AVal} {k:IntKind} {j:Int} (h:0≤j∧j < len):aindexA len sz g (.agg cs) (.int k j)=apart (j.toNat*sz) sz g cs:=by simp only [aindexA,if_pos h]
theorem notBot_func {f:Fn} {a b:List AVal}:notBot (.func f a b)=some (.func f a b):=rfl
theorem abin_nilS_slice {id off len:Nat} {cap:ACap}:wW .eql .nilS (.slice id off len cap) .nilSlice=some (.bool false):=rfl
theorem abin_nilS_nil:wW .eql .nilS .nilSlice .nilSlice=some (.bool true):=rfl
theorem abin_nnilS_slice {id off len:Nat} {cap:ACap}:wW .neq .nilS (.slice id off len cap) .nilSlice=some (.bool true):=rfl
theorem abin_nnilS_nil:wW .neq .nilS .nilSlice .nilSlice=some (.bool false):=rfl
theorem abin_plain {a b:Bool}:wW .eql .plain (.bool a) (.bool b)=some (.bool (a == b)):=rfl
theorem abin_nplain {a b:Bool}:wW .neq .plain (.bool a) (.bool b)=some (.bool (!(a == b))):=rfl
set_option linter.defProp false in
def vaic:=And.intro @opW_callv' (And.intro @callvK_func (And.intro @asameBytes_slice (And.intro @afield_agg (And.intro @apart_false (And.intro @apart_true (And.intro @aindexA_agg (And.intro @notBot_func (And.intro @abin_nilS_slice (And.intro @abin_nilS_nil (And.intro @abin_nnilS_slice (And.intro @abin_nnilS_nil (And.intro @abin_plain (And.intro @abin_nplain (@List.append_nil AVal))))))))))))))
theorem Row.nilTest {sz:Nat} {H:AHeap} {v:AVal} {cs:List AVal} (h:Row H v sz cs):(v=.nilSlice∧cs=[]∧wW .eql .nilS v .nilSlice=some (.bool true))∨(wW .eql .nilS v .nilSlice=some (.bool false)):=by
 cases h with
 | nil=>exact .inl ⟨rfl,rfl,rfl⟩
 | mk hid hc hl hcs=>exact .inr rfl
def u8s (l:List Int):List AVal:=l.map (AVal.int .u8)
end Go.VAI

/- Rows of slots that are not wanted. -/
namespace Go.VAI
open Go
def xP:Nat→xJ→xJ
 | 0,t=>t
 | n+1,t=>.bot :: xP n t
theorem Own.obj {lo sz:Nat} {H:AHeap} {v:AVal} {cs:List AVal} (h:Own lo H v sz cs) {j:Nat} (hj:sid v=some j):H.obj j=some (.cells cs true):=by
 cases h with
 | nil=>cases hj
 | room h1 h2 h3 h4=>injection hj with hj; subst hj; exact h3
 | full h1 h2 h3 h4=>injection hj with hj; subst hj; exact h3
theorem bots_zero {t:xJ}:xP 0 t=t:=rfl
theorem bots_succ {n:Nat} {t:xJ}:xP (n+1) t=.bot :: xP n t:=rfl
set_option linter.defProp false in
def vaw:=And.intro vai (And.intro xI (And.intro vaic (And.intro @bots_zero (And.intro @bots_succ (And.intro @Bool.not_true (And.intro @Bool.not_false (And.intro @decide_true (And.intro @decide_false (And.intro @xH (And.intro @xB @xC))))))))))
set_option linter.defProp false in
def nx:=And.intro @xB @xC
end Go.VAI

/- Slices that are cut; bits of numbers that stand side by side. -/
set_option linter.unusedVariables false
set_option linter.unusedSimpArgs false
namespace Go.VAI
open Go

def SliceOk (sz:Nat):AVal→Prop
 | .slice _ _ len (.exact n)=>len≤n
 | .slice _ _ _ (.room s)=>s=sz
 | _=>True
def RowC (H:AHeap) (v:AVal) (sz:Nat) (cs:List AVal):Prop:=Row H v sz cs∧SliceOk sz v
theorem Own.rowC {lo sz:Nat} {H:AHeap} {v:AVal} {cs:List AVal} (h:Own lo H v sz cs):RowC H v sz cs:=by
 refine ⟨h.row,?_⟩
 cases h with
 | nil=>trivial
 | room=>rfl
 | full=>exact Nat.le_refl _
theorem Grown.rowC {lo sz:Nat} {H:AHeap} {v:AVal} {cs:List AVal} (h:Grown lo H v sz cs):RowC H v sz cs:=h.own.rowC
theorem RowC.kept {H H':AHeap} {v:AVal} {sz:Nat} {cs:List AVal} (h:RowC H v sz cs) (hk:Keep Nothing H H'):RowC H' v sz cs:=⟨h.1.kept hk,h.2⟩
theorem RowC.M {M:Nat→Prop} {H H':AHeap} {v:AVal} {sz:Nat} {cs:List AVal} (h:RowC H v sz cs) (hk:Keep M H H') (hM:∀ j,sid v=some j→¬ M j):RowC H' v sz cs:=⟨h.1.M hk hM,h.2⟩
theorem RowC.from {H:AHeap} {v:AVal} {sz n k:Nat} {cs:List AVal} (h:RowC H v sz cs) (hsz:0 < sz) (hn:cs.length=n*sz) (hk:k≤n) {kd:IntKind}:∃ v',wB sz v (some (.int kd (k:Int))) none none=some v'∧RowC H v' sz (cs.drop (k*sz))∧sid v'=sid v:=by
 obtain ⟨hr,ho⟩:=h
 cases hr with
 | nil =>
  have:n=0:=by
   rcases Nat.eq_zero_or_pos n with h | h
   ·exact h
   ·have:=Nat.mul_pos h hsz; simp at hn; omega
  have:k=0:=by omega
  subst this
  exact ⟨.nilSlice,by simp [wB,wA,bound,bnd],⟨by simpa using Row.nil,trivial⟩,rfl⟩
 | @mk id off len _ cap c _ hid hc hl hcs =>
  subst hcs
  simp only [List.length_take,List.length_drop] at hn
  have:len*sz=n*sz:=by omega
  have hln:=Nat.eq_of_mul_eq_mul_right hsz this
  subst hln
  have hks:k*sz≤len*sz:=Nat.mul_le_mul_right sz hk
  have hsub:(len - k)*sz=len*sz - k*sz:=Nat.sub_mul _ _ _
  cases cap with
  | exact m =>
   simp only [SliceOk] at ho
   have e:wB sz (.slice id off len (.exact m)) (some (.int kd (k:Int))) none none=some (.slice id (if m=k then off else off+k*sz) (len - k) (.exact (m - k))):=by
    simp [wB,wA,bound,bnd,hk]
   refine ⟨_,e,⟨?_,by simp only [SliceOk]; omega⟩,rfl⟩
   by_cases hmk:m=k
   ·have:len=k:=by omega
    subst this
    rw [if_pos hmk]
    refine .mk (c:=c) hid hc (by simp; omega) ?_
    simp [List.drop_take]
   ·rw [if_neg hmk]
    refine .mk (c:=c) hid hc (by omega) ?_
    rw [List.drop_take,List.drop_drop,hsub]
  | room s =>
   simp only [SliceOk] at ho
   subst ho
   have e:wB s (.slice id off len (.room s)) (some (.int kd (k:Int))) none none=some (.slice id (off+k*s) (len - k) (.room s)):=by
    simp [wB,wA,bound,bnd,hk]
   refine ⟨_,e,⟨?_,rfl⟩,rfl⟩
   refine .mk (c:=c) hid hc (by omega) ?_
   rw [List.drop_take,List.drop_drop,hsub]
theorem RowC.upto {H:AHeap} {v:AVal} {sz n k:Nat} {cs:List AVal} (h:RowC H v sz cs) (hsz:0 < sz) (hn:cs.length=n*sz) (hk:k≤n) {kd:IntKind}:∃ v',wB sz v none (some (.int kd (k:Int))) none=some v'∧RowC H v' sz (cs.take (k*sz))∧sid v'=sid v:=by
 obtain ⟨hr,ho⟩:=h
 cases hr with
 | nil =>
  have:n=0:=by
   rcases Nat.eq_zero_or_pos n with h | h
   ·exact h
   ·have:=Nat.mul_pos h hsz; simp at hn; omega
  have:k=0:=by omega
  subst this
  exact ⟨.nilSlice,by simp [wB,wA,bound,bnd],⟨by simpa using Row.nil,trivial⟩,rfl⟩
 | @mk id off len _ cap c _ hid hc hl hcs =>
  subst hcs
  simp only [List.length_take,List.length_drop] at hn
  have:len*sz=n*sz:=by omega
  have hln:=Nat.eq_of_mul_eq_mul_right hsz this
  subst hln
  have hks:k*sz≤len*sz:=Nat.mul_le_mul_right sz hk
  cases cap with
  | exact m =>
   simp only [SliceOk] at ho
   have e:wB sz (.slice id off len (.exact m)) none (some (.int kd (k:Int))) none=some (.slice id off k (.exact m)):=by
    have:(k:Int)≤(m:Int):=by omega
    simp [wB,wA,bound,bnd,this,ACap.top]
   refine ⟨_,e,⟨?_,by simp only [SliceOk]; omega⟩,rfl⟩
   refine .mk (c:=c) hid hc (by omega) ?_
   rw [List.take_take,Nat.min_eq_left hks]
  | room s =>
   simp only [SliceOk] at ho
   subst ho
   have e:wB s (.slice id off len (.room s)) none (some (.int kd (k:Int))) none=some (.slice id off k (.room s)):=by
    simp [wB,wA,bound,bnd,hk,ACap.top]
   refine ⟨_,e,⟨?_,rfl⟩,rfl⟩
   refine .mk (c:=c) hid hc (by omega) ?_
   rw [List.take_take,Nat.min_eq_left hks]

end Go.VAI

/- A join where several ways meet: what holds there is said once. -/
set_option linter.unusedVariables false
set_option linter.unusedSimpArgs false
namespace Go.VAI
open Go
section
variable {A:AProg}
theorem atResult_mono {x:Option (AVal × AHeap)} {W W':AVal→AHeap→Prop} (h:zL x W) (hw:∀ v H,W v H→W' v H):zL x W':=by
 cases x with
 | none=>exact h
 | some r=>exact hw _ _ h
theorem opW_mono {o:AOp} {t:xJ} {H:AHeap} {W W':AVal→AHeap→Prop} (h:opW (Ret A) o t H W) (hw:∀ v H,W v H→W' v H):opW (Ret A) o t H W':=by
 unfold opW at h ⊢
 split at h
 ·exact Ret.mono h hw
 ·rename_i f args
  cases hf:f.ev t <;> simp only [hf] at h ⊢ <;> first | exact h.elim | skip
  rename_i g a b
  cases g <;> simp only at h ⊢ <;> first | exact h.elim | exact Ret.mono h hw
 ·exact atResult_mono h hw
theorem guardW_mono {g:Option (Nat × Bool)} {t:xJ} {p q p' q':Prop} (h:guardW g t p q) (hp:p→p') (hq:q→q'):guardW g t p' q':=by
 unfold guardW at h ⊢
 split at h
 ·exact hp h
 ·rename_i s want
  try simp only
  split at h
  ·rename_i b hb
   try rw [hb]
   try simp only
   by_cases hw:b=want
   ·rw [if_pos hw] at h ⊢; exact hp h
   ·rw [if_neg hw] at h ⊢; exact hq h
  ·rename_i hb
   try rw [hb]
   exact hq h
  ·exact h.elim
theorem opsW_mono {Q Q':xJ→AHeap→Prop} (hq:∀ t H,Q t H→Q' t H):∀ (l:List AOper) (t:xJ) (H:AHeap),opsW (Ret A) l t H Q→opsW (Ret A) l t H Q'
 | [],t,H,h=>hq t H h
 | o :: l,t,H,h=>by
  simp only [opsW] at h ⊢
  exact guardW_mono h (fun h=>opW_mono h (fun v H h=>opsW_mono hq l _ _ h)) (fun h=>opsW_mono hq l _ _ h)
theorem stepsW_mono {Q Q':xJ→AHeap→Prop} (hq:∀ t H,Q t H→Q' t H):∀ (l:List DStep) (t:xJ) (H:AHeap),yT (Ret A) l t H Q→yT (Ret A) l t H Q'
 | [],t,H,h=>hq t H h
 | .op i o :: l,t,H,h=>by
  simp only [yT] at h ⊢
  exact guardW_mono h (fun h=>opW_mono h (fun v H h=>stepsW_mono hq l _ _ h)) (fun h=>stepsW_mono hq l _ _ h)
 | .re i o :: l,t,H,h=>by
  simp only [yT] at h ⊢
  exact atResult_mono h (fun v H' h=>⟨h.1,stepsW_mono hq l _ _ h.2⟩)
theorem wpx_mono:∀ (c:ACode) {t:xJ} {H:AHeap} {Q Q':PostT},wpx (Ret A) c t H Q→(∀ e t H,Q e t H→Q' e t H)→wpx (Ret A) c t H Q':=by
 intro c
 induction c with
 | skip=>intro t H Q Q' h hq; exact hq _ _ _ h
 | region ops=>intro t H Q Q' h hq; exact opsW_mono (hq .normal) _ _ _ h
 | dregion b st=>intro t H Q Q' h hq; exact stepsW_mono (hq .normal) _ _ _ h
 | seq a b iha ihb =>
  intro t H Q Q' h hq
  refine iha h (fun e t H h=>?_)
  cases e with
  | normal=>exact ihb h hq
  | exit i=>exact hq _ _ _ h
  | goto i=>exact hq _ _ _ h
  | ret=>exact hq _ _ _ h
 | cond x a b iha ihb =>
  intro t H Q Q' h hq
  simp only [wpx] at h ⊢
  unfold condW at h ⊢
  split at h
  ·rename_i e; try rw [e]
   exact iha h hq
  ·rename_i e; try rw [e]
   exact ihb h hq
  ·exact h.elim
 | block id a iha =>
  intro t H Q Q' h hq
  refine iha h (fun e t H h=>?_)
  cases e with
  | exit i =>
   simp only at h ⊢
   split at h
   ·rename_i e; rw [if_pos e]; exact hq _ _ _ h
   ·rename_i e; rw [if_neg e]; exact hq _ _ _ h
  | normal=>exact hq _ _ _ h
  | goto i=>exact hq _ _ _ h
  | ret=>exact hq _ _ _ h
 | loop live out a iha =>
  intro t H Q Q' h hq
  obtain ⟨I,m,h0,h⟩:=h
  refine ⟨I,m,h0,fun m t H hi=>iha (h m t H hi) (fun e t H h=>?_)⟩
  cases e with
  | normal=>exact h
  | exit i=>exact hq _ _ _ h
  | goto i=>exact hq _ _ _ h
  | ret=>exact hq _ _ _ h
 | join out a iha=>intro t H Q Q' h hq; exact iha h (fun e t H h=>hq _ _ _ h)
 | exit id=>intro t H Q Q' h hq; exact hq _ _ _ h
 | scope a l rest iha ihr =>
  intro t H Q Q' h hq
  refine iha h (fun e t H h=>?_)
  cases e with
  | goto i =>
   refine ⟨h.1,ihr h.2 (fun e t H h=>?_)⟩
   cases e with
   | goto i=>exact h
   | normal=>exact hq _ _ _ h
   | exit i=>exact hq _ _ _ h
   | ret=>exact hq _ _ _ h
  | normal=>exact hq _ _ _ h
  | exit i=>exact hq _ _ _ h
  | ret=>exact hq _ _ _ h
 | goto l=>intro t H Q Q' h hq; exact hq _ _ _ h
 | ret=>intro t H Q Q' h hq; exact hq _ _ _ h
def cutJ (out:List Bool) (R:xJ→AHeap→Prop) (Q:PostT) (e:AExit) (t:xJ) (H:AHeap):Prop :=
 match e with
 | .normal=>R (keep out t) H
 | e=>Q e (keep out t) H
theorem cutJ_normal {out:List Bool} {R:xJ→AHeap→Prop} {Q:PostT} {t:xJ} {H:AHeap}:cutJ out R Q .normal t H=R (keep out t) H:=rfl
theorem cutJ_ret {out:List Bool} {R:xJ→AHeap→Prop} {Q:PostT} {t:xJ} {H:AHeap}:cutJ out R Q .ret t H=Q .ret (keep out t) H:=rfl
theorem cutJ_exit {out:List Bool} {R:xJ→AHeap→Prop} {Q:PostT} {t:xJ} {H:AHeap} {i:Nat}:cutJ out R Q (.exit i) t H=Q (.exit i) (keep out t) H:=rfl
theorem cutJ_goto {out:List Bool} {R:xJ→AHeap→Prop} {Q:PostT} {t:xJ} {H:AHeap} {i:Nat}:cutJ out R Q (.goto i) t H=Q (.goto i) (keep out t) H:=rfl
theorem condK_cut {out:List Bool} {c:AVal} {a b:ACode} {t:xJ} {H:AHeap} {Q:PostT} (R:xJ→AHeap→Prop) (h:condK (Ret A) c a b t H (cutJ out R Q)) (hr:∀ t H,R t H→Q .normal t H):condK (Ret A) c a b t H (thenJ out Q):=by
 have key:∀ e t H,cutJ out R Q e t H→thenJ out Q e t H:=fun e t H h=>by
  cases e with
  | normal=>exact hr _ _ h
  | exit i=>exact h
  | goto i=>exact h
  | ret=>exact h
 unfold condK condW at h ⊢
 split at h
 ·exact wpx_mono a h key
 ·exact wpx_mono b h key
 ·exact h.elim
end
section
variable {K:qG} {t:xJ} {H:AHeap} {R:xJ→AHeap→Prop}
def reG (K:qG) (g:AVal) (w:Bool) (x:Option AVal) (v:AVal) (os:List DStep) (t:xJ) (H:AHeap) (R:xJ→AHeap→Prop):Prop :=
 match g with
 | .bool b=>if b=w then reK K x v os t H R else reK K (some (.tuple [])) v os t H R
 | .tuple []=>reK K (some (.tuple [])) v os t H R
 | _=>False
theorem reK_unit {os:List DStep}:reK K (some (.tuple [])) (.tuple []) os t H R=yT K os t H R:=xF (by simp [AVal.beq,AVal.beqs])
theorem reG_tt {x:Option AVal} {v:AVal} {os:List DStep}:reG K (.bool true) true x v os t H R=reK K x v os t H R:=rfl
theorem reG_ff {x:Option AVal} {v:AVal} {os:List DStep}:reG K (.bool false) false x v os t H R=reK K x v os t H R:=rfl
theorem reG_tf {x:Option AVal} {v:AVal} {os:List DStep}:reG K (.bool true) false x v os t H R=reK K (some (.tuple [])) v os t H R:=rfl
theorem reG_ft {x:Option AVal} {v:AVal} {os:List DStep}:reG K (.bool false) true x v os t H R=reK K (some (.tuple [])) v os t H R:=rfl
theorem reG_no {w:Bool} {x:Option AVal} {v:AVal} {os:List DStep}:reG K (.tuple []) w x v os t H R=reK K (some (.tuple [])) v os t H R:=rfl
theorem stepsW_reG {i d s:Nat} {w:Bool} {o:AOp} {os:List DStep} (hc:o.cls=.read):yT K (.re i ⟨some d,o,some (s,w)⟩ :: os) t H R=reG K (yA t s) w (vP o t H) (yA t d) os t H R:=by
 simp only [yT,gop,aop,hc,onlyV,reB,reG]
 cases yA t s with
 | bool b =>
  simp only
  by_cases h:b=w
  ·rw [if_pos h,if_pos h]
   cases vP o t H <;> rfl
  ·rw [if_neg h,if_neg h]
   rfl
 | tuple l=>cases l <;> rfl
 | _=>rfl
theorem stepsW_gload1 {i d s:Nat} {w:Bool} {x:AOpd} {os:List DStep}:yT K (.re i ⟨some d,.load1 x,some (s,w)⟩ :: os) t H R=reG K (yA t s) w (aload1 H (x.ev t)) (yA t d) os t H R:=stepsW_reG rfl
theorem stepsW_gloadN {i d n s:Nat} {w:Bool} {x:AOpd} {os:List DStep}:yT K (.re i ⟨some d,.loadN n x,some (s,w)⟩ :: os) t H R=reG K (yA t s) w (aloadN H n (x.ev t)) (yA t d) os t H R:=stepsW_reG rfl
theorem stepsW_gsameBytes {i d s:Nat} {w:Bool} {x:AOpd} {os:List DStep}:yT K (.re i ⟨some d,.sameBytes x,some (s,w)⟩ :: os) t H R=reG K (yA t s) w (uJ H (x.ev t)) (yA t d) os t H R:=stepsW_reG rfl
theorem stepsW_gbytesToStr {i d s:Nat} {w:Bool} {x:AOpd} {os:List DStep}:yT K (.re i ⟨some d,.bytesToStr x,some (s,w)⟩ :: os) t H R=reG K (yA t s) w (uS H (x.ev t)) (yA t d) os t H R:=stepsW_reG rfl
theorem stepsW_glenM {i d s:Nat} {w:Bool} {x:AOpd} {os:List DStep}:yT K (.re i ⟨some d,.lenM x,some (s,w)⟩ :: os) t H R=reG K (yA t s) w (alenM H (x.ev t)) (yA t d) os t H R:=stepsW_reG rfl
theorem stepsW_glookup {i d s:Nat} {w:Bool} {k:KeyK} {z:AVal} {x y:AOpd} {ok:Bool} {os:List DStep}:yT K (.re i ⟨some d,.lookup k z x y ok,some (s,w)⟩ :: os) t H R=reG K (yA t s) w (alookup H k z (x.ev t) (y.ev t) ok) (yA t d) os t H R:=stepsW_reG rfl
end
set_option linter.defProp false in
def zJ:=And.intro @cutJ_normal (And.intro @cutJ_ret (And.intro @cutJ_exit (And.intro @cutJ_goto (And.intro @reK_unit (And.intro @reG_tt (And.intro @reG_ff (And.intro @reG_tf (And.intro @reG_ft (And.intro @reG_no (And.intro @stepsW_gload1 (And.intro @stepsW_gloadN (And.intro @stepsW_gsameBytes (And.intro @stepsW_gbytesToStr (And.intro @stepsW_glenM @stepsW_glookup))))))))))))))
end Go.VAI

/- Functions that the interpreter does not go through: what is said of a call,where the machine does it whatever the world. -/
set_option linter.unusedVariables false
namespace Go.VAI
open Go

def CallAt (P:Program) (f:Nat) (args:List AVal) (H:AHeap) (v:AVal) (H':AHeap):Prop :=
 (∃ fn c,P.funcs[f]? = some fn ∧ fn.body = some c ∧ (fn.name == "runtime.NumGoroutine") = false) ∧
 ∀ (ρ:Ren) (B:Nat) (w:World) (us:List Value),HRel ρ B H w→VRels ρ args us→Calls P f us.toArray w fun e w'=>∃ v',e=.returned v'∧Effect ρ B H w v H' v' w'
noncomputable def lawful (P:Program) (g:zN):zN:=fun f args H =>
 match g f args H with
 | none=>none
 | some r=>open Classical in if CallAt P f args H r.1 r.2 then some r else none
theorem lawful_ok (P:Program) (g:zN):CallOk P (lawful P g):=by
 intro f args H v H' h
 unfold lawful at h
 split at h
 ·cases h
 ·rename_i r hr
  split at h
  ·rename_i hc
   injection h with h
   subst h
   exact hc
  ·cases h
theorem lawful_eq {P:Program} {g:zN} {f:Nat} {args:List AVal} {H H':AHeap} {v:AVal} (h:g f args H=some (v,H')) (hc:CallAt P f args H v H'):lawful P g f args H=some (v,H'):=by
 unfold lawful
 rw [h]
 simp only [if_pos hc]

abbrev Key:=Int × Int × Int
def yC (k:Key):List AVal:=[.int .i64 k.1,.int .i64 k.2.1,.int .i64 k.2.2]
def xZ (l:List Key):List AVal:=l.flatMap yC
def keysOf:List AVal→Option (List Key)
 | []=>some []
 | .int .i64 a :: .int .i64 b :: .int .i64 c :: l=>bnd (keysOf l) fun r=>some ((a,b,c) :: r)
 | _=>none
theorem keysOf_cells:∀ l:List Key,keysOf (xZ l)=some l
 | []=>rfl
 | (a,b,c) :: l=>by
  show bnd (keysOf (xZ l)) _=_
  rw [keysOf_cells l]
  rfl
def uZ (x y:Key):Int:=if x.1 < y.1 then -1 else if y.1 < x.1 then 1 else if x.2.1 < y.2.1 then -1 else if y.2.1 < x.2.1 then 1 else if x.2.2 < y.2.2 then -1 else if y.2.2 < x.2.2 then 1 else 0
def keyLt (x y:Key):Bool:=decide (uZ x y < 0)
def yF (l:List Key):List Key:=l.mergeSort fun x y => !keyLt y x
def sortF (by_:Nat):List AVal→AHeap→Option (AVal × AHeap)
 | [.nilSlice,.func (.func g) [] []],H=>if g=by_ then some (.tuple [],H) else none
 | [.slice id 0 len cap,.func (.func g) [] []],H =>
  if g=by_ then
   match H.obj id with
   | some (.cells c true)=>bnd (keysOf c) fun ks=>if ks.length=len∧0 < len∧len≤1000000 then some (.tuple [],H.upd id (some (.cells (xZ (yF ks)) true))) else none
   | _=>none
  else none
 | _,_=>none

def kentry:AVal × AVal→Option (Key × Int)
 | (.agg [.int .i64 a,.int .i64 b,.int .i64 c],.int .i64 n)=>some ((a,b,c),n)
 | _=>none
def kentries:List (AVal × AVal)→Option (List (Key × Int))
 | []=>some []
 | e :: l=>bnd (kentry e) fun x=>bnd (kentries l) fun r=>some (x :: r)
def goneAt (H:AHeap) (g:AVal) (i:Int):Option Bool :=
 match g with
 | .slice id off len _=>if 0≤i∧i < len then bnd (H.cells? id) fun c=>match c[off+i.toNat]? with | some (.bool b)=>some b | _=>none else none
 | _=>none
def mayOf (down:Bool) (H:AHeap) (caps:List AVal) (k:Key):Option Bool :=
 match caps with
 | [.ptr vc vo,.ptr bc bo] =>
  bnd (H.cells? vc) fun c=>match c[vo]? with
  | some (.int .i64 v) =>
   bnd (H.cells? bc) fun c=>match c[bo]? with
   | some (.ptr bb bf) =>
    bnd (H.cells? bb) fun c=>match c[bf+7]? with
    | some g =>
     if down then (if k.2.1=v∧k.1≠v then bnd (goneAt H g k.1) fun b=>some (!b) else some false)
     else (if k.1=v then bnd (goneAt H g k.2.1) fun b=>some (!b) else some false)
    | none=>none
   | _=>none
  | _=>none
 | _=>none
def mayAll (down:Bool) (H:AHeap) (caps:List AVal):List (Key × Int)→Option (List (Key × Int))
 | []=>some []
 | e :: l=>bnd (mayOf down H caps e.1) fun b=>bnd (mayAll down H caps l) fun r=>some (if b then e :: r else r)
def yZ (es:List (Key × Int)) (k:Key):Int:=((es.find? fun e=>decide (e.1=k)).map Prod.snd).getD 0
def vD (es sel:List (Key × Int)):List Int:=(yF (sel.map Prod.fst)).map (yZ es)
def arcsF (up1 up2 down:Nat):List AVal→AHeap→Option (AVal × AHeap)
 | [.ptr b o,.func (.func m) [] caps],H =>
  if m=up1∨m=up2∨m=down then
   bnd (H.cells? b) fun c=>match c[o+6]? with
   | some (.map mid) =>
    bnd (H.map? mid) fun es=>bnd (kentries es) fun es=>bnd (mayAll (decide (m=down)) H caps es) fun sel =>
    if es.length≤100000∧(es.map Prod.fst).Nodup then
     (if sel=[] then some (.nilSlice,H) else some (.slice H.next 0 sel.length (.room 1),H.new (.cells ((vD es sel).map (AVal.int .i64)) true)))
    else none
   | _=>none
  else none
 | _,_=>none
def libF (sort_ by_ arcs_ up1 up2 down:Nat):zN:=fun f args H =>
 if f=sort_ then sortF by_ args H else if f=arcs_ then arcsF up1 up2 down args H else none
end Go.VAI

/- What the library's own contracts say of a world,put into the interpreter's words. -/
set_option linter.unusedVariables false
set_option linter.unusedSimpArgs false
namespace Go.VAI
open Go Go.RowKit

section
variable {ρ:Ren} {B:Nat} {H:AHeap} {w:World}
theorem rewrite_rel (hH:HRel ρ B H w) {id:Nat} {l:Loc} {c c':List AVal} (hl:ρ id=some l) (hc:H.obj id=some (.cells c true)) (w':World) (hsize:w.heap.size≤w'.heap.size) (hother:∀ k,k < w.heap.size→k≠l.b→w'.heap[k]? = w.heap[k]?) (hat:ORel ρ B w' l (.cells c' true)) :
  HRel ρ B (H.upd id (some (.cells c' true))) w':=by
 have hB:B≤l.b:=(hH.obj id l _ hl hc).1
 refine ⟨fun i l2 e=>⟨(hH.dom i l2 e).1,Nat.lt_of_lt_of_le (hH.dom i l2 e).2 hsize⟩,fun i l2 o2 e1 e2=>?_,fun i i' l1 l2 o1 o2 e1 e2 hne h1 h2 h3 h4=>?_,Nat.le_trans hH.base hsize,top_upd hH hl _⟩
 ·by_cases hi:i=id
  ·subst hi
   rw [hl] at e1; injection e1 with e1; subst e1
   simp only [AHeap.upd,if_true] at e2
   injection e2 with e2; subst e2
   exact hat
  ·simp only [AHeap.upd,if_neg hi] at e2
   have hne:l2.b≠l.b:=by
    intro e
    have hr:=hH.obj i l2 o2 e1 e2
    by_cases hw:o2.own=true
    ·exact hH.inj i id l2 l o2 _ e1 hl hi e2 hc hw rfl e
    ·cases o2 with
     | cells c2 rw2 =>
      cases rw2 with
      | true=>exact absurd rfl hw
      | false=>have:=hr.1; omega
     | amap _=>exact absurd rfl hw
   exact (hH.obj i l2 o2 e1 e2).mono (.refl _) (hother _ (hH.dom i l2 e1).2 hne)
 ·have own:∀ j oj,(H.upd id (some (.cells c' true))).obj j=some oj→∃ oj',H.obj j=some oj'∧(oj.own=true→oj'.own=true):=by
   intro j oj hj
   simp only [AHeap.upd] at hj
   split at hj
   ·rename_i hji; subst hji
    exact ⟨_,hc,fun _=>rfl⟩
   ·exact ⟨oj,hj,fun h=>h⟩
  obtain ⟨q1,k1,k2⟩:=own i o1 h1
  obtain ⟨q2,k3,k4⟩:=own i' o2 h2
  exact hH.inj i i' l1 l2 q1 q2 e1 e2 hne k1 k3 (k2 h3) (k4 h4)
theorem hrel_none (w:World):HRel (fun _=>none) w.heap.size ⟨fun _=>none,0⟩ w:=by
 refine ⟨fun _ _ h=>?_,fun _ _ _ h=>?_,fun _ _ _ _ _ _ h=>?_,Nat.le_refl _,fun _ _=>rfl⟩ <;> cases h
theorem beneath_grow {w w':World} (h:Beneath w.heap.size w w'):∃ q os,w'=Go.Sort.grow (w.drewN q) os:=by
 refine ⟨w'.drawn - w.drawn,w'.heap.extract w.heap.size w'.heap.size,?_⟩
 have hd:=h.drawn
 obtain ⟨⟨h1,h2,h3,h4,h5⟩,_⟩:=h
 have hh:w.heap++w'.heap.extract w.heap.size w'.heap.size=w'.heap:=by
  refine Array.ext_getElem? fun i=>?_
  by_cases hi:i < w.heap.size
  ·rw [Array.getElem?_append_left hi,h5 i hi]
  ·rw [Array.getElem?_append_right (by omega),Array.getElem?_extract]
   by_cases hi2:i < w'.heap.size
   ·rw [if_pos (by omega)]
    congr 1
    omega
   ·rw [if_neg (by omega),Array.getElem?_eq_none (by omega)]
 cases w with
 | mk heap tape drawn os output =>
 cases w' with
 | mk heap' tape' drawn' os' output' =>
 simp only at *
 subst h1; subst h2; subst h3
 simp only [Go.Sort.grow,World.drewN,hh]
 congr 1
 omega
end
end Go.VAI

/- Going over a map,wherever its iterator lies; what is left of a step when its new names are let go. -/
set_option linter.unusedVariables false
set_option linter.unusedSimpArgs false
namespace Go.VAI
open Go Go.RowKit

mutual
theorem VRel.back {ρ ρ':Ren} (hr:RLe ρ ρ'):∀ (a:AVal) (u v:Value),VRel ρ a u→VRel ρ' a v→VRel ρ a v
 | .int _ _,_,_,_,k=>by simpa only [VRel] using k
 | .bool _,_,_,_,k=>by simpa only [VRel] using k
 | .str _,_,_,_,k=>by simpa only [VRel] using k
 | .ptr _ _,_,_,h,k=>by
  simp only [VRel] at h k ⊢
  obtain ⟨l,h1,_⟩:=h
  obtain ⟨l',k1,k2⟩:=k
  rw [hr _ _ h1] at k1; injection k1 with k1; subst k1
  exact ⟨l,h1,k2⟩
 | .nilPtr,_,_,_,k=>by simpa only [VRel] using k
 | .slice _ _ _ (.exact _),_,_,h,k=>by
  simp only [VRel] at h k ⊢
  obtain ⟨l,p,h1,_⟩:=h
  obtain ⟨l',p',k1,k2⟩:=k
  rw [hr _ _ h1] at k1; injection k1 with k1; subst k1
  exact ⟨l,p',h1,k2⟩
 | .slice _ _ _ (.room _),_,_,h,k=>by
  simp only [VRel] at h k ⊢
  obtain ⟨l,c,p,h1,_⟩:=h
  obtain ⟨l',c',p',k1,k2⟩:=k
  rw [hr _ _ h1] at k1; injection k1 with k1; subst k1
  exact ⟨l,c',p',h1,k2⟩
 | .nilSlice,_,_,_,k=>by simpa only [VRel] using k
 | .map _,_,_,h,k=>by
  simp only [VRel] at h k ⊢
  obtain ⟨l,h1,_⟩:=h
  obtain ⟨l',k1,k2⟩:=k
  rw [hr _ _ h1] at k1; injection k1 with k1; subst k1
  exact ⟨l,h1,k2⟩
 | .nilMap,_,_,_,k=>by simpa only [VRel] using k
 | .func _ a b,_,_,h,k=>by
  simp only [VRel] at h k ⊢
  obtain ⟨x,y,_,h2,h3⟩:=h
  obtain ⟨x',y',k1,k2,k3⟩:=k
  exact ⟨x',y',k1,VRels.back hr a x x' h2 k2,VRels.back hr b y y' h3 k3⟩
 | .nilFunc,_,_,_,k=>by simpa only [VRel] using k
 | .iface _ a,_,_,h,k=>by
  simp only [VRel] at h k ⊢
  obtain ⟨x,_,h2⟩:=h
  obtain ⟨x',k1,k2⟩:=k
  exact ⟨x',k1,VRel.back hr a x x' h2 k2⟩
 | .nilIface,_,_,_,k=>by simpa only [VRel] using k
 | .agg cs,_,_,h,k=>by
  simp only [VRel] at h k ⊢
  obtain ⟨x,_,h2,h3⟩:=h
  obtain ⟨x',k1,k2,_⟩:=k
  exact ⟨x',k1,VRels.back hr cs x x' h2 k2,h3⟩
 | .tuple cs,_,_,h,k=>by
  simp only [VRel] at h k ⊢
  obtain ⟨x,_,h2⟩:=h
  obtain ⟨x',k1,k2⟩:=k
  exact ⟨x',k1,VRels.back hr cs x x' h2 k2⟩
 | .bot,_,_,_,_=>by simp only [VRel]
theorem VRels.back {ρ ρ':Ren} (hr:RLe ρ ρ'):∀ (as:List AVal) (us vs:List Value),VRels ρ as us→VRels ρ' as vs→VRels ρ as vs
 | [],_,_,_,k=>by simpa only [VRels] using k
 | a :: as,_,_,h,k=>by
  simp only [VRels] at h k ⊢
  obtain ⟨u,us,_,h2,h3⟩:=h
  obtain ⟨v,vs,k1,k2,k3⟩:=k
  exact ⟨v,vs,k1,VRel.back hr a u v h2 k2,VRels.back hr as us vs h3 k3⟩
end
theorem CRel.back {ρ ρ':Ren} (hr:RLe ρ ρ') {w w':World} {l:Loc} {c:List AVal} (h:CRel ρ w l c) (k:CRel ρ' w' l c):CRel ρ w' l c:=by
 refine ⟨h.1,fun i v e=>?_⟩
 obtain ⟨u,_,h2⟩:=h.2 i v e
 obtain ⟨u',k1,k2⟩:=k.2 i v e
 exact ⟨u',k1,VRel.back hr v u u' h2 k2⟩
theorem ORel.back {ρ ρ':Ren} (hr:RLe ρ ρ') {B:Nat} {w w':World} {l:Loc} {o:AObj} (h:ORel ρ B w l o) (k:ORel ρ' B w' l o):ORel ρ B w' l o:=by
 cases o with
 | cells c rw =>
  cases rw with
  | false=>exact ⟨h.1,h.2.back hr k.2⟩
  | true =>
   obtain ⟨h1,h2,_⟩:=h
   obtain ⟨k1,k2,k3⟩:=k
   exact ⟨h1,h2.back hr k2,k3⟩
 | amap es =>
  obtain ⟨h1,ents,clock,h4,h5,h6,h7⟩:=h
  obtain ⟨k1,ents',clock',k4,k5,k6,k7⟩:=k
  refine ⟨h1,ents',clock',k4,k5,fun i e he=>?_,k7⟩
  obtain ⟨m,_,e2,e3⟩:=h6 i e he
  obtain ⟨m',g1,g2,g3⟩:=k6 i e he
  exact ⟨m',g1,VRel.back hr _ _ _ e2 g2,VRel.back hr _ _ _ e3 g3⟩

section
variable {ρ ρ1:Ren} {B:Nat} {H H1:AHeap} {w w':World}
theorem Step.forget (hH:HRel ρ B H w) (hs:Step ρ B H w ρ1 H1 w') (hold:∀ id,id < H.next→H1.obj id=H.obj id):HRel ρ B H w':=by
 have up:∀ id l,ρ id=some l→ρ1 id=some l:=fun id l e=>hs.le id l e
 have ob:∀ id l,ρ id=some l→H1.obj id=H.obj id:=fun id l e=>hold id (hH.dom id l e).1
 refine ⟨fun id l e=>⟨(hH.dom id l e).1,(hs.heap.dom id l (up id l e)).2⟩,fun id l o e1 e2=>?_,hH.inj,hs.heap.base,hH.top⟩
 exact (hH.obj id l o e1 e2).back hs.le (hs.heap.obj id l o (up id l e1) (by rw [ob id l e1]; exact e2))
theorem Step.none_left (hH:HRel ρ B H w) (hs:Step ρ B H w ρ1 H1 w') (hold:∀ id,id < H.next→H1.obj id=H.obj id):Step ρ B H w ρ H w' :=
 ⟨.refl _,hs.forget hH hold,hs.below,fun _ h1 h2=>absurd h1 h2,Nat.le_refl _,fun _ _ _=>rfl⟩
theorem Step.one_left (hH:HRel ρ B H w) (hs:Step ρ B H w ρ1 H1 w') (hold:∀ id,id < H.next→H1.obj id=H.obj id) {j:Nat} {l:Loc} {c:List AVal} (hj:H.next≤j) (hl:ρ1 j=some l) (ho:H1.obj j=some (.cells c true)) (hc:∀ v∈c,∃ z,v=.int .i64 z) :
  Step ρ B H w (xT ρ H.next l) (H.new (.cells c true)) w':=by
 have hf:=hs.forget hH hold
 have hy:ρ H.next=none:=by
  cases e:ρ H.next with
  | none=>rfl
  | some l=>have:=(hH.dom _ _ e).1; omega
 have hr:=hs.heap.obj j l _ hl ho
 have up:∀ id l,ρ id=some l→ρ1 id=some l:=fun id l e=>hs.le id l e
 have ob:∀ id l,ρ id=some l→H1.obj id=H.obj id:=fun id l e=>hold id (hH.dom id l e).1
 refine Step.bind hy rfl (fun _ _ _=>rfl) ⟨fun id l2 e=>?_,fun id l2 o e1 e2=>?_,fun id id' l2 l3 o o' e1 e2 hne h1 h2 h3 h4=>?_,hf.base,fun id hid=>?_⟩ hs.below
 ·unfold xT at e
  split at e
  ·rename_i he
   injection e with e; subst e
   exact ⟨by simp only [AHeap.new]; omega,(hs.heap.dom j l hl).2⟩
  ·exact ⟨by have:=(hH.dom id l2 e).1; simp only [AHeap.new]; omega,(hf.dom id l2 e).2⟩
 ·unfold xT at e1
  split at e1
  ·rename_i he
   injection e1 with e1; subst e1
   subst he
   simp only [AHeap.new,if_true] at e2
   injection e2 with e2; subst e2
   obtain ⟨r1,r2,r3⟩:=hr
   refine ⟨r1,⟨r2.1,fun i v e=>?_⟩,r3⟩
   obtain ⟨u,u1,u2⟩:=r2.2 i v e
   obtain ⟨z,rfl⟩:=hc v (List.mem_of_getElem? e)
   exact ⟨u,u1,by simpa only [VRel] using u2⟩
  ·rename_i he
   simp only [AHeap.new,if_neg he] at e2
   have h:=hf.obj id l2 o e1 e2
   cases o with
   | cells c rw =>
    cases rw with
    | false=>exact ⟨h.1,h.2.mono (zI hy) rfl⟩
    | true=>exact ⟨h.1,h.2.1.mono (zI hy) rfl,h.2.2⟩
   | amap es=>exact h.mono (zI hy) rfl
 ·have nx:∀ id l2 o,id≠H.next→xT ρ H.next l id=some l2→(H.new (.cells c true)).obj id=some o→ρ id=some l2∧H.obj id=some o:=fun id l2 o hn e1 e2=>by
   unfold xT at e1
   rw [if_neg hn] at e1
   simp only [AHeap.new,if_neg hn] at e2
   exact ⟨e1,e2⟩
  have at_:∀ l2,xT ρ H.next l H.next=some l2→l2=l:=fun l2 e=>by
   unfold xT at e
   rw [if_pos rfl] at e
   cases e
   rfl
  by_cases hi:id=H.next
  ·subst hi
   have hi':id'≠H.next:=fun e=>hne e.symm
   obtain ⟨q1,q2⟩:=nx id' l3 o' hi' e2 h2
   have:=at_ l2 e1
   subst this
   have hlt:=(hH.dom id' l3 q1).1
   exact hs.heap.inj j id' l2 l3 _ _ hl (up id' l3 q1) (by omega) ho (by rw [ob id' l3 q1]; exact q2) rfl h4
  ·obtain ⟨q1,q2⟩:=nx id l2 o hi e1 h1
   by_cases hi':id'=H.next
   ·subst hi'
    have:=at_ l3 e2
    subst this
    have hlt:=(hH.dom id l2 q1).1
    exact hs.heap.inj id j l2 l3 _ _ (up id l2 q1) hl (by omega) (by rw [ob id l2 q1]; exact q2) ho h3 rfl
   ·obtain ⟨q3,q4⟩:=nx id' l3 o' hi' e2 h2
    exact hH.inj id id' l2 l3 o o' q1 q3 hne q2 q4 h3 h4
 ·simp only [AHeap.new] at hid ⊢
  rw [if_neg (by omega)]
  exact hH.top id (by omega)
end

variable {P:Program}
def handed (W:World) (r bm since clock q:Nat) (seen:Array Nat):World:={ W with heap:=W.heap.setIfInBounds r (.mapIter (some bm) since seen clock),drawn:=W.drawn+q }
theorem next_at (W:World) (ty:TypeId) (bm since c0 r:Nat) (seen:Array Nat) (es:Array MapEntry) (clock:Nat) (hr:W.heap[r]? = some (.mapIter (some bm) since seen c0)) (hb:W.heap[bm]? = some (.map es clock)) (hold:∀ x∈es.toList,x.born < since) (hsc:since≤c0) :
  ((leftOf es seen).size=0∧(Instr.next (.pointer (some ⟨r,0,none⟩)) false ty).run P W=.ok (.tuple #[.bool false]) W) ∨
  ∃ e∈(leftOf es seen).toList,∃ q,(Instr.next (.pointer (some ⟨r,0,none⟩)) false ty).run P W=.ok (.tuple #[.bool true,e.key,e.val]) (handed W r bm since clock q (seen.push e.born)):=by
 simp only [Instr.next,getObj,Sem.run_bind,Sem.run,hr,hb,Result.andThen,next_test_false seen es since c0 hold hsc,Bool.false_eq_true,if_false]
 unfold leftOf
 have hmem:∀ x∈(Array.filter (fun e => !seen.contains e.born) es).toList,x.born < since:=fun x hx=>hold x (by simp at hx ⊢; exact hx.1)
 generalize Array.filter (fun e => !seen.contains e.born) es=L at hmem ⊢
 have e1:L.filter (fun x=>decide (x.born < since))=L:=Array.filter_eq_self.2 (fun x hx=>by simpa using hmem x (by simpa using hx))
 have e2:L.filter (fun x=>decide (x.born≥since))=#[]:=by
  rw [Array.filter_eq_empty_iff]
  intro x hx
  have:=hmem x (by simpa using hx)
  simp
  omega
 simp only [e1,e2,Array.append_empty]
 by_cases h0:L.size=0
 ·left
  have:L=#[]:=Array.eq_empty_of_size_eq_zero h0
  subst this
  refine ⟨rfl,?_⟩
  simp [choose,Sem.run,Question.forced]
 ·right
  have hne:L.isEmpty=false:=by simp [Array.isEmpty,h0]
  simp only [hne,Bool.false_eq_true,if_false,Array.empty_append,Array.size_map]
  have hch:∃ (j q:Nat),j < L.size∧(choose (Question.mapNext L.size)).run P W=.ok j { W with drawn:=W.drawn+q }:=by
   by_cases hf:L.size≤1
   ·exact ⟨0,0,by omega,by simp [choose,Sem.run,Question.forced,hf]⟩
   ·exact ⟨_,1,Nat.mod_lt _ (by omega),by
     simp only [choose,Sem.run,Question.forced,decide_eq_true_eq,hf,if_false,Question.cut]
     rfl⟩
  obtain ⟨j,q,hj,hrun⟩:=hch
  refine ⟨L[j],by simp,q,?_⟩
  have hset:(setObj r (.mapIter (some bm) since (seen.push L[j].born) clock)).run P { W with drawn:=W.drawn+q }=.ok () (handed W r bm since clock q (seen.push L[j].born)):=by
   simp only [setObj,Sem.run,hr]
   rfl
  simp only [hrun,Array.getElem?_map,Array.getElem?_eq_getElem hj,Option.map_some,Sem.run_bind,hset,Result.andThen]
  rfl
theorem entry_at (W:World) (bm since r:Nat) (seen:Array Nat) (es:Array MapEntry) (clock:Nat) (e:MapEntry) (hr:W.heap[r]? = some (.mapIter (some bm) since (seen.push e.born) clock)) (hb:W.heap[bm]? = some (.map es clock)) (he:e∈es.toList) (hn:(es.toList.map (·.born)).Nodup) :
  (Instr.entry (.pointer (some ⟨r,0,none⟩))).run P W=.ok (.tuple #[e.key,e.val]) W:=by
 have hf:es.find? (·.born == e.born)=some e:=by rw [← Array.find?_toList]; exact find_born e es.toList hn he
 simp only [Instr.entry,getObj,Sem.run_bind,Sem.run,hr,hb,Result.andThen,Array.back?_push,bne_self_eq_false,Bool.false_eq_true,if_false,hf]
 rfl
end Go.VAI

/- Sorting a row of vA: by the second number,then the first. -/
set_option linter.unusedVariables false
namespace Go.VAI
open Go

def prCell (k:Int × Int):List AVal:=[.int .i64 k.1,.int .i64 k.2]
def vS (l:List (Int × Int)):List AVal:=l.flatMap prCell
def prsOf:List AVal→Option (List (Int × Int))
 | []=>some []
 | .int .i64 a :: .int .i64 b :: l=>bnd (prsOf l) fun r=>some ((a,b) :: r)
 | _=>none
theorem prsOf_cells:∀ l:List (Int × Int),prsOf (vS l)=some l
 | []=>rfl
 | (a,b) :: l=>by
  show bnd (prsOf (vS l)) _=_
  rw [prsOf_cells l]
  rfl
theorem vT (ks:List (Int × Int)):(vS ks).length=ks.length*2:=by
 induction ks with
 | nil=>rfl
 | cons k l ih =>
  show (prCell k++vS l).length=_
  rw [List.length_append,ih]
  simp [prCell]
  omega
def prLe (x y:Int × Int):Bool:=decide (x.2 < y.2∨(x.2=y.2∧x.1≤y.1))
def wE (l:List (Int × Int)):List (Int × Int):=l.mergeSort prLe
theorem sortPrs_length (ks:List (Int × Int)):(wE ks).length=ks.length:=by simp [wE]
def sortP (by_:Nat):List AVal→AHeap→Option (AVal × AHeap)
 | [.slice id 0 len cap,.func (.func g) [] []],H =>
  if g=by_ then
   match H.obj id with
   | some (.cells c true)=>bnd (prsOf c) fun ks=>if ks.length=len∧0 < len∧len≤1000000 then some (.tuple [],H.upd id (some (.cells (vS (wE ks)) true))) else none
   | _=>none
  else none
 | _,_=>none
def libP (sort_ by_:Nat) (g:zN):zN:=fun f args H=>if f=sort_ then sortP by_ args H else g f args H
theorem sortP_slice {s b:Nat} {g:zN} {H:AHeap} {id len:Nat} {ks:List (Int × Int)} {cap:ACap} (ho:H.obj id=some (.cells (vS ks) true)) (hl:ks.length=len) (h0:0 < len) (hsz:len≤1000000) :
  libP s b g s [.slice id 0 len cap,.func (.func b) [] []] H=some (.tuple [],H.upd id (some (.cells (vS (wE ks)) true))):=by
 simp only [libP,sortP,if_pos,ho,prsOf_cells,bnd,hl]
 rw [if_pos ⟨trivial,h0,hsz⟩]
end Go.VAI
