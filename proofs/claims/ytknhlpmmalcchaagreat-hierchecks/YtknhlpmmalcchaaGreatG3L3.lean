/- The statement HierChecksSaid: for every input the law returns true. -/
import Derived.Test.YtknhlpmmalcchaaGreatG3Th
import Derived.Test.YtknhlpmmalcchaaGreatG3Vca
import Derived.Test.YtknhlpmmalcchaaGreatRows
import Derived.WalkKit
import Derived.ProofKit
import Derived.OpenShut
set_option linter.all false
set_option linter.unusedVariables false
set_option linter.unusedSimpArgs false
namespace Go.Proofs.YtknhlpmmalcchaaGreat.hierChecks
open Go Go.VAI Go.ChangeShapes Go.WideShapes Go.ChangeAt Go.RowKit
set_option linter.unusedVariables false
set_option linter.unusedSimpArgs false
theorem f1:(Rows.hierChecksRow.inPlace == Tryz.prog.inPlace 3)=true:=by kernel_rfl
theorem f2:(Rows.hierChecksRow.unfollowed == Tryz.prog.unfollowed 3)=true:=by kernel_rfl
theorem f3:(Rows.hierChecksRow.recurses == Tryz.prog.recurses 3)=true:=by kernel_rfl
theorem f4:(Rows.hierChecksRow.named == Tryz.prog.varsNamed 3)=true:=by kernel_rfl
theorem closed:joinedFacts Tryz.prog 3 Tryz.f3 Rows.hierChecksSpec Rows.hierChecksRow=true :=
 joined_of (by kernel_rfl) uQ fact_maps (by kernel_rfl) (by kernel_rfl) (by kernel_rfl) (by kernel_rfl) (by kernel_rfl) (by kernel_rfl) f1 f2 f3 f4 (by kernel_rfl) (by kernel_rfl) (by kernel_rfl) (by kernel_rfl) (by kernel_rfl) (by kernel_rfl) (by kernel_rfl) (by kernel_rfl) (by kernel_rfl) (by kernel_rfl) (by kernel_rfl) fact_heard fact_enter fact_lifts rfl fact_make rfl (by kernel_rfl) (by kernel_rfl) (by kernel_rfl) (by kernel_rfl)
theorem cellsI:Tryz.prog.cellsOf 3=1:=by kernel_rfl
theorem wf_I64 {x:Int} (h:(Lit.int .i64 x).wf=true):I64 x:=by
 simp [Lit.wf,IntKind.min,IntKind.max,IntKind.signed,IntKind.bits] at h
 unfold I64
 omega
theorem flatE:FlatT Tryz.prog 38 .i64 4:=by
 refine ⟨⟨_,Tryz.underlying38,fun i hi=>?_⟩,by kernel_rfl⟩
 have:i=0∨i=1∨i=2∨i=3:=by omega
 rcases this with rfl | rfl | rfl | rfl
 all_goals exact ⟨_,rfl,rfl,Tryz.underlying3,cellsI⟩
theorem flatA:FlatT Tryz.prog 41 .i64 7:=by
 refine ⟨⟨_,Tryz.underlying41,fun i hi=>?_⟩,by kernel_rfl⟩
 have:i=0∨i=1∨i=2∨i=3∨i=4∨i=5∨i=6:=by omega
 rcases this with rfl | rfl | rfl | rfl | rfl | rfl | rfl
 all_goals exact ⟨_,rfl,rfl,Tryz.underlying3,cellsI⟩
set_option maxHeartbeats 1600000 in
set_option maxRecDepth 100000 in
theorem lifted (os:Os) (started:os.Started) (H:Type) (enc:TypeId × Value→H) :
  ReturnsInHanded {} Tryz.checked os 3 .any (Rows.hierChecksSpec.pre6 enc Tryz.prog Tryz.f3 Rows.hierChecksRow.domain false) (Rows.hierChecksSpec.post enc Tryz.prog Tryz.f3 false true false false):=by
 refine returnsInHanded_of_change (C:=Tryz.checked) own started (by kernel_rfl) Tryz.func3
  (ChangeSpec.witness6 (enc:=enc) (C:=Tryz.checked) false ⟨#[],#[.agg #[.int .i64 0,.slice none 0 0,.slice none 0 0,.slice none 0 0,.slice none 0 0,.slice none 0 0],.int .i64 0,.slice none 0 0,.int .i64 0,.int .i64 0,.int .i64 0,.int .i64 0],[]⟩ 8 (by kernel_rfl) (by kernel_rfl) (by kernel_rfl) (by kernel_rfl)) ?_
 intro W base args ds gs before hval0 hW _ _
 have hval:∀ (j:Nat) t v,Tryz.f3.params[j]? = some t→args[j]? = some v→Value.okWide Tryz.prog W .any base t v:=hval0
 have hW':=hW
 obtain ⟨p,q,hA0,hV,rfl,_,_⟩:=hW
 have hA:DataW.TrodAll enc Tryz.prog W 0 (fun _=>true) true Tryz.f3.params.toList args.toList ds p:=hA0
 rw [Tryz.params3] at hA hval
 obtain ⟨v0,vs0,d0,ds0,p0,q0,hargs,rfl,rfl,h0,r0⟩:=trodAll_cons hA
 obtain ⟨v1,vs1,d1,ds1,p1,q1,rfl,rfl,rfl,h1,r1⟩:=trodAll_cons r0
 obtain ⟨v2,vs2,d2,ds2,p2,q2,rfl,rfl,rfl,h2,r2⟩:=trodAll_cons r1
 obtain ⟨v3,vs3,d3,ds3,p3,q3,rfl,rfl,rfl,h3,r3⟩:=trodAll_cons r2
 obtain ⟨v4,vs4,d4,ds4,p4,q4,rfl,rfl,rfl,h4,r4⟩:=trodAll_cons r3
 obtain ⟨v5,vs5,d5,ds5,p5,q5,rfl,rfl,rfl,h5,r5⟩:=trodAll_cons r4
 obtain ⟨v6,vs6,d6,ds6,p6,q6,rfl,rfl,rfl,h6,r6⟩:=trodAll_cons r5
 obtain ⟨rfl,rfl,rfl⟩:=trodAll_nil r6
 obtain rfl:args=#[v0,v1,v2,v3,v4,v5,v6]:=by cases args; simp_all
 obtain ⟨rfl,rfl⟩:=trodVars_none hV
 have h0k:=h0
 have h1k:=h1
 have h2k:=h2
 have h3k:=h3
 have h4k:=h4
 have h5k:=h5
 have h6k:=h6
 obtain ⟨n0,u1,u2,u3,u4,u5,es,fe,le,rk,fk,lk,ars,fa,la,up,us,lus,fu,lu,dn,dss,lds,fd,ld,rfl,wn,e1,e2,e3,e4,e5⟩:=opened_idx (t0:=3) (tn:=24) (s:=22) (sr:=25) (sa:=26) (so:=27) (ee:=38) (ea:=41) (e:=3) Tryz.underlying29 (by kernel_rfl) ⟨rfl,rfl,rfl,by kernel_rfl⟩ ⟨⟨_,rfl,rfl,rfl⟩,by kernel_rfl⟩ ⟨⟨_,rfl,rfl,rfl⟩,by kernel_rfl⟩ ⟨⟨_,rfl,rfl,rfl⟩,by kernel_rfl⟩ ⟨⟨_,rfl,rfl,rfl⟩,by kernel_rfl⟩ Tryz.underlying24 ⟨rfl,rfl,Tryz.underlying3,cellsI⟩ ⟨⟨_,rfl,rfl,rfl⟩,by kernel_rfl⟩ (by kernel_rfl) Tryz.underlying22 flatE Tryz.underlying25 Tryz.underlying3 cellsI Tryz.underlying26 flatA Tryz.underlying27 (by kernel_rfl) (hval 0 29 v0 rfl rfl) h0
 obtain ⟨a1,rfl,rfl,rfl,w1⟩:=open_int Tryz.underlying3 (hval 1 3 v1 rfl rfl) h1
 obtain ⟨a3,rfl,rfl,rfl,w3⟩:=open_int Tryz.underlying3 (hval 3 3 v3 rfl rfl) h3
 obtain ⟨a4,rfl,rfl,rfl,w4⟩:=open_int Tryz.underlying3 (hval 4 3 v4 rfl rfl) h4
 obtain ⟨a5,rfl,rfl,rfl,w5⟩:=open_int Tryz.underlying3 (hval 5 3 v5 rfl rfl) h5
 obtain ⟨a6,rfl,rfl,rfl,w6⟩:=open_int Tryz.underlying3 (hval 6 3 v6 rfl rfl) h6
 have ok2:=hval 2 25 v2 rfl rfl
 obtain ⟨b2,len2,cap2,rfl⟩:=okWide_slice Tryz.underlying25 ok2
 obtain ⟨xs2,f2,l2,wf2,m2,c2,vr2,rr2⟩:=opened_ints Tryz.underlying25 Tryz.underlying3 cellsI ok2 h2
 have hlt:=hW'.lt
 have hm2:xs2.length≤9223372036854775807:=m2
 have hmu:up.length≤9223372036854775807:=e4.2.2.1
 have hmd:dn.length≤9223372036854775807:=e5.2.2.1
 obtain ⟨hll,hhh⟩:=idx_init (ns:=xs2) (ln:=l2) e1 e2 e3 e4 e5 c2
 have hret:Ret A 3 [.agg [.int .i64 n0,fe 0,fk 1,fa 2,fu 3,fd 4],.int .i64 a1,f2 5,.int .i64 a3,.int .i64 a4,.int .i64 a5,.int .i64 a6] (vY (wT es rk ars up us dn dss xs2)) (fun v _=>v=.bool true):=by
  exact hierChecks_ret (idx_in n0 e1 e2 e3 e4 e5) hmu hmd (wf_I64 w1) (rr2 _ 5 (by rw [show (vY (wT es rk ars up us dn dss xs2)).next=_ from idxObjs_len (es:=es)]; omega) rfl) (fun x hx=>wf_I64 (wf2 x hx)) hm2 (wf_I64 w3) (wf_I64 w4) (wf_I64 w5) (wf_I64 w6)
 refine (law_calls follows tab_ok A_ok (us:=[.agg #[.int .i64 n0,u1,u2,u3,u4,u5],.int .i64 a1,.slice b2 len2 cap2,.int .i64 a3,.int .i64 a4,.int .i64 a5,.int .i64 a6]) (locs:=qB le lk la lu ld l2 lus lds) hret hll hhh ?_).mono fun e W2 ⟨he,hb⟩=>?_
 ·exact .cons (idx_vrel e1 e2 e3 e4 e5) (.cons (by simp only [VRel]) (.cons (vr2 _ 5 rfl) (.cons (by simp only [VRel]) (.cons (by simp only [VRel]) (.cons (by simp only [VRel]) (.cons (by simp only [VRel]) .nil))))))
 ·subst he
  refine ⟨_,rfl,_,_,_,[],_,[],hW',?_,(trodAll_cons_mk (Below.trod uQ (by kernel_rfl) (of_decide_eq_true (by kernel_rfl)) h0k hb (fun x hx=>by first | (cases hx; done) | simpa using hlt x (by simp [hx]))) (trodAll_cons_mk (Below.trod uQ (by kernel_rfl) (of_decide_eq_true (by kernel_rfl)) h1k hb (fun x hx=>by first | (cases hx; done) | simpa using hlt x (by simp [hx]))) (trodAll_cons_mk (Below.trod uQ (by kernel_rfl) (of_decide_eq_true (by kernel_rfl)) h2k hb (fun x hx=>by first | (cases hx; done) | simpa using hlt x (by simp [hx]))) (trodAll_cons_mk (Below.trod uQ (by kernel_rfl) (of_decide_eq_true (by kernel_rfl)) h3k hb (fun x hx=>by first | (cases hx; done) | simpa using hlt x (by simp [hx]))) (trodAll_cons_mk (Below.trod uQ (by kernel_rfl) (of_decide_eq_true (by kernel_rfl)) h4k hb (fun x hx=>by first | (cases hx; done) | simpa using hlt x (by simp [hx]))) (trodAll_cons_mk (Below.trod uQ (by kernel_rfl) (of_decide_eq_true (by kernel_rfl)) h5k hb (fun x hx=>by first | (cases hx; done) | simpa using hlt x (by simp [hx]))) (trodAll_cons_mk (Below.trod uQ (by kernel_rfl) (of_decide_eq_true (by kernel_rfl)) h6k hb (fun x hx=>by first | (cases hx; done) | simpa using hlt x (by simp [hx]))) trodAll_mk0))))))),rfl,hb.frame _,fun h=>by cases h⟩
  exact trodAll_mk1 (shut_bool Tryz.underlying4 _)
theorem proved:Rows.HierChecksSaid :=
 OpenClaim.holds_of_wide 3 Tryz.f3 rfl rfl rfl rfl rfl rfl rfl ⟨rfl,rfl,rfl,rfl,rfl⟩ rfl rfl rfl rfl rfl (by kernel_rfl) Tryz.func3 closed
  (of_decide_eq_true (by kernel_rfl)) (by unfold Func.isWrapper; first | (rw [if_pos (by decide +kernel)]; kernel_rfl) | (rw [if_neg (by decide +kernel)]; exact ⟨rfl,rfl⟩))
  (fun os started H enc _=>lifted os started H enc)
#print axioms proved
end Go.Proofs.YtknhlpmmalcchaaGreat.hierChecks
