/- The statement HierLineSaid: for every input the law returns true. -/
import Derived.Test.YtknhlpmmalcchaaGreatG4Tg
import Derived.Test.YtknhlpmmalcchaaGreatG4Vca
import Derived.Test.YtknhlpmmalcchaaGreatRows
import Derived.WalkKit
import Derived.ProofKit
import Derived.OpenShut
set_option linter.all false
set_option linter.unusedVariables false
set_option linter.unusedSimpArgs false
namespace Go.Proofs.YtknhlpmmalcchaaGreat.hierLine
open Go Go.VAI Go.ChangeShapes Go.WideShapes Go.ChangeAt Go.RowKit
set_option linter.unusedVariables false
set_option linter.unusedSimpArgs false
theorem f1 : (Rows.hierLineRow.inPlace == Tryz.prog.inPlace 4) = true := by kernel_rfl
theorem f2 : (Rows.hierLineRow.unfollowed == Tryz.prog.unfollowed 4) = true := by kernel_rfl
theorem f3 : (Rows.hierLineRow.recurses == Tryz.prog.recurses 4) = true := by kernel_rfl
theorem f4 : (Rows.hierLineRow.named == Tryz.prog.varsNamed 4) = true := by kernel_rfl
theorem closed : joinedFacts Tryz.prog 4 Tryz.f4 Rows.hierLineSpec Rows.hierLineRow = true :=
 joined_of (by kernel_rfl) fact_laid fact_maps (by kernel_rfl) (by kernel_rfl) (by kernel_rfl) (by kernel_rfl) (by kernel_rfl) (by kernel_rfl) f1 f2 f3 f4 (by kernel_rfl) (by kernel_rfl) (by kernel_rfl) (by kernel_rfl) (by kernel_rfl) (by kernel_rfl) (by kernel_rfl) (by kernel_rfl) (by kernel_rfl) (by kernel_rfl) (by kernel_rfl) fact_heard fact_enter fact_lifts rfl fact_make rfl (by kernel_rfl) (by kernel_rfl) (by kernel_rfl) (by kernel_rfl)
theorem cellsI : Tryz.prog.cellsOf 3 = 1 := by kernel_rfl
theorem wf_I64 {x : Int} (h : (Lit.int .i64 x).wf = true) : I64 x := by
 simp [Lit.wf,IntKind.min,IntKind.max,IntKind.signed,IntKind.bits] at h
 unfold I64
 omega
set_option maxHeartbeats 1600000 in
set_option maxRecDepth 100000 in
theorem lifted (os : Os) (started : os.Started) (H : Type) (enc : TypeId × Value → H) :
  ReturnsInHanded {} Tryz.checked os 4 .any (Rows.hierLineSpec.pre6 enc Tryz.prog Tryz.f4 Rows.hierLineRow.domain false) (Rows.hierLineSpec.post enc Tryz.prog Tryz.f4 false true false false) := by
 refine returnsInHanded_of_change (C := Tryz.checked) own started (by kernel_rfl) Tryz.func4
  (ChangeSpec.witness6 (enc := enc) (C := Tryz.checked) false ⟨#[],#[.int .i64 0,.slice none 0 0],[]⟩ 8 (by kernel_rfl) (by kernel_rfl) (by kernel_rfl) (by kernel_rfl)) ?_
 intro W base args ds gs before hval0 hW _ _
 have hval : ∀ (j : Nat) t v,Tryz.f4.params[j]? = some t → args[j]? = some v → Value.okWide Tryz.prog W .any base t v := hval0
 have hW' := hW
 obtain ⟨p,q,hA0,hV,rfl,_,_⟩ := hW
 have hA : DataW.TrodAll enc Tryz.prog W 0 (fun _ => true) true Tryz.f4.params.toList args.toList ds p := hA0
 rw [Tryz.params4] at hA hval
 obtain ⟨v0,vs0,d0,ds0,p0,q0,hargs,rfl,rfl,h0,r0⟩ := trodAll_cons hA
 obtain ⟨v1,vs1,d1,ds1,p1,q1,rfl,rfl,rfl,h1,r1⟩ := trodAll_cons r0
 obtain ⟨rfl,rfl,rfl⟩ := trodAll_nil r1
 obtain rfl : args = #[v0,v1] := by cases args; simp_all
 obtain ⟨rfl,rfl⟩ := trodVars_none hV
 have h0k := h0
 obtain ⟨a0,rfl,rfl,rfl,w0⟩ := open_int Tryz.underlying3 (hval 0 3 v0 rfl rfl) h0
 have h1k := h1
 have ok1 := hval 1 25 v1 rfl rfl
 obtain ⟨b1,len1,cap1,rfl⟩ := okWide_slice Tryz.underlying25 ok1
 obtain ⟨xs1,f1,l1,wf1,m1,c1,vr1,rr1⟩ := opened_ints Tryz.underlying25 Tryz.underlying3 cellsI ok1 h1
 have hlt := hW'.lt
 have hm1 : xs1.length ≤ 9223372036854775807 := m1
 have hret : Ret A 4 [.int .i64 a0,f1 0] (heapOf [xs1.map (AVal.int .i64)]) (fun v _ => v = .bool true) := by
  exact hierLine_ret (wf_I64 w0) (rr1 _ 0 (by show 0 < _; simp [heapOf]) rfl) (fun x hx => wf_I64 (wf1 x hx)) hm1
 refine (law_calls follows tab_ok A_ok (us := [.int .i64 a0,.slice b1 len1 cap1]) (locs := [l1]) hret rfl ?_ ?_).mono fun e W2 ⟨he,hb⟩ => ?_
 ·intro i c l e1 e2
  rcases i with _ | i
  ·injection e1 with e1; injection e2 with e2; subst e1; exact c1 l _ e2
  simp at e1
 ·exact .cons (by simp only [VRel]) (.cons (vr1 _ 0 rfl) .nil)
 ·subst he
  refine ⟨_,rfl,_,_,_,[],_,[],hW',?_,(trodAll_cons_mk (Below.trod fact_laid (by kernel_rfl) (of_decide_eq_true (by kernel_rfl)) h0k hb (fun x hx => by first | (cases hx; done) | simpa using hlt x (by simp [hx]))) (trodAll_cons_mk (Below.trod fact_laid (by kernel_rfl) (of_decide_eq_true (by kernel_rfl)) h1k hb (fun x hx => by first | (cases hx; done) | simpa using hlt x (by simp [hx]))) trodAll_mk0)),rfl,hb.frame _,fun h => by cases h⟩
  exact trodAll_mk1 (shut_bool Tryz.underlying4 _)
theorem proved : Rows.HierLineSaid :=
 OpenClaim.holds_of_wide 4 Tryz.f4 rfl rfl rfl rfl rfl rfl rfl ⟨rfl,rfl,rfl,rfl,rfl⟩ rfl rfl rfl rfl rfl (by kernel_rfl) Tryz.func4 closed
  (of_decide_eq_true (by kernel_rfl)) (by unfold Func.isWrapper; first | (rw [if_pos (by decide +kernel)]; kernel_rfl) | (rw [if_neg (by decide +kernel)]; exact ⟨rfl,rfl⟩))
  (fun os started H enc _ => lifted os started H enc)
#print axioms proved
end Go.Proofs.YtknhlpmmalcchaaGreat.hierLine
