/- The statement HierArcsSaid: for every input the law returns true. -/
import Derived.Test.YtknhlpmmalcchaaH22Tf
import Derived.Test.YtknhlpmmalcchaaH22Vca
import Derived.Test.YtknhlpmmalcchaaH22Ta
import Derived.Test.YtknhlpmmalcchaaRows
import Derived.WalkKit
import Derived.ProofKit
import Derived.OpenShut
set_option linter.all false
set_option linter.unusedVariables false
set_option linter.unusedSimpArgs false
namespace Go.Proofs.Ytknhlpmmalcchaa.hierArcs
open Go Go.VAI Go.ChangeShapes Go.WideShapes Go.ChangeAt Go.RowKit
set_option linter.unusedVariables false
set_option linter.unusedSimpArgs false
theorem f1 : (Rows.hierArcsRow.inPlace == Try.prog.inPlace 22) = true := by kernel_rfl
theorem f2 : (Rows.hierArcsRow.unfollowed == Try.prog.unfollowed 22) = true := by kernel_rfl
theorem f3 : (Rows.hierArcsRow.recurses == Try.prog.recurses 22) = true := by kernel_rfl
theorem f4 : (Rows.hierArcsRow.named == Try.prog.varsNamed 22) = true := by kernel_rfl
theorem closed : joinedFacts Try.prog 22 Try.f22 Rows.hierArcsSpec Rows.hierArcsRow = true :=
 joined_of (by kernel_rfl) fact_laid fact_maps (by kernel_rfl) (by kernel_rfl) (by kernel_rfl) (by kernel_rfl) (by kernel_rfl) (by kernel_rfl) f1 f2 f3 f4 (by kernel_rfl) (by kernel_rfl) (by kernel_rfl) (by kernel_rfl) (by kernel_rfl) (by kernel_rfl) (by kernel_rfl) (by kernel_rfl) (by kernel_rfl) (by kernel_rfl) (by kernel_rfl) fact_heard fact_enter fact_lifts rfl fact_make rfl (by kernel_rfl) (by kernel_rfl) (by kernel_rfl) (by kernel_rfl)
theorem cellsI : Try.prog.cellsOf 3 = 1 := by kernel_rfl
theorem wf_I64 {x : Int} (h : (Lit.int .i64 x).wf = true) : I64 x := by
 simp [Lit.wf, IntKind.min, IntKind.max, IntKind.signed, IntKind.bits] at h
 unfold I64
 omega
set_option maxHeartbeats 1600000 in
set_option maxRecDepth 100000 in
theorem lifted (os : Os) (started : os.Started) (H : Type) (enc : TypeId × Value → H) :
  ReturnsInHanded {} Try.checked os 22 .any (Rows.hierArcsSpec.pre6 enc Try.prog Try.f22 Rows.hierArcsRow.domain false) (Rows.hierArcsSpec.post enc Try.prog Try.f22 false true false false) := by
 refine returnsInHanded_of_change (C := Try.checked) own started (by kernel_rfl) Try.func22
  (ChangeSpec.witness6 (enc := enc) (C := Try.checked) false ⟨#[], #[.int .i64 0, .slice none 0 0, .int .i64 0], []⟩ 8 (by kernel_rfl) (by kernel_rfl) (by kernel_rfl) (by kernel_rfl)) ?_
 intro W base args ds gs before hval0 hW _ _
 have hval : ∀ (j : Nat) t v, Try.f22.params[j]? = some t → args[j]? = some v → Value.okWide Try.prog W .any base t v := hval0
 have hW' := hW
 obtain ⟨p, q, hA0, hV, rfl, _, _⟩ := hW
 have hA : DataW.TrodAll enc Try.prog W 0 (fun _ => true) true Try.f22.params.toList args.toList ds p := hA0
 rw [Try.params22] at hA hval
 obtain ⟨v0, vs0, d0, ds0, p0, q0, hargs, rfl, rfl, h0, r0⟩ := trodAll_cons hA
 obtain ⟨v1, vs1, d1, ds1, p1, q1, rfl, rfl, rfl, h1, r1⟩ := trodAll_cons r0
 obtain ⟨v2, vs2, d2, ds2, p2, q2, rfl, rfl, rfl, h2, r2⟩ := trodAll_cons r1
 obtain ⟨rfl, rfl, rfl⟩ := trodAll_nil r2
 obtain rfl : args = #[v0, v1, v2] := by cases args; simp_all
 obtain ⟨rfl, rfl⟩ := trodVars_none hV
 have h0k := h0
 obtain ⟨a0, rfl, rfl, rfl, w0⟩ := open_int Try.underlying3 (hval 0 3 v0 rfl rfl) h0
 have h1k := h1
 have ok1 := hval 1 22 v1 rfl rfl
 obtain ⟨b1, len1, cap1, rfl⟩ := okWide_slice Try.underlying22 ok1
 obtain ⟨xs1, f1, l1, wf1, m1, c1, vr1, rr1⟩ := opened_ints Try.underlying22 Try.underlying3 cellsI ok1 h1
 have h2k := h2
 obtain ⟨a2, rfl, rfl, rfl, w2⟩ := open_int Try.underlying3 (hval 2 3 v2 rfl rfl) h2
 have hlt := hW'.lt
 have hm1 : xs1.length ≤ 9223372036854775807 := m1
 have hret : Ret A 22 [.int .i64 a0, f1 0, .int .i64 a2] (heapOf [xs1.map (AVal.int .i64)]) (fun v _ => v = .bool true) := by
  exact hierArcs_ret (wf_I64 w0) (rr1 _ 0 (by show 0 < _; simp [heapOf]) rfl) (fun x hx => wf_I64 (wf1 x hx)) hm1 (wf_I64 w2)
 refine (law_calls follows tab_ok A_ok (us := [.int .i64 a0, .slice b1 len1 cap1, .int .i64 a2]) (locs := [l1]) hret rfl ?_ ?_).mono fun e W2 ⟨he, hb⟩ => ?_
 ·intro i c l e1 e2
  rcases i with _ | i
  ·injection e1 with e1; injection e2 with e2; subst e1; exact c1 l _ e2
  simp at e1
 ·exact .cons (by simp only [VRel]) (.cons (vr1 _ 0 rfl) (.cons (by simp only [VRel]) .nil))
 ·subst he
  refine ⟨_, rfl, _, _, _, [], _, [], hW', ?_, (trodAll_cons_mk (Below.trod fact_laid (by kernel_rfl) (of_decide_eq_true (by kernel_rfl)) h0k hb (fun x hx => by first | (cases hx; done) | simpa using hlt x (by simp [hx]))) (trodAll_cons_mk (Below.trod fact_laid (by kernel_rfl) (of_decide_eq_true (by kernel_rfl)) h1k hb (fun x hx => by first | (cases hx; done) | simpa using hlt x (by simp [hx]))) (trodAll_cons_mk (Below.trod fact_laid (by kernel_rfl) (of_decide_eq_true (by kernel_rfl)) h2k hb (fun x hx => by first | (cases hx; done) | simpa using hlt x (by simp [hx]))) trodAll_mk0))), rfl, hb.frame _, fun h => by cases h⟩
  exact trodAll_mk1 (shut_bool Try.underlying4 _)
theorem proved : Rows.HierArcsSaid :=
 OpenClaim.holds_of_wide 22 Try.f22 rfl rfl rfl rfl rfl rfl rfl ⟨rfl, rfl, rfl, rfl, rfl⟩ rfl rfl rfl rfl rfl (by kernel_rfl) Try.func22 closed
  (of_decide_eq_true (by kernel_rfl)) (by unfold Func.isWrapper; first | (rw [if_pos (by decide +kernel)]; kernel_rfl) | (rw [if_neg (by decide +kernel)]; exact ⟨rfl, rfl⟩))
  (fun os started H enc _ => lifted os started H enc)
#print axioms proved
end Go.Proofs.Ytknhlpmmalcchaa.hierArcs
