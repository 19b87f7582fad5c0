/- The statement HierLongSaid: for every input the law returns true. -/
import Derived.Test.YtknhlpmmalcchaaH25Te
import Derived.Test.YtknhlpmmalcchaaH25Vca
import Derived.Test.YtknhlpmmalcchaaH25Ta
import Derived.Test.YtknhlpmmalcchaaRows
import Derived.WalkKit
import Derived.ProofKit
import Derived.OpenShut
set_option linter.all false
set_option linter.unusedVariables false
set_option linter.unusedSimpArgs false
namespace Go.Proofs.Ytknhlpmmalcchaa.hierLong
open Go Go.VAI Go.ChangeShapes Go.WideShapes Go.ChangeAt Go.RowKit
set_option linter.unusedVariables false
set_option linter.unusedSimpArgs false
theorem f1 : (Rows.hierLongRow.inPlace == Try.prog.inPlace 25) = true := by kernel_rfl
theorem f2 : (Rows.hierLongRow.unfollowed == Try.prog.unfollowed 25) = true := by kernel_rfl
theorem f3 : (Rows.hierLongRow.recurses == Try.prog.recurses 25) = true := by kernel_rfl
theorem f4 : (Rows.hierLongRow.named == Try.prog.varsNamed 25) = true := by kernel_rfl
theorem closed : joinedFacts Try.prog 25 Try.f25 Rows.hierLongSpec Rows.hierLongRow = true :=
 joined_of (by kernel_rfl) fact_laid fact_maps (by kernel_rfl) (by kernel_rfl) (by kernel_rfl) (by kernel_rfl) (by kernel_rfl) (by kernel_rfl) f1 f2 f3 f4 (by kernel_rfl) (by kernel_rfl) (by kernel_rfl) (by kernel_rfl) (by kernel_rfl) (by kernel_rfl) (by kernel_rfl) (by kernel_rfl) (by kernel_rfl) (by kernel_rfl) (by kernel_rfl) fact_heard fact_enter fact_lifts rfl fact_make rfl (by kernel_rfl) (by kernel_rfl) (by kernel_rfl) (by kernel_rfl)
theorem cellsI : Try.prog.cellsOf 3 = 1 := by kernel_rfl
theorem wf_I64 {x : Int} (h : (Lit.int .i64 x).wf = true) : I64 x := by
 simp [Lit.wf, IntKind.min, IntKind.max, IntKind.signed, IntKind.bits] at h
 unfold I64
 omega
set_option maxHeartbeats 1600000 in
set_option maxRecDepth 100000 in
theorem lifted (os : Os) (started : os.Started) (H : Type) (enc : TypeId × Value → H) :
  ReturnsInHanded {} Try.checked os 25 .any (Rows.hierLongSpec.pre6 enc Try.prog Try.f25 Rows.hierLongRow.domain false) (Rows.hierLongSpec.post enc Try.prog Try.f25 false true false false) := by
 refine returnsInHanded_of_change (C := Try.checked) own started (by kernel_rfl) Try.func25
  (ChangeSpec.witness6 (enc := enc) (C := Try.checked) false ⟨#[], #[.int .i64 0], []⟩ 8 (by kernel_rfl) (by kernel_rfl) (by kernel_rfl) (by kernel_rfl)) ?_
 intro W base args ds gs before hval0 hW _ _
 have hval : ∀ (j : Nat) t v, Try.f25.params[j]? = some t → args[j]? = some v → Value.okWide Try.prog W .any base t v := hval0
 have hW' := hW
 obtain ⟨p, q, hA0, hV, rfl, _, _⟩ := hW
 have hA : DataW.TrodAll enc Try.prog W 0 (fun _ => true) true Try.f25.params.toList args.toList ds p := hA0
 rw [Try.params25] at hA hval
 obtain ⟨v0, vs0, d0, ds0, p0, q0, hargs, rfl, rfl, h0, r0⟩ := trodAll_cons hA
 obtain ⟨rfl, rfl, rfl⟩ := trodAll_nil r0
 obtain rfl : args = #[v0] := by cases args; simp_all
 obtain ⟨rfl, rfl⟩ := trodVars_none hV
 have h0k := h0
 obtain ⟨a0, rfl, rfl, rfl, w0⟩ := open_int Try.underlying3 (hval 0 3 v0 rfl rfl) h0
 have hlt := hW'.lt
 have hret : Ret A 25 [.int .i64 a0] (heapOf []) (fun v _ => v = .bool true) := by
  exact hierLong_ret (wf_I64 w0)
 refine (law_calls follows tab_ok A_ok (us := [.int .i64 a0]) (locs := []) hret rfl ?_ ?_).mono fun e W2 ⟨he, hb⟩ => ?_
 ·intro i c l e1 e2
  simp at e1
 ·exact .cons (by simp only [VRel]) .nil
 ·subst he
  refine ⟨_, rfl, _, _, _, [], _, [], hW', ?_, (trodAll_cons_mk (Below.trod fact_laid (by kernel_rfl) (of_decide_eq_true (by kernel_rfl)) h0k hb (fun x hx => by first | (cases hx; done) | simpa using hlt x (by simp [hx]))) trodAll_mk0), rfl, hb.frame _, fun h => by cases h⟩
  exact trodAll_mk1 (shut_bool Try.underlying4 _)
theorem proved : Rows.HierLongSaid :=
 OpenClaim.holds_of_wide 25 Try.f25 rfl rfl rfl rfl rfl rfl rfl ⟨rfl, rfl, rfl, rfl, rfl⟩ rfl rfl rfl rfl rfl (by kernel_rfl) Try.func25 closed
  (of_decide_eq_true (by kernel_rfl)) (by unfold Func.isWrapper; first | (rw [if_pos (by decide +kernel)]; kernel_rfl) | (rw [if_neg (by decide +kernel)]; exact ⟨rfl, rfl⟩))
  (fun os started H enc _ => lifted os started H enc)
#print axioms proved
end Go.Proofs.Ytknhlpmmalcchaa.hierLong
