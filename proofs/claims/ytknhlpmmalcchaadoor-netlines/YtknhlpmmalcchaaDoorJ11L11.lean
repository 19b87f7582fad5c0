/- The tied card NetLinesCardSaid: for every input the law returns true,with the library's listed variables as the program's text lays them. -/
import Derived.Test.YtknhlpmmalcchaaDoorJ11Tc
import Derived.Test.YtknhlpmmalcchaaDoorRows
import Derived.Test.YtknhlpmmalcchaaDoorCards
import Derived.Test.YtknhlpmmalcchaaDoorTie
import Derived.WalkKit
import Derived.ProofKit
import Derived.OpenShut
import Derived.ChangeMaps5
import Derived.SevenTiedAt
set_option linter.all false
set_option linter.unusedVariables false
set_option linter.unusedSimpArgs false
namespace Go.Proofs.YtknhlpmmalcchaaDoor.netLines
open Go Go.VAI Go.ChangeShapes Go.WideShapes Go.ChangeAt Go.RowKit Go.WideMaps Go.WideElems
set_option linter.unusedVariables false
set_option linter.unusedSimpArgs false
theorem f1 : (Rows.netLinesRow.inPlace == Tryd.prog.inPlace 11) = true := by kernel_rfl
theorem f2 : (Rows.netLinesRow.unfollowed == Tryd.prog.unfollowed 11) = true := by kernel_rfl
theorem f3 : (Rows.netLinesRow.recurses == Tryd.prog.recurses 11) = true := by kernel_rfl
theorem f4 : (Rows.netLinesRow.named == Tryd.prog.varsNamed 11) = true := by kernel_rfl
theorem closed : joinedFacts Tryd.prog 11 Tryd.f11 Rows.netLinesSpec Rows.netLinesRow = true :=
 joined_of (by kernel_rfl) fact_laid fact_maps (by kernel_rfl) (by kernel_rfl) (by kernel_rfl) (by kernel_rfl) (by kernel_rfl) (by kernel_rfl) f1 f2 f3 f4 (by kernel_rfl) (by kernel_rfl) (by kernel_rfl) (by kernel_rfl) (by kernel_rfl) (by kernel_rfl) (by kernel_rfl) (by kernel_rfl) (by kernel_rfl) (by kernel_rfl) (by kernel_rfl) fact_heard fact_enter fact_lifts rfl fact_make rfl (by kernel_rfl) (by kernel_rfl) (by kernel_rfl) (by kernel_rfl)
theorem cellsI : Tryd.prog.cellsOf 3 = 1 := by kernel_rfl
theorem wf_I64 {x : Int} (h : (Lit.int .i64 x).wf = true) : I64 x := by
 simp [Lit.wf,IntKind.min,IntKind.max,IntKind.signed,IntKind.bits] at h
 unfold I64
 omega
theorem plainL : (Rows.netLinesRow.laid.all fun x => x.2.handleName?.isNone) = true := laidD_plain
set_option maxHeartbeats 1600000 in
set_option maxRecDepth 100000 in
theorem lifted (os : Os) (started : os.Started) (H : Type) (enc : TypeId × Value → H) :
  ReturnsInHanded {} Tryd.checked os 11 .any (fun w args => (Rows.netLinesSpec.pre enc Tryd.prog Tryd.f11 Rows.netLinesRow.domain false w args ∧ laidMetH Tryd.prog Rows.netLinesRow.laid w) ∧ sizedMet enc Tryd.prog Tryd.f11 (OpenSpec.ofChange Rows.netLinesSpec) false w args)
   (Rows.netLinesSpec.post enc Tryd.prog Tryd.f11 false true false false) := by
 refine returnsInHanded_of_change_both (C := Tryd.checked) (X := fun w _ => laidMetH Tryd.prog Rows.netLinesRow.laid w) (fun _ _ _ hh h => h.of_heap hh) own started (by kernel_rfl) Tryd.func11
  (ChangeSpec.witness_shaped (enc := enc) (C := Tryd.checked) (os := os) (X := fun w _ => laidMetH Tryd.prog Rows.netLinesRow.laid w) false (World.laidAll Tryd.prog os Rows.netLinesRow.laid) #[.int .i64 0,.slice none 0 0,.slice none 0 0,.bool false] 8 (World.laidAll_os _ _ _)
   (World.shaped_of_ZipB (by kernel_rfl) (by kernel_rfl)) (by kernel_rfl) (by kernel_rfl) (by kernel_rfl)
   (by rw [MakeChecks.laidMetH_plain _ _ _ plainL]; exact laidMet_laidAll _ (by kernel_rfl) (by kernel_rfl))) ?_
 intro W base args ds gs before hval0 hW hL hSh
 have hval : ∀ (j : Nat) t v,Tryd.f11.params[j]? = some t → args[j]? = some v → Value.okWide Tryd.prog W .any base t v := hval0
 have hglob : Glob W := glob_of_laid hL hSh
 have hW' := hW
 obtain ⟨p,q,hA0,hV,rfl,_,_⟩ := hW
 have hA : DataW.TrodAll enc Tryd.prog W 0 (fun _ => true) true Tryd.f11.params.toList args.toList ds p := hA0
 rw [Tryd.params11] at hA hval
 obtain ⟨v0,vs0,d0,ds0,p0,q0,hargs,rfl,rfl,h0,r0⟩ := trodAll_cons hA
 obtain ⟨v1,vs1,d1,ds1,p1,q1,rfl,rfl,rfl,h1,r1⟩ := trodAll_cons r0
 obtain ⟨v2,vs2,d2,ds2,p2,q2,rfl,rfl,rfl,h2,r2⟩ := trodAll_cons r1
 obtain ⟨v3,vs3,d3,ds3,p3,q3,rfl,rfl,rfl,h3,r3⟩ := trodAll_cons r2
 obtain ⟨rfl,rfl,rfl⟩ := trodAll_nil r3
 obtain rfl : args = #[v0,v1,v2,v3] := by cases args; simp_all
 obtain ⟨rfl,rfl⟩ := trodVars_none hV
 have h0k := h0
 obtain ⟨a0,rfl,rfl,rfl,w0⟩ := open_int Tryd.underlying3 (hval 0 3 v0 rfl rfl) h0
 have h1k := h1
 have ok1 := hval 1 25 v1 rfl rfl
 obtain ⟨b1,len1,cap1,rfl⟩ := okWide_slice Tryd.underlying25 ok1
 obtain ⟨xs1,f1,l1,wf1,m1,c1,vr1,rr1⟩ := opened_ints Tryd.underlying25 Tryd.underlying3 cellsI ok1 h1
 have h2k := h2
 have ok2 := hval 2 25 v2 rfl rfl
 obtain ⟨b2,len2,cap2,rfl⟩ := okWide_slice Tryd.underlying25 ok2
 obtain ⟨xs2,f2,l2,wf2,m2,c2,vr2,rr2⟩ := opened_ints Tryd.underlying25 Tryd.underlying3 cellsI ok2 h2
 have h3k := h3
 obtain ⟨a3,rfl,rfl,rfl⟩ := open_bool Tryd.underlying4 (hval 3 4 v3 rfl rfl) h3
 have hlt := hW'.lt
 have hm1 : xs1.length ≤ 9223372036854775807 := m1
 have hm2 : xs2.length ≤ 9223372036854775807 := m2
 have hret : Ret A 11 [.int .i64 a0,f1 0,f2 1,.bool a3] (heapOf [xs1.map (AVal.int .i64),xs2.map (AVal.int .i64)]) (fun v _ => v = .bool true) := by
  exact netLines_ret (wf_I64 w0) (rr1 _ 0 (by show 0 < _; simp [heapOf]) rfl) (fun x hx => wf_I64 (wf1 x hx)) hm1 (rr2 _ 1 (by show 1 < _; simp [heapOf]) rfl) (fun x hx => wf_I64 (wf2 x hx)) hm2 (fun _ => rfl)
 refine (law_calls hglob follows tab_ok A_ok (us := [.int .i64 a0,.slice b1 len1 cap1,.slice b2 len2 cap2,.bool a3]) (locs := [l1,l2]) hret rfl ?_ ?_).mono fun e W2 ⟨he,hb⟩ => ?_
 ·intro i c l e1 e2
  rcases i with _ | i
  ·injection e1 with e1; injection e2 with e2; subst e1; exact c1 l _ e2
  rcases i with _ | i
  ·injection e1 with e1; injection e2 with e2; subst e1; exact c2 l _ e2
  simp at e1
 ·exact .cons (by simp only [VRel]) (.cons (vr1 _ 0 rfl) (.cons (vr2 _ 1 rfl) (.cons (by simp only [VRel]) .nil)))
 ·subst he
  refine ⟨_,rfl,_,_,_,[],_,[],hW',?_,(trodAll_cons_mk (Below.trod fact_laid (by kernel_rfl) (of_decide_eq_true (by kernel_rfl)) h0k hb (fun x hx => by first | (cases hx; done) | simpa using hlt x (by simp [hx]))) (trodAll_cons_mk (Below.trod fact_laid (by kernel_rfl) (of_decide_eq_true (by kernel_rfl)) h1k hb (fun x hx => by first | (cases hx; done) | simpa using hlt x (by simp [hx]))) (trodAll_cons_mk (Below.trod fact_laid (by kernel_rfl) (of_decide_eq_true (by kernel_rfl)) h2k hb (fun x hx => by first | (cases hx; done) | simpa using hlt x (by simp [hx]))) (trodAll_cons_mk (Below.trod fact_laid (by kernel_rfl) (of_decide_eq_true (by kernel_rfl)) h3k hb (fun x hx => by first | (cases hx; done) | simpa using hlt x (by simp [hx]))) trodAll_mk0)))),rfl,hb.frame _,fun h => by cases h⟩
  exact trodAll_mk1 (shut_bool Tryd.underlying4 _)
theorem said : Rows.NetLinesSaid :=
 OpenClaim.holds_of_wide 11 Tryd.f11 rfl rfl rfl rfl rfl rfl rfl ⟨rfl,rfl,rfl,rfl,rfl⟩ rfl rfl rfl rfl rfl (by kernel_rfl) Tryd.func11 closed
  (of_decide_eq_true (by kernel_rfl)) (by unfold Func.isWrapper; first | (rw [if_pos (by decide +kernel)]; kernel_rfl) | (rw [if_neg (by decide +kernel)]; exact ⟨rfl,rfl⟩))
  (fun os started H enc _ => lifted os started H enc)
theorem proved : Rows.NetLinesCardSaid :=
 Claim7.holds_tied_plain_at .later [] [.data,.data,.data,.data,.sentinel,.sentinel,.pinned] true Rows.netLinesCard.stood.harness true said (fun _ h => by cases h) (by kernel_rfl) (fun _ h => by cases h) netLines_row_tie rfl ⟨rfl,rfl⟩ (by kernel_rfl) rfl
  (fun f fn hf hfn => by
   obtain rfl : f = 11 := Option.some.inj ((show Tryd.prog.funcNamed Rows.netLinesRow.func = some 11 by kernel_rfl).symm.trans hf) |>.symm
   obtain rfl : fn = Tryd.f11 := (Option.some.inj (Tryd.func11.symm.trans hfn)).symm
   exact ⟨by kernel_rfl,fun j t ht => by
    rw [Tryd.params11] at ht
    have hm : t ∈ [3,25,25,4] := by simpa using Array.mem_of_getElem? ht
    have hall : ([3,25,25,4].all fun u => !Tryd.prog.wantsStandIn u) = true := by kernel_rfl
    exact (show Tryd.prog.wantsStandIn t = false by simpa using List.all_eq_true.1 hall t hm)⟩)
  (by kernel_rfl)
#print axioms proved
end Go.Proofs.YtknhlpmmalcchaaDoor.netLines
