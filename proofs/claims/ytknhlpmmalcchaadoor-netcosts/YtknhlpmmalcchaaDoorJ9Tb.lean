/- Steps of the walk. -/
import Derived.Test.YtknhlpmmalcchaaDoorJ9Ta
import Derived.Test.YtknhlpmmalcchaaDoorRows
import Derived.ProofKit
import Derived.Test.YtknhlpmmalcchaaDoorJ9Vca
import Derived.Test.YtknhlpmmalcchaaDoorTie
import Derived.HandedShaped
import Derived.LaidMore
import Derived.Lay
import Derived.Lib.LaidTab
import Derived.Stop.Joined
set_option linter.all false
set_option linter.unusedVariables false
set_option linter.unusedSimpArgs false
namespace Go.Proofs.YtknhlpmmalcchaaDoor
open Go Go.VAI
set_option linter.unusedSimpArgs false

def e5 (c : Int) (i : Nat) : Edge := ⟨0,0,i,c - i⟩
def q5 (i : Nat) : Int := ((i % 5 : Nat) : Int)
def es5 (c : Int) : List Edge := (List.range 5).map (e5 c)
theorem q5_bd (i : Nat) : 0 ≤ q5 i ∧ q5 i < 5 := by unfold q5; omega
theorem walk5 (c : Int) : ∀ (p : List Nat) (c0 : Int) (w : List Int),walkGo (es5 c) 0 c0 w (p.map q5) = some (0,c0 + (p.map fun i => c - q5 i).sum,w ++ p.map q5)
 | [],c0,w => by simp [walkGo]
 | i :: p,c0,w => by
  have h : (es5 c)[(q5 i).toNat]? = some (e5 c (i % 5)) := by
   have h1 : i % 5 < 5 := by omega
   unfold es5 q5
   rw [Int.toNat_natCast,List.getElem?_map,List.getElem?_range h1]
   rfl
  have ih := walk5 c p (c0 + (c - q5 i)) (w ++ [q5 i])
  have hb := q5_bd i
  rw [List.map_cons,walkGo_cons,if_neg (by omega),h]
  simp only [e5,if_pos]
  change walkGo (es5 c) 0 (c0 + (c - q5 i)) (w ++ [q5 i]) (p.map q5) = _
  rw [ih]
  simp only [List.map_cons,List.sum_cons,List.append_assoc,List.singleton_append]
  rw [Int.add_assoc]

set_option maxRecDepth 20000 in
set_option maxHeartbeats 4000000 in
theorem netCosts_ret {nn cost : Int} {H : AHeap} {Q : AVal → AHeap → Prop} (hn : I64 nn) (hcost : I64 cost) (hq : ∀ H',Q (.bool true) H') : Ret A 9 [.int .i64 nn,.int .i64 cost] H Q := by
 refine Ret.of (fn := F9) rfl ?_
 simp (disch := first | omega | (simp only [next_new,next_upd] <;> omega) | fail) only [vai,vaim,vaic,vas,bots,Bool.not_true,Bool.not_false,decide_true,decide_false,wrap64,F9,Nat.reduceAdd,Nat.reduceMul,Nat.reduceLeDiff,Nat.reduceEqDiff,↓reduceIte]
 refine known_ret fun H1 k1 => ?_
 simp (disch := first | omega | (simp only [next_new,next_upd] <;> omega) | fail) only [vai,vaim,vaic,vas,bots,Bool.not_true,Bool.not_false,decide_true,decide_false,wrap64,Nat.reduceAdd,Nat.reduceMul,Nat.reduceLeDiff,Nat.reduceEqDiff,↓reduceIte]
 refine within_ret rfl (by omega) (by omega) ?_
 simp (disch := first | omega | (simp only [next_new,next_upd] <;> omega) | fail) only [vai,vaim,vaic,vas,bots,Bool.not_true,Bool.not_false,decide_true,decide_false,wrap64,Nat.reduceAdd,Nat.reduceMul,Nat.reduceLeDiff,Nat.reduceEqDiff,↓reduceIte]
 refine within_ret rfl (by omega) (by omega) ?_
 obtain ⟨K,hK⟩ : ∃ K : Nat,nn % 300 = K := ⟨(nn % 300).toNat,by omega⟩
 have hK3 : K < 300 := by omega
 obtain ⟨c,hc⟩ : ∃ c : Int,c = 2147483647 - cost % 5 := ⟨_,rfl⟩
 have hcb : 2147483643 ≤ c ∧ c ≤ 2147483647 := by omega
 rw [hK]
 simp (disch := first | omega | (simp only [next_new,next_upd] <;> omega) | fail) only [vai,vaim,vaic,vas,bots,Bool.not_true,Bool.not_false,decide_true,decide_false,wrap64,← hc,Nat.reduceAdd,Nat.reduceMul,Nat.reduceLeDiff,Nat.reduceEqDiff,↓reduceIte]
 refine wpx_loop (fun m t H' => ∃ (i : Nat) (ev : AVal),m = 5 - i ∧ i ≤ 5 ∧ t = (bots 5 (.int .i64 K :: .ptr H1.next 0 :: .int .i64 c :: .nilSlice :: .int .i64 i :: bots 76 ([])) : Tmps) ∧ H1.next + 1 ≤ H'.next ∧ H'.obj H1.next = some (.cells [.int .i64 2,ev] true) ∧ Grown (H1.next + 1) H' ev 4 (edgeCells ((List.range i).map (e5 c)))) 5 ?_ ?_
 ·exact ⟨0,.nilSlice,rfl,by omega,rfl,(by first | omega | (simp only [next_new,next_upd]; omega)),by simp (disch := first | omega | (simp only [next_new,next_upd] <;> omega) | fail) only [vaim],.nil⟩
 ·rintro m t H2 ⟨i,ev,rfl,hi,rfl,n2,o2,g2⟩
  by_cases hc1 : (i : Int) < 5
  ·simp (disch := first | omega | (simp only [next_new,next_upd] <;> omega) | fail) only [vai,vaim,vaic,vas,bots,Bool.not_true,Bool.not_false,decide_true,decide_false,wrap64,hc1,decide_true,o2,Nat.reduceAdd,Nat.reduceMul,Nat.reduceLeDiff,Nat.reduceEqDiff,↓reduceIte]
   refine append_ret (n := i) g2 (by simp only [next_new,next_upd]; omega) (fun j h1 h2 => by simp (disch := first | omega | (simp only [next_new,next_upd] <;> omega) | fail) only [vaim]) (by simp (disch := first | omega | (simp only [next_new,next_upd] <;> omega) | fail) only [vaim]; rfl) rfl (by omega) (by omega) (by rw [edgeCells_length]; simp) (by omega) (by omega) (by simp only [next_new,next_upd]; omega) ?_
   intro v' H' hn' hk' hg'
   simp only [next_new,next_upd] at hn'
   have o4 : H'.obj H1.next = some (.cells [.int .i64 2,ev] true) := by rw [hk' _ (by omega)]; simp (disch := first | omega | (simp only [next_new,next_upd] <;> omega) | fail) only [vaim,o2]
   have hcell := hg'.cells
   simp (disch := first | omega | (simp only [next_new,next_upd] <;> omega) | fail) only [vai,vaim,vaic,vas,bots,Bool.not_true,Bool.not_false,decide_true,decide_false,wrap64,hcell,o4,Nat.reduceAdd,Nat.reduceMul,Nat.reduceLeDiff,Nat.reduceEqDiff,↓reduceIte]
   refine ⟨5 - (i + 1),by omega,i + 1,v',rfl,by omega,rfl,by omega,by simp (disch := first | omega | (simp only [next_new,next_upd] <;> omega) | fail) only [vaim],?_⟩
   rw [List.range_succ,List.map_append]
   have he : edgeCells ((List.range i).map (e5 c) ++ [i].map (e5 c)) = edgeCells ((List.range i).map (e5 c)) ++ Edge.cells (e5 c i) := by simp [edgeCells]
   rw [he]
   exact hg'.upd (by omega) _
  ·have hi5 : i = 5 := by omega
   subst hi5
   change Grown (H1.next + 1) H2 ev 4 (edgeCells (es5 c)) at g2
   simp (disch := first | omega | (simp only [next_new,next_upd] <;> omega) | fail) only [vai,vaim,vaic,vas,bots,Bool.not_true,Bool.not_false,decide_true,decide_false,wrap64,hc1,decide_false,Nat.reduceAdd,Nat.reduceMul,Nat.reduceLeDiff,Nat.reduceEqDiff,↓reduceIte]
   refine wpx_loop (fun m t H' => ∃ (j : Nat) (lv : AVal),m = K - j ∧ j ≤ K ∧ t = (bots 5 (.int .i64 K :: .ptr H1.next 0 :: .int .i64 c :: lv :: bots 1 (.int .i64 ((List.range j).map fun i => c - q5 i).sum :: .int .i64 j :: bots 74 ([]))) : Tmps) ∧ H2.next ≤ H'.next ∧ Keep Nothing H2 H' ∧ Grown H2.next H' lv 1 (ints ((List.range j).map q5)) ∧ 0 ≤ ((List.range j).map fun i => c - q5 i).sum ∧ ((List.range j).map fun i => c - q5 i).sum ≤ j * 2147483647) K ?_ ?_
   ·exact ⟨0,.nilSlice,rfl,by omega,rfl,Nat.le_refl _,Keep.refl _ _,.nil,by simp,by simp⟩
   ·rintro m t H3 ⟨j,lv,rfl,hj,rfl,n3,k3,g3,s0,s1⟩
    have hr5 : ((j : Nat) : Int).tmod 5 = q5 j := by
     rw [Int.tmod_eq_emod_of_nonneg (by omega)]
     unfold q5
     omega
    have hsum : ((List.range (j + 1)).map fun i => c - q5 i).sum = ((List.range j).map fun i => c - q5 i).sum + c - q5 j := by
     rw [List.range_succ,List.map_append,List.sum_append]
     simp
     omega
    have hqj := q5_bd j
    by_cases hc2 : (j : Int) < K
    ·generalize hS : ((List.range j).map fun i => c - q5 i).sum = S at *
     simp (disch := first | omega | (simp only [next_new,next_upd] <;> omega) | fail) only [vai,vaim,vaic,vas,bots,Bool.not_true,Bool.not_false,decide_true,decide_false,wrap64,hc2,decide_true,hr5,Nat.reduceAdd,Nat.reduceMul,Nat.reduceLeDiff,Nat.reduceEqDiff,↓reduceIte]
     refine append_ret (n := j) g3 (by simp only [next_new,next_upd]; omega) (fun j h1 h2 => by simp (disch := first | omega | (simp only [next_new,next_upd] <;> omega) | fail) only [vaim]) (by simp (disch := first | omega | (simp only [next_new,next_upd] <;> omega) | fail) only [vaim]; rfl) rfl (by omega) (by omega) (by simp [ints]) (by omega) (by omega) (by simp only [next_new,next_upd]; omega) ?_
     intro v' H' hn' hk' hg'
     simp only [next_new,next_upd] at hn'
     have hcell := hg'.cells
     simp (disch := first | omega | (simp only [next_new,next_upd] <;> omega) | fail) only [vai,vaim,vaic,vas,bots,Bool.not_true,Bool.not_false,decide_true,decide_false,wrap64,hcell,hr5,Nat.reduceAdd,Nat.reduceMul,Nat.reduceLeDiff,Nat.reduceEqDiff,↓reduceIte]
     refine ⟨K - (j + 1),by omega,j + 1,v',rfl,by omega,by rw [hsum]; rfl,by omega,⟨by omega,fun y hy hm => ?_⟩,?_,by omega,by omega⟩
     ·rw [hk' _ (by omega),← k3.obj y hy hm]
      simp (disch := first | omega | (simp only [next_new,next_upd] <;> omega) | fail) only [vaim]
     ·rw [List.range_succ,List.map_append,ints_app]
      exact hg'
    ·have hjK : j = K := by omega
     subst hjK
     have o3 := (k3.old (i := H1.next) (by omega)).trans o2
     have hwalk : walkOf 2 (es5 c) 0 0 ((List.range j).map q5) = some (((List.range j).map fun i => c - q5 i).sum,(List.range j).map q5) := by
      have h := walk5 c (List.range j) 0 []
      rw [Int.zero_add,List.nil_append] at h
      exact walk_some ⟨by omega,by omega⟩ h rfl
     generalize hS : ((List.range j).map fun i => c - q5 i).sum = S at *
     simp (disch := first | omega | (simp only [next_new,next_upd] <;> omega) | fail) only [vai,vaim,vaic,vas,bots,Bool.not_true,Bool.not_false,decide_true,decide_false,wrap64,hc2,decide_false,o3,Nat.reduceAdd,Nat.reduceMul,Nat.reduceLeDiff,Nat.reduceEqDiff,↓reduceIte]
     refine walk_ret (es := es5 c) (p := (List.range j).map q5) (g2.row.kept k3) g3.row (by simp [es5]) (by simp; omega) (fun e he => ?_) fun wv H4 k4 r4 => ?_
     ·simp only [es5,List.mem_map,List.mem_range] at he
      obtain ⟨y,hy,rfl⟩ := he
      simp only [e5]
      omega
     rw [hwalk] at r4 ⊢
     simp only [wWord,wCost,Option.isSome] at r4 ⊢
     have hl4 := r4.len1
     simp only [ints,List.length_map,List.length_range] at hl4
     have hn4 := r4.notBot
     have d1 : decide (S ≠ S) = false := decide_eq_false (fun h => h rfl)
     have d2 : decide ((j : Int) ≠ (j : Int)) = false := decide_eq_false (fun h => h rfl)
     simp (disch := first | omega | (simp only [next_new,next_upd] <;> omega) | fail) only [vai,vaim,vaic,vas,bots,Bool.not_true,Bool.not_false,decide_true,decide_false,wrap64,hn4,d1,hl4,d2,Nat.reduceAdd,Nat.reduceMul,Nat.reduceLeDiff,Nat.reduceEqDiff,↓reduceIte]
     refine wpx_loop (fun m t H' => ∃ (i : Nat),m = j - i ∧ i ≤ j ∧ t = (bots 5 (.int .i64 j :: bots 7 (wv :: bots 1 (.int .i64 i :: bots 70 ([])))) : Tmps) ∧ H' = H4) j ?_ ?_
     ·exact ⟨0,rfl,by omega,rfl,rfl⟩
     ·rintro m t H5 ⟨i,rfl,hi,rfl,rfl⟩
      by_cases hc3 : (i : Int) < j
      ·obtain ⟨id,off,f1,_,f2⟩ := r4.at1 (j := i) (x := .int .i64 (q5 i)) (k := .i64) (by omega) (by
        have : i < j := by omega
        simp [ints,this])
       have hr5 : ((i : Nat) : Int).tmod 5 = q5 i := by
        rw [Int.tmod_eq_emod_of_nonneg (by omega)]
        unfold q5
        omega
       have d3 : decide (q5 i ≠ q5 i) = false := decide_eq_false (fun h => h rfl)
       simp (disch := first | omega | (simp only [next_new,next_upd] <;> omega) | fail) only [vai,vaim,vaic,vas,bots,Bool.not_true,Bool.not_false,decide_true,decide_false,wrap64,hc3,decide_true,f1,f2,hr5,d3,Nat.reduceAdd,Nat.reduceMul,Nat.reduceLeDiff,Nat.reduceEqDiff,↓reduceIte]
       exact ⟨j - (i + 1),by omega,i + 1,rfl,by omega,rfl⟩
      ·simp (disch := first | omega | (simp only [next_new,next_upd] <;> omega) | fail) only [vai,vaim,vaic,vas,bots,Bool.not_true,Bool.not_false,decide_true,decide_false,wrap64,hc3,decide_false,Nat.reduceAdd,Nat.reduceMul,Nat.reduceLeDiff,Nat.reduceEqDiff,↓reduceIte]
       exact hq _
end Go.Proofs.YtknhlpmmalcchaaDoor

/- Closed facts of the program: what its head says,read as a list of signs (the kernel is slow at a long text's own signs). -/
namespace Go.Proofs.YtknhlpmmalcchaaDoor
open Go Go.ChangeShapes Go.WideShapes Go.ChangeAt Go.RowKit
set_option maxRecDepth 100000
def headSigns : List Char := List.map Char.ofNat [104,97,114,110,101,115,115,32,100,56,52,52,54,101,57,49,48,51,57,48,50,102,56,55,52,52,97,54,55,56,100,53,55,49,56,99,53,101,53,98,51,101,100,101,57,48,48,55,99,57,56,49,97,98,102,52,100,52,54,49,57,100,50,97,57,97,102,53,102,54,51,56,32,99,117,116,32,97,116,32,109,105,108,101,115,116,111,110,101,47,109,105,108,101,115,116,111,110,101,108,97,119,49,46,78,101,116,67,104,101,99,107,115,32,109,105,108,101,115,116,111,110,101,47,109,105,108,101,115,116,111,110,101,108,97,119,49,46,78,101,116,82,101,97,100,115,32,109,105,108,101,115,116,111,110,101,47,109,105,108,101,115,116,111,110,101,108,97,119,49,46,78,101,116,75,110,111,119,110,32,109,105,108,101,115,116,111,110,101,47,109,105,108,101,115,116,111,110,101,108,97,119,49,46,78,101,116,76,105,109,105,116,115,32,109,105,108,101,115,116,111,110,101,47,109,105,108,101,115,116,111,110,101,108,97,119,49,46,78,101,116,87,97,108,107,115,32,109,105,108,101,115,116,111,110,101,47,109,105,108,101,115,116,111,110,101,108,97,119,49,46,78,101,116,74,111,105,110,115,32,109,105,108,101,115,116,111,110,101,47,109,105,108,101,115,116,111,110,101,108,97,119,49,46,78,101,116,67,111,115,116,115,32,109,105,108,101,115,116,111,110,101,47,109,105,108,101,115,116,111,110,101,108,97,119,49,46,78,101,116,66,97,99,107,32,109,105,108,101,115,116,111,110,101,47,109,105,108,101,115,116,111,110,101,108,97,119,49,46,78,101,116,76,105,110,101,115,32,109,105,108,101,115,116,111,110,101,47,109,105,108,101,115,116,111,110,101,108,97,119,49,46,78,101,116,65,112,97,114,116]
theorem head_eq : Tryd.prog.initOrder = String.ofList headSigns := by kernel_rfl
theorem head_list : Tryd.prog.initOrder.toList = headSigns := by rw [head_eq,String.toList_ofList]
theorem head_words : ∃ rest,behindMainWord (wordsSigns headSigns) = "cut".toList :: rest := ⟨(behindMainWord (wordsSigns headSigns)).tail,by kernel_rfl⟩
theorem strip_cut (rest : List (List Char)) : stripLifts liftWords ("cut".toList :: rest) = ([],"cut".toList :: rest) := by kernel_rfl
theorem ne1 : ("cut".toList == "gc".toList) = false := by kernel_rfl
theorem ne2 : ("cut".toList == "spec".toList) = false := by kernel_rfl
theorem ne3 : ("cut".toList == "carried".toList) = false := by kernel_rfl
theorem words_of : ∃ rest,behindMainWord (wordsSigns Tryd.prog.initOrder.toList) = "cut".toList :: rest := by
 obtain ⟨rest,h⟩ := head_words
 exact ⟨rest,(congrArg (fun l => behindMainWord (wordsSigns l)) head_list).trans h⟩
theorem make_of (P : Program) (rest : List (List Char)) (h : behindMainWord (wordsSigns P.initOrder.toList) = "cut".toList :: rest) : P.make = some .cut := by
 unfold Program.make
 rw [h]
 simp only [ne1,ne2,beq_self_eq_true,Bool.false_or,Bool.true_or,Bool.or_self,Bool.false_eq_true,if_true,if_false]
theorem lifts_of (P : Program) (rest : List (List Char)) (h : behindMainWord (wordsSigns P.initOrder.toList) = "cut".toList :: rest) : P.liftsFinal = false := by
 unfold Program.liftsFinal Program.headLifts
 rw [h]
 have e : ((some "cut".toList : Option (List Char)) == some "carried".toList) = false := by kernel_rfl
 simp only [strip_cut,List.head?_cons,beq_self_eq_true,if_true,e,Bool.false_and,Bool.false_or]
 rfl
theorem enter_of (P : Program) (rest : List (List Char)) (h : behindMainWord (wordsSigns P.initOrder.toList) = "cut".toList :: rest) (h1 : P.laysLater = false) (h2 : P.bearsReflect = false) (h3 : P.doorFits [] = true) : P.mayEnter = true := by
 unfold Program.mayEnter
 rw [h]
 simp only [strip_cut,ne1,ne2,ne3,h1,h2,h3,List.head?_cons,beq_self_eq_true,Bool.false_or,Bool.or_false,Bool.false_and,Bool.true_and,Bool.and_true,Bool.not_false,Bool.or_true,List.contains_nil]
theorem fact_make : Tryd.prog.make = some .cut := by
 obtain ⟨rest,h⟩ := words_of
 exact make_of _ _ h
theorem fact_lifts : Tryd.prog.liftsFinal = false := by
 obtain ⟨rest,h⟩ := words_of
 exact lifts_of _ _ h
theorem fact_later : Tryd.prog.laysLater = false := by kernel_rfl
theorem fact_reflect : Tryd.prog.bearsReflect = false := by kernel_rfl
theorem fact_door : Tryd.prog.doorFits [] = true := by kernel_rfl
theorem fact_enter : Tryd.prog.mayEnter = true := by
 obtain ⟨rest,h⟩ := words_of
 exact enter_of _ _ h fact_later fact_reflect fact_door
theorem fact_laid : laidOutB Tryd.prog = true := by kernel_rfl
theorem fact_maps : mapsRowed Tryd.prog = true := by kernel_rfl
theorem fact_heard : Tryd.prog.stopsHeard = true := by kernel_rfl
theorem own : ownKnob Tryd.prog.godebug = none := by kernel_rfl
theorem follows : Tryd.prog.follows .mixedOrders = true := by kernel_rfl
end Go.Proofs.YtknhlpmmalcchaaDoor

/- What the rows' condition gives of the package variables at the start; the builder that hands both it and the world's shape to the contract. -/
namespace Go
variable {H : Type} {enc : TypeId × Value → H}
theorem returnsInHanded_of_change_both {a : Assume} {C : Checked} {os : Os} {f : FuncId} {fn : Func} {s : ChangeSpec} {conds : List PathCond} {apart fresh handsOn again : Bool} {X : World → Array Value → Prop}
  (hX : ∀ (w w' : World) (args : Array Value),w.heap = w'.heap → X w args → X w' args)
  (own : ownKnob C.prog.godebug = none) (started : os.Started) (noInit : C.prog.inits.idxOf? f = none) (hfn : C.prog.funcs[f]? = some fn)
  (witness : ∃ (w : World) (tape : Tape) (i : Input),w.os = os ∧ (w.forCall tape i).Shaped C.prog ∧ i.vars = [] ∧ Input.okWide C.prog (w.forCall tape i) .any w.heap.size f i ∧
   ((s.pre enc C.prog fn conds apart (w.forCall tape i).memory i.args ∧ X (w.forCall tape i).memory i.args) ∧ sizedMet enc C.prog fn (OpenSpec.ofChange s) apart (w.forCall tape i).memory i.args) ∧ a.holds C.prog (lone (Frame.enter C.prog f i.args .normal) [] (w.forCall tape i)))
  (contract : ∀ (W : World) (base : Nat) (args : Array Value) (ds gs : List (DataW H)) (before : List MemPlace),
   (∀ (j : Nat) t v,fn.params[j]? = some t → args[j]? = some v → Value.okWide C.prog W .any base t v) →
   DataW.Whole enc C.prog fn.params.toList s.vars apart W args.toList ds gs before →
   X W args → W.ShapedOpen C.prog →
   Calls C.prog f args W fun e W' => ∃ v,e = .returned v ∧ s.post enc C.prog fn apart fresh handsOn again W args v W') :
  ReturnsInHanded a C os f .any (fun w args => (s.pre enc C.prog fn conds apart w args ∧ X w args) ∧ sizedMet enc C.prog fn (OpenSpec.ofChange s) apart w args) (s.post enc C.prog fn apart fresh handsOn again) := by
 refine returnsInHanded_of_calls own started noInit witness ?_
 intro w tape i _ hsh _ hok hpre hholds
 obtain ⟨_,_,_,fn',hfn',_,_,_,_,hval⟩ := hok
 have e : fn' = fn := Option.some.inj (hfn'.symm.trans hfn)
 subst e
 obtain ⟨⟨⟨ds,gs,before,hw,hc⟩,hx⟩,hz⟩ := hpre
 have hw' := DataW.Whole.of_heap (w' := w.forCall tape i) (by rfl) hw
 refine (contract (w.forCall tape i) w.heap.size i.args ds gs before hval hw' (hX _ _ _ (by rfl) hx) hsh).mono fun e W' ⟨v,he,hp⟩ => ?_
 subst he
 exact ChangeSpec.post_blind hp
end Go
namespace Go.Proofs.YtknhlpmmalcchaaDoor
open Go Go.VAI Go.ChangeShapes Go.WideShapes Go.ChangeAt Go.RowKit
set_option linter.unusedVariables false
set_option linter.unusedSimpArgs false
def laidD : List (String × DataW Unit) := Rows.netKnownRow.laid
theorem laidD_plain : (laidD.all fun x => x.2.handleName?.isNone) = true := by kernel_rfl
theorem pow_data : (Rows.laid_internal_strconv_uint64pow10 : DataW Unit) = Lib.tabData .u64 Lib.pow10Tab := by kernel_rfl
theorem gErrR : Tryd.prog.globalNamed "strconv.ErrRange" = some 5 := by kernel_rfl
theorem gErrS : Tryd.prog.globalNamed "strconv.ErrSyntax" = some 4 := by kernel_rfl
theorem tPow : (Tryd.prog.globals[1]?).map (·.type) = some 108 := by kernel_rfl
theorem tErrR : (Tryd.prog.globals[5]?).map (·.type) = some 71 := by kernel_rfl
theorem tErrS : (Tryd.prog.globals[4]?).map (·.type) = some 71 := by kernel_rfl
theorem cellsPow : Tryd.prog.cellsOf 108 = 20 := by kernel_rfl
theorem iface_of_trod {P : Program} {w : World} {base : Nat} {sp : Nat → Bool} {held : Bool} {fuel : Nat} {t : TypeId} {ms : Array (String × TypeId)} {cs : List Value} {x : DataW Unit × List MemPlace} {enc : TypeId × Value → Unit}
  (ht : P.underlying t = some (.interface ms)) (h : DataW.trod enc P w base sp held fuel t cs = some x) : ∃ v,cs = [v] ∧ (v = .nilIface ∨ ∃ te pe,v = .iface te pe) := by
 cases fuel with
 | zero => simp [DataW.trod] at h
 | succ fuel =>
  match cs,h with
  | [],h => simp [DataW.trod,ht] at h
  | [v],h =>
   refine ⟨v,rfl,?_⟩
   cases v <;> first
    | exact .inl rfl
    | exact .inr ⟨_,_,rfl⟩
    | (exfalso; simp [DataW.trod,ht] at h)
  | _ :: _ :: _,h => simp [DataW.trod,ht] at h
set_option maxRecDepth 100000 in
theorem glob_of_laid {W : World} (h : laidMetH Tryd.prog laidD W) (hs : W.ShapedOpen Tryd.prog) : Glob W := by
 rw [MakeChecks.laidMetH_plain _ _ _ laidD_plain] at h
 obtain ⟨ps,⟨_,_,_,_,_,_,_,_,_,_,⟨_,_,_,_,_,_,_,_,_,_,⟨g,t,cs,fuel,p,q,hg,ht,hv,hd,⟨_,_,_,_,_,_,_,_,_,_,⟨g5,t5,cs5,f5,p5,q5,hg5,ht5,hv5,hd5,⟨g4,t4,cs4,f4,p4,q4,hg4,ht4,hv4,hd4,_,_⟩,_⟩,_⟩,_⟩,_⟩,_⟩,_,_⟩ := h
 obtain rfl := Option.some.inj (gPow.symm.trans hg)
 obtain rfl := Option.some.inj (tPow.symm.trans ht)
 obtain rfl := Option.some.inj (gErrR.symm.trans hg5)
 obtain rfl := Option.some.inj (tErrR.symm.trans ht5)
 obtain rfl := Option.some.inj (gErrS.symm.trans hg4)
 obtain rfl := Option.some.inj (tErrS.symm.trans ht4)
 have iface : ∀ (n : String) (b : Nat) (cs : Array Value) x fuel,Tryd.prog.globalNamed n = some b → W.var? Tryd.prog n = some cs → DataW.trod (fun _ => ()) Tryd.prog W 0 (fun _ => true) false fuel 71 cs.toList = some x → IfaceAt W b := fun n b cs x fuel hg hv hd => by
  obtain ⟨v,e1,e2⟩ := iface_of_trod Tryd.underlying71 hd
  refine ⟨v,?_,e2⟩
  have := World.var?_cell hg hv 0
  rw [this,← Array.getElem?_toList,e1]
  rfl
 refine ⟨Tryd.split.s1_3 W hs,?_,?_,?_⟩
 ·rw [pow_data] at hd
  have e := Lib.cells_of_tab Tryd.underlying108 Tryd.underlying93 (by kernel_rfl) cellsPow hd
  have hv' : World.var? Tryd.prog W powName = some cs := hv
  unfold World.var? at hv'
  rw [gPow] at hv'
  simp only [Option.bind_some] at hv'
  split at hv'
  ·rename_i c E fz hb
   injection hv' with hv'
   subst hv'
   refine ⟨E,fz,?_⟩
   rw [hb,← pow_eq,← e]
  ·cases hv'
 ·exact iface _ 4 cs4 _ f4 gErrS hv4 hd4
 ·exact iface _ 5 cs5 _ f5 gErrR hv5 hd5
end Go.Proofs.YtknhlpmmalcchaaDoor
