/- Steps of the walk. -/
import Derived.Test.YtknhlpmmalcchaaDoorJ6Ta
import Derived.Test.YtknhlpmmalcchaaDoorRows
import Derived.ProofKit
import Derived.Test.YtknhlpmmalcchaaDoorJ6Vca
import Derived.Test.YtknhlpmmalcchaaDoorTie
import Derived.HandedShaped
import Derived.LaidMore
import Derived.Lay
import Derived.Lib.LaidTab
import Derived.Stop.Joined
set_option linter.all false
set_option linter.unusedVariables false
set_option linter.unusedSimpArgs false
namespace Go.Proofs.YtknhlpmmalcchaaDoor
open Go Go.VAI
set_option linter.unusedSimpArgs false

def gap (ps : List (Nat × List UInt8)) : List (List UInt8) := ps.flatMap fun p => List.replicate p.1 [] ++ [p.2]
def linesG (f : NetS → List UInt8 → Option NetS) : NetS → Nat → List (Nat × List UInt8) → NetS ⊕ Nat
 | x,_,[] => .inl x
 | x,k,p :: ps => match f x p.2 with
  | none => .inr (k + p.1 + 1)
  | some y => linesG f y (k + p.1 + 1) ps
def gapN (ps : List (Nat × List UInt8)) : Nat := (ps.map fun p => p.1 + 1).sum
theorem gap_cons (p : Nat × List UInt8) (ps : List (Nat × List UInt8)) : gap (p :: ps) = List.replicate p.1 [] ++ p.2 :: gap ps := by simp [gap]
theorem gap_append (a b : List (Nat × List UInt8)) : gap (a ++ b) = gap a ++ gap b := by simp [gap]
theorem gapN_append (a b : List (Nat × List UInt8)) : gapN (a ++ b) = gapN a + gapN b := by simp [gapN]
theorem ended_append (a b : List (List UInt8)) : ended (a ++ b) = ended a ++ ended b := by simp [ended]
theorem lines_skip (f : NetS → List UInt8 → Option NetS) (x : NetS) (ws : List (List UInt8)) : ∀ (g k : Nat),linesOf f x k (List.replicate g [] ++ ws) = linesOf f x (k + g) ws
 | 0,k => by simp
 | g + 1,k => by
  rw [List.replicate_succ,List.cons_append,lines_cons,if_pos rfl,lines_skip f x ws g (k + 1)]
  congr 1
  omega
theorem lines_gap (f : NetS → List UInt8 → Option NetS) : ∀ (ps : List (Nat × List UInt8)) (x : NetS) (k : Nat),(∀ p ∈ ps,p.2 ≠ []) → linesOf f x k (gap ps) = linesG f x k ps
 | [],x,k,_ => rfl
 | p :: ps,x,k,h => by
  have hp := h p List.mem_cons_self
  rw [gap_cons,lines_skip,lines_cons,if_neg hp]
  simp only [linesG]
  cases f x p.2 with
  | none => rfl
  | some y => exact lines_gap f ps y _ (fun q hq => h q (List.mem_cons_of_mem _ hq))
theorem lines_last (f : NetS → List UInt8 → Option NetS) : ∀ (ws : List (List UInt8)) (x : NetS) (k : Nat),linesOf f x k (ws ++ [[]]) = linesOf f x k ws
 | [],x,k => rfl
 | w :: ws,x,k => by
  rw [List.cons_append,lines_cons,lines_cons]
  split
  ·exact lines_last f ws x _
  ·cases f x w with
   | none => rfl
   | some y => exact lines_last f ws y _
theorem gap_not {c : UInt8} : ∀ {ps : List (Nat × List UInt8)},(∀ p ∈ ps,c ∉ p.2) → ∀ w ∈ gap ps,c ∉ w := by
 intro ps h w hw
 simp only [gap,List.mem_flatMap,List.mem_append,List.mem_replicate,List.mem_singleton] at hw
 obtain ⟨p,hp,⟨_,rfl⟩ | rfl⟩ := hw
 ·simp
 ·exact h p hp
theorem parse_gap {ps : List (Nat × List UInt8)} (h1 : ∀ p ∈ ps,p.2 ≠ []) (h2 : ∀ p ∈ ps,(10 : UInt8) ∉ p.2) (hl : (ended (gap ps)).length ≤ 60000) : parseOf stepP (ended (gap ps)) = match linesG stepP none0 0 ps with
  | .inr k => (none0,k,2)
  | .inl x => if x.n = 0 then (none0,1,2) else (x,0,0) := by
 unfold parseOf
 rw [if_neg (by omega)]
 have e := cut_ended (gap ps) [] (gap_not h2)
 rw [List.append_nil] at e
 rw [e]
 have e0 : cutAt 10 ([] : List UInt8) = [[]] := rfl
 rw [e0,lines_last,lines_gap _ _ _ _ h1]
 cases linesG stepP none0 0 ps <;> rfl
theorem linesG_ok (f : NetS → List UInt8 → Option NetS) : ∀ (ps : List (Nat × List UInt8)) (x y : NetS) (k k' : Nat),(∀ p ∈ ps,p.2 ≠ []) → linesOf f x k (ps.map Prod.snd) = .inl y → ∀ qs,linesG f x k' (ps ++ qs) = linesG f y (k' + gapN ps) qs
 | [],x,y,k,k',_,h,qs => by
  simp only [List.map_nil,linesOf] at h
  injection h with h; subst h
  rfl
 | p :: ps,x,y,k,k',hne,h,qs => by
  rw [List.map_cons,lines_cons,if_neg (hne p List.mem_cons_self)] at h
  rw [List.cons_append]
  simp only [linesG]
  cases hf : f x p.2 with
  | none => rw [hf] at h; cases h
  | some z =>
   rw [hf] at h
   simp only at h ⊢
   rw [linesG_ok f ps z y _ _ (fun q hq => hne q (List.mem_cons_of_mem _ hq)) h]
   congr 1
   simp [gapN]
   omega
def eL (j : Nat) : Edge := ⟨0,((j % 50 : Nat) : Int),0,1⟩
def esL (k : Nat) : List Edge := (List.range k).map eL
theorem esL_succ (k : Nat) : esL (k + 1) = esL k ++ [eL k] := by simp [esL,List.range_succ]
theorem esL_length (k : Nat) : (esL k).length = k := by simp [esL]
theorem eL_right {n : Int} (hn : 57 ≤ n) (j : Nat) : rightB n (eL j) = true := by
 unfold rightB eL
 rw [decide_eq_true_iff]
 simp only
 omega
def psL (n : Int) (g k : Nat) : List (Nat × List UInt8) := (0,headText n) :: (esL k).map fun e => (g,edgeText e)
theorem psL_succ (n : Int) (g k : Nat) : psL n g (k + 1) = psL n g k ++ [(g,edgeText (eL k))] := by simp [psL,esL_succ]
theorem psL_ne (n : Int) (g k : Nat) : ∀ p ∈ psL n g k,p.2 ≠ [] := by
 intro p hp
 simp only [psL,List.mem_cons,List.mem_map] at hp
 rcases hp with rfl | ⟨e,_,rfl⟩
 ·exact headText_ne n
 ·exact edgeText_ne e
theorem psL_not {n : Int} (hn : 57 ≤ n) (g k : Nat) : ∀ p ∈ psL n g k,(10 : UInt8) ∉ p.2 := by
 intro p hp
 simp only [psL,esL,List.mem_cons,List.mem_map] at hp
 rcases hp with rfl | ⟨e,⟨j,_,rfl⟩,rfl⟩
 ·exact head_not n
 ·exact edge_not (eL_right hn j)
def textL (n : Int) (g k : Nat) : List UInt8 := ended (gap (psL n g k))
theorem textL_zero (n : Int) (g : Nat) : textL n g 0 = headText n ++ [10] := by simp [textL,psL,esL,gap,ended]
theorem ended_rep (g : Nat) (ws : List (List UInt8)) : ended (List.replicate g [] ++ ws) = List.replicate g 10 ++ ended ws := by
 rw [ended_append]
 congr 1
 induction g with
 | zero => rfl
 | succ g ih => rw [List.replicate_succ,List.replicate_succ]; simp only [ended,List.flatMap_cons,List.nil_append,List.singleton_append] at ih ⊢; rw [ih]
theorem textL_succ (n : Int) (g k : Nat) : textL n g (k + 1) = textL n g k ++ (List.replicate g 10 ++ (edgeText (eL k) ++ [10])) := by
 unfold textL
 rw [psL_succ,gap_append,ended_append]
 congr 1
 rw [gap_cons,ended_rep]
 simp [gap,ended]
theorem dec1 : dec 1 = [49] := by
 unfold dec
 exact Lib.decDigits_one (by omega)
theorem dec0 : dec 0 = [48] := by
 unfold dec
 exact Lib.decDigits_one (by omega)
theorem edgeText_eL (j : Nat) : edgeText (eL j) ++ [10] = [101,100,103,101,32,48,32] ++ (Lib.decDigits (j % 50) ++ [32,119,32,49,10]) := by
 unfold edgeText eL
 simp only [dec0,dec1]
 have h : dec ((j % 50 : Nat) : Int) = Lib.decDigits (j % 50) := by unfold dec; rw [Int.toNat_natCast]
 rw [h]
 simp [edgeW,signOf,signs]
theorem textL_len {n : Int} (hn : 57 ≤ n ∧ n ≤ 62) {g : Nat} (hg : g ≤ 1) : ∀ k : Nat,(textL n g k).length ≤ 7 + 15 * k
 | 0 => by
  rw [textL_zero]
  have h : (dec n).length ≤ 2 := nDig2 (by omega)
  simp only [headText,netW,List.length_append,List.length_cons,List.length_nil]
  omega
 | k + 1 => by
  have ih := textL_len hn hg k
  have h := nDig2 (n := k % 50) (by omega)
  rw [textL_succ,edgeText_eL]
  simp only [List.length_append,List.length_cons,List.length_nil,List.length_replicate]
  omega
theorem parse_textL {n : Int} {g k : Nat} (hn : 57 ≤ n ∧ n ≤ 62) (hg : g ≤ 1) (hk : k ≤ 402) : parseOf stepP (textL n g k) = if 60 < n then (none0,1,2) else if 400 < k then (none0,402 + 401 * g,2) else (⟨n,esL k⟩,0,0) := by
 have hl := textL_len hn hg k
 unfold textL at hl ⊢
 rw [parse_gap (psL_ne n g k) (psL_not hn.1 g k) (by omega)]
 have hitem : itemP (headText n) = .size n := head_item (by omega) (by omega)
 by_cases h60 : 60 < n
 ·have hs : stepP none0 (headText n) = none := by
   unfold stepP
   rw [hitem]
   simp only [addP]
   rw [if_neg (by omega)]
  rw [if_pos h60]
  simp only [psL,linesG,hs]
 ·rw [if_neg h60]
  have hr : ∀ e ∈ esL k,rightB n e = true := fun e he => by
   simp only [esL,List.mem_map] at he
   obtain ⟨j,_,rfl⟩ := he
   exact eL_right hn.1 j
  by_cases h400 : 400 < k
  ·rw [if_pos h400]
   obtain ⟨r,hr2⟩ : ∃ r,k = 400 + (r + 1) := ⟨k - 401,by omega⟩
   have hsplit : ∃ qs,psL n g k = psL n g 400 ++ (g,edgeText (eL 400)) :: qs := by
    rw [hr2,← Nat.add_assoc,Nat.add_right_comm]
    clear hr2
    induction r with
    | zero => exact ⟨[],psL_succ n g 400⟩
    | succ r ih =>
     obtain ⟨qs,ih⟩ := ih
     refine ⟨qs ++ [(g,edgeText (eL (400 + 1 + r)))],?_⟩
     rw [← Nat.add_assoc,psL_succ,ih]
     simp
   obtain ⟨qs,hsp⟩ := hsplit
   have hfit : Fits ⟨n,esL 400⟩ := ⟨by show 1 ≤ n; omega,by show n ≤ 60; omega,by rw [esL_length]; exact Nat.le_refl _,fun e he => by
    simp only [esL,List.mem_map] at he
    obtain ⟨j,_,rfl⟩ := he
    exact eL_right hn.1 j⟩
   have hok := lines_text hfit
   have hmap : (psL n g 400).map Prod.snd = headText n :: (esL 400).map edgeText := by simp [psL]
   rw [← hmap] at hok
   rw [hsp,linesG_ok stepP (psL n g 400) none0 ⟨n,esL 400⟩ 0 0 (psL_ne n g 400) hok]
   have hst : stepP ⟨n,esL 400⟩ (edgeText (eL 400)) = none := by
    unfold stepP
    rw [edge_item (n := n) (by omega) (eL_right hn.1 400)]
    simp only [addP]
    rw [if_neg]
    intro h
    have := h.2.1
    rw [esL_length] at this
    omega
   simp only [linesG,hst]
   have hgn : gapN (psL n g 400) = 1 + 400 * (g + 1) := by
    have : ∀ k,gapN (psL n g k) = 1 + k * (g + 1) := by
     intro k
     induction k with
     | zero => simp [psL,esL,gapN]
     | succ k ih =>
      rw [psL_succ,gapN_append,ih]
      simp only [gapN,List.map_cons,List.map_nil,List.sum_cons,List.sum_nil]
      rw [Nat.succ_mul]
      omega
    exact this 400
   rw [hgn]
   have harith : 0 + (1 + 400 * (g + 1)) + g + 1 = 402 + 401 * g := by omega
   rw [harith]
  ·rw [if_neg h400]
   have hfit : Fits ⟨n,esL k⟩ := ⟨by show 1 ≤ n; omega,by show n ≤ 60; omega,by rw [esL_length]; omega,hr⟩
   have hok := lines_text hfit
   have hmap : (psL n g k).map Prod.snd = headText n :: (esL k).map edgeText := by simp [psL]
   rw [← hmap] at hok
   have h := linesG_ok stepP (psL n g k) none0 ⟨n,esL k⟩ 0 0 (psL_ne n g k) hok []
   rw [List.append_nil] at h
   rw [h]
   simp only [linesG]
   rw [if_neg (by omega)]
end Go.Proofs.YtknhlpmmalcchaaDoor

namespace Go.Proofs.YtknhlpmmalcchaaDoor
open Go Go.VAI
set_option linter.unusedSimpArgs false

theorem dl1 : decide ((1 : Int) = 0) = false := rfl
theorem dl2 : decide ((402 : Int) = 0) = false := rfl
theorem dl3 : decide ((803 : Int) = 0) = false := rfl
theorem dl4 : decide ((1 : Int) ≠ 1) = false := rfl
theorem dl5 : decide ((402 : Int) ≠ 402) = false := rfl
theorem dl6 : decide ((803 : Int) ≠ 803) = false := rfl
theorem dl7 : decide ((0 : Int) < 1) = true := rfl
theorem dl8 : decide ((0 : Int) < 402) = true := rfl
theorem dl9 : decide ((0 : Int) < 803) = true := rfl
theorem dl10 : decide ((2 : Int) = 2) = true := rfl
theorem dl11 : decide ((0 : Int) = 0) = true := rfl
theorem dl12 : decide ((0 : Int) ≠ 0) = false := rfl
theorem ndl0 : ((0 : Nat) : Int) = 0 := rfl
theorem ndl : ((1 : Nat) : Int) = 1 := rfl
set_option maxRecDepth 20000 in
set_option maxHeartbeats 4000000 in
theorem netLimits_ret {nn kk : Int} {b : Bool} {H : AHeap} {Q : AVal → AHeap → Prop} (hn : I64 nn) (hk : I64 kk) (hq : ∀ H',Q (.bool true) H') : Ret A 6 [.int .i64 nn,.int .i64 kk,.bool b] H Q := by
 refine Ret.of (fn := F6) rfl ?_
 simp (disch := first | omega | (simp only [next_new,next_upd] <;> omega) | fail) only [vai,vaim,vaic,vas,bots,Bool.not_true,Bool.not_false,decide_true,decide_false,wrap64,F6,Nat.reduceAdd,Nat.reduceMul,Nat.reduceLeDiff,Nat.reduceEqDiff,↓reduceIte]
 refine known_ret fun H0 k0 => ?_
 simp (disch := first | omega | (simp only [next_new,next_upd] <;> omega) | fail) only [vai,vaim,vaic,vas,bots,Bool.not_true,Bool.not_false,decide_true,decide_false,wrap64,Nat.reduceAdd,Nat.reduceMul,Nat.reduceLeDiff,Nat.reduceEqDiff,↓reduceIte]
 refine within_ret rfl (by omega) (by omega) ?_
 simp (disch := first | omega | (simp only [next_new,next_upd] <;> omega) | fail) only [vai,vaim,vaic,vas,bots,Bool.not_true,Bool.not_false,decide_true,decide_false,wrap64,Nat.reduceAdd,Nat.reduceMul,Nat.reduceLeDiff,Nat.reduceEqDiff,↓reduceIte]
 refine within_ret rfl (by omega) (by omega) ?_
 obtain ⟨K,hK⟩ : ∃ K : Int,57 + nn % 6 = K := ⟨_,rfl⟩
 have hKb : 57 ≤ K ∧ K ≤ 62 := by omega
 obtain ⟨E,hE⟩ : ∃ E : Nat,397 + kk % 6 = E := ⟨(397 + kk % 6).toNat,by omega⟩
 have hEb : 397 ≤ E ∧ E ≤ 402 := by omega
 simp (disch := first | omega | (simp only [next_new,next_upd] <;> omega) | fail) only [vai,vaim,vaic,vas,bots,Bool.not_true,Bool.not_false,decide_true,decide_false,wrap64,hK,hE,Nat.reduceAdd,Nat.reduceMul,Nat.reduceLeDiff,Nat.reduceEqDiff,↓reduceIte]
 refine dec_ret (by omega) (by omega) fun H1 k1 => ?_
 have hdl : (dec K).length ≤ 2 := nDig2 (by omega)
 have z1 : ([110,101,116,32] : List UInt8).length = 4 := rfl
 have z2 : ([10] : List UInt8).length = 1 := rfl
 have z3 : (110 :: 101 :: 116 :: 32 :: dec K : List UInt8).length = 4 + (dec K).length := by simp; omega
 have z4 : ([110,101,116,32] ++ dec K : List UInt8).length = 4 + (dec K).length := by simp; omega
 simp (disch := first | omega | (simp only [next_new,next_upd] <;> omega) | fail) only [vai,vaim,vaic,vas,bots,Bool.not_true,Bool.not_false,decide_true,decide_false,wrap64,Nat.reduceAdd,Nat.reduceMul,Nat.reduceLeDiff,Nat.reduceEqDiff,↓reduceIte]
 obtain ⟨g,hg⟩ : ∃ g : Nat,g = if b then 1 else 0 := ⟨_,rfl⟩
 have hg1 : g ≤ 1 := by rw [hg]; split <;> omega
 refine wpx_loop (fun m t H' => ∃ (i : Nat) (S : List UInt8) (ev : AVal),m = E - i ∧ i ≤ E ∧ t = (bots 2 (.bool b :: bots 4 (.int .i64 K :: .int .i64 E :: .str (bs S) :: .ptr H1.next 0 :: .int .i64 i :: bots 86 ([]))) : Tmps) ∧ S = textL K g i ∧ H1.next + 1 ≤ H'.next ∧ H'.obj H1.next = some (.cells [.int .i64 K,ev] true) ∧ Grown (H1.next + 1) H' ev 4 (edgeCells (esL i))) E ?_ ?_
 ·exact ⟨0,_,.nilSlice,rfl,by omega,rfl,by rw [textL_zero]; simp [headText,netW],(by first | omega | (simp only [next_new,next_upd]; omega)),by simp (disch := first | omega | (simp only [next_new,next_upd] <;> omega) | fail) only [vaim],.nil⟩
 ·rintro m t H2 ⟨i,S,ev,rfl,hi,rfl,hS,n2,o2,g2⟩
  by_cases hc : (i : Int) < E
  ·have hd : decide ((i : Int) < E) = true := decide_eq_true hc
   have hSl : S.length ≤ 6022 := by
    have := textL_len hKb hg1 i
    rw [hS]; omega
   have hrem : ((i : Nat) : Int).tmod 50 = ((i % 50 : Nat) : Int) := by
    rw [Int.tmod_eq_emod_of_nonneg (by omega)]
    omega
   have hdg := nDig2 (n := i % 50) (by omega)
   have w1 : ([101,100,103,101,32,48,32] : List UInt8).length = 7 := rfl
   have w2 : ([32,119,32,49,10] : List UInt8).length = 5 := rfl
   cases b with
   | true =>
    have hl1 : (S ++ [10]).length = S.length + 1 := by simp
    have hl2 : (S ++ [10] ++ [101,100,103,101,32,48,32]).length = S.length + 8 := by simp
    simp (disch := first | omega | (simp only [next_new,next_upd] <;> omega) | fail) only [vai,vaim,vaic,vas,bots,Bool.not_true,Bool.not_false,decide_true,decide_false,wrap64,hd,hrem,Nat.reduceAdd,Nat.reduceMul,Nat.reduceLeDiff,Nat.reduceEqDiff,↓reduceIte]
    refine digits_ret (i % 50) (by omega) fun H3 k3 => ?_
    have hl3 : (S ++ [10] ++ [101,100,103,101,32,48,32] ++ Lib.decDigits (i % 50)).length = S.length + 8 + (Lib.decDigits (i % 50)).length := by simp; omega
    have q2 := (k3.old (i := H1.next) (by omega)).trans o2
    have n3 := k3.next
    simp (disch := first | omega | (simp only [next_new,next_upd] <;> omega) | fail) only [vai,vaim,vaic,vas,bots,Bool.not_true,Bool.not_false,decide_true,decide_false,wrap64,q2,hrem,Nat.reduceAdd,Nat.reduceMul,Nat.reduceLeDiff,Nat.reduceEqDiff,↓reduceIte]
    refine append_ret (n := i) (g2.keep k3.next fun j _ hj => k3.old hj) (by simp only [next_new,next_upd]; omega) (fun j h1 h2 => by simp (disch := first | omega | (simp only [next_new,next_upd] <;> omega) | fail) only [vaim]) (by simp (disch := first | omega | (simp only [next_new,next_upd] <;> omega) | fail) only [vaim]; rfl) rfl (by omega) (by omega) (by rw [edgeCells_length,esL_length]) (by omega) (by omega) (by simp only [next_new,next_upd]; omega) ?_
    intro v' H' hn' hk' hg'
    simp only [next_new,next_upd] at hn'
    have o4 : H'.obj H1.next = some (.cells [.int .i64 K,ev] true) := by rw [hk' _ (by omega)]; simp (disch := first | omega | (simp only [next_new,next_upd] <;> omega) | fail) only [vaim,q2]
    have hcell := hg'.cells
    simp (disch := first | omega | (simp only [next_new,next_upd] <;> omega) | fail) only [vai,vaim,vaic,vas,bots,Bool.not_true,Bool.not_false,decide_true,decide_false,wrap64,hcell,o4,Nat.reduceAdd,Nat.reduceMul,Nat.reduceLeDiff,Nat.reduceEqDiff,↓reduceIte]
    refine ⟨E - (i + 1),by omega,i + 1,_,v',rfl,by omega,rfl,?_,by omega,by simp (disch := first | omega | (simp only [next_new,next_upd] <;> omega) | fail) only [vaim],?_⟩
    ·rw [textL_succ,edgeText_eL,hS]
     simp [hg]
    ·rw [esL_succ]
     have he : edgeCells (esL i ++ [eL i]) = edgeCells (esL i) ++ Edge.cells (eL i) := by simp [edgeCells]
     rw [he]
     exact hg'.upd (by omega) _
   | false =>
    have hl2 : (S ++ [101,100,103,101,32,48,32]).length = S.length + 7 := by simp
    simp (disch := first | omega | (simp only [next_new,next_upd] <;> omega) | fail) only [vai,vaim,vaic,vas,bots,Bool.not_true,Bool.not_false,decide_true,decide_false,wrap64,hd,hrem,Nat.reduceAdd,Nat.reduceMul,Nat.reduceLeDiff,Nat.reduceEqDiff,↓reduceIte]
    refine digits_ret (i % 50) (by omega) fun H3 k3 => ?_
    have hl3 : (S ++ [101,100,103,101,32,48,32] ++ Lib.decDigits (i % 50)).length = S.length + 7 + (Lib.decDigits (i % 50)).length := by simp; omega
    have q2 := (k3.old (i := H1.next) (by omega)).trans o2
    have n3 := k3.next
    simp (disch := first | omega | (simp only [next_new,next_upd] <;> omega) | fail) only [vai,vaim,vaic,vas,bots,Bool.not_true,Bool.not_false,decide_true,decide_false,wrap64,q2,hrem,Nat.reduceAdd,Nat.reduceMul,Nat.reduceLeDiff,Nat.reduceEqDiff,↓reduceIte]
    refine append_ret (n := i) (g2.keep k3.next fun j _ hj => k3.old hj) (by simp only [next_new,next_upd]; omega) (fun j h1 h2 => by simp (disch := first | omega | (simp only [next_new,next_upd] <;> omega) | fail) only [vaim]) (by simp (disch := first | omega | (simp only [next_new,next_upd] <;> omega) | fail) only [vaim]; rfl) rfl (by omega) (by omega) (by rw [edgeCells_length,esL_length]) (by omega) (by omega) (by simp only [next_new,next_upd]; omega) ?_
    intro v' H' hn' hk' hg'
    simp only [next_new,next_upd] at hn'
    have o4 : H'.obj H1.next = some (.cells [.int .i64 K,ev] true) := by rw [hk' _ (by omega)]; simp (disch := first | omega | (simp only [next_new,next_upd] <;> omega) | fail) only [vaim,q2]
    have hcell := hg'.cells
    simp (disch := first | omega | (simp only [next_new,next_upd] <;> omega) | fail) only [vai,vaim,vaic,vas,bots,Bool.not_true,Bool.not_false,decide_true,decide_false,wrap64,hcell,o4,Nat.reduceAdd,Nat.reduceMul,Nat.reduceLeDiff,Nat.reduceEqDiff,↓reduceIte]
    refine ⟨E - (i + 1),by omega,i + 1,_,v',rfl,by omega,rfl,?_,by omega,by simp (disch := first | omega | (simp only [next_new,next_upd] <;> omega) | fail) only [vaim],?_⟩
    ·rw [textL_succ,edgeText_eL,hS]
     simp [hg]
    ·rw [esL_succ]
     have he : edgeCells (esL i ++ [eL i]) = edgeCells (esL i) ++ Edge.cells (eL i) := by simp [edgeCells]
     rw [he]
     exact hg'.upd (by omega) _
  ·have hd : decide ((i : Int) < E) = false := decide_eq_false hc
   have hiE : i = E := by omega
   subst hiE
   have hR := parse_textL hKb hg1 (k := i) (by omega)
   rw [← hS] at hR
   simp (disch := first | omega | (simp only [next_new,next_upd] <;> omega) | fail) only [vai,vaim,vaic,vas,bots,Bool.not_true,Bool.not_false,decide_true,decide_false,wrap64,hd,Nat.reduceAdd,Nat.reduceMul,Nat.reduceLeDiff,Nat.reduceEqDiff,↓reduceIte]
   refine parse_ret (s := S) fun ev4 H4 k4 g4 => ?_
   rw [hR] at g4 ⊢
   have n4 := k4.next
   have q4 := (k4.old (i := H1.next) (by omega)).trans o2
   have hcv := g4.row.cells
   by_cases h60 : 60 < K
   ·simp only [if_pos h60] at g4 ⊢
    have hd60 : decide (60 < K) = true := decide_eq_true h60
    have hno : ¬ NetOk K (esL i) := fun h => by have := h.2.1; omega
    have kX : Keep Nothing H4 ((H4.new (.cells [.int .i64 0,.nilSlice] true)).upd H4.next (some (.cells [.int .i64 0,ev4] true))) := ((Keep.refl _ _).new _).upd (.inl (Nat.le_refl _)) _
    have oX : ((H4.new (.cells [.int .i64 0,.nilSlice] true)).upd H4.next (some (.cells [.int .i64 0,ev4] true))).obj H4.next = some (.cells [.int .i64 0,ev4] true) := obj_upd_eq rfl
    by_cases h4 : (400 : Int) < i
    ·have hd4 : decide ((400 : Int) < i) = true := decide_eq_true h4
     cases b with
     | true =>
      simp (disch := first | omega | (simp only [next_new,next_upd] <;> omega) | fail) only [vai,vaim,vaic,vas,bots,Bool.not_true,Bool.not_false,decide_true,decide_false,wrap64,hcv,hd4,hd60,none0,q4,Nat.reduceAdd,Nat.reduceMul,Nat.reduceLeDiff,Nat.reduceEqDiff,↓reduceIte]
      refine netcheck_ret (es := esL i) (g2.row.kept (k4.trans kX)) fun r H5 k5 s5 => ?_
      have hr : r = false := by
       cases r with
       | false => rfl
       | true => exact absurd (s5.1 rfl) hno
      subst hr
      have o5 := (k5.old (i := H4.next) (by simp only [next_upd,next_new]; omega)).trans oX
      simp (disch := first | omega | (simp only [next_new,next_upd] <;> omega) | fail) only [vai,vaim,vaic,vas,bots,Bool.not_true,Bool.not_false,decide_true,decide_false,wrap64,o5,dl1,dl2,dl3,dl4,dl5,dl6,dl7,dl8,dl9,dl10,dl11,beq_self_eq_true,ndl,Nat.reduceAdd,Nat.reduceMul,Nat.reduceLeDiff,Nat.reduceEqDiff,↓reduceIte]
      exact hq _
     | false =>
      simp (disch := first | omega | (simp only [next_new,next_upd] <;> omega) | fail) only [vai,vaim,vaic,vas,bots,Bool.not_true,Bool.not_false,decide_true,decide_false,wrap64,hcv,hd4,hd60,none0,q4,Nat.reduceAdd,Nat.reduceMul,Nat.reduceLeDiff,Nat.reduceEqDiff,↓reduceIte]
      refine netcheck_ret (es := esL i) (g2.row.kept (k4.trans kX)) fun r H5 k5 s5 => ?_
      have hr : r = false := by
       cases r with
       | false => rfl
       | true => exact absurd (s5.1 rfl) hno
      subst hr
      have o5 := (k5.old (i := H4.next) (by simp only [next_upd,next_new]; omega)).trans oX
      simp (disch := first | omega | (simp only [next_new,next_upd] <;> omega) | fail) only [vai,vaim,vaic,vas,bots,Bool.not_true,Bool.not_false,decide_true,decide_false,wrap64,o5,dl1,dl2,dl3,dl4,dl5,dl6,dl7,dl8,dl9,dl10,dl11,beq_self_eq_true,ndl,Nat.reduceAdd,Nat.reduceMul,Nat.reduceLeDiff,Nat.reduceEqDiff,↓reduceIte]
      exact hq _
    ·have hd4 : decide ((400 : Int) < i) = false := decide_eq_false h4
     simp (disch := first | omega | (simp only [next_new,next_upd] <;> omega) | fail) only [vai,vaim,vaic,vas,bots,Bool.not_true,Bool.not_false,decide_true,decide_false,wrap64,hcv,hd4,hd60,none0,q4,Nat.reduceAdd,Nat.reduceMul,Nat.reduceLeDiff,Nat.reduceEqDiff,↓reduceIte]
     refine netcheck_ret (es := esL i) (g2.row.kept (k4.trans kX)) fun r H5 k5 s5 => ?_
     have hr : r = false := by
      cases r with
      | false => rfl
      | true => exact absurd (s5.1 rfl) hno
     subst hr
     have o5 := (k5.old (i := H4.next) (by simp only [next_upd,next_new]; omega)).trans oX
     simp (disch := first | omega | (simp only [next_new,next_upd] <;> omega) | fail) only [vai,vaim,vaic,vas,bots,Bool.not_true,Bool.not_false,decide_true,decide_false,wrap64,o5,dl1,dl2,dl3,dl4,dl5,dl6,dl7,dl8,dl9,dl10,dl11,beq_self_eq_true,ndl,Nat.reduceAdd,Nat.reduceMul,Nat.reduceLeDiff,Nat.reduceEqDiff,↓reduceIte]
     exact hq _
   ·have hd60 : decide (60 < K) = false := decide_eq_false h60
    rw [if_neg h60] at g4 ⊢
    by_cases h4 : (400 : Int) < i
    ·have hd4 : decide ((400 : Int) < i) = true := decide_eq_true h4
     have h4n : 400 < i := by omega
     simp only [if_pos h4n] at g4 ⊢
     have hno : ¬ NetOk K (esL i) := fun h => by have := h.2.2.1; rw [esL_length] at this; omega
     have kX : Keep Nothing H4 ((H4.new (.cells [.int .i64 0,.nilSlice] true)).upd H4.next (some (.cells [.int .i64 0,ev4] true))) := ((Keep.refl _ _).new _).upd (.inl (Nat.le_refl _)) _
     have oX : ((H4.new (.cells [.int .i64 0,.nilSlice] true)).upd H4.next (some (.cells [.int .i64 0,ev4] true))).obj H4.next = some (.cells [.int .i64 0,ev4] true) := obj_upd_eq rfl
     cases b with
     | true =>
      have hg803 : ((402 + 401 * g : Nat) : Int) = 803 := by rw [hg]; rfl
      simp (disch := first | omega | (simp only [next_new,next_upd] <;> omega) | fail) only [vai,vaim,vaic,vas,bots,Bool.not_true,Bool.not_false,decide_true,decide_false,wrap64,hcv,hd4,hd60,none0,q4,hg803,Nat.reduceAdd,Nat.reduceMul,Nat.reduceLeDiff,Nat.reduceEqDiff,↓reduceIte]
      refine netcheck_ret (es := esL i) (g2.row.kept (k4.trans kX)) fun r H5 k5 s5 => ?_
      have hr : r = false := by
       cases r with
       | false => rfl
       | true => exact absurd (s5.1 rfl) hno
      subst hr
      have o5 := (k5.old (i := H4.next) (by simp only [next_upd,next_new]; omega)).trans oX
      simp (disch := first | omega | (simp only [next_new,next_upd] <;> omega) | fail) only [vai,vaim,vaic,vas,bots,Bool.not_true,Bool.not_false,decide_true,decide_false,wrap64,o5,dl1,dl2,dl3,dl4,dl5,dl6,dl7,dl8,dl9,dl10,dl11,beq_self_eq_true,ndl,Nat.reduceAdd,Nat.reduceMul,Nat.reduceLeDiff,Nat.reduceEqDiff,↓reduceIte]
      exact hq _
     | false =>
      have hg402 : ((402 + 401 * g : Nat) : Int) = 402 := by rw [hg]; rfl
      simp (disch := first | omega | (simp only [next_new,next_upd] <;> omega) | fail) only [vai,vaim,vaic,vas,bots,Bool.not_true,Bool.not_false,decide_true,decide_false,wrap64,hcv,hd4,hd60,none0,q4,hg402,Nat.reduceAdd,Nat.reduceMul,Nat.reduceLeDiff,Nat.reduceEqDiff,↓reduceIte]
      refine netcheck_ret (es := esL i) (g2.row.kept (k4.trans kX)) fun r H5 k5 s5 => ?_
      have hr : r = false := by
       cases r with
       | false => rfl
       | true => exact absurd (s5.1 rfl) hno
      subst hr
      have o5 := (k5.old (i := H4.next) (by simp only [next_upd,next_new]; omega)).trans oX
      simp (disch := first | omega | (simp only [next_new,next_upd] <;> omega) | fail) only [vai,vaim,vaic,vas,bots,Bool.not_true,Bool.not_false,decide_true,decide_false,wrap64,o5,dl1,dl2,dl3,dl4,dl5,dl6,dl7,dl8,dl9,dl10,dl11,beq_self_eq_true,ndl,Nat.reduceAdd,Nat.reduceMul,Nat.reduceLeDiff,Nat.reduceEqDiff,↓reduceIte]
      exact hq _
    ·have hd4 : decide ((400 : Int) < i) = false := decide_eq_false h4
     have h4n : ¬ 400 < i := by omega
     simp only [if_neg h4n] at g4 ⊢
     have kX : Keep Nothing H4 ((H4.new (.cells [.int .i64 0,.nilSlice] true)).upd H4.next (some (.cells [.int .i64 K,ev4] true))) := ((Keep.refl _ _).new _).upd (.inl (Nat.le_refl _)) _
     have oX : ((H4.new (.cells [.int .i64 0,.nilSlice] true)).upd H4.next (some (.cells [.int .i64 K,ev4] true))).obj H4.next = some (.cells [.int .i64 K,ev4] true) := obj_upd_eq rfl
     have hyes : NetOk K (esL i) := ⟨by omega,by omega,by rw [esL_length]; omega,fun e he => by
      simp only [esL,List.mem_map] at he
      obtain ⟨j,_,rfl⟩ := he
      exact edgeOk_iff.1 (eL_right hKb.1 j)⟩
     simp (disch := first | omega | (simp only [next_new,next_upd] <;> omega) | fail) only [vai,vaim,vaic,vas,bots,Bool.not_true,Bool.not_false,decide_true,decide_false,wrap64,hcv,hd4,hd60,q4,Nat.reduceAdd,Nat.reduceMul,Nat.reduceLeDiff,Nat.reduceEqDiff,↓reduceIte]
     refine netcheck_ret (es := esL i) (g2.row.kept (k4.trans kX)) fun r H5 k5 s5 => ?_
     have hr : r = true := s5.2 hyes
     subst hr
     have o5 := (k5.old (i := H4.next) (by simp only [next_upd,next_new]; omega)).trans oX
     have q5 := (k5.old (i := H1.next) (by simp only [next_upd,next_new]; omega)).trans (((Keep.refl Nothing H4).new (.cells [.int .i64 0,.nilSlice] true)).upd (.inl (Nat.le_refl _)) (some (.cells [.int .i64 K,ev4] true)) |>.old (i := H1.next) (by omega) |>.trans q4)
     simp (disch := first | omega | (simp only [next_new,next_upd] <;> omega) | fail) only [vai,vaim,vaic,vas,bots,Bool.not_true,Bool.not_false,decide_true,decide_false,wrap64,o5,q5,beq_self_eq_true,dl11,dl12,ndl0,Nat.reduceAdd,Nat.reduceMul,Nat.reduceLeDiff,Nat.reduceEqDiff,↓reduceIte]
     refine same_ret ((g2.row.kept (k4.trans kX)).kept k5) ((g4.row.kept kX).kept k5) (by rw [esL_length]; omega) fun r H6 k6 s6 => ?_
     have hr : r = true := s6.2 ⟨rfl,rfl⟩
     subst hr
     simp (disch := first | omega | (simp only [next_new,next_upd] <;> omega) | fail) only [vai,vaim,vaic,vas,bots,Bool.not_true,Bool.not_false,decide_true,decide_false,wrap64,Nat.reduceAdd,Nat.reduceMul,Nat.reduceLeDiff,Nat.reduceEqDiff,↓reduceIte]
     exact hq _
end Go.Proofs.YtknhlpmmalcchaaDoor

/- Closed facts of the program: what its head says,read as a list of signs (the kernel is slow at a long text's own signs). -/
namespace Go.Proofs.YtknhlpmmalcchaaDoor
open Go Go.ChangeShapes Go.WideShapes Go.ChangeAt Go.RowKit
set_option maxRecDepth 100000
def headSigns : List Char := List.map Char.ofNat [104,97,114,110,101,115,115,32,100,56,52,52,54,101,57,49,48,51,57,48,50,102,56,55,52,52,97,54,55,56,100,53,55,49,56,99,53,101,53,98,51,101,100,101,57,48,48,55,99,57,56,49,97,98,102,52,100,52,54,49,57,100,50,97,57,97,102,53,102,54,51,56,32,99,117,116,32,97,116,32,109,105,108,101,115,116,111,110,101,47,109,105,108,101,115,116,111,110,101,108,97,119,49,46,78,101,116,67,104,101,99,107,115,32,109,105,108,101,115,116,111,110,101,47,109,105,108,101,115,116,111,110,101,108,97,119,49,46,78,101,116,82,101,97,100,115,32,109,105,108,101,115,116,111,110,101,47,109,105,108,101,115,116,111,110,101,108,97,119,49,46,78,101,116,75,110,111,119,110,32,109,105,108,101,115,116,111,110,101,47,109,105,108,101,115,116,111,110,101,108,97,119,49,46,78,101,116,76,105,109,105,116,115,32,109,105,108,101,115,116,111,110,101,47,109,105,108,101,115,116,111,110,101,108,97,119,49,46,78,101,116,87,97,108,107,115,32,109,105,108,101,115,116,111,110,101,47,109,105,108,101,115,116,111,110,101,108,97,119,49,46,78,101,116,74,111,105,110,115,32,109,105,108,101,115,116,111,110,101,47,109,105,108,101,115,116,111,110,101,108,97,119,49,46,78,101,116,67,111,115,116,115,32,109,105,108,101,115,116,111,110,101,47,109,105,108,101,115,116,111,110,101,108,97,119,49,46,78,101,116,66,97,99,107,32,109,105,108,101,115,116,111,110,101,47,109,105,108,101,115,116,111,110,101,108,97,119,49,46,78,101,116,76,105,110,101,115,32,109,105,108,101,115,116,111,110,101,47,109,105,108,101,115,116,111,110,101,108,97,119,49,46,78,101,116,65,112,97,114,116]
theorem head_eq : Tryd.prog.initOrder = String.ofList headSigns := by kernel_rfl
theorem head_list : Tryd.prog.initOrder.toList = headSigns := by rw [head_eq,String.toList_ofList]
theorem head_words : ∃ rest,behindMainWord (wordsSigns headSigns) = "cut".toList :: rest := ⟨(behindMainWord (wordsSigns headSigns)).tail,by kernel_rfl⟩
theorem strip_cut (rest : List (List Char)) : stripLifts liftWords ("cut".toList :: rest) = ([],"cut".toList :: rest) := by kernel_rfl
theorem ne1 : ("cut".toList == "gc".toList) = false := by kernel_rfl
theorem ne2 : ("cut".toList == "spec".toList) = false := by kernel_rfl
theorem ne3 : ("cut".toList == "carried".toList) = false := by kernel_rfl
theorem words_of : ∃ rest,behindMainWord (wordsSigns Tryd.prog.initOrder.toList) = "cut".toList :: rest := by
 obtain ⟨rest,h⟩ := head_words
 exact ⟨rest,(congrArg (fun l => behindMainWord (wordsSigns l)) head_list).trans h⟩
theorem make_of (P : Program) (rest : List (List Char)) (h : behindMainWord (wordsSigns P.initOrder.toList) = "cut".toList :: rest) : P.make = some .cut := by
 unfold Program.make
 rw [h]
 simp only [ne1,ne2,beq_self_eq_true,Bool.false_or,Bool.true_or,Bool.or_self,Bool.false_eq_true,if_true,if_false]
theorem lifts_of (P : Program) (rest : List (List Char)) (h : behindMainWord (wordsSigns P.initOrder.toList) = "cut".toList :: rest) : P.liftsFinal = false := by
 unfold Program.liftsFinal Program.headLifts
 rw [h]
 have e : ((some "cut".toList : Option (List Char)) == some "carried".toList) = false := by kernel_rfl
 simp only [strip_cut,List.head?_cons,beq_self_eq_true,if_true,e,Bool.false_and,Bool.false_or]
 rfl
theorem enter_of (P : Program) (rest : List (List Char)) (h : behindMainWord (wordsSigns P.initOrder.toList) = "cut".toList :: rest) (h1 : P.laysLater = false) (h2 : P.bearsReflect = false) (h3 : P.doorFits [] = true) : P.mayEnter = true := by
 unfold Program.mayEnter
 rw [h]
 simp only [strip_cut,ne1,ne2,ne3,h1,h2,h3,List.head?_cons,beq_self_eq_true,Bool.false_or,Bool.or_false,Bool.false_and,Bool.true_and,Bool.and_true,Bool.not_false,Bool.or_true,List.contains_nil]
theorem fact_make : Tryd.prog.make = some .cut := by
 obtain ⟨rest,h⟩ := words_of
 exact make_of _ _ h
theorem fact_lifts : Tryd.prog.liftsFinal = false := by
 obtain ⟨rest,h⟩ := words_of
 exact lifts_of _ _ h
theorem fact_later : Tryd.prog.laysLater = false := by kernel_rfl
theorem fact_reflect : Tryd.prog.bearsReflect = false := by kernel_rfl
theorem fact_door : Tryd.prog.doorFits [] = true := by kernel_rfl
theorem fact_enter : Tryd.prog.mayEnter = true := by
 obtain ⟨rest,h⟩ := words_of
 exact enter_of _ _ h fact_later fact_reflect fact_door
theorem fact_laid : laidOutB Tryd.prog = true := by kernel_rfl
theorem fact_maps : mapsRowed Tryd.prog = true := by kernel_rfl
theorem fact_heard : Tryd.prog.stopsHeard = true := by kernel_rfl
theorem own : ownKnob Tryd.prog.godebug = none := by kernel_rfl
theorem follows : Tryd.prog.follows .mixedOrders = true := by kernel_rfl
end Go.Proofs.YtknhlpmmalcchaaDoor

/- What the rows' condition gives of the package variables at the start; the builder that hands both it and the world's shape to the contract. -/
namespace Go
variable {H : Type} {enc : TypeId × Value → H}
theorem returnsInHanded_of_change_both {a : Assume} {C : Checked} {os : Os} {f : FuncId} {fn : Func} {s : ChangeSpec} {conds : List PathCond} {apart fresh handsOn again : Bool} {X : World → Array Value → Prop}
  (hX : ∀ (w w' : World) (args : Array Value),w.heap = w'.heap → X w args → X w' args)
  (own : ownKnob C.prog.godebug = none) (started : os.Started) (noInit : C.prog.inits.idxOf? f = none) (hfn : C.prog.funcs[f]? = some fn)
  (witness : ∃ (w : World) (tape : Tape) (i : Input),w.os = os ∧ (w.forCall tape i).Shaped C.prog ∧ i.vars = [] ∧ Input.okWide C.prog (w.forCall tape i) .any w.heap.size f i ∧
   ((s.pre enc C.prog fn conds apart (w.forCall tape i).memory i.args ∧ X (w.forCall tape i).memory i.args) ∧ sizedMet enc C.prog fn (OpenSpec.ofChange s) apart (w.forCall tape i).memory i.args) ∧ a.holds C.prog (lone (Frame.enter C.prog f i.args .normal) [] (w.forCall tape i)))
  (contract : ∀ (W : World) (base : Nat) (args : Array Value) (ds gs : List (DataW H)) (before : List MemPlace),
   (∀ (j : Nat) t v,fn.params[j]? = some t → args[j]? = some v → Value.okWide C.prog W .any base t v) →
   DataW.Whole enc C.prog fn.params.toList s.vars apart W args.toList ds gs before →
   X W args → W.ShapedOpen C.prog →
   Calls C.prog f args W fun e W' => ∃ v,e = .returned v ∧ s.post enc C.prog fn apart fresh handsOn again W args v W') :
  ReturnsInHanded a C os f .any (fun w args => (s.pre enc C.prog fn conds apart w args ∧ X w args) ∧ sizedMet enc C.prog fn (OpenSpec.ofChange s) apart w args) (s.post enc C.prog fn apart fresh handsOn again) := by
 refine returnsInHanded_of_calls own started noInit witness ?_
 intro w tape i _ hsh _ hok hpre hholds
 obtain ⟨_,_,_,fn',hfn',_,_,_,_,hval⟩ := hok
 have e : fn' = fn := Option.some.inj (hfn'.symm.trans hfn)
 subst e
 obtain ⟨⟨⟨ds,gs,before,hw,hc⟩,hx⟩,hz⟩ := hpre
 have hw' := DataW.Whole.of_heap (w' := w.forCall tape i) (by rfl) hw
 refine (contract (w.forCall tape i) w.heap.size i.args ds gs before hval hw' (hX _ _ _ (by rfl) hx) hsh).mono fun e W' ⟨v,he,hp⟩ => ?_
 subst he
 exact ChangeSpec.post_blind hp
end Go
namespace Go.Proofs.YtknhlpmmalcchaaDoor
open Go Go.VAI Go.ChangeShapes Go.WideShapes Go.ChangeAt Go.RowKit
set_option linter.unusedVariables false
set_option linter.unusedSimpArgs false
def laidD : List (String × DataW Unit) := Rows.netKnownRow.laid
theorem laidD_plain : (laidD.all fun x => x.2.handleName?.isNone) = true := by kernel_rfl
theorem pow_data : (Rows.laid_internal_strconv_uint64pow10 : DataW Unit) = Lib.tabData .u64 Lib.pow10Tab := by kernel_rfl
theorem gErrR : Tryd.prog.globalNamed "strconv.ErrRange" = some 5 := by kernel_rfl
theorem gErrS : Tryd.prog.globalNamed "strconv.ErrSyntax" = some 4 := by kernel_rfl
theorem tPow : (Tryd.prog.globals[1]?).map (·.type) = some 108 := by kernel_rfl
theorem tErrR : (Tryd.prog.globals[5]?).map (·.type) = some 71 := by kernel_rfl
theorem tErrS : (Tryd.prog.globals[4]?).map (·.type) = some 71 := by kernel_rfl
theorem cellsPow : Tryd.prog.cellsOf 108 = 20 := by kernel_rfl
theorem iface_of_trod {P : Program} {w : World} {base : Nat} {sp : Nat → Bool} {held : Bool} {fuel : Nat} {t : TypeId} {ms : Array (String × TypeId)} {cs : List Value} {x : DataW Unit × List MemPlace} {enc : TypeId × Value → Unit}
  (ht : P.underlying t = some (.interface ms)) (h : DataW.trod enc P w base sp held fuel t cs = some x) : ∃ v,cs = [v] ∧ (v = .nilIface ∨ ∃ te pe,v = .iface te pe) := by
 cases fuel with
 | zero => simp [DataW.trod] at h
 | succ fuel =>
  match cs,h with
  | [],h => simp [DataW.trod,ht] at h
  | [v],h =>
   refine ⟨v,rfl,?_⟩
   cases v <;> first
    | exact .inl rfl
    | exact .inr ⟨_,_,rfl⟩
    | (exfalso; simp [DataW.trod,ht] at h)
  | _ :: _ :: _,h => simp [DataW.trod,ht] at h
set_option maxRecDepth 100000 in
theorem glob_of_laid {W : World} (h : laidMetH Tryd.prog laidD W) (hs : W.ShapedOpen Tryd.prog) : Glob W := by
 rw [MakeChecks.laidMetH_plain _ _ _ laidD_plain] at h
 obtain ⟨ps,⟨_,_,_,_,_,_,_,_,_,_,⟨_,_,_,_,_,_,_,_,_,_,⟨g,t,cs,fuel,p,q,hg,ht,hv,hd,⟨_,_,_,_,_,_,_,_,_,_,⟨g5,t5,cs5,f5,p5,q5,hg5,ht5,hv5,hd5,⟨g4,t4,cs4,f4,p4,q4,hg4,ht4,hv4,hd4,_,_⟩,_⟩,_⟩,_⟩,_⟩,_⟩,_,_⟩ := h
 obtain rfl := Option.some.inj (gPow.symm.trans hg)
 obtain rfl := Option.some.inj (tPow.symm.trans ht)
 obtain rfl := Option.some.inj (gErrR.symm.trans hg5)
 obtain rfl := Option.some.inj (tErrR.symm.trans ht5)
 obtain rfl := Option.some.inj (gErrS.symm.trans hg4)
 obtain rfl := Option.some.inj (tErrS.symm.trans ht4)
 have iface : ∀ (n : String) (b : Nat) (cs : Array Value) x fuel,Tryd.prog.globalNamed n = some b → W.var? Tryd.prog n = some cs → DataW.trod (fun _ => ()) Tryd.prog W 0 (fun _ => true) false fuel 71 cs.toList = some x → IfaceAt W b := fun n b cs x fuel hg hv hd => by
  obtain ⟨v,e1,e2⟩ := iface_of_trod Tryd.underlying71 hd
  refine ⟨v,?_,e2⟩
  have := World.var?_cell hg hv 0
  rw [this,← Array.getElem?_toList,e1]
  rfl
 refine ⟨Tryd.split.s1_3 W hs,?_,?_,?_⟩
 ·rw [pow_data] at hd
  have e := Lib.cells_of_tab Tryd.underlying108 Tryd.underlying93 (by kernel_rfl) cellsPow hd
  have hv' : World.var? Tryd.prog W powName = some cs := hv
  unfold World.var? at hv'
  rw [gPow] at hv'
  simp only [Option.bind_some] at hv'
  split at hv'
  ·rename_i c E fz hb
   injection hv' with hv'
   subst hv'
   refine ⟨E,fz,?_⟩
   rw [hb,← pow_eq,← e]
  ·cases hv'
 ·exact iface _ 4 cs4 _ f4 gErrS hv4 hd4
 ·exact iface _ 5 cs5 _ f5 gErrR hv5 hd5
end Go.Proofs.YtknhlpmmalcchaaDoor
