/- Steps of the walk. -/
import Derived.Test.YtknhlpmmalcchaaDoorJ4Ta
import Derived.Test.YtknhlpmmalcchaaDoorRows
import Derived.ProofKit
import Derived.Test.YtknhlpmmalcchaaDoorJ4Vca
import Derived.Test.YtknhlpmmalcchaaDoorTie
import Derived.HandedShaped
import Derived.LaidMore
import Derived.Lay
import Derived.Lib.LaidTab
import Derived.Stop.Joined
set_option linter.all false
set_option linter.unusedVariables false
set_option linter.unusedSimpArgs false
namespace Go.Proofs.YtknhlpmmalcchaaDoor
open Go Go.VAI
set_option linter.unusedSimpArgs false

theorem append_nil_ret {lo : Nat} {ev : AVal} {es : List Edge} {H : AHeap} {W : AVal → AHeap → Prop} (hg : Grown lo H ev 4 (edgeCells es)) (hlen : es.length ≤ 400)
  (hW : ∀ v' H',H.next ≤ H'.next → (∀ j,j < H.next → H'.obj j = H.obj j) → Grown H.next H' v' 4 (edgeCells es) → W v' H') : atResult (aappend H 4 32 .nilSlice ev) W := by
 have hl := edgeCells_length es
 generalize edgeCells es = cs at *
 cases hg with
 | nil => exact hW .nilSlice H (Nat.le_refl _) (fun _ _ => rfl) .nil
 | @mk id len _ _ hlo hhi ho hlen2 =>
  have ht : taken H 4 (.slice id 0 len (.room 4)) = some (len,cs) := taken_one (by rw [cells?_of,ho]; rfl) hlen2
  by_cases h0 : len = 0
  ·have e : aappend H 4 32 .nilSlice (.slice id 0 len (.room 4)) = some (.nilSlice,H) := by
    simp only [aappend,ht,bnd]
    rw [if_pos h0]
   rw [e]
   have : cs = [] := List.eq_nil_of_length_eq_zero (by omega)
   subst this
   exact hW .nilSlice H (Nat.le_refl _) (fun _ _ => rfl) .nil
  ·have e : aappend H 4 32 .nilSlice (.slice id 0 len (.room 4)) = some (.slice H.next 0 len (.room 4),H.new (.cells cs true)) := by
    simp only [aappend,ht,bnd]
    rw [if_neg h0,if_pos ⟨by omega,by omega⟩]
   rw [e]
   exact hW _ _ (by simp only [next_new]; omega) (fun j hj => obj_new_ne (by omega)) (.mk (Nat.le_refl _) (by simp only [next_new]; omega) (obj_new_eq rfl) hlen2)
theorem lines_cons (f : NetS → List UInt8 → Option NetS) (x : NetS) (k : Nat) (w : List UInt8) (ws : List (List UInt8)) : linesOf f x k (w :: ws) = if w = [] then linesOf f x (k + 1) ws else match f x w with
  | none => .inr (k + 1)
  | some y => linesOf f y (k + 1) ws := rfl
theorem addP_len {x y : NetS} {it : Item} (h : addP x it = some y) (hl : x.es.length ≤ 400) (h0 : x.n = 0 → x.es = []) : y.es.length ≤ 400 ∧ (y.n = 0 → y.es = []) := by
 cases it with
 | size k =>
  simp only [addP] at h
  split at h
  ·injection h with h; subst h
   exact ⟨hl,fun hk => by rename_i hh; have : k = 0 := hk; omega⟩
  ·cases h
 | edge e =>
  simp only [addP] at h
  split at h
  ·rename_i hh
   injection h with h; subst h
   exact ⟨by simp; omega,fun hk => absurd hk hh.1⟩
  ·cases h
 | no => cases h
theorem parse_long {f : NetS → List UInt8 → Option NetS} {s : List UInt8} (h : 60000 < s.length) : parseOf f s = (none0,0,2) := by
 unfold parseOf
 rw [if_pos h]
theorem parse_bad {f : NetS → List UInt8 → Option NetS} {s : List UInt8} {k : Nat} (h : ¬ 60000 < s.length) (hl : linesOf f none0 0 (cutAt 10 s) = .inr k) : parseOf f s = (none0,k,2) := by
 unfold parseOf
 rw [if_neg h,hl]
theorem parse_zero {f : NetS → List UInt8 → Option NetS} {s : List UInt8} {x : NetS} (h : ¬ 60000 < s.length) (hl : linesOf f none0 0 (cutAt 10 s) = .inl x) (hx : x.n = 0) : parseOf f s = (none0,1,2) := by
 unfold parseOf
 rw [if_neg h,hl]
 simp only [if_pos hx]
theorem parse_good {f : NetS → List UInt8 → Option NetS} {s : List UInt8} {x : NetS} (h : ¬ 60000 < s.length) (hl : linesOf f none0 0 (cutAt 10 s) = .inl x) (hx : ¬ x.n = 0) : parseOf f s = (x,0,0) := by
 unfold parseOf
 rw [if_neg h,hl]
 simp only [if_neg hx]
set_option maxRecDepth 20000 in
set_option maxHeartbeats 2000000 in
theorem parse_ret {s : List UInt8} {H : AHeap} {Q : AVal → AHeap → Prop}
  (hq : ∀ ev H',Keep Nothing H H' → Grown H.next H' ev 4 (edgeCells (parseOf stepP s).1.es) → Q (.tuple [.agg [.int .i64 (parseOf stepP s).1.n,ev],.int .i64 ((parseOf stepP s).2.1 : Nat),.int .i64 (parseOf stepP s).2.2]) H') : Ret A 20 [.str (bs s)] H Q := by
 refine Ret.of (fn := F20) rfl ?_
 have p1 := @parse_long stepP s
 have p2 := @parse_bad stepP s
 have p3 := @parse_zero stepP s
 have p4 := @parse_good stepP s
 generalize parseOf stepP s = R at *
 by_cases hlen : (60000 : Int) < s.length
 ·have hR := p1 (by omega)
  subst hR
  simp (disch := first | omega | (simp only [next_new,next_upd] <;> omega) | fail) only [vai,vaim,vaic,vas,bots,Bool.not_true,Bool.not_false,decide_true,decide_false,wrap64,F20,hlen,decide_true,Nat.reduceAdd,Nat.reduceMul,Nat.reduceLeDiff,Nat.reduceEqDiff,↓reduceIte]
  exact hq .nilSlice _ (((Keep.refl _ _).new _).upd (.inl (by omega)) _) .nil
 simp (disch := first | omega | (simp only [next_new,next_upd] <;> omega) | fail) only [vai,vaim,vaic,vas,bots,Bool.not_true,Bool.not_false,decide_true,decide_false,wrap64,F20,hlen,decide_false,Nat.reduceAdd,Nat.reduceMul,Nat.reduceLeDiff,Nat.reduceEqDiff,↓reduceIte]
 refine split_ret (by omega) ?_
 have hle := cutAt_le 10 s
 have hLl : (cutAt 10 s).length ≤ 60001 := by
  rw [cutAt_len]
  have := List.count_le_length (a := (10 : UInt8)) (l := s)
  omega
 generalize cutAt 10 s = L at *
 simp (disch := first | omega | (simp only [next_new,next_upd] <;> omega) | fail) only [vai,vaim,vaic,vas,bots,Bool.not_true,Bool.not_false,decide_true,decide_false,wrap64,Nat.reduceAdd,Nat.reduceMul,Nat.reduceLeDiff,Nat.reduceEqDiff,↓reduceIte]
 refine wpx_loop (fun m t H' => ∃ (i : Nat) (x : NetS) (ev : AVal),m = L.length - i ∧ i ≤ L.length ∧ t = (bots 2 (.ptr H.next 0 :: bots 9 (.slice (H.next + 1) 0 L.length (.exact L.length) :: .int .i64 L.length :: .int .i64 i :: bots 25 ([]))) : Tmps) ∧ Keep Nothing H H' ∧ H.next + 2 ≤ H'.next ∧
  H'.obj H.next = some (.cells [.int .i64 x.n,ev] true) ∧ H'.obj (H.next + 1) = some (.cells (strs L) true) ∧ Grown (H.next + 2) H' ev 4 (edgeCells x.es) ∧ Small x ∧ (x.n = 0 → x.es = []) ∧ x.es.length ≤ 400 ∧ linesOf stepP none0 0 L = linesOf stepP x i (L.drop i)) L.length ?_ ?_
 ·refine ⟨0,none0,.nilSlice,rfl,by omega,rfl,((Keep.refl _ _).new _).new _,(by first | omega | (simp only [next_new,next_upd]; omega)),?_,?_,.nil,small0,fun _ => rfl,by simp [none0],rfl⟩
  ·simp (disch := first | omega | (simp only [next_new,next_upd] <;> omega) | fail) only [vaim]; rfl
  ·simp (disch := first | omega | (simp only [next_new,next_upd] <;> omega) | fail) only [vaim]
 ·rintro m t H1 ⟨i,x,ev,rfl,hi,rfl,k1,hn1,o1,o2,hg,hsm,h0,hl4,hlin⟩
  by_cases hc : (i : Int) < L.length
  ·have hil : i < L.length := by omega
   have hd : L.drop i = L[i] :: L.drop (i + 1) := List.drop_eq_getElem_cons hil
   have hw := hle L[i] (List.getElem_mem hil)
   have hs : (strs L)[i]? = some (.str (bs L[i])) := by simp [strs,hil]
   rw [hd] at hlin
   generalize L[i] = w at *
   rw [lines_cons] at hlin
   by_cases hw0 : w = []
   ·rw [if_pos hw0] at hlin
    simp (disch := first | omega | (simp only [next_new,next_upd] <;> omega) | fail) only [vai,vaim,vaic,vas,bots,Bool.not_true,Bool.not_false,decide_true,decide_false,wrap64,hc,decide_true,o2,hs,hw0,Int.toNat_natCast,ne_eq,not_true_eq_false,decide_false,Nat.reduceAdd,Nat.reduceMul,Nat.reduceLeDiff,Nat.reduceEqDiff,↓reduceIte]
    refine ⟨L.length - (i + 1),by omega,i + 1,x,ev,rfl,by omega,rfl,k1,hn1,o1,hg,hsm,h0,hl4,hlin⟩
   ·rw [if_neg hw0] at hlin
    simp (disch := first | omega | (simp only [next_new,next_upd] <;> omega) | fail) only [vai,vaim,vaic,vas,bots,Bool.not_true,Bool.not_false,decide_true,decide_false,wrap64,hc,decide_true,o2,hs,hw0,Int.toNat_natCast,ne_eq,not_false_eq_true,Nat.reduceAdd,Nat.reduceMul,Nat.reduceLeDiff,Nat.reduceEqDiff,↓reduceIte]
    refine line_ret (by omega) fun H2 k2 => ?_
    have n2 := k2.next
    simp (disch := first | omega | (simp only [next_new,next_upd] <;> omega) | fail) only [vai,vaim,vaic,vas,bots,Bool.not_true,Bool.not_false,decide_true,decide_false,wrap64,Nat.reduceAdd,Nat.reduceMul,Nat.reduceLeDiff,Nat.reduceEqDiff,↓reduceIte]
    refine add_ret (lo := H.next + 2) (x := x) (by omega) (by omega) ((k2.old (by omega)).trans o1) (hg.keep n2 fun j h1 h2 => k2.old h2) h0 hl4 (fun hno H3 a b n3 k3 o3 => ?_) (fun y hyes H3 ev3 n3 k3 o3 g3 => ?_)
    ·have hst : stepP x w = none := hno
     rw [hst] at hlin
     simp only at hlin
     have hR := p2 (by omega) hlin
     subst hR
     simp (disch := first | omega | (simp only [next_new,next_upd] <;> omega) | fail) only [vai,vaim,vaic,vas,bots,Bool.not_true,Bool.not_false,decide_true,decide_false,wrap64,o3,Nat.reduceAdd,Nat.reduceMul,Nat.reduceLeDiff,Nat.reduceEqDiff,↓reduceIte]
     refine hq .nilSlice _ ?_ .nil
     refine Keep.upd ⟨by have := k1.next; omega,fun j hj hm => ?_⟩ (.inl (Nat.le_refl _)) _
     rw [k3 j (by omega) (by omega),k2.old (by omega)]
     exact k1.old hj
    ·have hst : stepP x w = some y := hyes
     rw [hst] at hlin
     simp only at hlin
     obtain ⟨q1,q2⟩ := addP_len hyes hl4 h0
     simp (disch := first | omega | (simp only [next_new,next_upd] <;> omega) | fail) only [vai,vaim,vaic,vas,bots,Bool.not_true,Bool.not_false,decide_true,decide_false,wrap64,Nat.reduceAdd,Nat.reduceMul,Nat.reduceLeDiff,Nat.reduceEqDiff,↓reduceIte]
     refine ⟨L.length - (i + 1),by omega,i + 1,y,ev3,rfl,by omega,rfl,⟨by have := k1.next; omega,fun j hj hm => ?_⟩,by omega,o3,?_,g3,stepP_small hsm hst,q2,q1,hlin⟩
     ·rw [k3 j (by omega) (by omega),k2.old (by omega)]
      exact k1.old hj
     ·rw [k3 _ (by omega) (by omega),k2.old (by omega)]
      exact o2
  ·have hiL : i = L.length := by omega
   rw [hiL,List.drop_length] at hlin
   have hlin2 : linesOf stepP none0 0 L = .inl x := hlin
   by_cases hx : x.n = 0
   ·have hR := p3 (by omega) hlin2 hx
    subst hR
    simp (disch := first | omega | (simp only [next_new,next_upd] <;> omega) | fail) only [vai,vaim,vaic,vas,bots,Bool.not_true,Bool.not_false,decide_true,decide_false,wrap64,hc,o1,hx,decide_true,decide_false,Nat.reduceAdd,Nat.reduceMul,Nat.reduceLeDiff,Nat.reduceEqDiff,↓reduceIte]
    exact hq .nilSlice _ (k1.upd (.inl (Nat.le_refl _)) _) .nil
   ·have hR := p4 (by omega) hlin2 hx
    subst hR
    simp (disch := first | omega | (simp only [next_new,next_upd] <;> omega) | fail) only [vai,vaim,vaic,vas,bots,Bool.not_true,Bool.not_false,decide_true,decide_false,wrap64,hc,o1,hx,decide_true,decide_false,Nat.reduceAdd,Nat.reduceMul,Nat.reduceLeDiff,Nat.reduceEqDiff,↓reduceIte]
    refine append_nil_ret hg hl4 fun v' H2 n2 k2 g2 => ?_
    have o3 := (k2 H.next (by omega)).trans o1
    have hcv := g2.cells
    simp (disch := first | omega | (simp only [next_new,next_upd] <;> omega) | fail) only [vai,vaim,vaic,vas,bots,Bool.not_true,Bool.not_false,decide_true,decide_false,wrap64,o3,hcv,Nat.reduceAdd,Nat.reduceMul,Nat.reduceLeDiff,Nat.reduceEqDiff,↓reduceIte]
    refine hq v' _ ?_ ?_
    ·refine Keep.upd (Keep.upd ⟨by have := k1.next; omega,fun j hj hm => (k2 j (by omega)).trans (k1.old hj)⟩ (.inl (Nat.le_refl _)) _) (.inl (Nat.le_refl _)) _
    ·exact ((g2.upd (by omega) _).upd (by omega) _).keep' ⟨by omega,Nat.le_refl _⟩ (fun _ _ _ => rfl)
end Go.Proofs.YtknhlpmmalcchaaDoor

namespace Go.Proofs.YtknhlpmmalcchaaDoor
open Go Go.VAI
set_option linter.unusedSimpArgs false

theorem modeR_of {s : List UInt8} {i : Nat} (hi : i < 5) (hs : s = (signs.drop i).take 1) : modeR s = i := by
 have : i = 0 ∨ i = 1 ∨ i = 2 ∨ i = 3 ∨ i = 4 := by omega
 rcases this with rfl | rfl | rfl | rfl | rfl <;> (subst hs; rfl)
theorem modeR_none {s : List UInt8} (h : ∀ j,j < 5 → s ≠ (signs.drop j).take 1) : modeR s = -1 := by
 unfold modeR
 rw [if_neg (show ¬ s = [119] from h 0 (by omega)),if_neg (show ¬ s = [98] from h 1 (by omega)),if_neg (show ¬ s = [99] from h 2 (by omega)),if_neg (show ¬ s = [102] from h 3 (by omega)),if_neg (show ¬ s = [116] from h 4 (by omega))]
set_option maxRecDepth 20000 in
theorem mode_ret {s : List UInt8} {H : AHeap} {Q : AVal → AHeap → Prop} (hq : Q (.int .i64 (modeR s)) H) : Ret A 45 [.str (bs s)] H Q := by
 refine Ret.of (fn := F45) rfl ?_
 simp (disch := first | omega | (simp only [next_new,next_upd] <;> omega) | fail) only [vai,vaim,vaic,vas,bots,Bool.not_true,Bool.not_false,decide_true,decide_false,wrap64,F45,Nat.reduceAdd,Nat.reduceMul,Nat.reduceLeDiff,Nat.reduceEqDiff,↓reduceIte]
 refine wpx_loop (fun m t H' => ∃ (i : Nat),m = 5 - i ∧ i ≤ 5 ∧ t = (.str (bs s) :: bots 2 (.int .i64 i :: bots 11 ([])) : Tmps) ∧ H' = H ∧ ∀ j,j < i → s ≠ (signs.drop j).take 1) 5 ?_ ?_
 ·exact ⟨0,rfl,by omega,rfl,rfl,fun j hj => by omega⟩
 ·rintro m t H1 ⟨i,rfl,hi,rfl,rfl,hn⟩
  by_cases hc : (i : Int) < 5
  ·have hsl : asliceStr (.str (bs [119,98,99,102,116])) (some (.int .i64 (i : Int))) (some (.int .i64 ((i : Int) + 1))) = some (.str (bs ((signs.drop i).take 1))) := by
    have h := asliceStr_bs (l := signs) (i := i) (j := i + 1) (k1 := .i64) (k2 := .i64) ⟨by omega,by show i + 1 ≤ 5; omega⟩
    rw [show i + 1 - i = 1 by omega] at h
    exact h
   by_cases he : s = (signs.drop i).take 1
   ·have hd : decide (s = (signs.drop i).take 1) = true := decide_eq_true he
    simp (disch := first | omega | (simp only [next_new,next_upd] <;> omega) | fail) only [vai,vaim,vaic,vas,bots,Bool.not_true,Bool.not_false,decide_true,decide_false,wrap64,hc,hsl,hd,decide_true,Nat.reduceAdd,Nat.reduceMul,Nat.reduceLeDiff,Nat.reduceEqDiff,↓reduceIte]
    rw [modeR_of (by omega) he] at hq
    exact hq
   ·have hd : decide (s = (signs.drop i).take 1) = false := decide_eq_false he
    simp (disch := first | omega | (simp only [next_new,next_upd] <;> omega) | fail) only [vai,vaim,vaic,vas,bots,Bool.not_true,Bool.not_false,decide_true,decide_false,wrap64,hc,hsl,hd,decide_true,decide_false,Nat.reduceAdd,Nat.reduceMul,Nat.reduceLeDiff,Nat.reduceEqDiff,↓reduceIte]
    refine ⟨5 - (i + 1),by omega,i + 1,rfl,by omega,rfl,fun j hj => ?_⟩
    by_cases hji : j = i
    ·subst hji; exact he
    ·exact hn j (by omega)
  ·simp (disch := first | omega | (simp only [next_new,next_upd] <;> omega) | fail) only [vai,vaim,vaic,vas,bots,Bool.not_true,Bool.not_false,decide_true,decide_false,wrap64,hc,decide_false,Nat.reduceAdd,Nat.reduceMul,Nat.reduceLeDiff,Nat.reduceEqDiff,↓reduceIte]
   rw [modeR_none (fun j hj => hn j (by omega))] at hq
   exact hq
theorem plain_iff {l : List UInt8} (h : l ≠ []) : plain l = true ↔ ¬ (l[0]? = some 48 ∧ 1 < l.length) ∧ ∀ b ∈ l,48 ≤ b.toNat ∧ b.toNat ≤ 57 := by
 match l,h with
 | [c],_ =>
  simp [plain]
 | c :: d :: r,_ =>
  have e : c = 48 ↔ c.toNat = 48 := ⟨fun h => by subst h; rfl,fun h => UInt8.toNat_inj.1 h⟩
  simp only [plain,Bool.and_eq_true,decide_eq_true_eq,List.all_eq_true,List.getElem?_cons_zero,Option.some.injEq,List.length_cons,e]
  constructor
  ·rintro ⟨h1,h2⟩
   refine ⟨fun h => by omega,fun b hb => ?_⟩
   rcases List.mem_cons.1 hb with rfl | hb
   ·omega
   ·exact h2 b hb
  ·rintro ⟨h1,h2⟩
   have hc := h2 c (by simp)
   refine ⟨⟨?_,hc.2⟩,fun b hb => h2 b (by simp [hb])⟩
   have : ¬ c.toNat = 48 := fun h => h1 ⟨h,by omega⟩
   omega
theorem spell_snoc (acc : Nat) (l : List UInt8) (b : UInt8) : spell acc (l ++ [b]) = spell acc l * 10 + (b.toNat - 48) := by rw [spell_append]; rfl
set_option maxRecDepth 20000 in
set_option maxHeartbeats 1000000 in
theorem numR_ret {l : List UInt8} {H : AHeap} {Q : AVal → AHeap → Prop} (h0 : l ≠ []) (hl : l.length ≤ 60000) (hq : Q (.int .i64 (numR l)) H) : Ret A 44 [.str (bs l)] H Q := by
 refine Ret.of (fn := F44) rfl ?_
 have hnum : numR l = (if l.length > 12 then (-1 : Int) else if plain l = true then ((spell 0 l : Nat) : Int) else -1) := rfl
 have hpl := plain_iff h0
 obtain ⟨c,hc⟩ : ∃ c,l[0]? = some c := by
  cases l with
  | nil => exact absurd rfl h0
  | cons c r => exact ⟨c,rfl⟩
 have hi0 : aindexStr (.str (bs l)) (.int .i64 0) = some (.int .u8 (c.toNat : Int)) := aindexStr_bs (i := 0) hc
 by_cases h12 : (12 : Int) < l.length
 ·simp (disch := first | omega | (simp only [next_new,next_upd] <;> omega) | fail) only [vai,vaim,vaic,vas,bots,Bool.not_true,Bool.not_false,decide_true,decide_false,wrap64,F44,h12,decide_true,Nat.reduceAdd,Nat.reduceMul,Nat.reduceLeDiff,Nat.reduceEqDiff,↓reduceIte]
  rw [hnum,if_pos (by omega)] at hq
  exact hq
 rw [if_neg (by omega)] at hnum
 by_cases h48 : (c.toNat : Int) = 48
 ·by_cases h1 : (1 : Int) < l.length
  ·simp (disch := first | omega | (simp only [next_new,next_upd] <;> omega) | fail) only [vai,vaim,vaic,vas,bots,Bool.not_true,Bool.not_false,decide_true,decide_false,wrap64,F44,h12,hi0,h48,h1,decide_true,decide_false,Nat.reduceAdd,Nat.reduceMul,Nat.reduceLeDiff,Nat.reduceEqDiff,↓reduceIte]
   have : ¬ plain l = true := fun h => (hpl.1 h).1 ⟨by rw [hc]; congr 1; exact UInt8.toNat_inj.1 (by show c.toNat = 48; omega),by omega⟩
   rw [hnum,if_neg this] at hq
   exact hq
  ·have hA : ¬ (l[0]? = some 48 ∧ 1 < l.length) := fun h => by omega
   simp (disch := first | omega | (simp only [next_new,next_upd] <;> omega) | fail) only [vai,vaim,vaic,vas,bots,Bool.not_true,Bool.not_false,decide_true,decide_false,wrap64,F44,h12,hi0,h48,h1,decide_true,decide_false,Nat.reduceAdd,Nat.reduceMul,Nat.reduceLeDiff,Nat.reduceEqDiff,↓reduceIte]
   refine wpx_loop (fun m t H' => ∃ (i : Nat),m = l.length - i ∧ i ≤ l.length ∧ t = (.str (bs l) :: bots 2 (.int .i64 (spell 0 (l.take i) : Nat) :: .int .i64 i :: bots 38 ([])) : Tmps) ∧ H' = H ∧ ∀ b ∈ l.take i,48 ≤ b.toNat ∧ b.toNat ≤ 57) l.length ?_ ?_
   ·exact ⟨0,rfl,by omega,rfl,rfl,by simp⟩
   ·rintro m t H1 ⟨i,rfl,hi,rfl,rfl,hd⟩
    have hlt := spell_lt (l.take i) 0 hd
    have hp : 10 ^ (l.take i).length ≤ 10 ^ 12 := Nat.pow_le_pow_right (by omega) (by rw [List.length_take]; omega)
    have hacc : spell 0 (l.take i) < 1000000000000 := by omega
    by_cases hci : (i : Int) < l.length
    ·have hil : i < l.length := by omega
     have hb : l[i]? = some l[i] := List.getElem?_eq_getElem hil
     have htk := List.take_succ_eq_append_getElem hil
     have hmem := List.getElem_mem hil
     have hbd := hpl
     generalize l[i] = b at *
     have hix : aindexStr (.str (bs l)) (.int .i64 (i : Int)) = some (.int .u8 (b.toNat : Int)) := aindexStr_bs hb
     by_cases hb1 : (b.toNat : Int) < 48
     ·simp (disch := first | omega | (simp only [next_new,next_upd] <;> omega) | fail) only [vai,vaim,vaic,vas,bots,Bool.not_true,Bool.not_false,decide_true,decide_false,wrap64,hci,hix,hb1,decide_true,Nat.reduceAdd,Nat.reduceMul,Nat.reduceLeDiff,Nat.reduceEqDiff,↓reduceIte]
      have : ¬ plain l = true := fun h => by have := (hpl.1 h).2 b hmem; omega
      rw [hnum,if_neg this] at hq
      exact hq
     ·by_cases hb2 : (57 : Int) < (b.toNat : Int)
      ·simp (disch := first | omega | (simp only [next_new,next_upd] <;> omega) | fail) only [vai,vaim,vaic,vas,bots,Bool.not_true,Bool.not_false,decide_true,decide_false,wrap64,hci,hix,hb1,hb2,decide_true,decide_false,Nat.reduceAdd,Nat.reduceMul,Nat.reduceLeDiff,Nat.reduceEqDiff,↓reduceIte]
       have : ¬ plain l = true := fun h => by have := (hpl.1 h).2 b hmem; omega
       rw [hnum,if_neg this] at hq
       exact hq
      ·have hw : IntKind.u8.wrap ((b.toNat : Int) - 48) = (b.toNat : Int) - 48 := by rw [wrapU8]; omega
       simp (disch := first | omega | (simp only [next_new,next_upd] <;> omega) | fail) only [vai,vaim,vaic,vas,bots,Bool.not_true,Bool.not_false,decide_true,decide_false,wrap64,hci,hix,hb1,hb2,hw,atoInt_int,decide_true,decide_false,Nat.reduceAdd,Nat.reduceMul,Nat.reduceLeDiff,Nat.reduceEqDiff,↓reduceIte]
       have he : 10 * ((spell 0 (l.take i) : Nat) : Int) + ((b.toNat : Int) - 48) = ((spell 0 (l.take (i + 1)) : Nat) : Int) := by
        rw [htk,spell_snoc]; omega
       rw [he]
       refine ⟨l.length - (i + 1),by omega,i + 1,rfl,by omega,rfl,fun x hx => ?_⟩
       rw [htk] at hx
       rcases List.mem_append.1 hx with hx | hx
       ·exact hd x hx
       ·simp only [List.mem_singleton] at hx
        subst hx
        omega
    ·have hil : i = l.length := by omega
     subst hil
     rw [List.take_length] at hd hacc
     simp (disch := first | omega | (simp only [next_new,next_upd] <;> omega) | fail) only [vai,vaim,vaic,vas,bots,Bool.not_true,Bool.not_false,decide_true,decide_false,wrap64,hci,List.take_length,decide_false,Nat.reduceAdd,Nat.reduceMul,Nat.reduceLeDiff,Nat.reduceEqDiff,↓reduceIte]
     rw [hnum,if_pos (hpl.2 ⟨hA,hd⟩)] at hq
     exact hq
 ·have hA : ¬ (l[0]? = some 48 ∧ 1 < l.length) := fun h => by
   rw [hc] at h
   have := Option.some.inj h.1
   subst this
   exact h48 rfl
  simp (disch := first | omega | (simp only [next_new,next_upd] <;> omega) | fail) only [vai,vaim,vaic,vas,bots,Bool.not_true,Bool.not_false,decide_true,decide_false,wrap64,F44,h12,hi0,h48,decide_true,decide_false,Nat.reduceAdd,Nat.reduceMul,Nat.reduceLeDiff,Nat.reduceEqDiff,↓reduceIte]
  refine wpx_loop (fun m t H' => ∃ (i : Nat),m = l.length - i ∧ i ≤ l.length ∧ t = (.str (bs l) :: bots 2 (.int .i64 (spell 0 (l.take i) : Nat) :: .int .i64 i :: bots 38 ([])) : Tmps) ∧ H' = H ∧ ∀ b ∈ l.take i,48 ≤ b.toNat ∧ b.toNat ≤ 57) l.length ?_ ?_
  ·exact ⟨0,rfl,by omega,rfl,rfl,by simp⟩
  ·rintro m t H1 ⟨i,rfl,hi,rfl,rfl,hd⟩
   have hlt := spell_lt (l.take i) 0 hd
   have hp : 10 ^ (l.take i).length ≤ 10 ^ 12 := Nat.pow_le_pow_right (by omega) (by rw [List.length_take]; omega)
   have hacc : spell 0 (l.take i) < 1000000000000 := by omega
   by_cases hci : (i : Int) < l.length
   ·have hil : i < l.length := by omega
    have hb : l[i]? = some l[i] := List.getElem?_eq_getElem hil
    have htk := List.take_succ_eq_append_getElem hil
    have hmem := List.getElem_mem hil
    have hbd := hpl
    generalize l[i] = b at *
    have hix : aindexStr (.str (bs l)) (.int .i64 (i : Int)) = some (.int .u8 (b.toNat : Int)) := aindexStr_bs hb
    by_cases hb1 : (b.toNat : Int) < 48
    ·simp (disch := first | omega | (simp only [next_new,next_upd] <;> omega) | fail) only [vai,vaim,vaic,vas,bots,Bool.not_true,Bool.not_false,decide_true,decide_false,wrap64,hci,hix,hb1,decide_true,Nat.reduceAdd,Nat.reduceMul,Nat.reduceLeDiff,Nat.reduceEqDiff,↓reduceIte]
     have : ¬ plain l = true := fun h => by have := (hpl.1 h).2 b hmem; omega
     rw [hnum,if_neg this] at hq
     exact hq
    ·by_cases hb2 : (57 : Int) < (b.toNat : Int)
     ·simp (disch := first | omega | (simp only [next_new,next_upd] <;> omega) | fail) only [vai,vaim,vaic,vas,bots,Bool.not_true,Bool.not_false,decide_true,decide_false,wrap64,hci,hix,hb1,hb2,decide_true,decide_false,Nat.reduceAdd,Nat.reduceMul,Nat.reduceLeDiff,Nat.reduceEqDiff,↓reduceIte]
      have : ¬ plain l = true := fun h => by have := (hpl.1 h).2 b hmem; omega
      rw [hnum,if_neg this] at hq
      exact hq
     ·have hw : IntKind.u8.wrap ((b.toNat : Int) - 48) = (b.toNat : Int) - 48 := by rw [wrapU8]; omega
      simp (disch := first | omega | (simp only [next_new,next_upd] <;> omega) | fail) only [vai,vaim,vaic,vas,bots,Bool.not_true,Bool.not_false,decide_true,decide_false,wrap64,hci,hix,hb1,hb2,hw,atoInt_int,decide_true,decide_false,Nat.reduceAdd,Nat.reduceMul,Nat.reduceLeDiff,Nat.reduceEqDiff,↓reduceIte]
      have he : 10 * ((spell 0 (l.take i) : Nat) : Int) + ((b.toNat : Int) - 48) = ((spell 0 (l.take (i + 1)) : Nat) : Int) := by
       rw [htk,spell_snoc]; omega
      rw [he]
      refine ⟨l.length - (i + 1),by omega,i + 1,rfl,by omega,rfl,fun x hx => ?_⟩
      rw [htk] at hx
      rcases List.mem_append.1 hx with hx | hx
      ·exact hd x hx
      ·simp only [List.mem_singleton] at hx
       subst hx
       omega
   ·have hil : i = l.length := by omega
    subst hil
    rw [List.take_length] at hd hacc
    simp (disch := first | omega | (simp only [next_new,next_upd] <;> omega) | fail) only [vai,vaim,vaic,vas,bots,Bool.not_true,Bool.not_false,decide_true,decide_false,wrap64,hci,List.take_length,decide_false,Nat.reduceAdd,Nat.reduceMul,Nat.reduceLeDiff,Nat.reduceEqDiff,↓reduceIte]
    rw [hnum,if_pos (hpl.2 ⟨hA,hd⟩)] at hq
    exact hq
end Go.Proofs.YtknhlpmmalcchaaDoor

namespace Go.Proofs.YtknhlpmmalcchaaDoor
open Go Go.VAI
set_option linter.unusedSimpArgs false

theorem strs_append (a b : List (List UInt8)) : strs (a ++ b) = strs a ++ strs b := by simp [strs]
theorem strs_length (a : List (List UInt8)) : (strs a).length = a.length := by simp [strs]
def part (l : List UInt8) (a i : Nat) : List UInt8 := (l.drop a).take (i - a)
theorem part_drop {l : List UInt8} {a i : Nat} (h : a ≤ i) : l.drop a = part l a i ++ l.drop i := by
 unfold part
 have e : l.drop i = (l.drop a).drop (i - a) := by rw [List.drop_drop]; congr 1; omega
 rw [e,List.take_append_drop]
theorem part_self (l : List UInt8) (a : Nat) : part l a a = [] := by simp [part]
theorem part_snoc {l : List UInt8} {a i : Nat} {b : UInt8} (h : a ≤ i) (hb : l[i]? = some b) : part l a (i + 1) = part l a i ++ [b] := by
 unfold part
 rw [show i + 1 - a = (i - a) + 1 by omega,List.take_succ]
 congr 1
 rw [List.getElem?_drop,show a + (i - a) = i by omega,hb]
 rfl
theorem part_length {l : List UInt8} {a i : Nat} (h : a ≤ i) (hi : i ≤ l.length) : (part l a i).length = i - a := by
 unfold part
 rw [List.length_take,List.length_drop]
 omega
theorem cut_hit {c : UInt8} {l : List UInt8} {a i : Nat} (h : a ≤ i) (hb : l[i]? = some c) (hn : c ∉ part l a i) : cutAt c (l.drop a) = part l a i :: cutAt c (l.drop (i + 1)) := by
 have hi : i < l.length := (List.getElem?_eq_some_iff.1 hb).1
 have e : l.drop i = c :: l.drop (i + 1) := by
  rw [List.drop_eq_getElem_cons hi]
  congr 1
  rw [List.getElem?_eq_getElem hi] at hb
  exact Option.some.inj hb
 rw [part_drop h,e,cutAt_piece _ hn]
theorem cut_end {c : UInt8} {l : List UInt8} {a : Nat} (h : a ≤ l.length) (hn : c ∉ part l a l.length) : cutAt c (l.drop a) = [part l a l.length] := by
 rw [part_drop h,List.drop_length,List.append_nil,cutAt_last hn]
theorem part_step {c b : UInt8} {l : List UInt8} {a i : Nat} (h : a ≤ i) (hb : l[i]? = some b) (hbc : b ≠ c) (hn : c ∉ part l a i) : c ∉ part l a (i + 1) := by
 rw [part_snoc h hb]
 simp only [List.mem_append,List.mem_singleton,not_or]
 exact ⟨hn,fun e => hbc e.symm⟩
set_option maxRecDepth 20000 in
set_option maxHeartbeats 2000000 in
theorem words_ret {l : List UInt8} {H : AHeap} {Q : AVal → AHeap → Prop} (hl : l.length ≤ 60000) (hq : ∀ v H',Keep Nothing H H' → Grown H.next H' v 1 (strs (wordsR l)) → Q v H') : Ret A 43 [.str (bs l)] H Q := by
 refine Ret.of (fn := F43) rfl ?_
 simp (disch := first | omega | (simp only [next_new,next_upd] <;> omega) | fail) only [vai,vaim,vaic,vas,bots,Bool.not_true,Bool.not_false,decide_true,decide_false,wrap64,F43,Nat.reduceAdd,Nat.reduceMul,Nat.reduceLeDiff,Nat.reduceEqDiff,↓reduceIte]
 refine wpx_loop (fun m t H' => ∃ (i a : Nat) (D : List (List UInt8)) (v : AVal),m = l.length + 1 - i ∧ i ≤ l.length + 1 ∧ t = (.str (bs l) :: bots 2 (v :: .int .i64 a :: .int .i64 i :: bots 29 ([])) : Tmps) ∧ Keep Nothing H H' ∧ Grown H.next H' v 1 (strs D) ∧ [] ∉ D ∧ D.length ≤ i ∧
  ((a ≤ i ∧ i ≤ l.length ∧ (32 : UInt8) ∉ part l a i ∧ cutAt 32 l = D ++ cutAt 32 (l.drop a)) ∨ (i = l.length + 1 ∧ cutAt 32 l = D))) (l.length + 1) ?_ ?_
 ·exact ⟨0,0,[],.nilSlice,rfl,by omega,rfl,.refl _ _,.nil,by simp,by simp,.inl ⟨by omega,by omega,by rw [part_self]; simp,rfl⟩⟩
 ·rintro m t H1 ⟨i,a,D,v,rfl,hi,rfl,k1,hg,hD,hDl,hinv⟩
  have hcv := hg.cells
  have hnb := hg.notBot
  have hn1 := k1.next
  by_cases hci : (i : Int) ≤ l.length
  ·have hil : i ≤ l.length := by omega
   obtain ⟨h1,h2,h3,h4⟩ : a ≤ i ∧ i ≤ l.length ∧ (32 : UInt8) ∉ part l a i ∧ cutAt 32 l = D ++ cutAt 32 (l.drop a) := by
    rcases hinv with h | ⟨h,_⟩
    ·exact h
    ·omega
   have hsl : asliceStr (.str (bs l)) (some (.int .i64 (a : Int))) (some (.int .i64 (i : Int))) = some (.str (bs (part l a i))) := asliceStr_bs ⟨h1,h2⟩
   have hd1 : decide ((i : Int) ≤ l.length) = true := decide_eq_true hci
   by_cases hie : (i : Int) = l.length
   ·have hie2 : i = l.length := by omega
    have hce := cut_end (l := l) (a := a) (by omega) (by rw [← hie2]; exact h3)
    rw [← hie2] at hce
    rw [hce] at h4
    have hd2 : decide ((i : Int) = l.length) = true := decide_eq_true hie
    by_cases hia : (i : Int) = a
    ·have hp : part l a i = [] := by rw [show i = a by omega,part_self]
     have hd3 : decide ((i : Int) = a) = true := decide_eq_true hia
     simp (disch := first | omega | (simp only [next_new,next_upd] <;> omega) | fail) only [vai,vaim,vaic,vas,bots,Bool.not_true,Bool.not_false,decide_true,decide_false,wrap64,hd1,hd2,hd3,Nat.reduceAdd,Nat.reduceMul,Nat.reduceLeDiff,Nat.reduceEqDiff,↓reduceIte]
     have e : wordsR l = [] := by
      unfold wordsR
      rw [h4,if_pos (by rw [hp]; simp)]
     rw [e] at hq
     exact hq .nilSlice H1 k1 .nil
    ·have hp : part l a i ≠ [] := fun h => by
      have := part_length h1 h2
      rw [h] at this
      simp at this; omega
     have hd3 : decide ((i : Int) = a) = false := decide_eq_false hia
     simp (disch := first | omega | (simp only [next_new,next_upd] <;> omega) | fail) only [vai,vaim,vaic,vas,bots,Bool.not_true,Bool.not_false,decide_true,decide_false,wrap64,hd1,hd2,hd3,hsl,Nat.reduceAdd,Nat.reduceMul,Nat.reduceLeDiff,Nat.reduceEqDiff,↓reduceIte]
     refine append_ret (n := D.length) hg (by first | omega | (simp only [next_new,next_upd]; omega)) (fun j h1 h2 => by rw [obj_new_ne (by omega)]) (by simp (disch := first | omega | (simp only [next_new,next_upd] <;> omega) | fail) only [vaim]; rfl) rfl (by omega) (by omega) (by rw [strs_length]; omega) (by omega) (by omega) (by first | omega | (simp only [next_new,next_upd]; omega)) ?_
     intro v' H2 hn2 hk2 hg2
     simp only [next_new] at hn2
     simp (disch := first | omega | (simp only [next_new,next_upd] <;> omega) | fail) only [vai,vaim,vaic,vas,bots,Bool.not_true,Bool.not_false,decide_true,decide_false,wrap64,Nat.reduceAdd,Nat.reduceMul,Nat.reduceLeDiff,Nat.reduceEqDiff,↓reduceIte]
     refine ⟨l.length + 1 - (i + 1),by omega,i + 1,i + 1,D ++ [part l a i],v',rfl,by omega,rfl,⟨by omega,fun j hj hm => by rw [hk2 j (by omega),obj_new_ne (by omega)]; exact k1.old hj⟩,?_,?_,by simp; omega,?_⟩
     ·rw [strs_append]; exact hg2
     ·simp only [List.mem_append,List.mem_singleton,not_or]
      exact ⟨hD,fun h => hp h.symm⟩
     exact .inr ⟨by omega,h4⟩
   ·have hil2 : i < l.length := by omega
    have hb : l[i]? = some l[i] := List.getElem?_eq_getElem hil2
    generalize l[i] = b at hb
    have hd2 : decide ((i : Int) = l.length) = false := decide_eq_false hie
    have hix : aindexStr (.str (bs l)) (.int .i64 (i : Int)) = some (.int .u8 (b.toNat : Int)) := aindexStr_bs hb
    by_cases hb32 : (b.toNat : Int) = 32
    ·have hbe : b = 32 := UInt8.toNat_inj.1 (by show b.toNat = 32; omega)
     have hd4 : decide ((b.toNat : Int) = 32) = true := decide_eq_true hb32
     clear hix
     have hix : aindexStr (.str (bs l)) (.int .i64 (i : Int)) = some (.int .u8 (b.toNat : Int)) := aindexStr_bs hb
     rw [hbe] at hb
     have hch := cut_hit h1 hb h3
     rw [hch] at h4
     by_cases hia : (i : Int) = a
     ·have hp : part l a i = [] := by rw [show i = a by omega,part_self]
      have hd3 : decide ((i : Int) = a) = true := decide_eq_true hia
      simp (disch := first | omega | (simp only [next_new,next_upd] <;> omega) | fail) only [vai,vaim,vaic,vas,bots,Bool.not_true,Bool.not_false,decide_true,decide_false,wrap64,hd1,hd2,hd3,hix,hd4,Nat.reduceAdd,Nat.reduceMul,Nat.reduceLeDiff,Nat.reduceEqDiff,↓reduceIte]
      have e : wordsR l = [] := by
       unfold wordsR
       rw [h4,if_pos (by rw [hp]; simp)]
      rw [e] at hq
      exact hq .nilSlice H1 k1 .nil
     ·have hp : part l a i ≠ [] := fun h => by
       have := part_length h1 h2
       rw [h] at this
       simp at this; omega
      have hd3 : decide ((i : Int) = a) = false := decide_eq_false hia
      simp (disch := first | omega | (simp only [next_new,next_upd] <;> omega) | fail) only [vai,vaim,vaic,vas,bots,Bool.not_true,Bool.not_false,decide_true,decide_false,wrap64,hd1,hd2,hd3,hix,hd4,hsl,Nat.reduceAdd,Nat.reduceMul,Nat.reduceLeDiff,Nat.reduceEqDiff,↓reduceIte]
      refine append_ret (n := D.length) hg (by first | omega | (simp only [next_new,next_upd]; omega)) (fun j h1 h2 => by rw [obj_new_ne (by omega)]) (by simp (disch := first | omega | (simp only [next_new,next_upd] <;> omega) | fail) only [vaim]; rfl) rfl (by omega) (by omega) (by rw [strs_length]; omega) (by omega) (by omega) (by first | omega | (simp only [next_new,next_upd]; omega)) ?_
      intro v' H2 hn2 hk2 hg2
      simp only [next_new] at hn2
      simp (disch := first | omega | (simp only [next_new,next_upd] <;> omega) | fail) only [vai,vaim,vaic,vas,bots,Bool.not_true,Bool.not_false,decide_true,decide_false,wrap64,Nat.reduceAdd,Nat.reduceMul,Nat.reduceLeDiff,Nat.reduceEqDiff,↓reduceIte]
      refine ⟨l.length + 1 - (i + 1),by omega,i + 1,i + 1,D ++ [part l a i],v',rfl,by omega,rfl,⟨by omega,fun j hj hm => by rw [hk2 j (by omega),obj_new_ne (by omega)]; exact k1.old hj⟩,?_,?_,by simp; omega,?_⟩
      ·rw [strs_append]; exact hg2
      ·simp only [List.mem_append,List.mem_singleton,not_or]
       exact ⟨hD,fun h => hp h.symm⟩
      exact .inl ⟨by omega,by omega,by rw [part_self]; simp,by rw [h4]; simp⟩
    ·have hd4 : decide ((b.toNat : Int) = 32) = false := decide_eq_false hb32
     simp (disch := first | omega | (simp only [next_new,next_upd] <;> omega) | fail) only [vai,vaim,vaic,vas,bots,Bool.not_true,Bool.not_false,decide_true,decide_false,wrap64,hd1,hd2,hix,hd4,Nat.reduceAdd,Nat.reduceMul,Nat.reduceLeDiff,Nat.reduceEqDiff,↓reduceIte]
     have hbn : b ≠ 32 := fun h => by subst h; exact hb32 rfl
     exact ⟨l.length + 1 - (i + 1),by omega,i + 1,a,D,v,rfl,by omega,rfl,k1,hg,hD,by omega,.inl ⟨by omega,by omega,part_step h1 hb hbn h3,h4⟩⟩
  ·simp (disch := first | omega | (simp only [next_new,next_upd] <;> omega) | fail) only [vai,vaim,vaic,vas,bots,Bool.not_true,Bool.not_false,decide_true,decide_false,wrap64,hci,hnb,decide_false,Nat.reduceAdd,Nat.reduceMul,Nat.reduceLeDiff,Nat.reduceEqDiff,↓reduceIte]
   have hD2 : cutAt 32 l = D := by
    rcases hinv with ⟨_,h,_⟩ | ⟨_,h⟩
    ·omega
    ·exact h
   have e : wordsR l = D := by
    unfold wordsR
    rw [hD2,if_neg hD]
   rw [e] at hq
   exact hq v H1 k1 hg
end Go.Proofs.YtknhlpmmalcchaaDoor

namespace Go.Proofs.YtknhlpmmalcchaaDoor
open Go Go.VAI
set_option linter.unusedSimpArgs false

theorem grown_slice {lo : Nat} {H : AHeap} {v : AVal} {cs : List AVal} (h : Grown lo H v 1 cs) (hc : cs ≠ []) : ∃ id,v = .slice id 0 cs.length (.room 1) ∧ lo ≤ id ∧ id < H.next ∧ H.obj id = some (.cells cs true) := by
 cases h with
 | nil => exact absurd rfl hc
 | @mk id len _ _ hlo hhi ho hlen =>
  refine ⟨id,?_,hlo,hhi,ho⟩
  rw [hlen,Nat.mul_one]
theorem words_mem {w p : List UInt8} (h : p ∈ wordsR w) : p ≠ [] ∧ p.length ≤ w.length := by
 unfold wordsR at h
 split at h
 ·simp at h
 ·rename_i hn
  exact ⟨fun e => hn (e ▸ h),cutAt_le 32 w p h⟩
theorem nd22 : decide (((2 : Nat) : Int) ≠ 2) = false := rfl
theorem nd55 : decide (((5 : Nat) : Int) ≠ 5) = false := rfl
theorem max0 {y : Int} : afolds amax2 [.int .i64 0,.int .i64 y] = some (.int .i64 (max 0 y)) := by
 simp only [afolds,afold,amax2,bnd]
 congr 2
 split <;> omega
theorem stepR_net {x : NetS} {w a b : List UInt8} (h0 : x.n = 0) (hL : wordsR w = [a,b]) (ha : a = netW) : stepR x w = if 1 ≤ max 0 (numR b) ∧ max 0 (numR b) ≤ 60 then some ⟨max 0 (numR b),x.es⟩ else none := by
 unfold stepR
 rw [if_pos h0,hL]
 simp only [ha,true_and]
theorem stepR_net0 {x : NetS} {w a b : List UInt8} (h0 : x.n = 0) (hL : wordsR w = [a,b]) (ha : ¬ a = netW) : stepR x w = none := by
 unfold stepR
 rw [if_pos h0,hL]
 simp only [ha,false_and,if_false]
theorem stepR_net1 {x : NetS} {w : List UInt8} (h0 : x.n = 0) (hL : (wordsR w).length ≠ 2) : stepR x w = none := by
 unfold stepR
 rw [if_pos h0]
 generalize wordsR w = L at *
 match L,hL with
 | [],_ => rfl
 | [_],_ => rfl
 | [_,_],h => exact absurd rfl h
 | _ :: _ :: _ :: _,_ => rfl
theorem stepR_edge {x : NetS} {w a f t m c : List UInt8} (h0 : ¬ x.n = 0) (hL : wordsR w = [a,f,t,m,c]) (ha : a = edgeW) : stepR x w = if x.es.length < 400 ∧ rightB x.n ⟨numR f,numR t,modeR m,numR c⟩ = true then some ⟨x.n,x.es ++ [⟨numR f,numR t,modeR m,numR c⟩]⟩ else none := by
 unfold stepR
 rw [if_neg h0,hL]
 simp only [ha,true_and]
theorem stepR_edge0 {x : NetS} {w a f t m c : List UInt8} (h0 : ¬ x.n = 0) (hL : wordsR w = [a,f,t,m,c]) (ha : ¬ a = edgeW) : stepR x w = none := by
 unfold stepR
 rw [if_neg h0,hL]
 simp only [ha,false_and,if_false]
theorem stepR_edge1 {x : NetS} {w : List UInt8} (h0 : ¬ x.n = 0) (hL : (wordsR w).length ≠ 5) : stepR x w = none := by
 unfold stepR
 rw [if_neg h0]
 generalize wordsR w = L at *
 match L,hL with
 | [],_ => rfl
 | [_],_ => rfl
 | [_,_],_ => rfl
 | [_,_,_],_ => rfl
 | [_,_,_,_],_ => rfl
 | [_,_,_,_,_],h => exact absurd rfl h
 | _ :: _ :: _ :: _ :: _ :: _ :: _,_ => rfl
set_option maxRecDepth 20000 in
set_option maxHeartbeats 2000000 in
theorem rline_ret {lo p : Nat} {x : NetS} {ev : AVal} {w : List UInt8} {H : AHeap} {Q : AVal → AHeap → Prop} (hp : p < lo) (hlo : lo ≤ H.next) (ho : H.obj p = some (.cells [.int .i64 x.n,ev] true)) (hg : Grown lo H ev 4 (edgeCells x.es)) (hle : x.es.length ≤ 400) (hw : w.length ≤ 60000)
  (hno : stepR x w = none → ∀ H',H.next ≤ H'.next → (∀ j,j < lo → j ≠ p → H'.obj j = H.obj j) → Q (.bool false) H')
  (hyes : ∀ y,stepR x w = some y → ∀ H' ev',H.next ≤ H'.next → (∀ j,j < lo → j ≠ p → H'.obj j = H.obj j) → H'.obj p = some (.cells [.int .i64 y.n,ev'] true) → Grown lo H' ev' 4 (edgeCells y.es) → Q (.bool true) H') : Ret A 34 [.ptr p 0,.str (bs w)] H Q := by
 refine Ret.of (fn := F34) rfl ?_
 simp (disch := first | omega | (simp only [next_new,next_upd] <;> omega) | fail) only [vai,vaim,vaic,vas,bots,Bool.not_true,Bool.not_false,decide_true,decide_false,wrap64,F34,Nat.reduceAdd,Nat.reduceMul,Nat.reduceLeDiff,Nat.reduceEqDiff,↓reduceIte]
 refine words_ret hw fun v H1 k1 gv => ?_
 have s1 := @stepR_net x w
 have s2 := @stepR_net0 x w
 have s3 := @stepR_net1 x w
 have s4 := @stepR_edge x w
 have s5 := @stepR_edge0 x w
 have s6 := @stepR_edge1 x w
 have hmem : ∀ q ∈ wordsR w,q ≠ [] ∧ q.length ≤ w.length := fun q hq => words_mem hq
 generalize wordsR w = L at *
 generalize stepR x w = R at *
 have hn1 := k1.next
 have o1 := (k1.old (i := p) (by omega)).trans ho
 have g1 : Grown lo H1 ev 4 (edgeCells x.es) := hg.keep hn1 fun j h1 h2 => k1.old h2
 have kj : ∀ j,j < lo → H1.obj j = H.obj j := fun j h => k1.old (by omega)
 have hl := g1.row.len (by omega) (edgeCells_length x.es)
 have hbe := g1.row.beq
 have hce := g1.cells
 have hlv := gv.alen1
 rw [strs_length] at hlv
 by_cases hn : x.n = 0
 ·by_cases h2 : L.length = 2
  ·obtain ⟨a,b,rfl⟩ := len2 h2
   have ks : strs [a,b] = [.str (bs a),.str (bs b)] := rfl
   rw [ks] at gv
   obtain ⟨id,rfl,hid1,hid2,hid3⟩ := grown_slice gv (by simp)
   have hb := hmem b (by simp)
   simp (disch := first | omega | (simp only [next_new,next_upd] <;> omega) | fail) only [vai,vaim,vaic,vas,bots,Bool.not_true,Bool.not_false,decide_true,decide_false,wrap64,o1,hn,hid3,nd22,decide_true,Nat.reduceAdd,Nat.reduceMul,Nat.reduceLeDiff,Nat.reduceEqDiff,↓reduceIte]
   rcases Classical.em (a = netW) with ha | ha
   ·have hd : decide (a ≠ [110,101,116]) = false := decide_eq_false (fun h => h ha)
    have hR := s1 hn rfl ha
    simp (disch := first | omega | (simp only [next_new,next_upd] <;> omega) | fail) only [vai,vaim,vaic,vas,bots,Bool.not_true,Bool.not_false,decide_true,decide_false,wrap64,hd,hid3,Nat.reduceAdd,Nat.reduceMul,Nat.reduceLeDiff,Nat.reduceEqDiff,↓reduceIte]
    refine numR_ret (l := b) hb.1 (by omega) ?_
    simp (disch := first | omega | (simp only [next_new,next_upd] <;> omega) | fail) only [vai,vaim,vaic,vas,bots,Bool.not_true,Bool.not_false,decide_true,decide_false,wrap64,max0,o1,Nat.reduceAdd,Nat.reduceMul,Nat.reduceLeDiff,Nat.reduceEqDiff,↓reduceIte]
    by_cases c1 : 1 ≤ max 0 (numR b)
    ·by_cases c2 : max 0 (numR b) ≤ 60
     ·simp (disch := first | omega | (simp only [next_new,next_upd] <;> omega) | fail) only [vai,vaim,vaic,vas,bots,Bool.not_true,Bool.not_false,decide_true,decide_false,wrap64,c1,c2,decide_true,Nat.reduceAdd,Nat.reduceMul,Nat.reduceLeDiff,Nat.reduceEqDiff,↓reduceIte]
      rw [if_pos ⟨c1,c2⟩] at hR
      exact hyes _ hR _ ev (by simp only [next_upd]; exact hn1) (fun j h1 h2 => (obj_upd_ne h2).trans (kj j h1)) (obj_upd_eq rfl) (g1.upd hp _)
     ·simp (disch := first | omega | (simp only [next_new,next_upd] <;> omega) | fail) only [vai,vaim,vaic,vas,bots,Bool.not_true,Bool.not_false,decide_true,decide_false,wrap64,c1,c2,decide_true,decide_false,Nat.reduceAdd,Nat.reduceMul,Nat.reduceLeDiff,Nat.reduceEqDiff,↓reduceIte]
      rw [if_neg (fun h => c2 h.2)] at hR
      exact hno hR _ (by simp only [next_upd]; exact hn1) (fun j h1 h2 => (obj_upd_ne h2).trans (kj j h1))
    ·simp (disch := first | omega | (simp only [next_new,next_upd] <;> omega) | fail) only [vai,vaim,vaic,vas,bots,Bool.not_true,Bool.not_false,decide_true,decide_false,wrap64,c1,decide_false,Nat.reduceAdd,Nat.reduceMul,Nat.reduceLeDiff,Nat.reduceEqDiff,↓reduceIte]
     rw [if_neg (fun h => c1 h.1)] at hR
     exact hno hR _ (by simp only [next_upd]; exact hn1) (fun j h1 h2 => (obj_upd_ne h2).trans (kj j h1))
   ·have hd : decide (a ≠ [110,101,116]) = true := decide_eq_true ha
    simp (disch := first | omega | (simp only [next_new,next_upd] <;> omega) | fail) only [vai,vaim,vaic,vas,bots,Bool.not_true,Bool.not_false,decide_true,decide_false,wrap64,hd,Nat.reduceAdd,Nat.reduceMul,Nat.reduceLeDiff,Nat.reduceEqDiff,↓reduceIte]
    exact hno (s2 hn rfl ha) _ hn1 (fun j h1 _ => kj j h1)
  ·have h2' : ¬ (L.length : Int) = 2 := by omega
   simp (disch := first | omega | (simp only [next_new,next_upd] <;> omega) | fail) only [vai,vaim,vaic,vas,bots,Bool.not_true,Bool.not_false,decide_true,decide_false,wrap64,o1,hn,hlv,h2',decide_true,ne_eq,not_false_eq_true,Nat.reduceAdd,Nat.reduceMul,Nat.reduceLeDiff,Nat.reduceEqDiff,↓reduceIte]
   exact hno (s3 hn h2) _ hn1 (fun j h1 _ => kj j h1)
 ·by_cases h5 : L.length = 5
  ·obtain ⟨a,f,t,m,c,rfl⟩ := len5 h5
   have ks : strs [a,f,t,m,c] = [.str (bs a),.str (bs f),.str (bs t),.str (bs m),.str (bs c)] := rfl
   rw [ks] at gv
   obtain ⟨id,rfl,hid1,hid2,hid3⟩ := grown_slice gv (by simp)
   have hf := hmem f (by simp)
   have ht := hmem t (by simp)
   have hc := hmem c (by simp)
   simp (disch := first | omega | (simp only [next_new,next_upd] <;> omega) | fail) only [vai,vaim,vaic,vas,bots,Bool.not_true,Bool.not_false,decide_true,decide_false,wrap64,o1,hn,hid3,nd55,decide_false,Nat.reduceAdd,Nat.reduceMul,Nat.reduceLeDiff,Nat.reduceEqDiff,↓reduceIte]
   rcases Classical.em (a = edgeW) with ha | ha
   ·have hd : decide (a ≠ [101,100,103,101]) = false := decide_eq_false (fun h => h ha)
    have hR := s4 hn rfl ha
    by_cases h4 : (400 : Int) ≤ x.es.length
    ·simp (disch := first | omega | (simp only [next_new,next_upd] <;> omega) | fail) only [vai,vaim,vaic,vas,bots,Bool.not_true,Bool.not_false,decide_true,decide_false,wrap64,hd,hid3,o1,hl,h4,decide_true,Nat.reduceAdd,Nat.reduceMul,Nat.reduceLeDiff,Nat.reduceEqDiff,↓reduceIte]
     rw [if_neg (fun h => by omega)] at hR
     exact hno hR _ hn1 (fun j h1 _ => kj j h1)
    ·simp (disch := first | omega | (simp only [next_new,next_upd] <;> omega) | fail) only [vai,vaim,vaic,vas,bots,Bool.not_true,Bool.not_false,decide_true,decide_false,wrap64,hd,hid3,o1,hl,h4,decide_false,Nat.reduceAdd,Nat.reduceMul,Nat.reduceLeDiff,Nat.reduceEqDiff,↓reduceIte]
     refine numR_ret (l := f) hf.1 (by omega) ?_
     simp (disch := first | omega | (simp only [next_new,next_upd] <;> omega) | fail) only [vai,vaim,vaic,vas,bots,Bool.not_true,Bool.not_false,decide_true,decide_false,wrap64,hid3,Nat.reduceAdd,Nat.reduceMul,Nat.reduceLeDiff,Nat.reduceEqDiff,↓reduceIte]
     refine numR_ret (l := t) ht.1 (by omega) ?_
     simp (disch := first | omega | (simp only [next_new,next_upd] <;> omega) | fail) only [vai,vaim,vaic,vas,bots,Bool.not_true,Bool.not_false,decide_true,decide_false,wrap64,hid3,Nat.reduceAdd,Nat.reduceMul,Nat.reduceLeDiff,Nat.reduceEqDiff,↓reduceIte]
     refine mode_ret (s := m) ?_
     simp (disch := first | omega | (simp only [next_new,next_upd] <;> omega) | fail) only [vai,vaim,vaic,vas,bots,Bool.not_true,Bool.not_false,decide_true,decide_false,wrap64,hid3,Nat.reduceAdd,Nat.reduceMul,Nat.reduceLeDiff,Nat.reduceEqDiff,↓reduceIte]
     refine numR_ret (l := c) hc.1 (by omega) ?_
     simp (disch := first | omega | (simp only [next_new,next_upd] <;> omega) | fail) only [vai,vaim,vaic,vas,bots,Bool.not_true,Bool.not_false,decide_true,decide_false,wrap64,o1,reK_same hbe,Nat.reduceAdd,Nat.reduceMul,Nat.reduceLeDiff,Nat.reduceEqDiff,↓reduceIte]
     have hnx : H1.next < (H1.new (.cells [.int .i64 0,.int .i64 0,.int .i64 0,.int .i64 0] true)).next := by simp only [next_new]; omega
     refine append_ret' (n := x.es.length) g1 (by first | omega | (simp only [next_new,next_upd]; omega)) (fun j h1 h2 => by rw [obj_new_ne (by simp only [next_upd,next_new]; omega),obj_upd_ne (by omega),obj_new_ne (by omega)]) (by simp (disch := first | omega | (simp only [next_new,next_upd] <;> omega) | fail) only [vaim]; rfl) rfl (by omega) (by omega) (edgeCells_length x.es) (by omega) (by omega) (by first | omega | (simp only [next_new,next_upd]; omega)) ?_
     intro v' H2 hn2 hk2 hg2 _
     simp only [next_new,next_upd] at hn2 hk2
     have hsid : ∀ j,sid ev = some j → lo ≤ j ∧ j < H1.next := fun j h => g1.sid_ge h
     have k2 : ∀ j,j < lo → H2.obj j = H1.obj j := fun j h => by
      rw [hk2 j (by omega) (fun e => by have := hsid j e; omega),obj_new_ne (by simp only [next_upd,next_new]; omega),obj_upd_ne (by omega),obj_new_ne (by omega)]
     have o2 : H2.obj p = some (.cells [.int .i64 x.n,ev] true) := (k2 p hp).trans o1
     have e2 : H2.obj H1.next = some (.cells [.int .i64 (numR f),.int .i64 (numR t),.int .i64 (modeR m),.int .i64 (numR c)] true) := by
      rw [hk2 H1.next (by omega) (fun e => by have := hsid _ e; omega),obj_new_ne (by simp only [next_upd,next_new]; omega),obj_upd_eq rfl]
     have hc2 := hg2.cells
     simp (disch := first | omega | (simp only [next_new,next_upd] <;> omega) | fail) only [vai,vaim,vaic,vas,bots,Bool.not_true,Bool.not_false,decide_true,decide_false,wrap64,o2,e2,hc2,Nat.reduceAdd,Nat.reduceMul,Nat.reduceLeDiff,Nat.reduceEqDiff,↓reduceIte]
     refine right_ret (e := ⟨numR f,numR t,modeR m,numR c⟩) fun b H3 k3 s3 => ?_
     have n3 := k3.next
     simp only [next_upd] at n3
     simp (disch := first | omega | (simp only [next_new,next_upd] <;> omega) | fail) only [vai,vaim,vaic,vas,bots,Bool.not_true,Bool.not_false,decide_true,decide_false,wrap64,Nat.reduceAdd,Nat.reduceMul,Nat.reduceLeDiff,Nat.reduceEqDiff,↓reduceIte]
     have hcs : edgeCells (x.es ++ [⟨numR f,numR t,modeR m,numR c⟩]) = edgeCells x.es ++ [.int .i64 (numR f),.int .i64 (numR t),.int .i64 (modeR m),.int .i64 (numR c)] := by simp [edgeCells,Edge.cells]
     have kk : ∀ j,j < lo → j ≠ p → H3.obj j = H.obj j := fun j h1 h2 => by
      rw [k3.old (by simp only [next_upd]; omega),obj_upd_ne h2,k2 j h1]; exact kj j h1
     cases b with
     | true =>
      rw [if_pos ⟨by omega,edgeOk_iff.2 (s3.1 rfl)⟩] at hR
      refine hyes _ hR H3 v' (by omega) kk ((k3.old (by simp only [next_upd]; omega)).trans (obj_upd_eq rfl)) ?_
      simp only
      rw [hcs]
      exact (hg2.upd hp _).keep (by simp only [next_upd]; exact n3) fun j h1 h2 => k3.old h2
     | false =>
      rw [if_neg (fun h => by have := s3.2 (edgeOk_iff.1 h.2); cases this)] at hR
      exact hno hR H3 (by omega) kk
   ·have hd : decide (a ≠ [101,100,103,101]) = true := decide_eq_true ha
    simp (disch := first | omega | (simp only [next_new,next_upd] <;> omega) | fail) only [vai,vaim,vaic,vas,bots,Bool.not_true,Bool.not_false,decide_true,decide_false,wrap64,hd,Nat.reduceAdd,Nat.reduceMul,Nat.reduceLeDiff,Nat.reduceEqDiff,↓reduceIte]
    exact hno (s5 hn rfl ha) _ hn1 (fun j h1 _ => kj j h1)
  ·have h5' : ¬ (L.length : Int) = 5 := by omega
   simp (disch := first | omega | (simp only [next_new,next_upd] <;> omega) | fail) only [vai,vaim,vaic,vas,bots,Bool.not_true,Bool.not_false,decide_true,decide_false,wrap64,o1,hn,hlv,h5',decide_true,decide_false,ne_eq,not_false_eq_true,Nat.reduceAdd,Nat.reduceMul,Nat.reduceLeDiff,Nat.reduceEqDiff,↓reduceIte]
   exact hno (s6 hn h5) _ hn1 (fun j h1 _ => kj j h1)
end Go.Proofs.YtknhlpmmalcchaaDoor

namespace Go.Proofs.YtknhlpmmalcchaaDoor
open Go Go.VAI
set_option linter.unusedSimpArgs false

set_option maxRecDepth 20000 in
set_option maxHeartbeats 4000000 in
theorem refparse_ret {s : List UInt8} {H : AHeap} {Q : AVal → AHeap → Prop}
  (hq : ∀ ev H',Keep Nothing H H' → Grown H.next H' ev 4 (edgeCells (parseOf stepR s).1.es) → Q (.tuple [.agg [.int .i64 (parseOf stepR s).1.n,ev],.int .i64 ((parseOf stepR s).2.1 : Nat),.int .i64 (parseOf stepR s).2.2]) H') : Ret A 21 [.str (bs s)] H Q := by
 refine Ret.of (fn := F21) rfl ?_
 have p1 := @parse_long stepR s
 have p2 := @parse_bad stepR s
 have p3 := @parse_zero stepR s
 have p4 := @parse_good stepR s
 generalize parseOf stepR s = R at *
 by_cases hlen : (60000 : Int) < s.length
 ·have hR := p1 (by omega)
  subst hR
  simp (disch := first | omega | (simp only [next_new,next_upd] <;> omega) | fail) only [vai,vaim,vaic,vas,bots,Bool.not_true,Bool.not_false,decide_true,decide_false,wrap64,F21,hlen,decide_true,Nat.reduceAdd,Nat.reduceMul,Nat.reduceLeDiff,Nat.reduceEqDiff,↓reduceIte]
  exact hq .nilSlice _ (((Keep.refl _ _).new _).upd (.inl (by omega)) _) .nil
 simp (disch := first | omega | (simp only [next_new,next_upd] <;> omega) | fail) only [vai,vaim,vaic,vas,bots,Bool.not_true,Bool.not_false,decide_true,decide_false,wrap64,F21,hlen,decide_false,Nat.reduceAdd,Nat.reduceMul,Nat.reduceLeDiff,Nat.reduceEqDiff,↓reduceIte]
 refine wpx_loop (fun m t H' => ∃ (i a k : Nat) (x : NetS) (ev : AVal),m = s.length + 1 - i ∧ i ≤ s.length + 1 ∧ t = (.str (bs s) :: bots 1 (.ptr H.next 0 :: bots 2 (.ptr (H.next + 1) 0 :: .int .i64 a :: .int .i64 k :: .int .i64 i :: bots 42 ([]))) : Tmps) ∧ Keep Nothing H H' ∧ H.next + 2 ≤ H'.next ∧
  H'.obj H.next = some (.cells [.int .i64 0,.nilSlice] true) ∧ H'.obj (H.next + 1) = some (.cells [.int .i64 x.n,ev] true) ∧ Grown (H.next + 2) H' ev 4 (edgeCells x.es) ∧ Small x ∧ (x.n = 0 → x.es = []) ∧ x.es.length ≤ 400 ∧ k ≤ i ∧
  ((a ≤ i ∧ i ≤ s.length ∧ (10 : UInt8) ∉ part s a i ∧ linesOf stepR none0 0 (cutAt 10 s) = linesOf stepR x k (cutAt 10 (s.drop a))) ∨ (i = s.length + 1 ∧ linesOf stepR none0 0 (cutAt 10 s) = .inl x))) (s.length + 1) ?_ ?_
 ·refine ⟨0,0,0,none0,.nilSlice,rfl,by omega,rfl,((Keep.refl _ _).new _).new _,(by first | omega | (simp only [next_new,next_upd]; omega)),?_,?_,.nil,small0,fun _ => rfl,by simp [none0],by omega,.inl ⟨by omega,by omega,by rw [part_self]; simp,rfl⟩⟩
  ·simp (disch := first | omega | (simp only [next_new,next_upd] <;> omega) | fail) only [vaim]
  ·simp (disch := first | omega | (simp only [next_new,next_upd] <;> omega) | fail) only [vaim]; rfl
 ·rintro m t H1 ⟨i,a,k,x,ev,rfl,hi,rfl,k1,hn1,o1,o2,hg,hsm,h0,hl4,hki,hinv⟩
  by_cases hci : (i : Int) ≤ s.length
  ·have hil : i ≤ s.length := by omega
   obtain ⟨h1,h2,h3,h4⟩ : a ≤ i ∧ i ≤ s.length ∧ (10 : UInt8) ∉ part s a i ∧ linesOf stepR none0 0 (cutAt 10 s) = linesOf stepR x k (cutAt 10 (s.drop a)) := by
    rcases hinv with h | ⟨h,_⟩
    ·exact h
    ·omega
   have hsl : asliceStr (.str (bs s)) (some (.int .i64 (a : Int))) (some (.int .i64 (i : Int))) = some (.str (bs (part s a i))) := asliceStr_bs ⟨h1,h2⟩
   have hd1 : decide ((i : Int) ≤ s.length) = true := decide_eq_true hci
   by_cases hie : (i : Int) < s.length
   ·have hd2 : decide ((i : Int) < s.length) = true := decide_eq_true hie
    have hb : s[i]? = some s[i] := List.getElem?_eq_getElem (by omega)
    generalize s[i] = b at hb
    have hix : aindexStr (.str (bs s)) (.int .i64 (i : Int)) = some (.int .u8 (b.toNat : Int)) := aindexStr_bs hb
    by_cases hb10 : (b.toNat : Int) = 10
    ·have hbe : b = 10 := UInt8.toNat_inj.1 (by show b.toNat = 10; omega)
     have hd4 : decide ((b.toNat : Int) ≠ 10) = false := decide_eq_false (fun h => h hb10)
     rw [hbe] at hb
     have hch := cut_hit h1 hb h3
     rw [hch,lines_cons] at h4
     have hlin := h4
     have hfin : ∀ y,linesOf stepR none0 0 (cutAt 10 s) = linesOf stepR y (k + 1) (cutAt 10 (s.drop (i + 1))) → ((i + 1 ≤ i + 1 ∧ i + 1 ≤ s.length ∧ (10 : UInt8) ∉ part s (i + 1) (i + 1) ∧ linesOf stepR none0 0 (cutAt 10 s) = linesOf stepR y (k + 1) (cutAt 10 (s.drop (i + 1)))) ∨ (i + 1 = s.length + 1 ∧ linesOf stepR none0 0 (cutAt 10 s) = .inl y)) :=
      fun y h => .inl ⟨by omega,by omega,by rw [part_self]; simp,h⟩
     simp (disch := first | omega | (simp only [next_new,next_upd] <;> omega) | fail) only [vai,vaim,vaic,vas,bots,Bool.not_true,Bool.not_false,decide_true,decide_false,wrap64,hd1,hd2,hix,hd4,Nat.reduceAdd,Nat.reduceMul,Nat.reduceLeDiff,Nat.reduceEqDiff,↓reduceIte]
     by_cases hia : (a : Int) < i
     ·have hd3 : decide ((a : Int) < i) = true := decide_eq_true hia
      have hp : part s a i ≠ [] := fun h => by
       have := part_length h1 h2
       rw [h] at this
       simp at this; omega
      rw [if_neg hp] at hlin
      have hpl : (part s a i).length ≤ 60000 := by rw [part_length h1 h2]; omega
      simp (disch := first | omega | (simp only [next_new,next_upd] <;> omega) | fail) only [vai,vaim,vaic,vas,bots,Bool.not_true,Bool.not_false,decide_true,decide_false,wrap64,hd3,hsl,Nat.reduceAdd,Nat.reduceMul,Nat.reduceLeDiff,Nat.reduceEqDiff,↓reduceIte]
      refine rline_ret (lo := H.next + 2) (x := x) (by omega) (by omega) o2 hg hl4 hpl (fun hno H3 n3 k3 => ?_) (fun y hyes H3 ev3 n3 k3 o3 g3 => ?_)
      ·rw [hno] at hlin
       simp only at hlin
       have hR := p2 (by omega) hlin
       subst hR
       have q1 := (k3 H.next (by omega) (by omega)).trans o1
       simp (disch := first | omega | (simp only [next_new,next_upd] <;> omega) | fail) only [vai,vaim,vaic,vas,bots,Bool.not_true,Bool.not_false,decide_true,decide_false,wrap64,q1,Nat.reduceAdd,Nat.reduceMul,Nat.reduceLeDiff,Nat.reduceEqDiff,↓reduceIte]
       refine hq .nilSlice _ ?_ .nil
       refine Keep.upd ⟨by have := k1.next; omega,fun j hj hm => ?_⟩ (.inl (Nat.le_refl _)) _
       rw [k3 j (by omega) (by omega)]
       exact k1.old hj
      ·rw [hyes] at hlin
       simp only at hlin
       have hyP : stepP x (part s a i) = some y := by rw [step_eq hsm.2]; exact hyes
       obtain ⟨r1,r2⟩ := addP_len hyP hl4 h0
       simp (disch := first | omega | (simp only [next_new,next_upd] <;> omega) | fail) only [vai,vaim,vaic,vas,bots,Bool.not_true,Bool.not_false,decide_true,decide_false,wrap64,Nat.reduceAdd,Nat.reduceMul,Nat.reduceLeDiff,Nat.reduceEqDiff,↓reduceIte]
       refine ⟨s.length + 1 - (i + 1),by omega,i + 1,i + 1,k + 1,y,ev3,rfl,by omega,rfl,⟨by have := k1.next; omega,fun j hj hm => ?_⟩,by omega,?_,o3,g3,stepP_small hsm hyP,r2,r1,by omega,hfin y hlin⟩
       ·rw [k3 j (by omega) (by omega)]
        exact k1.old hj
       ·rw [k3 _ (by omega) (by omega)]
        exact o1
     ·have hd3 : decide ((a : Int) < i) = false := decide_eq_false hia
      have hp : part s a i = [] := by rw [show i = a by omega,part_self]
      rw [if_pos hp] at hlin
      simp (disch := first | omega | (simp only [next_new,next_upd] <;> omega) | fail) only [vai,vaim,vaic,vas,bots,Bool.not_true,Bool.not_false,decide_true,decide_false,wrap64,hd3,Nat.reduceAdd,Nat.reduceMul,Nat.reduceLeDiff,Nat.reduceEqDiff,↓reduceIte]
      exact ⟨s.length + 1 - (i + 1),by omega,i + 1,i + 1,k + 1,x,ev,rfl,by omega,rfl,k1,hn1,o1,o2,hg,hsm,h0,hl4,by omega,hfin x hlin⟩
    ·have hd4 : decide ((b.toNat : Int) ≠ 10) = true := decide_eq_true hb10
     simp (disch := first | omega | (simp only [next_new,next_upd] <;> omega) | fail) only [vai,vaim,vaic,vas,bots,Bool.not_true,Bool.not_false,decide_true,decide_false,wrap64,hd1,hd2,hix,hd4,Nat.reduceAdd,Nat.reduceMul,Nat.reduceLeDiff,Nat.reduceEqDiff,↓reduceIte]
     have hbn : b ≠ 10 := fun h => by subst h; exact hb10 rfl
     exact ⟨s.length + 1 - (i + 1),by omega,i + 1,a,k,x,ev,rfl,by omega,rfl,k1,hn1,o1,o2,hg,hsm,h0,hl4,by omega,.inl ⟨by omega,by omega,part_step h1 hb hbn h3,h4⟩⟩
   ·have hd2 : decide ((i : Int) < s.length) = false := decide_eq_false hie
    have hie2 : i = s.length := by omega
    have hce := cut_end (l := s) (a := a) (by omega) (by rw [← hie2]; exact h3)
    rw [← hie2] at hce
    rw [hce,lines_cons] at h4
    have hlin := h4
    have hfin : ∀ y,linesOf stepR none0 0 (cutAt 10 s) = linesOf stepR y (k + 1) [] → ((i + 1 ≤ i + 1 ∧ i + 1 ≤ s.length ∧ (10 : UInt8) ∉ part s (i + 1) (i + 1) ∧ linesOf stepR none0 0 (cutAt 10 s) = linesOf stepR y (k + 1) (cutAt 10 (s.drop (i + 1)))) ∨ (i + 1 = s.length + 1 ∧ linesOf stepR none0 0 (cutAt 10 s) = .inl y)) :=
     fun y h => .inr ⟨by omega,h⟩
    simp (disch := first | omega | (simp only [next_new,next_upd] <;> omega) | fail) only [vai,vaim,vaic,vas,bots,Bool.not_true,Bool.not_false,decide_true,decide_false,wrap64,hd1,hd2,Nat.reduceAdd,Nat.reduceMul,Nat.reduceLeDiff,Nat.reduceEqDiff,↓reduceIte]
    by_cases hia : (a : Int) < i
    ·have hd3 : decide ((a : Int) < i) = true := decide_eq_true hia
     have hp : part s a i ≠ [] := fun h => by
      have := part_length h1 h2
      rw [h] at this
      simp at this; omega
     rw [if_neg hp] at hlin
     have hpl : (part s a i).length ≤ 60000 := by rw [part_length h1 h2]; omega
     simp (disch := first | omega | (simp only [next_new,next_upd] <;> omega) | fail) only [vai,vaim,vaic,vas,bots,Bool.not_true,Bool.not_false,decide_true,decide_false,wrap64,hd3,hsl,Nat.reduceAdd,Nat.reduceMul,Nat.reduceLeDiff,Nat.reduceEqDiff,↓reduceIte]
     refine rline_ret (lo := H.next + 2) (x := x) (by omega) (by omega) o2 hg hl4 hpl (fun hno H3 n3 k3 => ?_) (fun y hyes H3 ev3 n3 k3 o3 g3 => ?_)
     ·rw [hno] at hlin
      simp only at hlin
      have hR := p2 (by omega) hlin
      subst hR
      have q1 := (k3 H.next (by omega) (by omega)).trans o1
      simp (disch := first | omega | (simp only [next_new,next_upd] <;> omega) | fail) only [vai,vaim,vaic,vas,bots,Bool.not_true,Bool.not_false,decide_true,decide_false,wrap64,q1,Nat.reduceAdd,Nat.reduceMul,Nat.reduceLeDiff,Nat.reduceEqDiff,↓reduceIte]
      refine hq .nilSlice _ ?_ .nil
      refine Keep.upd ⟨by have := k1.next; omega,fun j hj hm => ?_⟩ (.inl (Nat.le_refl _)) _
      rw [k3 j (by omega) (by omega)]
      exact k1.old hj
     ·rw [hyes] at hlin
      simp only at hlin
      have hyP : stepP x (part s a i) = some y := by rw [step_eq hsm.2]; exact hyes
      obtain ⟨r1,r2⟩ := addP_len hyP hl4 h0
      simp (disch := first | omega | (simp only [next_new,next_upd] <;> omega) | fail) only [vai,vaim,vaic,vas,bots,Bool.not_true,Bool.not_false,decide_true,decide_false,wrap64,Nat.reduceAdd,Nat.reduceMul,Nat.reduceLeDiff,Nat.reduceEqDiff,↓reduceIte]
      refine ⟨s.length + 1 - (i + 1),by omega,i + 1,i + 1,k + 1,y,ev3,rfl,by omega,rfl,⟨by have := k1.next; omega,fun j hj hm => ?_⟩,by omega,?_,o3,g3,stepP_small hsm hyP,r2,r1,by omega,hfin y hlin⟩
      ·rw [k3 j (by omega) (by omega)]
       exact k1.old hj
      ·rw [k3 _ (by omega) (by omega)]
       exact o1
    ·have hd3 : decide ((a : Int) < i) = false := decide_eq_false hia
     have hp : part s a i = [] := by rw [show i = a by omega,part_self]
     rw [if_pos hp] at hlin
     simp (disch := first | omega | (simp only [next_new,next_upd] <;> omega) | fail) only [vai,vaim,vaic,vas,bots,Bool.not_true,Bool.not_false,decide_true,decide_false,wrap64,hd3,Nat.reduceAdd,Nat.reduceMul,Nat.reduceLeDiff,Nat.reduceEqDiff,↓reduceIte]
     exact ⟨s.length + 1 - (i + 1),by omega,i + 1,i + 1,k + 1,x,ev,rfl,by omega,rfl,k1,hn1,o1,o2,hg,hsm,h0,hl4,by omega,hfin x hlin⟩
  ·have hlin2 : linesOf stepR none0 0 (cutAt 10 s) = .inl x := by
    rcases hinv with ⟨_,h,_⟩ | ⟨_,h⟩
    ·omega
    ·exact h
   by_cases hx : x.n = 0
   ·have hR := p3 (by omega) hlin2 hx
    subst hR
    simp (disch := first | omega | (simp only [next_new,next_upd] <;> omega) | fail) only [vai,vaim,vaic,vas,bots,Bool.not_true,Bool.not_false,decide_true,decide_false,wrap64,hci,o1,o2,hx,decide_true,decide_false,Nat.reduceAdd,Nat.reduceMul,Nat.reduceLeDiff,Nat.reduceEqDiff,↓reduceIte]
    exact hq .nilSlice _ (k1.upd (.inl (Nat.le_refl _)) _) .nil
   ·have hR := p4 (by omega) hlin2 hx
    subst hR
    have hcv := hg.cells
    simp (disch := first | omega | (simp only [next_new,next_upd] <;> omega) | fail) only [vai,vaim,vaic,vas,bots,Bool.not_true,Bool.not_false,decide_true,decide_false,wrap64,hci,o1,o2,hx,hcv,decide_true,decide_false,Nat.reduceAdd,Nat.reduceMul,Nat.reduceLeDiff,Nat.reduceEqDiff,↓reduceIte]
    exact hq ev _ (k1.upd (.inl (Nat.le_refl _)) _) ((hg.upd (by omega) _).keep' ⟨by omega,Nat.le_refl _⟩ (fun _ _ _ => rfl))
end Go.Proofs.YtknhlpmmalcchaaDoor

namespace Go.Proofs.YtknhlpmmalcchaaDoor
open Go Go.VAI
set_option linter.unusedSimpArgs false

theorem nflat4 {a b c d e f g h : Int} : abin .neq (.flat [.int,.int,.int,.int]) (.agg [.int .i64 a,.int .i64 b,.int .i64 c,.int .i64 d]) (.agg [.int .i64 e,.int .i64 f,.int .i64 g,.int .i64 h]) = some (.bool (!(decide (a = e) && (decide (b = f) && (decide (c = g) && (decide (d = h) && true)))))) := rfl
theorem edge_neq {x y : Edge} : abin .neq (.flat [.int,.int,.int,.int]) (.agg x.cells) (.agg y.cells) = some (.bool (decide (x ≠ y))) := by
 obtain ⟨a,b,c,d⟩ := x
 obtain ⟨e,f,g,h⟩ := y
 simp only [Edge.cells,nflat4]
 congr 2
 by_cases h1 : a = e <;> by_cases h2 : b = f <;> by_cases h3 : c = g <;> by_cases h4 : d = h <;> simp [h1,h2,h3,h4]

set_option maxRecDepth 20000 in
set_option maxHeartbeats 1000000 in
theorem same_ret {n m : Int} {ev ev' : AVal} {es fs : List Edge} {H : AHeap} {Q : AVal → AHeap → Prop} (hr : Row H ev 4 (edgeCells es)) (hs : Row H ev' 4 (edgeCells fs)) (hle : es.length ≤ 1000000)
  (hq : ∀ b H',Keep Nothing H H' → Says b (n = m ∧ es = fs) → Q (.bool b) H') : Ret A 22 [.agg [.int .i64 n,ev],.agg [.int .i64 m,ev']] H Q := by
 refine Ret.of (fn := F22) rfl ?_
 have hl1 := hr.len (by omega) (edgeCells_length es)
 have hl2 := hs.len (by omega) (edgeCells_length fs)
 have hb1 := hr.beq
 have hb2 := hs.beq
 have k0 : Keep Nothing H ((H.new (.cells [.int .i64 n,ev] true)).new (.cells [.int .i64 m,ev'] true)) := ((Keep.refl _ _).new _).new _
 by_cases c1 : n = m
 ·by_cases c2 : (es.length : Int) = fs.length
  ·have hd1 : decide (n ≠ m) = false := decide_eq_false (fun h => h c1)
   have hd2 : decide ((es.length : Int) ≠ fs.length) = false := decide_eq_false (fun h => h c2)
   simp (disch := first | omega | (simp only [next_new,next_upd] <;> omega) | fail) only [vai,vaim,vaic,vas,bots,Bool.not_true,Bool.not_false,decide_true,decide_false,wrap64,F22,hd1,hl1,hl2,hd2,Nat.reduceAdd,Nat.reduceMul,Nat.reduceLeDiff,Nat.reduceEqDiff,↓reduceIte]
   refine wpx_loop (fun mm t H' => ∃ (i : Nat),mm = es.length - i ∧ i ≤ es.length ∧ t = (bots 2 (.ptr H.next 0 :: .ptr (H.next + 1) 0 :: bots 1 (.int .i64 i :: bots 32 ([]))) : Tmps) ∧ Keep Nothing H H' ∧ H'.obj H.next = some (.cells [.int .i64 n,ev] true) ∧ H'.obj (H.next + 1) = some (.cells [.int .i64 m,ev'] true) ∧ H.next + 2 ≤ H'.next ∧ es.take i = fs.take i) es.length ?_ ?_
   ·exact ⟨0,rfl,by omega,rfl,k0,by simp (disch := first | omega | (simp only [next_new,next_upd] <;> omega) | fail) only [vaim],by simp (disch := first | omega | (simp only [next_new,next_upd] <;> omega) | fail) only [vaim],(by first | omega | (simp only [next_new,next_upd]; omega)),by simp⟩
   ·rintro mm t H1 ⟨i,rfl,hi,rfl,k1,o1,o2,hn,heq⟩
    by_cases hc : (i : Int) < es.length
    ·have hi1 : i < es.length := by omega
     have hi2 : i < fs.length := by omega
     have he1 : es[i]? = some es[i] := List.getElem?_eq_getElem hi1
     have he2 : fs[i]? = some fs[i] := List.getElem?_eq_getElem hi2
     have ht1 := List.take_succ_eq_append_getElem hi1
     have ht2 := List.take_succ_eq_append_getElem hi2
     obtain ⟨id,off,e1,_,_,_,_,_,e6⟩ := edge_at (hr.kept k1) he1
     obtain ⟨id',off',f1,_,_,_,_,_,f6⟩ := edge_at (hs.kept k1) he2
     have hget : es[i] = es[i] := rfl
     generalize hx : es[i] = x at *
     generalize hy : fs[i] = y at *
     by_cases hxy : x = y
     ·have hd : decide (x ≠ y) = false := decide_eq_false (fun h => h hxy)
      simp (disch := first | omega | (simp only [next_new,next_upd] <;> omega) | fail) only [vai,vaim,vaic,vas,bots,Bool.not_true,Bool.not_false,decide_true,decide_false,wrap64,hc,decide_true,o1,o2,hl1,hl2,e1,e6,f1,f6,edge_neq,hd,Nat.reduceAdd,Nat.reduceMul,Nat.reduceLeDiff,Nat.reduceEqDiff,↓reduceIte]
      exact ⟨es.length - (i + 1),by omega,i + 1,rfl,by omega,rfl,k1,hn,by rw [ht1,ht2,heq,hxy]⟩
     ·have hd : decide (x ≠ y) = true := decide_eq_true hxy
      simp (disch := first | omega | (simp only [next_new,next_upd] <;> omega) | fail) only [vai,vaim,vaic,vas,bots,Bool.not_true,Bool.not_false,decide_true,decide_false,wrap64,hc,decide_true,o1,o2,hl1,hl2,e1,e6,f1,f6,edge_neq,hd,Nat.reduceAdd,Nat.reduceMul,Nat.reduceLeDiff,Nat.reduceEqDiff,↓reduceIte]
      refine hq _ _ k1 (says_no fun h => hxy ?_)
      rw [← hx,← hy]
      simp only [h.2]
    ·have hie : i = es.length := by omega
     simp (disch := first | omega | (simp only [next_new,next_upd] <;> omega) | fail) only [vai,vaim,vaic,vas,bots,Bool.not_true,Bool.not_false,decide_true,decide_false,wrap64,hc,decide_false,o1,hl1,Nat.reduceAdd,Nat.reduceMul,Nat.reduceLeDiff,Nat.reduceEqDiff,↓reduceIte]
     refine hq _ _ k1 (says_yes ⟨c1,?_⟩)
     rw [hie,List.take_length] at heq
     rw [heq,List.take_of_length_le (by omega)]
  ·have hd1 : decide (n ≠ m) = false := decide_eq_false (fun h => h c1)
   have hd2 : decide ((es.length : Int) ≠ fs.length) = true := decide_eq_true c2
   simp (disch := first | omega | (simp only [next_new,next_upd] <;> omega) | fail) only [vai,vaim,vaic,vas,bots,Bool.not_true,Bool.not_false,decide_true,decide_false,wrap64,F22,hd1,hl1,hl2,hd2,Nat.reduceAdd,Nat.reduceMul,Nat.reduceLeDiff,Nat.reduceEqDiff,↓reduceIte]
   exact hq _ _ k0 (says_no fun h => c2 (by rw [h.2]))
 ·have hd1 : decide (n ≠ m) = true := decide_eq_true c1
  simp (disch := first | omega | (simp only [next_new,next_upd] <;> omega) | fail) only [vai,vaim,vaic,vas,bots,Bool.not_true,Bool.not_false,decide_true,decide_false,wrap64,F22,hd1,Nat.reduceAdd,Nat.reduceMul,Nat.reduceLeDiff,Nat.reduceEqDiff,↓reduceIte]
  exact hq _ _ k0 (says_no fun h => c1 h.1)

theorem nDig20 {n : Nat} (h : n < 9223372036854775808) : (Lib.decDigits n).length ≤ 19 := by
 rw [Lib.decDigits_length]
 have key : ∀ (k u : Nat),u < 10 ^ (k + 1) → Lib.nDigits u ≤ k + 1 := by
  intro k
  induction k with
  | zero => intro u h; rw [Lib.nDigits_small (by simpa using h)]; omega
  | succ k ih =>
   intro u h
   by_cases h1 : u < 10
   ·rw [Lib.nDigits_small h1]; omega
   ·rw [Lib.nDigits_big h1]
    have := ih (u / 10) (by rw [Nat.pow_succ] at h; omega)
    omega
 exact key 18 n (by omega)
set_option maxRecDepth 20000 in
theorem digits_ret : ∀ (n : Nat) {H : AHeap} {Q : AVal → AHeap → Prop},n < 9223372036854775808 → (∀ H',Keep Nothing H H' → Q (.str (bs (Lib.decDigits n))) H') → Ret A 23 [.int .i64 (n : Int)] H Q := by
 intro n
 induction n using Nat.strongRecOn with
 | _ n ih =>
  intro H Q hn hq
  refine Ret.of (fn := F23) rfl ?_
  by_cases h10 : (10 : Int) ≤ n
  ·have e : Lib.decDigits n = Lib.decDigits (n / 10) ++ [UInt8.ofNat (48 + n % 10)] := by rw [Lib.decDigits,dif_neg (by omega)]
   have t1 : (n : Int).tdiv 10 = ((n / 10 : Nat) : Int) := by
    rw [Int.tdiv_eq_ediv_of_nonneg (by omega)]
    omega
   have t2 : (n : Int).tmod 10 = ((n % 10 : Nat) : Int) := by
    rw [Int.tmod_eq_emod_of_nonneg (by omega)]
    omega
   simp (disch := first | omega | (simp only [next_new,next_upd] <;> omega) | fail) only [vai,vaim,vaic,vas,bots,Bool.not_true,Bool.not_false,decide_true,decide_false,wrap64,F23,h10,t1,decide_true,Nat.reduceAdd,Nat.reduceMul,Nat.reduceLeDiff,Nat.reduceEqDiff,↓reduceIte]
   refine ih (n / 10) (by omega) (by omega) fun H1 k1 => ?_
   simp (disch := first | omega | (simp only [next_new,next_upd] <;> omega) | fail) only [vai,vaim,vaic,vas,bots,Bool.not_true,Bool.not_false,decide_true,decide_false,wrap64,t2,Nat.reduceAdd,Nat.reduceMul,Nat.reduceLeDiff,Nat.reduceEqDiff,↓reduceIte]
   refine ih (n % 10) (by omega) (by omega) fun H2 k2 => ?_
   have e2 : Lib.decDigits (n % 10) = [UInt8.ofNat (48 + n % 10)] := Lib.decDigits_one (by omega)
   have hl : (Lib.decDigits (n / 10)).length + (Lib.decDigits (n % 10)).length ≤ 9223372036854775807 := by
    have h1 := nDig20 (n := n / 10) (by omega)
    have h2 := nDig20 (n := n % 10) (by omega)
    omega
   simp (disch := first | omega | (simp only [next_new,next_upd] <;> omega) | fail) only [vai,vaim,vaic,vas,bots,Bool.not_true,Bool.not_false,decide_true,decide_false,wrap64,Nat.reduceAdd,Nat.reduceMul,Nat.reduceLeDiff,Nat.reduceEqDiff,↓reduceIte]
   rw [e2,← e]
   exact hq _ (k1.trans k2)
  ·have e : Lib.decDigits n = [UInt8.ofNat (48 + n)] := Lib.decDigits_one (by omega)
   have hw : IntKind.u8.wrap (48 + (n : Int)) = 48 + (n : Int) := by rw [wrapU8]; omega
   have hrow : ∀ id (H' : AHeap),H'.obj id = some (.cells [.int .u8 (48 + (n : Int))] true) → abytesToStr H' (.slice id 0 1 (.exact 1)) = some (.str (bs (Lib.decDigits n))) := fun id H' ho => by
    have h8 : UInt8.ofNat ((48 + (n : Int)).toNat) = UInt8.ofNat (48 + n) := by congr 1
    simp only [abytesToStr,cells?_of,ho,cellsOf,bnd]
    rw [e]
    simp only [List.length_cons,List.length_nil,Nat.zero_add,Nat.le_refl,if_true,List.drop_zero,List.take_succ_cons,List.take_zero,toBytes,bnd,h8]
    rfl
   simp (disch := first | omega | (simp only [next_new,next_upd] <;> omega) | fail) only [vai,vaim,vaic,vas,bots,Bool.not_true,Bool.not_false,decide_true,decide_false,wrap64,F23,h10,hw,atoInt_int,decide_false,Nat.reduceAdd,Nat.reduceMul,Nat.reduceLeDiff,Nat.reduceEqDiff,↓reduceIte]
   rw [hrow H.next _ (obj_new_eq rfl)]
   simp (disch := first | omega | (simp only [next_new,next_upd] <;> omega) | fail) only [vai,vaim,vaic,vas,bots,Bool.not_true,Bool.not_false,decide_true,decide_false,wrap64,Nat.reduceAdd,Nat.reduceMul,Nat.reduceLeDiff,Nat.reduceEqDiff,↓reduceIte]
   exact hq _ ((Keep.refl _ _).new _)
theorem sign_ret {m : Int} {H : AHeap} {Q : AVal → AHeap → Prop} (h0 : 0 ≤ m) (h5 : m < 5) (hq : Q (.str (bs (signOf m))) H) : Ret A 30 [.int .i64 m] H Q := by
 refine Ret.of (fn := F30) rfl ?_
 obtain ⟨i,rfl⟩ : ∃ i : Nat,m = i := ⟨m.toNat,by omega⟩
 have hsl : asliceStr (.str (bs [119,98,99,102,116])) (some (.int .i64 (i : Int))) (some (.int .i64 ((i : Int) + 1))) = some (.str (bs (signOf i))) := by
  have h := asliceStr_bs (l := signs) (i := i) (j := i + 1) (k1 := .i64) (k2 := .i64) ⟨by omega,by show i + 1 ≤ 5; omega⟩
  rw [show i + 1 - i = 1 by omega] at h
  exact h
 simp (disch := first | omega | (simp only [next_new,next_upd] <;> omega) | fail) only [vai,vaim,vaic,vas,bots,Bool.not_true,Bool.not_false,decide_true,decide_false,wrap64,F30,hsl,Nat.reduceAdd,Nat.reduceMul,Nat.reduceLeDiff,Nat.reduceEqDiff,↓reduceIte]
 exact hq
end Go.Proofs.YtknhlpmmalcchaaDoor

namespace Go.Proofs.YtknhlpmmalcchaaDoor
open Go Go.VAI
set_option linter.unusedSimpArgs false

theorem dec_ret {z : Int} {H : AHeap} {Q : AVal → AHeap → Prop} (h0 : 0 ≤ z) (h1 : z < 9223372036854775808) (hq : ∀ H',Keep Nothing H H' → Q (.str (bs (dec z))) H') : Ret A 23 [.int .i64 z] H Q := by
 obtain ⟨n,rfl⟩ : ∃ n : Nat,z = n := ⟨z.toNat,by omega⟩
 refine digits_ret n (by omega) fun H' k => ?_
 have := hq H' k
 unfold dec at this
 rw [Int.toNat_natCast] at this
 exact this
theorem fits_take {x : NetS} (h : Fits x) (i : Nat) : Fits ⟨x.n,x.es.take i⟩ := by
 obtain ⟨h1,h2,h3,h4⟩ := h
 exact ⟨h1,h2,by simp only [List.length_take]; omega,fun e he => h4 e (List.mem_of_mem_take he)⟩
theorem text_snoc (n : Int) (es : List Edge) (e : Edge) : textOf ⟨n,es ++ [e]⟩ = textOf ⟨n,es⟩ ++ edgeText e ++ [10] := by
 simp [textOf]
theorem edgeText_eq (s : List UInt8) (e : Edge) : (((((((s ++ [101,100,103,101,32]) ++ dec e.src) ++ [32]) ++ dec e.dst) ++ [32]) ++ signOf e.mode) ++ [32]) ++ dec e.cost ++ [10] = s ++ edgeText e ++ [10] := by
 simp [edgeText,edgeW]
set_option maxRecDepth 20000 in
set_option maxHeartbeats 4000000 in
theorem reftext_ret {x : NetS} {ev : AVal} {H : AHeap} {Q : AVal → AHeap → Prop} (hf : Fits x) (hr : Row H ev 4 (edgeCells x.es)) (hq : ∀ H',Keep Nothing H H' → Q (.str (bs (textOf x))) H') : Ret A 19 [.agg [.int .i64 x.n,ev]] H Q := by
 refine Ret.of (fn := F19) rfl ?_
 have hl := hr.len (by omega) (edgeCells_length x.es)
 have hbe := hr.beq
 have hce := hr.cells
 have hx1 := hf.1
 have hx2 := hf.2.1
 have hx3 := hf.2.2.1
 simp (disch := first | omega | (simp only [next_new,next_upd] <;> omega) | fail) only [vai,vaim,vaic,vas,bots,Bool.not_true,Bool.not_false,decide_true,decide_false,wrap64,F19,Nat.reduceAdd,Nat.reduceMul,Nat.reduceLeDiff,Nat.reduceEqDiff,↓reduceIte]
 refine dec_ret (by omega) (by omega) fun H1 k1 => ?_
 have n1 := k1.next
 simp only [next_new] at n1
 have o1 : H1.obj H.next = some (.cells [.int .i64 x.n,ev] true) := (k1.old (by first | omega | (simp only [next_new,next_upd]; omega))).trans (obj_new_eq rfl)
 have hd := nDig2 (n := x.n.toNat) (by omega)
 have l4 : ([110,101,116,32] : List UInt8).length = 4 := rfl
 have l1 : ([10] : List UInt8).length = 1 := rfl
 have ld : (dec x.n).length ≤ 2 := hd
 have la : (110 :: 101 :: 116 :: 32 :: dec x.n : List UInt8).length ≤ 6 := by simp only [List.length_cons]; omega
 simp (disch := first | omega | (simp only [next_new,next_upd] <;> omega) | fail) only [vai,vaim,vaic,vas,bots,Bool.not_true,Bool.not_false,decide_true,decide_false,wrap64,Nat.reduceAdd,Nat.reduceMul,Nat.reduceLeDiff,Nat.reduceEqDiff,↓reduceIte]
 have h0 : 110 :: 101 :: 116 :: 32 :: (dec x.n ++ [10]) = textOf ⟨x.n,x.es.take 0⟩ := by simp [textOf,headText,netW]
 rw [h0]
 have kA : Keep Nothing H H1 := ((Keep.refl _ _).new _).trans k1
 refine wpx_loop (fun m t H' => ∃ (i : Nat),m = x.es.length - i ∧ i ≤ x.es.length ∧ t = (bots 1 (.ptr H.next 0 :: bots 1 (.str (bs (textOf ⟨x.n,x.es.take i⟩)) :: .int .i64 i :: bots 41 ([]))) : Tmps) ∧ Keep Nothing H H' ∧ H'.obj H.next = some (.cells [.int .i64 x.n,ev] true) ∧ H.next < H'.next) x.es.length ?_ ?_
 ·exact ⟨0,rfl,by omega,rfl,kA,o1,by omega⟩
 ·rintro m t H2 ⟨i,rfl,hi,rfl,k2,o2,n2⟩
  by_cases hc : (i : Int) < x.es.length
  ·have hil : i < x.es.length := by omega
   have he : x.es[i]? = some x.es[i] := List.getElem?_eq_getElem hil
   have htk := List.take_succ_eq_append_getElem hil
   have hmem := List.getElem_mem hil
   obtain ⟨id,off,e1,_,_,_,_,_,e6⟩ := edge_at (hr.kept k2) he
   generalize x.es[i] = e at *
   have hrt := hf.2.2.2 e hmem
   have hrb := edgeOk_iff.1 hrt
   obtain ⟨hs1,hs2,hs3,hs4⟩ := hrb
   have htl := text_len (fits_take hf i)
   generalize hS : textOf ⟨x.n,x.es.take i⟩ = S at *
   simp only [Edge.cells] at e6
   have d1 : (dec e.src).length ≤ 2 := nDig2 (n := e.src.toNat) (by omega)
   have d2 : (dec e.dst).length ≤ 2 := nDig2 (n := e.dst.toNat) (by omega)
   have d3 : (dec e.cost).length ≤ 10 := nDig10 (n := e.cost.toNat) (by omega)
   have d4 : (signOf e.mode).length ≤ 1 := by simp [signOf]; omega
   have l5 : ([101,100,103,101,32] : List UInt8).length = 5 := rfl
   have l6 : ([32] : List UInt8).length = 1 := rfl
   have q1 : (S ++ [101,100,103,101,32]).length ≤ 9700 := by simp only [List.length_append,l5]; omega
   have q2 : ((S ++ [101,100,103,101,32]) ++ dec e.src).length ≤ 9700 := by simp only [List.length_append,l5]; omega
   have q3 : (((S ++ [101,100,103,101,32]) ++ dec e.src) ++ [32]).length ≤ 9700 := by simp only [List.length_append,l5,l6]; omega
   have q4 : ((((S ++ [101,100,103,101,32]) ++ dec e.src) ++ [32]) ++ dec e.dst).length ≤ 9700 := by simp only [List.length_append,l5,l6]; omega
   have q5 : (((((S ++ [101,100,103,101,32]) ++ dec e.src) ++ [32]) ++ dec e.dst) ++ [32]).length ≤ 9700 := by simp only [List.length_append,l5,l6]; omega
   have q6 : ((((((S ++ [101,100,103,101,32]) ++ dec e.src) ++ [32]) ++ dec e.dst) ++ [32]) ++ signOf e.mode).length ≤ 9700 := by simp only [List.length_append,l5,l6]; omega
   have q7 : (((((((S ++ [101,100,103,101,32]) ++ dec e.src) ++ [32]) ++ dec e.dst) ++ [32]) ++ signOf e.mode) ++ [32]).length ≤ 9700 := by simp only [List.length_append,l5,l6]; omega
   have q8 : ((((((((S ++ [101,100,103,101,32]) ++ dec e.src) ++ [32]) ++ dec e.dst) ++ [32]) ++ signOf e.mode) ++ [32]) ++ dec e.cost).length ≤ 9700 := by simp only [List.length_append,l5,l6]; omega
   simp (disch := first | omega | (simp only [next_new,next_upd] <;> omega) | fail) only [vai,vaim,vaic,vas,bots,Bool.not_true,Bool.not_false,decide_true,decide_false,wrap64,hc,decide_true,o2,hl,e1,e6,Nat.reduceAdd,Nat.reduceMul,Nat.reduceLeDiff,Nat.reduceEqDiff,↓reduceIte]
   refine dec_ret (by omega) (by omega) fun H3 k3 => ?_
   have n3 := k3.next
   simp only [next_new,next_upd] at n3
   have o3 : H3.obj H2.next = some (.cells [.int .i64 e.src,.int .i64 e.dst,.int .i64 e.mode,.int .i64 e.cost] true) := (k3.old (by first | omega | (simp only [next_new,next_upd]; omega))).trans (obj_upd_eq rfl)
   simp (disch := first | omega | (simp only [next_new,next_upd] <;> omega) | fail) only [vai,vaim,vaic,vas,bots,Bool.not_true,Bool.not_false,decide_true,decide_false,wrap64,o3,Nat.reduceAdd,Nat.reduceMul,Nat.reduceLeDiff,Nat.reduceEqDiff,↓reduceIte]
   refine dec_ret (by omega) (by omega) fun H4 k4 => ?_
   have n4 := k4.next
   have o4 := (k4.old (i := H2.next) (by omega)).trans o3
   simp (disch := first | omega | (simp only [next_new,next_upd] <;> omega) | fail) only [vai,vaim,vaic,vas,bots,Bool.not_true,Bool.not_false,decide_true,decide_false,wrap64,o4,Nat.reduceAdd,Nat.reduceMul,Nat.reduceLeDiff,Nat.reduceEqDiff,↓reduceIte]
   refine sign_ret (by omega) (by omega) ?_
   simp (disch := first | omega | (simp only [next_new,next_upd] <;> omega) | fail) only [vai,vaim,vaic,vas,bots,Bool.not_true,Bool.not_false,decide_true,decide_false,wrap64,o4,Nat.reduceAdd,Nat.reduceMul,Nat.reduceLeDiff,Nat.reduceEqDiff,↓reduceIte]
   refine dec_ret (by omega) (by omega) fun H5 k5 => ?_
   have n5 := k5.next
   simp (disch := first | omega | (simp only [next_new,next_upd] <;> omega) | fail) only [vai,vaim,vaic,vas,bots,Bool.not_true,Bool.not_false,decide_true,decide_false,wrap64,Nat.reduceAdd,Nat.reduceMul,Nat.reduceLeDiff,Nat.reduceEqDiff,↓reduceIte]
   have kB : Keep Nothing H H5 := (((k2.new _).upd (.inl (by omega)) _).trans k3).trans (k4.trans k5)
   refine ⟨x.es.length - (i + 1),by omega,i + 1,rfl,by omega,?_,kB,?_,by omega⟩
   ·rw [edgeText_eq,htk,text_snoc,hS]
    rfl
   ·rw [k5.old (by omega),k4.old (by omega),k3.old (by first | omega | (simp only [next_new,next_upd]; omega)),obj_upd_ne (by omega),obj_new_ne (by omega)]
    exact o2
  ·have hie : i = x.es.length := by omega
   simp (disch := first | omega | (simp only [next_new,next_upd] <;> omega) | fail) only [vai,vaim,vaic,vas,bots,Bool.not_true,Bool.not_false,decide_true,decide_false,wrap64,hc,decide_false,o2,hl,Nat.reduceAdd,Nat.reduceMul,Nat.reduceLeDiff,Nat.reduceEqDiff,↓reduceIte]
   rw [hie,List.take_length] 
   exact hq _ k2
end Go.Proofs.YtknhlpmmalcchaaDoor

namespace Go.Proofs.YtknhlpmmalcchaaDoor
open Go Go.VAI
set_option linter.unusedSimpArgs false

def knownText : List UInt8 := [110,101,116,32,50,10,101,100,103,101,32,48,32,49,32,119,32,53,10]
theorem pk0 : parseOf stepP [] = (none0,1,2) := by rw [parse_eq]; rfl
theorem pk1 : parseOf stepP knownText = (⟨2,[⟨0,1,0,5⟩]⟩,0,0) := by rw [parse_eq]; kernel_rfl
theorem c1n : ((1 : Nat) : Int) = 1 := rfl
theorem c0n : ((0 : Nat) : Int) = 0 := rfl
set_option maxRecDepth 20000 in
set_option maxHeartbeats 1000000 in
theorem known_ret {H : AHeap} {Q : AVal → AHeap → Prop} (hq : ∀ H',Keep Nothing H H' → Q (.bool true) H') : Ret A 13 [] H Q := by
 refine Ret.of (fn := F13) rfl ?_
 simp (disch := first | omega | (simp only [next_new,next_upd] <;> omega) | fail) only [vai,vaim,vaic,vas,bots,Bool.not_true,Bool.not_false,decide_true,decide_false,wrap64,F13,Nat.reduceAdd,Nat.reduceMul,Nat.reduceLeDiff,Nat.reduceEqDiff,↓reduceIte]
 refine parse_ret (s := []) fun ev H1 k1 g1 => ?_
 rw [pk0] at g1
 rw [pk0]
 have n1 := k1.next
 have c1 := g1.cells
 simp (disch := first | omega | (simp only [next_new,next_upd] <;> omega) | fail) only [vai,vaim,vaic,vas,bots,Bool.not_true,Bool.not_false,decide_true,decide_false,wrap64,c1,Nat.reduceAdd,Nat.reduceMul,Nat.reduceLeDiff,Nat.reduceEqDiff,↓reduceIte]
 refine parse_ret (s := knownText) fun ev2 H2 k2 g2 => ?_
 rw [pk1] at g2
 rw [pk1]
 have n2 := k2.next
 simp only [next_upd,next_new] at n2
 have c2 := g2.cells
 have hl := g2.row.len (n := 1) (by omega) (by rw [edgeCells_length]; rfl)
 have hbe := g2.row.beq
 obtain ⟨id,off,e1,hid,_,_,_,e5,_⟩ := edge_at (i := 0) (e := ⟨0,1,0,5⟩) g2.row rfl
 have e1' : aindexAddrS 4 ev2 (.int .i64 0) = some (.ptr id off) := e1
 have kA : Keep Nothing H H2 := ((k1.new _).upd (.inl (by omega)) _).trans k2
 simp (disch := first | omega | (simp only [next_new,next_upd] <;> omega) | fail) only [vai,vaim,vaic,vas,bots,Bool.not_true,Bool.not_false,decide_true,decide_false,wrap64,c2,c1n,c0n,hl,e1',e5,Nat.reduceAdd,Nat.reduceMul,Nat.reduceLeDiff,Nat.reduceEqDiff,↓reduceIte]
 have kB : Keep Nothing H2 ((H2.new (.cells [.int .i64 0,.nilSlice] true)).upd H2.next (some (.cells [.int .i64 2,ev2] true))) := ((Keep.refl _ _).new _).upd (.inl (Nat.le_refl _)) _
 refine netcheck_ret (es := [⟨0,1,0,5⟩]) (g2.row.kept kB) fun b H3 k3 s3 => ?_
 have hb : b = true := s3.2 ⟨by omega,by omega,by simp,fun e he => by
  simp only [List.mem_singleton] at he
  subst he
  refine ⟨⟨?_,?_⟩,⟨?_,?_⟩,⟨?_,?_⟩,?_,?_⟩ <;> decide⟩
 subst hb
 simp (disch := first | omega | (simp only [next_new,next_upd] <;> omega) | fail) only [vai,vaim,vaic,vas,bots,Bool.not_true,Bool.not_false,decide_true,decide_false,wrap64,Nat.reduceAdd,Nat.reduceMul,Nat.reduceLeDiff,Nat.reduceEqDiff,↓reduceIte]
 exact hq _ ((kA.trans kB).trans k3)
end Go.Proofs.YtknhlpmmalcchaaDoor

namespace Go.Proofs.YtknhlpmmalcchaaDoor
open Go Go.VAI
set_option linter.unusedSimpArgs false

def mkNet (size modes : Int) (xs : List Int) : NetS := ⟨1 + size % 12,(xs.take 40).map (mkEdge (1 + size % 12) modes)⟩
theorem mkEdge_right {n modes k : Int} (h1 : 1 ≤ n) : rightB n (mkEdge n modes k) = true := by
 unfold rightB mkEdge
 rw [decide_eq_true_iff]
 simp only
 have a1 := Int.emod_nonneg k (show n ≠ 0 by omega)
 have a2 := Int.emod_lt_of_pos k (show 0 < n by omega)
 have b1 := Int.emod_nonneg (k.tdiv 13) (show n ≠ 0 by omega)
 have b2 := Int.emod_lt_of_pos (k.tdiv 13) (show 0 < n by omega)
 refine ⟨a1,a2,b1,b2,?_⟩
 refine ⟨?_,?_,?_,?_⟩
 ·split
  ·omega
  ·split <;> omega
 ·split
  ·omega
  ·split <;> omega
 ·split <;> omega
 ·split <;> omega
theorem mk_fits (size modes : Int) (xs : List Int) : Fits (mkNet size modes xs) := by
 refine ⟨?_,?_,?_,fun e he => ?_⟩
 ·show 1 ≤ 1 + size % 12
  omega
 ·show 1 + size % 12 ≤ 60
  omega
 ·show ((xs.take 40).map _).length ≤ 400
  rw [List.length_map,List.length_take]; omega
 ·obtain ⟨k,_,rfl⟩ := List.mem_map.1 he
  exact mkEdge_right (by show 1 ≤ 1 + size % 12; omega)
theorem lines_len : ∀ (ws : List (List UInt8)) (x y : NetS) (k : Nat),x.es.length ≤ 400 → (x.n = 0 → x.es = []) → linesOf stepP x k ws = .inl y → y.es.length ≤ 400
 | [],x,y,k,hl,_,h => by
  simp only [linesOf] at h
  injection h with h; subst h
  exact hl
 | w :: ws,x,y,k,hl,h0,h => by
  rw [lines_cons] at h
  split at h
  ·exact lines_len ws x y _ hl h0 h
  ·cases hs : stepP x w with
   | none => rw [hs] at h; simp only at h; cases h
   | some z =>
    rw [hs] at h
    simp only at h
    obtain ⟨h1,h2⟩ := addP_len (it := itemP w) hs hl h0
    exact lines_len ws z y _ h1 h2 h
theorem parse_len (w : List UInt8) : (parseOf stepP w).1.es.length ≤ 400 := by
 unfold parseOf
 split
 ·simp [none0]
 ·split
  ·simp [none0]
  ·rename_i x hx
   split
   ·simp [none0]
   ·exact lines_len _ none0 x 0 (by simp [none0]) (fun _ => rfl) hx
theorem text_pos (x : NetS) : 1 ≤ (textOf x).length := by
 simp [textOf,headText,netW]
theorem u8c_set (l : List UInt8) (i : Nat) (h : i < l.length) (z : Int) (h0 : 0 ≤ z) (h1 : z < 256) : splice (u8c l) i [.int .u8 z] = u8c (l.set i (UInt8.ofNat z.toNat)) := by
 have hz : ((UInt8.ofNat z.toNat).toNat : Int) = z := by simp; omega
 apply List.ext_getElem?
 intro j
 have hlen : i + [AVal.int .u8 z].length ≤ (u8c l).length := by rw [u8c_length]; simp; omega
 unfold splice
 rw [splice_get _ _ _ _ hlen]
 simp only [u8c,List.getElem?_map,List.length_cons,List.length_nil,Nat.zero_add]
 by_cases hji : j = i
 ·subst hji
  rw [if_pos ⟨Nat.le_refl _,by omega⟩,Nat.sub_self,List.getElem?_set_self h]
  simp only [List.getElem?_cons_zero,Option.map_some]
  rw [hz]
 ·rw [if_neg (by omega),List.getElem?_set_ne (fun e => hji e.symm)]
theorem row_of {H : AHeap} {id : Nat} {cap : ACap} {l : List UInt8} (hid : id < H.next) (ho : H.obj id = some (.cells (u8c l) true)) : Row H (.slice id 0 l.length cap) 1 (u8c l) :=
 .mk (c := u8c l) hid (by rw [cells?_of,ho]; rfl) (by rw [u8c_length]; omega) (by rw [List.drop_zero,Nat.mul_one]; exact List.take_of_length_le (by rw [u8c_length]; omega))
set_option maxRecDepth 20000 in
set_option maxHeartbeats 8000000 in
theorem netReads_ret {size pt by_ cut : Int} {ns : AVal} {xs : List Int} {more raw : List UInt8} {H : AHeap} {Q : AVal → AHeap → Prop} (hsize : I64 size) (hr : Row H ns 1 (ints xs)) (hx : ∀ x ∈ xs,I64 x) (hx2 : xs.length ≤ 9223372036854775807) (hpt : I64 pt) (hby : 0 ≤ by_ ∧ by_ < 256) (hcut : I64 cut)
  (hmore : more.length ≤ 9223372036854775807) (hraw : raw.length ≤ 9223372036854775807) (hq : ∀ H',Q (.bool true) H') : Ret A 4 [.int .i64 size,ns,.int .i64 pt,.int .u8 by_,.int .i64 cut,.str (bs more),.str (bs raw)] H Q := by
 refine Ret.of (fn := F4) rfl ?_
 simp (disch := first | omega | (simp only [next_new,next_upd] <;> omega) | fail) only [vai,vaim,vaic,vas,bots,Bool.not_true,Bool.not_false,decide_true,decide_false,wrap64,F4,Nat.reduceAdd,Nat.reduceMul,Nat.reduceLeDiff,Nat.reduceEqDiff,↓reduceIte]
 refine known_ret fun H1 k1 => ?_
 by_cases c1 : (100 : Int) < more.length
 ·simp (disch := first | omega | (simp only [next_new,next_upd] <;> omega) | fail) only [vai,vaim,vaic,vas,bots,Bool.not_true,Bool.not_false,decide_true,decide_false,wrap64,c1,decide_true,Nat.reduceAdd,Nat.reduceMul,Nat.reduceLeDiff,Nat.reduceEqDiff,↓reduceIte]
  exact hq _
 by_cases c2 : (500 : Int) < raw.length
 ·simp (disch := first | omega | (simp only [next_new,next_upd] <;> omega) | fail) only [vai,vaim,vaic,vas,bots,Bool.not_true,Bool.not_false,decide_true,decide_false,wrap64,c1,c2,decide_true,decide_false,Nat.reduceAdd,Nat.reduceMul,Nat.reduceLeDiff,Nat.reduceEqDiff,↓reduceIte]
  exact hq _
 simp (disch := first | omega | (simp only [next_new,next_upd] <;> omega) | fail) only [vai,vaim,vaic,vas,bots,Bool.not_true,Bool.not_false,decide_true,decide_false,wrap64,c1,c2,decide_false,Nat.reduceAdd,Nat.reduceMul,Nat.reduceLeDiff,Nat.reduceEqDiff,↓reduceIte]
 refine make_ret (hr.kept k1) hx hx2 fun ev H2 k2 g2 => ?_
 simp (disch := first | omega | (simp only [next_new,next_upd] <;> omega) | fail) only [vai,vaim,vaic,vas,bots,Bool.not_true,Bool.not_false,decide_true,decide_false,wrap64,Nat.reduceAdd,Nat.reduceMul,Nat.reduceLeDiff,Nat.reduceEqDiff,↓reduceIte]
 refine reftext_ret (x := mkNet size 2 xs) (mk_fits _ _ _) g2.row fun H3 k3 => ?_
 have hlen := text_len (mk_fits size 2 xs)
 have hpos := text_pos (mkNet size 2 xs)
 generalize textOf (mkNet size 2 xs) = S at *
 obtain ⟨j,hj⟩ : ∃ j : Nat,pt % (S.length : Int) = j := ⟨(pt % (S.length : Int)).toNat,by have := Int.emod_nonneg pt (show (S.length : Int) ≠ 0 by omega); omega⟩
 have hjl : j < S.length := by have := Int.emod_lt_of_pos pt (show 0 < (S.length : Int) by omega); omega
 simp (disch := first | omega | (simp only [next_new,next_upd] <;> omega) | fail) only [vai,vaim,vaic,vas,bots,Bool.not_true,Bool.not_false,decide_true,decide_false,wrap64,Nat.reduceAdd,Nat.reduceMul,Nat.reduceLeDiff,Nat.reduceEqDiff,↓reduceIte]
 refine within_ret rfl (by omega) (by omega) ?_
 have hb : (u8c S)[j]? = some (.int .u8 ((S[j].toNat : Nat) : Int)) := by simp [u8c,hjl]
 generalize S[j] = b at hb
 have hzb : 0 ≤ IntKind.u8.wrap ((b.toNat : Int) + by_) ∧ IntKind.u8.wrap ((b.toNat : Int) + by_) < 256 := by rw [wrapU8]; omega
 have hset := u8c_set S j hjl _ hzb.1 hzb.2
 generalize hS2 : S.set j (UInt8.ofNat (IntKind.u8.wrap ((b.toNat : Int) + by_)).toNat) = S2 at hset
 have hS2l : S2.length = S.length := by rw [← hS2,List.length_set]
 have hj1 : j + 1 ≤ S.length := by omega
 simp (disch := first | omega | (simp only [next_new,next_upd] <;> omega) | fail) only [vai,vaim,vaic,vas,bots,Bool.not_true,Bool.not_false,decide_true,decide_false,wrap64,hj,hb,hset,u8c_length,Int.toNat_natCast,hj1,Nat.reduceAdd,Nat.reduceMul,Nat.reduceLeDiff,Nat.reduceEqDiff,↓reduceIte]
 obtain ⟨k,hk⟩ : ∃ k : Nat,cut % ((S.length : Int) + 1) = k := ⟨(cut % ((S.length : Int) + 1)).toNat,by have := Int.emod_nonneg cut (show (S.length : Int) + 1 ≠ 0 by omega); omega⟩
 have hkl : k ≤ S.length := by have := Int.emod_lt_of_pos cut (show 0 < (S.length : Int) + 1 by omega); omega
 refine within_ret rfl (by omega) (by omega) ?_
 have r5 : Row ((H3.new (.cells (u8c S) true)).upd H3.next (some (.cells (u8c S2) true))) (.slice H3.next 0 S2.length (.room 1)) 1 (u8c S2) := row_of (by simp only [next_upd,next_new]; omega) (obj_upd_eq rfl)
 have hbs := row_str r5
 rw [hS2l] at hbs
 have q1 : (S.take k).length ≤ 9624 := by rw [List.length_take]; omega
 have q2 : (S.take k ++ more).length ≤ 9724 := by rw [List.length_append]; omega
 have q3 : (S.drop k).length ≤ 9624 := by rw [List.length_drop]; omega
 have q4 : ([10,10] : List UInt8).length = 2 := rfl
 have q5 : ([110,101,116,32,51,10] : List UInt8).length = 6 := rfl
 simp (maxSteps := 2000000) (disch := first | omega | (simp only [next_new,next_upd] <;> omega) | fail) only [vai,vaim,vaic,vas,bots,Bool.not_true,Bool.not_false,decide_true,decide_false,wrap64,hk,hbs,Nat.reduceAdd,Nat.reduceMul,Nat.reduceLeDiff,Nat.reduceEqDiff,↓reduceIte]
 have hLs : ∃ Ls : List (List UInt8),Ls = [S2,S.take k,S.take k ++ more ++ S.drop k,raw,10 :: 10 :: S,S ++ raw,110 :: 101 :: 116 :: 32 :: 51 :: 10 :: raw,S ++ S] := ⟨_,rfl⟩
 obtain ⟨Ls,hLs⟩ := hLs
 have hst : [AVal.str (bs S2),.str (bs (S.take k)),.str (bs (S.take k ++ more ++ S.drop k)),.str (bs raw),.str (bs (10 :: 10 :: S)),.str (bs (S ++ raw)),.str (bs (110 :: 101 :: 116 :: 32 :: 51 :: 10 :: raw)),.str (bs (S ++ S))] = strs Ls := by rw [hLs]; rfl
 have h8 : Ls.length = 8 := by rw [hLs]; rfl
 rw [hst]
 refine wpx_loop (fun m t H' => ∃ (i : Nat),m = 8 - i ∧ i ≤ 8 ∧ t = (bots 18 (.slice (H3.next + 1) 0 8 (.exact 8) :: .int .i64 i :: bots 101 ([])) : Tmps) ∧ H'.obj (H3.next + 1) = some (.cells (strs Ls) true) ∧ H3.next + 2 ≤ H'.next) 8 ?_ ?_
 ·exact ⟨0,rfl,by omega,rfl,by simp (disch := first | omega | (simp only [next_new,next_upd] <;> omega) | fail) only [vaim],(by first | omega | (simp only [next_new,next_upd]; omega))⟩
 ·rintro m t H' ⟨i,rfl,hi,rfl,o,hn⟩
  by_cases hc : (i : Int) < 8
  ·have hsi : (strs Ls)[i]? = some (.str (bs Ls[i])) := by simp [strs,show i < Ls.length by omega]
   generalize Ls[i] = w at hsi
   have n8 : ((8 : Nat) : Int) = 8 := rfl
   simp (disch := first | omega | (simp only [next_new,next_upd] <;> omega) | fail) only [vai,vaim,vaic,vas,bots,Bool.not_true,Bool.not_false,decide_true,decide_false,wrap64,n8,hc,decide_true,o,hsi,Int.toNat_natCast,Nat.reduceAdd,Nat.reduceMul,Nat.reduceLeDiff,Nat.reduceEqDiff,↓reduceIte]
   refine parse_ret (s := w) fun ev1 H7 k7 g7 => ?_
   have n7 := k7.next
   have o7 := (k7.old (i := H3.next + 1) (by omega)).trans o
   have cv1 := g7.cells
   simp (disch := first | omega | (simp only [next_new,next_upd] <;> omega) | fail) only [vai,vaim,vaic,vas,bots,Bool.not_true,Bool.not_false,decide_true,decide_false,wrap64,cv1,o7,hsi,Int.toNat_natCast,Nat.reduceAdd,Nat.reduceMul,Nat.reduceLeDiff,Nat.reduceEqDiff,↓reduceIte]
   refine refparse_ret (s := w) fun ev2 H9 k9 g9 => ?_
   have n9 := k9.next
   simp only [next_upd,next_new] at n9
   rw [← parse_eq] at g9 ⊢
   have hR4 := parse_len w
   generalize parseOf stepP w = R at *
   have o9 : H9.obj (H3.next + 1) = some (.cells (strs Ls) true) := by
    rw [k9.old (by first | omega | (simp only [next_new,next_upd]; omega)),obj_upd_ne (by omega),obj_new_ne (by omega)]; exact o7
   have e9 : H9.obj H7.next = some (.cells [.int .i64 R.1.n,ev1] true) := (k9.old (by first | omega | (simp only [next_new,next_upd]; omega))).trans (obj_upd_eq rfl)
   have cv2 := g9.cells
   have hd1 : decide (R.2.2 ≠ R.2.2) = false := decide_eq_false (fun h => h rfl)
   have hd2 : decide (((R.2.1 : Nat) : Int) ≠ ((R.2.1 : Nat) : Int)) = false := decide_eq_false (fun h => h rfl)
   simp (disch := first | omega | (simp only [next_new,next_upd] <;> omega) | fail) only [vai,vaim,vaic,vas,bots,Bool.not_true,Bool.not_false,decide_true,decide_false,wrap64,cv2,hd1,hd2,e9,Nat.reduceAdd,Nat.reduceMul,Nat.reduceLeDiff,Nat.reduceEqDiff,↓reduceIte]
   have kA : Keep Nothing H7 ((H7.new (.cells [.int .i64 0,.nilSlice] true)).upd H7.next (some (.cells [.int .i64 R.1.n,ev1] true))) := ((Keep.refl _ _).new _).upd (.inl (Nat.le_refl _)) _
   have kB : Keep Nothing H9 ((H9.new (.cells [.int .i64 0,.nilSlice] true)).upd H9.next (some (.cells [.int .i64 R.1.n,ev2] true))) := ((Keep.refl _ _).new _).upd (.inl (Nat.le_refl _)) _
   refine same_ret (g7.row.kept (kA.trans (k9.trans kB))) (g9.row.kept kB) (by omega) fun b H10 k10 s10 => ?_
   have hb10 : b = true := s10.2 ⟨rfl,rfl⟩
   subst hb10
   have n10 := k10.next
   simp only [next_upd,next_new] at n10
   simp (disch := first | omega | (simp only [next_new,next_upd] <;> omega) | fail) only [vai,vaim,vaic,vas,bots,Bool.not_true,Bool.not_false,decide_true,decide_false,wrap64,Nat.reduceAdd,Nat.reduceMul,Nat.reduceLeDiff,Nat.reduceEqDiff,↓reduceIte]
   refine ⟨8 - (i + 1),by omega,i + 1,rfl,by omega,rfl,?_,by omega⟩
   rw [k10.old (by first | omega | (simp only [next_new,next_upd]; omega)),obj_upd_ne (by omega),obj_new_ne (by omega)]
   exact o9
  ·have n8 : ((8 : Nat) : Int) = 8 := rfl
   simp (disch := first | omega | (simp only [next_new,next_upd] <;> omega) | fail) only [vai,vaim,vaic,vas,bots,Bool.not_true,Bool.not_false,decide_true,decide_false,wrap64,n8,hc,decide_false,Nat.reduceAdd,Nat.reduceMul,Nat.reduceLeDiff,Nat.reduceEqDiff,↓reduceIte]
   exact hq _
end Go.Proofs.YtknhlpmmalcchaaDoor

/- Closed facts of the program: what its head says,read as a list of signs (the kernel is slow at a long text's own signs). -/
namespace Go.Proofs.YtknhlpmmalcchaaDoor
open Go Go.ChangeShapes Go.WideShapes Go.ChangeAt Go.RowKit
set_option maxRecDepth 100000
def headSigns : List Char := List.map Char.ofNat [104,97,114,110,101,115,115,32,100,56,52,52,54,101,57,49,48,51,57,48,50,102,56,55,52,52,97,54,55,56,100,53,55,49,56,99,53,101,53,98,51,101,100,101,57,48,48,55,99,57,56,49,97,98,102,52,100,52,54,49,57,100,50,97,57,97,102,53,102,54,51,56,32,99,117,116,32,97,116,32,109,105,108,101,115,116,111,110,101,47,109,105,108,101,115,116,111,110,101,108,97,119,49,46,78,101,116,67,104,101,99,107,115,32,109,105,108,101,115,116,111,110,101,47,109,105,108,101,115,116,111,110,101,108,97,119,49,46,78,101,116,82,101,97,100,115,32,109,105,108,101,115,116,111,110,101,47,109,105,108,101,115,116,111,110,101,108,97,119,49,46,78,101,116,75,110,111,119,110,32,109,105,108,101,115,116,111,110,101,47,109,105,108,101,115,116,111,110,101,108,97,119,49,46,78,101,116,76,105,109,105,116,115,32,109,105,108,101,115,116,111,110,101,47,109,105,108,101,115,116,111,110,101,108,97,119,49,46,78,101,116,87,97,108,107,115,32,109,105,108,101,115,116,111,110,101,47,109,105,108,101,115,116,111,110,101,108,97,119,49,46,78,101,116,74,111,105,110,115,32,109,105,108,101,115,116,111,110,101,47,109,105,108,101,115,116,111,110,101,108,97,119,49,46,78,101,116,67,111,115,116,115,32,109,105,108,101,115,116,111,110,101,47,109,105,108,101,115,116,111,110,101,108,97,119,49,46,78,101,116,66,97,99,107,32,109,105,108,101,115,116,111,110,101,47,109,105,108,101,115,116,111,110,101,108,97,119,49,46,78,101,116,76,105,110,101,115,32,109,105,108,101,115,116,111,110,101,47,109,105,108,101,115,116,111,110,101,108,97,119,49,46,78,101,116,65,112,97,114,116]
theorem head_eq : Tryd.prog.initOrder = String.ofList headSigns := by kernel_rfl
theorem head_list : Tryd.prog.initOrder.toList = headSigns := by rw [head_eq,String.toList_ofList]
theorem head_words : ∃ rest,behindMainWord (wordsSigns headSigns) = "cut".toList :: rest := ⟨(behindMainWord (wordsSigns headSigns)).tail,by kernel_rfl⟩
theorem strip_cut (rest : List (List Char)) : stripLifts liftWords ("cut".toList :: rest) = ([],"cut".toList :: rest) := by kernel_rfl
theorem ne1 : ("cut".toList == "gc".toList) = false := by kernel_rfl
theorem ne2 : ("cut".toList == "spec".toList) = false := by kernel_rfl
theorem ne3 : ("cut".toList == "carried".toList) = false := by kernel_rfl
theorem words_of : ∃ rest,behindMainWord (wordsSigns Tryd.prog.initOrder.toList) = "cut".toList :: rest := by
 obtain ⟨rest,h⟩ := head_words
 exact ⟨rest,(congrArg (fun l => behindMainWord (wordsSigns l)) head_list).trans h⟩
theorem make_of (P : Program) (rest : List (List Char)) (h : behindMainWord (wordsSigns P.initOrder.toList) = "cut".toList :: rest) : P.make = some .cut := by
 unfold Program.make
 rw [h]
 simp only [ne1,ne2,beq_self_eq_true,Bool.false_or,Bool.true_or,Bool.or_self,Bool.false_eq_true,if_true,if_false]
theorem lifts_of (P : Program) (rest : List (List Char)) (h : behindMainWord (wordsSigns P.initOrder.toList) = "cut".toList :: rest) : P.liftsFinal = false := by
 unfold Program.liftsFinal Program.headLifts
 rw [h]
 have e : ((some "cut".toList : Option (List Char)) == some "carried".toList) = false := by kernel_rfl
 simp only [strip_cut,List.head?_cons,beq_self_eq_true,if_true,e,Bool.false_and,Bool.false_or]
 rfl
theorem enter_of (P : Program) (rest : List (List Char)) (h : behindMainWord (wordsSigns P.initOrder.toList) = "cut".toList :: rest) (h1 : P.laysLater = false) (h2 : P.bearsReflect = false) (h3 : P.doorFits [] = true) : P.mayEnter = true := by
 unfold Program.mayEnter
 rw [h]
 simp only [strip_cut,ne1,ne2,ne3,h1,h2,h3,List.head?_cons,beq_self_eq_true,Bool.false_or,Bool.or_false,Bool.false_and,Bool.true_and,Bool.and_true,Bool.not_false,Bool.or_true,List.contains_nil]
theorem fact_make : Tryd.prog.make = some .cut := by
 obtain ⟨rest,h⟩ := words_of
 exact make_of _ _ h
theorem fact_lifts : Tryd.prog.liftsFinal = false := by
 obtain ⟨rest,h⟩ := words_of
 exact lifts_of _ _ h
theorem fact_later : Tryd.prog.laysLater = false := by kernel_rfl
theorem fact_reflect : Tryd.prog.bearsReflect = false := by kernel_rfl
theorem fact_door : Tryd.prog.doorFits [] = true := by kernel_rfl
theorem fact_enter : Tryd.prog.mayEnter = true := by
 obtain ⟨rest,h⟩ := words_of
 exact enter_of _ _ h fact_later fact_reflect fact_door
theorem fact_laid : laidOutB Tryd.prog = true := by kernel_rfl
theorem fact_maps : mapsRowed Tryd.prog = true := by kernel_rfl
theorem fact_heard : Tryd.prog.stopsHeard = true := by kernel_rfl
theorem own : ownKnob Tryd.prog.godebug = none := by kernel_rfl
theorem follows : Tryd.prog.follows .mixedOrders = true := by kernel_rfl
end Go.Proofs.YtknhlpmmalcchaaDoor

/- What the rows' condition gives of the package variables at the start; the builder that hands both it and the world's shape to the contract. -/
namespace Go
variable {H : Type} {enc : TypeId × Value → H}
theorem returnsInHanded_of_change_both {a : Assume} {C : Checked} {os : Os} {f : FuncId} {fn : Func} {s : ChangeSpec} {conds : List PathCond} {apart fresh handsOn again : Bool} {X : World → Array Value → Prop}
  (hX : ∀ (w w' : World) (args : Array Value),w.heap = w'.heap → X w args → X w' args)
  (own : ownKnob C.prog.godebug = none) (started : os.Started) (noInit : C.prog.inits.idxOf? f = none) (hfn : C.prog.funcs[f]? = some fn)
  (witness : ∃ (w : World) (tape : Tape) (i : Input),w.os = os ∧ (w.forCall tape i).Shaped C.prog ∧ i.vars = [] ∧ Input.okWide C.prog (w.forCall tape i) .any w.heap.size f i ∧
   ((s.pre enc C.prog fn conds apart (w.forCall tape i).memory i.args ∧ X (w.forCall tape i).memory i.args) ∧ sizedMet enc C.prog fn (OpenSpec.ofChange s) apart (w.forCall tape i).memory i.args) ∧ a.holds C.prog (lone (Frame.enter C.prog f i.args .normal) [] (w.forCall tape i)))
  (contract : ∀ (W : World) (base : Nat) (args : Array Value) (ds gs : List (DataW H)) (before : List MemPlace),
   (∀ (j : Nat) t v,fn.params[j]? = some t → args[j]? = some v → Value.okWide C.prog W .any base t v) →
   DataW.Whole enc C.prog fn.params.toList s.vars apart W args.toList ds gs before →
   X W args → W.ShapedOpen C.prog →
   Calls C.prog f args W fun e W' => ∃ v,e = .returned v ∧ s.post enc C.prog fn apart fresh handsOn again W args v W') :
  ReturnsInHanded a C os f .any (fun w args => (s.pre enc C.prog fn conds apart w args ∧ X w args) ∧ sizedMet enc C.prog fn (OpenSpec.ofChange s) apart w args) (s.post enc C.prog fn apart fresh handsOn again) := by
 refine returnsInHanded_of_calls own started noInit witness ?_
 intro w tape i _ hsh _ hok hpre hholds
 obtain ⟨_,_,_,fn',hfn',_,_,_,_,hval⟩ := hok
 have e : fn' = fn := Option.some.inj (hfn'.symm.trans hfn)
 subst e
 obtain ⟨⟨⟨ds,gs,before,hw,hc⟩,hx⟩,hz⟩ := hpre
 have hw' := DataW.Whole.of_heap (w' := w.forCall tape i) (by rfl) hw
 refine (contract (w.forCall tape i) w.heap.size i.args ds gs before hval hw' (hX _ _ _ (by rfl) hx) hsh).mono fun e W' ⟨v,he,hp⟩ => ?_
 subst he
 exact ChangeSpec.post_blind hp
end Go
namespace Go.Proofs.YtknhlpmmalcchaaDoor
open Go Go.VAI Go.ChangeShapes Go.WideShapes Go.ChangeAt Go.RowKit
set_option linter.unusedVariables false
set_option linter.unusedSimpArgs false
def laidD : List (String × DataW Unit) := Rows.netKnownRow.laid
theorem laidD_plain : (laidD.all fun x => x.2.handleName?.isNone) = true := by kernel_rfl
theorem pow_data : (Rows.laid_internal_strconv_uint64pow10 : DataW Unit) = Lib.tabData .u64 Lib.pow10Tab := by kernel_rfl
theorem gErrR : Tryd.prog.globalNamed "strconv.ErrRange" = some 5 := by kernel_rfl
theorem gErrS : Tryd.prog.globalNamed "strconv.ErrSyntax" = some 4 := by kernel_rfl
theorem tPow : (Tryd.prog.globals[1]?).map (·.type) = some 108 := by kernel_rfl
theorem tErrR : (Tryd.prog.globals[5]?).map (·.type) = some 71 := by kernel_rfl
theorem tErrS : (Tryd.prog.globals[4]?).map (·.type) = some 71 := by kernel_rfl
theorem cellsPow : Tryd.prog.cellsOf 108 = 20 := by kernel_rfl
theorem iface_of_trod {P : Program} {w : World} {base : Nat} {sp : Nat → Bool} {held : Bool} {fuel : Nat} {t : TypeId} {ms : Array (String × TypeId)} {cs : List Value} {x : DataW Unit × List MemPlace} {enc : TypeId × Value → Unit}
  (ht : P.underlying t = some (.interface ms)) (h : DataW.trod enc P w base sp held fuel t cs = some x) : ∃ v,cs = [v] ∧ (v = .nilIface ∨ ∃ te pe,v = .iface te pe) := by
 cases fuel with
 | zero => simp [DataW.trod] at h
 | succ fuel =>
  match cs,h with
  | [],h => simp [DataW.trod,ht] at h
  | [v],h =>
   refine ⟨v,rfl,?_⟩
   cases v <;> first
    | exact .inl rfl
    | exact .inr ⟨_,_,rfl⟩
    | (exfalso; simp [DataW.trod,ht] at h)
  | _ :: _ :: _,h => simp [DataW.trod,ht] at h
set_option maxRecDepth 100000 in
theorem glob_of_laid {W : World} (h : laidMetH Tryd.prog laidD W) (hs : W.ShapedOpen Tryd.prog) : Glob W := by
 rw [MakeChecks.laidMetH_plain _ _ _ laidD_plain] at h
 obtain ⟨ps,⟨_,_,_,_,_,_,_,_,_,_,⟨_,_,_,_,_,_,_,_,_,_,⟨g,t,cs,fuel,p,q,hg,ht,hv,hd,⟨_,_,_,_,_,_,_,_,_,_,⟨g5,t5,cs5,f5,p5,q5,hg5,ht5,hv5,hd5,⟨g4,t4,cs4,f4,p4,q4,hg4,ht4,hv4,hd4,_,_⟩,_⟩,_⟩,_⟩,_⟩,_⟩,_,_⟩ := h
 obtain rfl := Option.some.inj (gPow.symm.trans hg)
 obtain rfl := Option.some.inj (tPow.symm.trans ht)
 obtain rfl := Option.some.inj (gErrR.symm.trans hg5)
 obtain rfl := Option.some.inj (tErrR.symm.trans ht5)
 obtain rfl := Option.some.inj (gErrS.symm.trans hg4)
 obtain rfl := Option.some.inj (tErrS.symm.trans ht4)
 have iface : ∀ (n : String) (b : Nat) (cs : Array Value) x fuel,Tryd.prog.globalNamed n = some b → W.var? Tryd.prog n = some cs → DataW.trod (fun _ => ()) Tryd.prog W 0 (fun _ => true) false fuel 71 cs.toList = some x → IfaceAt W b := fun n b cs x fuel hg hv hd => by
  obtain ⟨v,e1,e2⟩ := iface_of_trod Tryd.underlying71 hd
  refine ⟨v,?_,e2⟩
  have := World.var?_cell hg hv 0
  rw [this,← Array.getElem?_toList,e1]
  rfl
 refine ⟨Tryd.split.s1_3 W hs,?_,?_,?_⟩
 ·rw [pow_data] at hd
  have e := Lib.cells_of_tab Tryd.underlying108 Tryd.underlying93 (by kernel_rfl) cellsPow hd
  have hv' : World.var? Tryd.prog W powName = some cs := hv
  unfold World.var? at hv'
  rw [gPow] at hv'
  simp only [Option.bind_some] at hv'
  split at hv'
  ·rename_i c E fz hb
   injection hv' with hv'
   subst hv'
   refine ⟨E,fz,?_⟩
   rw [hb,← pow_eq,← e]
  ·cases hv'
 ·exact iface _ 4 cs4 _ f4 gErrS hv4 hd4
 ·exact iface _ 5 cs5 _ f5 gErrR hv5 hd5
end Go.Proofs.YtknhlpmmalcchaaDoor
