/- Steps of the walk. -/
import Derived.Test.YtknhlpmmalcchaaDoorJ3Ta
import Derived.Test.YtknhlpmmalcchaaDoorJ3Vba
import Derived.Test.YtknhlpmmalcchaaDoorJ3Vca
import Derived.Test.YtknhlpmmalcchaaDoorRows
import Derived.ProofKit
import Derived.Test.YtknhlpmmalcchaaDoorTie
import Derived.HandedShaped
import Derived.LaidMore
import Derived.Lay
import Derived.Lib.LaidTab
import Derived.Stop.Joined
set_option linter.all false
set_option linter.unusedVariables false
set_option linter.unusedSimpArgs false
namespace Go.Proofs.YtknhlpmmalcchaaDoor
open Go Go.VAI
set_option linter.unusedSimpArgs false

theorem append_nil_ret {lo : Nat} {ev : AVal} {es : List Edge} {H : AHeap} {W : AVal → AHeap → Prop} (hg : Grown lo H ev 4 (edgeCells es)) (hlen : es.length ≤ 400)
  (hW : ∀ v' H',H.next ≤ H'.next → (∀ j,j < H.next → H'.obj j = H.obj j) → Grown H.next H' v' 4 (edgeCells es) → W v' H') : atResult (aappend H 4 32 .nilSlice ev) W := by
 have hl := edgeCells_length es
 generalize edgeCells es = cs at *
 cases hg with
 | nil => exact hW .nilSlice H (Nat.le_refl _) (fun _ _ => rfl) .nil
 | @mk id len _ _ hlo hhi ho hlen2 =>
  have ht : taken H 4 (.slice id 0 len (.room 4)) = some (len,cs) := taken_one (by rw [cells?_of,ho]; rfl) hlen2
  by_cases h0 : len = 0
  ·have e : aappend H 4 32 .nilSlice (.slice id 0 len (.room 4)) = some (.nilSlice,H) := by
    simp only [aappend,ht,bnd]
    rw [if_pos h0]
   rw [e]
   have : cs = [] := List.eq_nil_of_length_eq_zero (by omega)
   subst this
   exact hW .nilSlice H (Nat.le_refl _) (fun _ _ => rfl) .nil
  ·have e : aappend H 4 32 .nilSlice (.slice id 0 len (.room 4)) = some (.slice H.next 0 len (.room 4),H.new (.cells cs true)) := by
    simp only [aappend,ht,bnd]
    rw [if_neg h0,if_pos ⟨by omega,by omega⟩]
   rw [e]
   exact hW _ _ (by simp only [next_new]; omega) (fun j hj => obj_new_ne (by omega)) (.mk (Nat.le_refl _) (by simp only [next_new]; omega) (obj_new_eq rfl) hlen2)
theorem lines_cons (f : NetS → List UInt8 → Option NetS) (x : NetS) (k : Nat) (w : List UInt8) (ws : List (List UInt8)) : linesOf f x k (w :: ws) = if w = [] then linesOf f x (k + 1) ws else match f x w with
  | none => .inr (k + 1)
  | some y => linesOf f y (k + 1) ws := rfl
theorem addP_len {x y : NetS} {it : Item} (h : addP x it = some y) (hl : x.es.length ≤ 400) (h0 : x.n = 0 → x.es = []) : y.es.length ≤ 400 ∧ (y.n = 0 → y.es = []) := by
 cases it with
 | size k =>
  simp only [addP] at h
  split at h
  ·injection h with h; subst h
   exact ⟨hl,fun hk => by rename_i hh; have : k = 0 := hk; omega⟩
  ·cases h
 | edge e =>
  simp only [addP] at h
  split at h
  ·rename_i hh
   injection h with h; subst h
   exact ⟨by simp; omega,fun hk => absurd hk hh.1⟩
  ·cases h
 | no => cases h
theorem parse_long {f : NetS → List UInt8 → Option NetS} {s : List UInt8} (h : 60000 < s.length) : parseOf f s = (none0,0,2) := by
 unfold parseOf
 rw [if_pos h]
theorem parse_bad {f : NetS → List UInt8 → Option NetS} {s : List UInt8} {k : Nat} (h : ¬ 60000 < s.length) (hl : linesOf f none0 0 (cutAt 10 s) = .inr k) : parseOf f s = (none0,k,2) := by
 unfold parseOf
 rw [if_neg h,hl]
theorem parse_zero {f : NetS → List UInt8 → Option NetS} {s : List UInt8} {x : NetS} (h : ¬ 60000 < s.length) (hl : linesOf f none0 0 (cutAt 10 s) = .inl x) (hx : x.n = 0) : parseOf f s = (none0,1,2) := by
 unfold parseOf
 rw [if_neg h,hl]
 simp only [if_pos hx]
theorem parse_good {f : NetS → List UInt8 → Option NetS} {s : List UInt8} {x : NetS} (h : ¬ 60000 < s.length) (hl : linesOf f none0 0 (cutAt 10 s) = .inl x) (hx : ¬ x.n = 0) : parseOf f s = (x,0,0) := by
 unfold parseOf
 rw [if_neg h,hl]
 simp only [if_neg hx]
set_option maxRecDepth 20000 in
set_option maxHeartbeats 2000000 in
theorem parse_ret {s : List UInt8} {H : AHeap} {Q : AVal → AHeap → Prop}
  (hq : ∀ ev H',Keep Nothing H H' → Grown H.next H' ev 4 (edgeCells (parseOf stepP s).1.es) → Q (.tuple [.agg [.int .i64 (parseOf stepP s).1.n,ev],.int .i64 ((parseOf stepP s).2.1 : Nat),.int .i64 (parseOf stepP s).2.2]) H') : Ret A 20 [.str (bs s)] H Q := by
 refine Ret.of (fn := F20) rfl ?_
 have p1 := @parse_long stepP s
 have p2 := @parse_bad stepP s
 have p3 := @parse_zero stepP s
 have p4 := @parse_good stepP s
 generalize parseOf stepP s = R at *
 by_cases hlen : (60000 : Int) < s.length
 ·have hR := p1 (by omega)
  subst hR
  simp (disch := first | omega | (simp only [next_new,next_upd] <;> omega) | fail) only [vai,vaim,vaic,vas,bots,Bool.not_true,Bool.not_false,decide_true,decide_false,wrap64,F20,hlen,decide_true,Nat.reduceAdd,Nat.reduceMul,Nat.reduceLeDiff,Nat.reduceEqDiff,↓reduceIte]
  exact hq .nilSlice _ (((Keep.refl _ _).new _).upd (.inl (by omega)) _) .nil
 simp (disch := first | omega | (simp only [next_new,next_upd] <;> omega) | fail) only [vai,vaim,vaic,vas,bots,Bool.not_true,Bool.not_false,decide_true,decide_false,wrap64,F20,hlen,decide_false,Nat.reduceAdd,Nat.reduceMul,Nat.reduceLeDiff,Nat.reduceEqDiff,↓reduceIte]
 refine split_ret (by omega) ?_
 have hle := cutAt_le 10 s
 have hLl : (cutAt 10 s).length ≤ 60001 := by
  rw [cutAt_len]
  have := List.count_le_length (a := (10 : UInt8)) (l := s)
  omega
 generalize cutAt 10 s = L at *
 simp (disch := first | omega | (simp only [next_new,next_upd] <;> omega) | fail) only [vai,vaim,vaic,vas,bots,Bool.not_true,Bool.not_false,decide_true,decide_false,wrap64,Nat.reduceAdd,Nat.reduceMul,Nat.reduceLeDiff,Nat.reduceEqDiff,↓reduceIte]
 refine wpx_loop (fun m t H' => ∃ (i : Nat) (x : NetS) (ev : AVal),m = L.length - i ∧ i ≤ L.length ∧ t = (bots 2 (.ptr H.next 0 :: bots 9 (.slice (H.next + 1) 0 L.length (.exact L.length) :: .int .i64 L.length :: .int .i64 i :: bots 25 ([]))) : Tmps) ∧ Keep Nothing H H' ∧ H.next + 2 ≤ H'.next ∧
  H'.obj H.next = some (.cells [.int .i64 x.n,ev] true) ∧ H'.obj (H.next + 1) = some (.cells (strs L) true) ∧ Grown (H.next + 2) H' ev 4 (edgeCells x.es) ∧ Small x ∧ (x.n = 0 → x.es = []) ∧ x.es.length ≤ 400 ∧ linesOf stepP none0 0 L = linesOf stepP x i (L.drop i)) L.length ?_ ?_
 ·refine ⟨0,none0,.nilSlice,rfl,by omega,rfl,((Keep.refl _ _).new _).new _,(by first | omega | (simp only [next_new,next_upd]; omega)),?_,?_,.nil,small0,fun _ => rfl,by simp [none0],rfl⟩
  ·simp (disch := first | omega | (simp only [next_new,next_upd] <;> omega) | fail) only [vaim]; rfl
  ·simp (disch := first | omega | (simp only [next_new,next_upd] <;> omega) | fail) only [vaim]
 ·rintro m t H1 ⟨i,x,ev,rfl,hi,rfl,k1,hn1,o1,o2,hg,hsm,h0,hl4,hlin⟩
  by_cases hc : (i : Int) < L.length
  ·have hil : i < L.length := by omega
   have hd : L.drop i = L[i] :: L.drop (i + 1) := List.drop_eq_getElem_cons hil
   have hw := hle L[i] (List.getElem_mem hil)
   have hs : (strs L)[i]? = some (.str (bs L[i])) := by simp [strs,hil]
   rw [hd] at hlin
   generalize L[i] = w at *
   rw [lines_cons] at hlin
   by_cases hw0 : w = []
   ·rw [if_pos hw0] at hlin
    simp (disch := first | omega | (simp only [next_new,next_upd] <;> omega) | fail) only [vai,vaim,vaic,vas,bots,Bool.not_true,Bool.not_false,decide_true,decide_false,wrap64,hc,decide_true,o2,hs,hw0,Int.toNat_natCast,ne_eq,not_true_eq_false,decide_false,Nat.reduceAdd,Nat.reduceMul,Nat.reduceLeDiff,Nat.reduceEqDiff,↓reduceIte]
    refine ⟨L.length - (i + 1),by omega,i + 1,x,ev,rfl,by omega,rfl,k1,hn1,o1,hg,hsm,h0,hl4,hlin⟩
   ·rw [if_neg hw0] at hlin
    simp (disch := first | omega | (simp only [next_new,next_upd] <;> omega) | fail) only [vai,vaim,vaic,vas,bots,Bool.not_true,Bool.not_false,decide_true,decide_false,wrap64,hc,decide_true,o2,hs,hw0,Int.toNat_natCast,ne_eq,not_false_eq_true,Nat.reduceAdd,Nat.reduceMul,Nat.reduceLeDiff,Nat.reduceEqDiff,↓reduceIte]
    refine line_ret (by omega) fun H2 k2 => ?_
    have n2 := k2.next
    simp (disch := first | omega | (simp only [next_new,next_upd] <;> omega) | fail) only [vai,vaim,vaic,vas,bots,Bool.not_true,Bool.not_false,decide_true,decide_false,wrap64,Nat.reduceAdd,Nat.reduceMul,Nat.reduceLeDiff,Nat.reduceEqDiff,↓reduceIte]
    refine add_ret (lo := H.next + 2) (x := x) (by omega) (by omega) ((k2.old (by omega)).trans o1) (hg.keep n2 fun j h1 h2 => k2.old h2) h0 hl4 (fun hno H3 a b n3 k3 o3 => ?_) (fun y hyes H3 ev3 n3 k3 o3 g3 => ?_)
    ·have hst : stepP x w = none := hno
     rw [hst] at hlin
     simp only at hlin
     have hR := p2 (by omega) hlin
     subst hR
     simp (disch := first | omega | (simp only [next_new,next_upd] <;> omega) | fail) only [vai,vaim,vaic,vas,bots,Bool.not_true,Bool.not_false,decide_true,decide_false,wrap64,o3,Nat.reduceAdd,Nat.reduceMul,Nat.reduceLeDiff,Nat.reduceEqDiff,↓reduceIte]
     refine hq .nilSlice _ ?_ .nil
     refine Keep.upd ⟨by have := k1.next; omega,fun j hj hm => ?_⟩ (.inl (Nat.le_refl _)) _
     rw [k3 j (by omega) (by omega),k2.old (by omega)]
     exact k1.old hj
    ·have hst : stepP x w = some y := hyes
     rw [hst] at hlin
     simp only at hlin
     obtain ⟨q1,q2⟩ := addP_len hyes hl4 h0
     simp (disch := first | omega | (simp only [next_new,next_upd] <;> omega) | fail) only [vai,vaim,vaic,vas,bots,Bool.not_true,Bool.not_false,decide_true,decide_false,wrap64,Nat.reduceAdd,Nat.reduceMul,Nat.reduceLeDiff,Nat.reduceEqDiff,↓reduceIte]
     refine ⟨L.length - (i + 1),by omega,i + 1,y,ev3,rfl,by omega,rfl,⟨by have := k1.next; omega,fun j hj hm => ?_⟩,by omega,o3,?_,g3,stepP_small hsm hst,q2,q1,hlin⟩
     ·rw [k3 j (by omega) (by omega),k2.old (by omega)]
      exact k1.old hj
     ·rw [k3 _ (by omega) (by omega),k2.old (by omega)]
      exact o2
  ·have hiL : i = L.length := by omega
   rw [hiL,List.drop_length] at hlin
   have hlin2 : linesOf stepP none0 0 L = .inl x := hlin
   by_cases hx : x.n = 0
   ·have hR := p3 (by omega) hlin2 hx
    subst hR
    simp (disch := first | omega | (simp only [next_new,next_upd] <;> omega) | fail) only [vai,vaim,vaic,vas,bots,Bool.not_true,Bool.not_false,decide_true,decide_false,wrap64,hc,o1,hx,decide_true,decide_false,Nat.reduceAdd,Nat.reduceMul,Nat.reduceLeDiff,Nat.reduceEqDiff,↓reduceIte]
    exact hq .nilSlice _ (k1.upd (.inl (Nat.le_refl _)) _) .nil
   ·have hR := p4 (by omega) hlin2 hx
    subst hR
    simp (disch := first | omega | (simp only [next_new,next_upd] <;> omega) | fail) only [vai,vaim,vaic,vas,bots,Bool.not_true,Bool.not_false,decide_true,decide_false,wrap64,hc,o1,hx,decide_true,decide_false,Nat.reduceAdd,Nat.reduceMul,Nat.reduceLeDiff,Nat.reduceEqDiff,↓reduceIte]
    refine append_nil_ret hg hl4 fun v' H2 n2 k2 g2 => ?_
    have o3 := (k2 H.next (by omega)).trans o1
    have hcv := g2.cells
    simp (disch := first | omega | (simp only [next_new,next_upd] <;> omega) | fail) only [vai,vaim,vaic,vas,bots,Bool.not_true,Bool.not_false,decide_true,decide_false,wrap64,o3,hcv,Nat.reduceAdd,Nat.reduceMul,Nat.reduceLeDiff,Nat.reduceEqDiff,↓reduceIte]
    refine hq v' _ ?_ ?_
    ·refine Keep.upd (Keep.upd ⟨by have := k1.next; omega,fun j hj hm => (k2 j (by omega)).trans (k1.old hj)⟩ (.inl (Nat.le_refl _)) _) (.inl (Nat.le_refl _)) _
    ·exact ((g2.upd (by omega) _).upd (by omega) _).keep' ⟨by omega,Nat.le_refl _⟩ (fun _ _ _ => rfl)
end Go.Proofs.YtknhlpmmalcchaaDoor

namespace Go.Proofs.YtknhlpmmalcchaaDoor
open Go Go.VAI
set_option linter.unusedSimpArgs false

end Go.Proofs.YtknhlpmmalcchaaDoor

namespace Go.Proofs.YtknhlpmmalcchaaDoor
open Go Go.VAI
set_option linter.unusedSimpArgs false

def part (l : List UInt8) (a i : Nat) : List UInt8 := (l.drop a).take (i - a)
end Go.Proofs.YtknhlpmmalcchaaDoor

namespace Go.Proofs.YtknhlpmmalcchaaDoor
open Go Go.VAI
set_option linter.unusedSimpArgs false

end Go.Proofs.YtknhlpmmalcchaaDoor

namespace Go.Proofs.YtknhlpmmalcchaaDoor
open Go Go.VAI
set_option linter.unusedSimpArgs false

end Go.Proofs.YtknhlpmmalcchaaDoor

namespace Go.Proofs.YtknhlpmmalcchaaDoor
open Go Go.VAI
set_option linter.unusedSimpArgs false

end Go.Proofs.YtknhlpmmalcchaaDoor

namespace Go.Proofs.YtknhlpmmalcchaaDoor
open Go Go.VAI
set_option linter.unusedSimpArgs false

end Go.Proofs.YtknhlpmmalcchaaDoor

namespace Go.Proofs.YtknhlpmmalcchaaDoor
open Go Go.VAI
set_option linter.unusedSimpArgs false

def knownText : List UInt8 := [110,101,116,32,50,10,101,100,103,101,32,48,32,49,32,119,32,53,10]
theorem pk0 : parseOf stepP [] = (none0,1,2) := by rw [parse_eq]; rfl
theorem pk1 : parseOf stepP knownText = (⟨2,[⟨0,1,0,5⟩]⟩,0,0) := by rw [parse_eq]; kernel_rfl
theorem c1n : ((1 : Nat) : Int) = 1 := rfl
theorem c0n : ((0 : Nat) : Int) = 0 := rfl
set_option maxRecDepth 20000 in
set_option maxHeartbeats 1000000 in
theorem known_ret {H : AHeap} {Q : AVal → AHeap → Prop} (hq : ∀ H',Keep Nothing H H' → Q (.bool true) H') : Ret A 13 [] H Q := by
 refine Ret.of (fn := F13) rfl ?_
 simp (disch := first | omega | (simp only [next_new,next_upd] <;> omega) | fail) only [vai,vaim,vaic,vas,bots,Bool.not_true,Bool.not_false,decide_true,decide_false,wrap64,F13,Nat.reduceAdd,Nat.reduceMul,Nat.reduceLeDiff,Nat.reduceEqDiff,↓reduceIte]
 refine parse_ret (s := []) fun ev H1 k1 g1 => ?_
 rw [pk0] at g1
 rw [pk0]
 have n1 := k1.next
 have c1 := g1.cells
 simp (disch := first | omega | (simp only [next_new,next_upd] <;> omega) | fail) only [vai,vaim,vaic,vas,bots,Bool.not_true,Bool.not_false,decide_true,decide_false,wrap64,c1,Nat.reduceAdd,Nat.reduceMul,Nat.reduceLeDiff,Nat.reduceEqDiff,↓reduceIte]
 refine parse_ret (s := knownText) fun ev2 H2 k2 g2 => ?_
 rw [pk1] at g2
 rw [pk1]
 have n2 := k2.next
 simp only [next_upd,next_new] at n2
 have c2 := g2.cells
 have hl := g2.row.len (n := 1) (by omega) (by rw [edgeCells_length]; rfl)
 have hbe := g2.row.beq
 obtain ⟨id,off,e1,hid,_,_,_,e5,_⟩ := edge_at (i := 0) (e := ⟨0,1,0,5⟩) g2.row rfl
 have e1' : aindexAddrS 4 ev2 (.int .i64 0) = some (.ptr id off) := e1
 have kA : Keep Nothing H H2 := ((k1.new _).upd (.inl (by omega)) _).trans k2
 simp (disch := first | omega | (simp only [next_new,next_upd] <;> omega) | fail) only [vai,vaim,vaic,vas,bots,Bool.not_true,Bool.not_false,decide_true,decide_false,wrap64,c2,c1n,c0n,hl,e1',e5,Nat.reduceAdd,Nat.reduceMul,Nat.reduceLeDiff,Nat.reduceEqDiff,↓reduceIte]
 have kB : Keep Nothing H2 ((H2.new (.cells [.int .i64 0,.nilSlice] true)).upd H2.next (some (.cells [.int .i64 2,ev2] true))) := ((Keep.refl _ _).new _).upd (.inl (Nat.le_refl _)) _
 refine netcheck_ret (es := [⟨0,1,0,5⟩]) (g2.row.kept kB) fun b H3 k3 s3 => ?_
 have hb : b = true := s3.2 ⟨by omega,by omega,by simp,fun e he => by
  simp only [List.mem_singleton] at he
  subst he
  refine ⟨⟨?_,?_⟩,⟨?_,?_⟩,⟨?_,?_⟩,?_,?_⟩ <;> decide⟩
 subst hb
 simp (disch := first | omega | (simp only [next_new,next_upd] <;> omega) | fail) only [vai,vaim,vaic,vas,bots,Bool.not_true,Bool.not_false,decide_true,decide_false,wrap64,Nat.reduceAdd,Nat.reduceMul,Nat.reduceLeDiff,Nat.reduceEqDiff,↓reduceIte]
 exact hq _ ((kA.trans kB).trans k3)
end Go.Proofs.YtknhlpmmalcchaaDoor

namespace Go.Proofs.YtknhlpmmalcchaaDoor
open Go Go.VAI
set_option linter.unusedSimpArgs false

def mkNet (size modes : Int) (xs : List Int) : NetS := ⟨1 + size % 12,(xs.take 40).map (mkEdge (1 + size % 12) modes)⟩
theorem mkEdge_right {n modes k : Int} (h1 : 1 ≤ n) : rightB n (mkEdge n modes k) = true := by
 unfold rightB mkEdge
 rw [decide_eq_true_iff]
 simp only
 have a1 := Int.emod_nonneg k (show n ≠ 0 by omega)
 have a2 := Int.emod_lt_of_pos k (show 0 < n by omega)
 have b1 := Int.emod_nonneg (k.tdiv 13) (show n ≠ 0 by omega)
 have b2 := Int.emod_lt_of_pos (k.tdiv 13) (show 0 < n by omega)
 refine ⟨a1,a2,b1,b2,?_⟩
 refine ⟨?_,?_,?_,?_⟩
 ·split
  ·omega
  ·split <;> omega
 ·split
  ·omega
  ·split <;> omega
 ·split <;> omega
 ·split <;> omega
theorem mk_fits (size modes : Int) (xs : List Int) : Fits (mkNet size modes xs) := by
 refine ⟨?_,?_,?_,fun e he => ?_⟩
 ·show 1 ≤ 1 + size % 12
  omega
 ·show 1 + size % 12 ≤ 60
  omega
 ·show ((xs.take 40).map _).length ≤ 400
  rw [List.length_map,List.length_take]; omega
 ·obtain ⟨k,_,rfl⟩ := List.mem_map.1 he
  exact mkEdge_right (by show 1 ≤ 1 + size % 12; omega)
end Go.Proofs.YtknhlpmmalcchaaDoor

namespace Go.Proofs.YtknhlpmmalcchaaDoor
open Go Go.VAI
set_option linter.unusedSimpArgs false

def walkGo (es : List Edge) : Int → Int → List Int → List Int → Option (Int × Int × List Int)
 | a,c,w,[] => some (a,c,w)
 | a,c,w,i :: p => if i < 0 then none else match es[i.toNat]? with
  | none => none
  | some e => if e.src = a then walkGo es e.dst (c + e.cost) (w ++ [e.mode]) p else none
def walkOf (n : Int) (es : List Edge) (f t : Int) (p : List Int) : Option (Int × List Int) :=
 if (0 ≤ f ∧ f < n) ∧ (0 ≤ t ∧ t < n) then match walkGo es f 0 [] p with
  | none => none
  | some (a,c,w) => if a = t then some (c,w) else none
 else none
theorem walk_some {n : Int} {es : List Edge} {f t : Int} {p : List Int} {a c : Int} {w : List Int} (h1 : (0 ≤ f ∧ f < n) ∧ (0 ≤ t ∧ t < n)) (h : walkGo es f 0 [] p = some (a,c,w)) (ha : a = t) : walkOf n es f t p = some (c,w) := by
 unfold walkOf
 rw [h,if_pos h1]
 simp only [if_pos ha]
end Go.Proofs.YtknhlpmmalcchaaDoor

namespace Go.Proofs.YtknhlpmmalcchaaDoor
open Go Go.VAI
set_option linter.unusedSimpArgs false

end Go.Proofs.YtknhlpmmalcchaaDoor

namespace Go.Proofs.YtknhlpmmalcchaaDoor
open Go Go.VAI
set_option linter.unusedSimpArgs false

end Go.Proofs.YtknhlpmmalcchaaDoor

namespace Go.Proofs.YtknhlpmmalcchaaDoor
open Go Go.VAI
set_option linter.unusedSimpArgs false

def e5 (c : Int) (i : Nat) : Edge := ⟨0,0,i,c - i⟩
def q5 (i : Nat) : Int := ((i % 5 : Nat) : Int)
end Go.Proofs.YtknhlpmmalcchaaDoor

namespace Go.Proofs.YtknhlpmmalcchaaDoor
open Go Go.VAI
set_option linter.unusedSimpArgs false

end Go.Proofs.YtknhlpmmalcchaaDoor

namespace Go.Proofs.YtknhlpmmalcchaaDoor
open Go Go.VAI
set_option linter.unusedSimpArgs false

def Walked (n : Int) (es : List Edge) (f : Int) (l : List Int) (a : Int) : Prop := (∃ c w,walkGo es f 0 [] l = some (a,c,w)) ∧ 0 ≤ a ∧ a < n
theorem Walked.nil {n : Int} {es : List Edge} {f : Int} (h : 0 ≤ f ∧ f < n) : Walked n es f [] f := ⟨⟨0,[],rfl⟩,h⟩
theorem Walked.of {n : Int} {es : List Edge} {f a : Int} {l : List Int} (h : Walked n es f l a) (hf : 0 ≤ f ∧ f < n) : ∃ c w,walkGo es f 0 [] l = some (a,c,w) ∧ walkOf n es f a l = some (c,w) := by
 obtain ⟨⟨c,w,h⟩,ha⟩ := h
 exact ⟨c,w,h,walk_some ⟨hf,ha⟩ h rfl⟩

end Go.Proofs.YtknhlpmmalcchaaDoor

namespace Go.Proofs.YtknhlpmmalcchaaDoor
open Go Go.VAI
set_option linter.unusedSimpArgs false

def Rows4 (H : AHeap) (vs : List AVal) : Prop := vs.length = 4 ∧ ∀ v ∈ vs,∃ p : List Int,Row H v 1 (ints p) ∧ p.length ≤ 80
theorem Rows4.at {H : AHeap} {vs : List AVal} (h : Rows4 H vs) {i : Nat} (hi : i < 4) : ∃ v p,vs[i]? = some v ∧ Row H v 1 (ints p) ∧ p.length ≤ 80 := by
 have h4 := h.1
 obtain ⟨p,h1,h2⟩ := h.2 vs[i] (List.getElem_mem (by omega))
 exact ⟨vs[i],p,List.getElem?_eq_getElem (by omega),h1,h2⟩
end Go.Proofs.YtknhlpmmalcchaaDoor

namespace Go.Proofs.YtknhlpmmalcchaaDoor
open Go Go.VAI
set_option linter.unusedSimpArgs false

end Go.Proofs.YtknhlpmmalcchaaDoor

namespace Go.Proofs.YtknhlpmmalcchaaDoor
open Go Go.VAI
set_option linter.unusedSimpArgs false

end Go.Proofs.YtknhlpmmalcchaaDoor

namespace Go.Proofs.YtknhlpmmalcchaaDoor
open Go Go.VAI
set_option linter.unusedSimpArgs false

theorem says_eq {a b : Bool} {p : Prop} (h : Says a p) (k : Says b p) : a = b := by
 cases a <;> cases b
 ·rfl
 ·exact absurd (h.2 (k.1 rfl)) (by simp)
 ·exact absurd (k.2 (h.1 rfl)) (by simp)
 ·rfl
theorem agg_beq {n : Int} {v : AVal} (h : AVal.beq v v = true) : AVal.beq (.agg [.int .i64 n,v]) (.agg [.int .i64 n,v]) = true := by simp [AVal.beq,AVal.beqs,h]
theorem few_ret {n : Int} {ev : AVal} {es : List Edge} {H : AHeap} {Q : AVal → AHeap → Prop} (hr : Row H ev 4 (edgeCells es)) (hq : ∀ H',Keep Nothing H H' → Q (.bool (decide ((es.length : Int) ≤ 500))) H') : Ret A 14 [.agg [.int .i64 n,ev]] H Q := by
 refine Ret.of (fn := F14) rfl ?_
 have hl := hr.len (by omega) (edgeCells_length es)
 simp (disch := first | omega | (simp only [next_new,next_upd] <;> omega) | fail) only [vai,vaim,vaic,vas,bots,Bool.not_true,Bool.not_false,decide_true,decide_false,wrap64,F14,hl,Nat.reduceAdd,Nat.reduceMul,Nat.reduceLeDiff,Nat.reduceEqDiff,↓reduceIte]
 exact hq _ ((Keep.refl _ _).new _)
theorem grown_edge {lo : Nat} {H : AHeap} {v : AVal} {es : List Edge} (h : Grown lo H v 4 (edgeCells es)) {k : Nat} (hk : k < es.length) : ∃ id,v = .slice id 0 es.length (.room 4) ∧ lo ≤ id ∧ id < H.next ∧ H.obj id = some (.cells (edgeCells es) true) ∧ aindexAddrS 4 v (.int .i64 (k : Int)) = some (.ptr id (k * 4)) := by
 generalize hc : edgeCells es = cs at h
 cases h with
 | nil =>
  have := edgeCells_length es
  rw [hc] at this
  simp at this
  omega
 | @mk id len _ _ hlo hhi ho hlen =>
  have hl := edgeCells_length es
  rw [hc] at hl
  have : len = es.length := by omega
  subst this
  refine ⟨id,rfl,hlo,hhi,ho,?_⟩
  rw [aindexAddrS_slice ⟨by omega,by omega⟩]
  simp
theorem grown_upd {lo sz id : Nat} {H : AHeap} {v : AVal} {cs : List AVal} {o : Option AObj} (h : Grown lo H v sz cs) (hid : ∀ j,sid v = some j → j ≠ id) : Grown lo (H.upd id o) v sz cs := by
 cases h with
 | nil => exact .nil
 | mk hlo hhi ho hlen => exact .mk hlo hhi (by rw [obj_upd_ne (hid _ rfl)]; exact ho) hlen
theorem edge_set : ∀ (es : List Edge) (k f : Nat) (x : Int),k < es.length → f < 4 → ∃ es' : List Edge,splice (edgeCells es) (k * 4 + f) [.int .i64 x] = edgeCells es' ∧ es'.length = es.length
 | [],k,f,x,h,_ => by simp at h
 | e :: es,0,f,x,_,hf => by
  have hc : edgeCells (e :: es) = .int .i64 e.src :: .int .i64 e.dst :: .int .i64 e.mode :: .int .i64 e.cost :: edgeCells es := by simp [edgeCells,Edge.cells]
  have : f = 0 ∨ f = 1 ∨ f = 2 ∨ f = 3 := by omega
  rcases this with rfl | rfl | rfl | rfl
  ·exact ⟨{ e with src := x } :: es,by rw [hc]; simp [splice,edgeCells,Edge.cells],rfl⟩
  ·exact ⟨{ e with dst := x } :: es,by rw [hc]; simp [splice,edgeCells,Edge.cells],rfl⟩
  ·exact ⟨{ e with mode := x } :: es,by rw [hc]; simp [splice,edgeCells,Edge.cells],rfl⟩
  ·exact ⟨{ e with cost := x } :: es,by rw [hc]; simp [splice,edgeCells,Edge.cells],rfl⟩
 | e :: es,k + 1,f,x,hk,hf => by
  obtain ⟨es',h1,h2⟩ := edge_set es k f x (by simpa using hk) hf
  have hc : ∀ l,edgeCells (e :: l) = .int .i64 e.src :: .int .i64 e.dst :: .int .i64 e.mode :: .int .i64 e.cost :: edgeCells l := fun l => by simp [edgeCells,Edge.cells]
  refine ⟨e :: es',?_,by simp [h2]⟩
  have e4 : (k + 1) * 4 + f = k * 4 + f + 1 + 1 + 1 + 1 := by omega
  rw [hc,hc,e4,splice_succ,splice_succ,splice_succ,splice_succ,h1]
theorem ge_set {es : List Edge} {k f : Nat} (hk : k < es.length) (hf : f < 4) : k * 4 + f + 1 ≤ (edgeCells es).length := by rw [edgeCells_length]; omega

theorem dw00 : decide ((0 : Int) = 0) = true := rfl
theorem dw10 : decide ((1 : Int) = 0) = false := rfl
theorem dw11 : decide ((1 : Int) = 1) = true := rfl
theorem dw20 : decide ((2 : Int) = 0) = false := rfl
theorem dw21 : decide ((2 : Int) = 1) = false := rfl
theorem dw22 : decide ((2 : Int) = 2) = true := rfl
theorem dw30 : decide ((3 : Int) = 0) = false := rfl
theorem dw31 : decide ((3 : Int) = 1) = false := rfl
theorem dw32 : decide ((3 : Int) = 2) = false := rfl
theorem dw33 : decide ((3 : Int) = 3) = true := rfl
theorem dw40 : decide ((4 : Int) = 0) = false := rfl
theorem dw41 : decide ((4 : Int) = 1) = false := rfl
theorem dw42 : decide ((4 : Int) = 2) = false := rfl
theorem dw43 : decide ((4 : Int) = 3) = false := rfl
theorem dw44 : decide ((4 : Int) = 4) = true := rfl
theorem dw50 : decide ((5 : Int) = 0) = false := rfl
theorem dw51 : decide ((5 : Int) = 1) = false := rfl
theorem dw52 : decide ((5 : Int) = 2) = false := rfl
theorem dw53 : decide ((5 : Int) = 3) = false := rfl
theorem dw54 : decide ((5 : Int) = 4) = false := rfl
theorem dw55 : decide ((5 : Int) = 5) = true := rfl
theorem dw60 : decide ((6 : Int) = 0) = false := rfl
theorem dw61 : decide ((6 : Int) = 1) = false := rfl
theorem dw62 : decide ((6 : Int) = 2) = false := rfl
theorem dw63 : decide ((6 : Int) = 3) = false := rfl
theorem dw64 : decide ((6 : Int) = 4) = false := rfl
theorem dw65 : decide ((6 : Int) = 5) = false := rfl
theorem dw66 : decide ((6 : Int) = 6) = true := rfl
theorem five {a b c d e : Int} {j : Nat} (h : j < 5) : ∃ x : Int,([.int .i64 a,.int .i64 b,.int .i64 c,.int .i64 d,.int .i64 e] : List AVal)[j]? = some (.int .i64 x) := by
 have : j = 0 ∨ j = 1 ∨ j = 2 ∨ j = 3 ∨ j = 4 := by omega
 rcases this with rfl | rfl | rfl | rfl | rfl
 ·exact ⟨a,rfl⟩
 ·exact ⟨b,rfl⟩
 ·exact ⟨c,rfl⟩
 ·exact ⟨d,rfl⟩
 ·exact ⟨e,rfl⟩
set_option maxRecDepth 20000 in
set_option maxHeartbeats 8000000 in
theorem netChecks_ret {rN size which pt v : Int} {rv ns : AVal} {raw : List Edge} {xs : List Int} {H : AHeap} {Q : AVal → AHeap → Prop} (hraw : Row H rv 4 (edgeCells raw)) (hsize : I64 size) (hr : Row H ns 1 (ints xs)) (hx : ∀ x ∈ xs,I64 x) (hx2 : xs.length ≤ 9223372036854775807)
  (hwhich : I64 which) (hpt : I64 pt) (hv : I64 v) (hq : ∀ H',Q (.bool true) H') : Ret A 3 [.agg [.int .i64 rN,rv],.int .i64 size,ns,.int .i64 which,.int .i64 pt,.int .i64 v] H Q := by
 refine Ret.of (fn := F3) rfl ?_
 have hcr := hraw.cells
 have hbr := hraw.beq
 simp (disch := first | omega | (simp only [next_new,next_upd] <;> omega) | fail) only [vai,vaim,vaic,vas,bots,Bool.not_true,Bool.not_false,decide_true,decide_false,wrap64,F3,hcr,Nat.reduceAdd,Nat.reduceMul,Nat.reduceLeDiff,Nat.reduceEqDiff,↓reduceIte]
 refine known_ret fun H1 k1 => ?_
 have n1 := k1.next
 simp only [next_new] at n1
 have o1 : H1.obj H.next = some (.cells [.int .i64 rN,rv] true) := (k1.old (by first | omega | (simp only [next_new,next_upd]; omega))).trans (obj_new_eq rfl)
 have k01 := ((Keep.refl Nothing H).new (.cells [.int .i64 rN,rv] true)).trans k1
 simp (disch := first | omega | (simp only [next_new,next_upd] <;> omega) | fail) only [vai,vaim,vaic,vas,bots,Bool.not_true,Bool.not_false,decide_true,decide_false,wrap64,o1,Nat.reduceAdd,Nat.reduceMul,Nat.reduceLeDiff,Nat.reduceEqDiff,↓reduceIte]
 refine few_ret (hraw.kept k01) fun H2 k2 => ?_
 have o2 := (k2.old (i := H.next) (by omega)).trans o1
 have n2 := k2.next
 by_cases c5 : (raw.length : Int) ≤ 500
 ·have hd5 : decide ((raw.length : Int) ≤ 500) = true := decide_eq_true c5
  simp (disch := first | omega | (simp only [next_new,next_upd] <;> omega) | fail) only [vai,vaim,vaic,vas,bots,Bool.not_true,Bool.not_false,decide_true,decide_false,wrap64,hd5,Nat.reduceAdd,Nat.reduceMul,Nat.reduceLeDiff,Nat.reduceEqDiff,↓reduceIte]
  refine make_ret ((hr.kept k01).kept k2) hx hx2 fun ev H3 k3 g3 => ?_
  have hfit := fits_iff.1 (mk_fits size 1 xs)
  have h40 : ((xs.take 40).map (mkEdge (1 + size % 12) 1)).length ≤ 40 := by rw [List.length_map,List.length_take]; omega
  simp only [mkNet] at hfit
  generalize (xs.take 40).map (mkEdge (1 + size % 12) 1) = es at *
  generalize hN : 1 + size % 12 = N at *
  have hN0 : 1 ≤ N ∧ N ≤ 12 := by omega
  have hce := g3.cells
  have hbe := g3.row.beq
  have n3 := k3.next
  have o3 := (k3.old (i := H.next) (by omega)).trans o2
  simp (disch := first | omega | (simp only [next_new,next_upd] <;> omega) | fail) only [vai,vaim,vaic,vas,bots,Bool.not_true,Bool.not_false,decide_true,decide_false,wrap64,hce,o3,reK_same (agg_beq (n := rN) hbr),Nat.reduceAdd,Nat.reduceMul,Nat.reduceLeDiff,Nat.reduceEqDiff,↓reduceIte]
  have kB : Keep Nothing H3 ((H3.new (.cells [.int .i64 0,.nilSlice] true)).upd H3.next (some (.cells [.int .i64 N,ev] true))) := ((Keep.refl _ _).new _).upd (.inl (Nat.le_refl _)) _
  have oB : ((H3.new (.cells [.int .i64 0,.nilSlice] true)).upd H3.next (some (.cells [.int .i64 N,ev] true))).obj H3.next = some (.cells [.int .i64 N,ev] true) := obj_upd_eq rfl
  have nB : ((H3.new (.cells [.int .i64 0,.nilSlice] true)).upd H3.next (some (.cells [.int .i64 N,ev] true))).next = H3.next + 1 := rfl
  generalize (H3.new (.cells [.int .i64 0,.nilSlice] true)).upd H3.next (some (.cells [.int .i64 N,ev] true)) = HB at *
  have hrB := (((hraw.kept k01).kept k2).kept k3).kept kB
  have oR := (kB.old (i := H.next) (by omega)).trans o3
  refine netcheck_ret hrB fun b1 H4 k4 s4 => ?_
  have o4 := (k4.old (i := H.next) (by omega)).trans oR
  simp (disch := first | omega | (simp only [next_new,next_upd] <;> omega) | fail) only [vai,vaim,vaic,vas,bots,Bool.not_true,Bool.not_false,decide_true,decide_false,wrap64,o4,reK_same (agg_beq (n := rN) hbr),Nat.reduceAdd,Nat.reduceMul,Nat.reduceLeDiff,Nat.reduceEqDiff,↓reduceIte]
  refine refnet_ret (hrB.kept k4) fun b2 H5 k5 s5 => ?_
  have hbb : b1 = b2 := says_eq s4 s5
  subst hbb
  have n4 := k4.next
  have n5 := k5.next
  have o5 := (k5.old (i := H3.next) (by omega)).trans ((k4.old (i := H3.next) (by omega)).trans oB)
  have g5 : Grown H2.next H5 ev 4 (edgeCells es) := g3.keep (by omega) fun j _ hj => (k5.old (by omega)).trans ((k4.old (by omega)).trans (kB.old hj))
  simp (disch := first | omega | (simp only [next_new,next_upd] <;> omega) | fail) only [vai,vaim,vaic,vas,bots,Bool.not_true,Bool.not_false,decide_true,decide_false,wrap64,o5,beq_self_eq_true,Nat.reduceAdd,Nat.reduceMul,Nat.reduceLeDiff,Nat.reduceEqDiff,↓reduceIte]
  refine netcheck_ret g5.row fun b3 H6 k6 s6 => ?_
  have hb3 : b3 = true := s6.2 hfit
  subst hb3
  have n6 := k6.next
  have o6 := (k6.old (i := H3.next) (by omega)).trans o5
  have g6 : Grown H2.next H6 ev 4 (edgeCells es) := g5.keep n6 fun j _ hj => k6.old hj
  have hl := g6.row.len (by omega) (edgeCells_length es)
  clear k4 k5 k6 s4 s5 s6 oB kB hrB
  by_cases c0 : (0 : Int) < es.length
  ·have hd0 : decide ((0 : Int) < es.length) = true := decide_eq_true c0
   simp (disch := first | omega | (simp only [next_new,next_upd] <;> omega) | fail) only [vai,vaim,vaic,vas,bots,Bool.not_true,Bool.not_false,decide_true,decide_false,wrap64,o6,hl,hd0,Nat.reduceAdd,Nat.reduceMul,Nat.reduceLeDiff,Nat.reduceEqDiff,↓reduceIte]
   refine within_ret rfl (by omega) (by omega) ?_
   obtain ⟨k,hk⟩ : ∃ k : Nat,pt % (es.length : Int) = k := ⟨(pt % (es.length : Int)).toNat,by have := Int.emod_nonneg pt (show (es.length : Int) ≠ 0 by omega); omega⟩
   have hkl : k < es.length := by have := Int.emod_lt_of_pos pt (show 0 < (es.length : Int) by omega); omega
   simp (disch := first | omega | (simp only [next_new,next_upd] <;> omega) | fail) only [vai,vaim,vaic,vas,bots,Bool.not_true,Bool.not_false,decide_true,decide_false,wrap64,hk,Nat.reduceAdd,Nat.reduceMul,Nat.reduceLeDiff,Nat.reduceEqDiff,↓reduceIte]
   refine within_ret rfl (by omega) (by omega) ?_
   obtain ⟨w,hw⟩ : ∃ w : Nat,which % 7 = w := ⟨(which % 7).toNat,by omega⟩
   have hw7 : w < 7 := by omega
   obtain ⟨id,hev,hid1,hid2,hobj,hix⟩ := grown_edge g6 hkl
   have hidB : id < H3.next := (g3.sid_ge (j := id) (by rw [hev]; rfl)).2
   rw [hw]
   have hset : ∀ (f : Nat) (x : Int),f < 4 → ∃ es2 : List Edge,splice (edgeCells es) (k * 4 + f) [.int .i64 x] = edgeCells es2 ∧ ∀ H7 : AHeap,H6.next ≤ H7.next → H7.obj id = some (.cells (edgeCells es2) true) → Row H7 ev 4 (edgeCells es2) := by
    intro f x hf
    obtain ⟨es2,h1,h2⟩ := edge_set es k f x hkl hf
    refine ⟨es2,h1,fun H7 hn ho => ?_⟩
    have hl2 := edgeCells_length es2
    rw [hev]
    exact .mk (c := edgeCells es2) (by omega) (by rw [cells?_of,ho]; rfl) (by omega) (by rw [List.drop_zero]; exact List.take_of_length_le (by omega))
   have : w = 0 ∨ w = 1 ∨ w = 2 ∨ w = 3 ∨ w = 4 ∨ w = 5 ∨ w = 6 := by omega
   rcases this with rfl | rfl | rfl | rfl | rfl | rfl | rfl
   ·have hs0 : ((0 : Nat) : Int) = 0 := rfl
    obtain ⟨es2,hsp,hrw⟩ := hset 0 v (by omega)
    rw [Nat.add_zero] at hsp
    have hge := ge_set (es := es) (f := 0) hkl (by omega)
    rw [Nat.add_zero] at hge
    simp (disch := first | omega | (simp only [next_new,next_upd] <;> omega) | fail) only [vai,vaim,vaic,vas,bots,Bool.not_true,Bool.not_false,decide_true,decide_false,wrap64,hs0,dw00,o6,hix,hobj,hge,hsp,Nat.reduceAdd,Nat.reduceMul,Nat.reduceLeDiff,Nat.reduceEqDiff,↓reduceIte]
    have hrow := hrw (H6.upd id (some (.cells (edgeCells es2) true))) (Nat.le_refl _) (obj_upd_eq rfl)
    have hbox : H3.next < (H6.upd id (some (.cells (edgeCells es2) true))).next := by simp only [next_upd]; omega
    have obox : (H6.upd id (some (.cells (edgeCells es2) true))).obj H3.next = some (.cells [.int .i64 N,ev] true) := (obj_upd_ne (by omega)).trans o6
    generalize H6.upd id (some (.cells (edgeCells es2) true)) = HC at *
    try simp (disch := first | omega | (simp only [next_new,next_upd] <;> omega) | fail) only [vai,vaim,vaic,vas,bots,Bool.not_true,Bool.not_false,decide_true,decide_false,wrap64,obox,Nat.reduceAdd,Nat.reduceMul,Nat.reduceLeDiff,Nat.reduceEqDiff,↓reduceIte]
    have hb2 := agg_beq (n := N) hbe
    refine netcheck_ret hrow fun b1 H8 k8 s8 => ?_
    have o8 := (k8.old hbox).trans obox
    simp (disch := first | omega | (simp only [next_new,next_upd] <;> omega) | fail) only [vai,vaim,vaic,vas,bots,Bool.not_true,Bool.not_false,decide_true,decide_false,wrap64,o8,reK_same hb2,Nat.reduceAdd,Nat.reduceMul,Nat.reduceLeDiff,Nat.reduceEqDiff,↓reduceIte]
    refine refnet_ret (hrow.kept k8) fun b2 H9 k9 s9 => ?_
    have hbb : b1 = b2 := says_eq s8 s9
    subst hbb
    simp (disch := first | omega | (simp only [next_new,next_upd] <;> omega) | fail) only [vai,vaim,vaic,vas,bots,Bool.not_true,Bool.not_false,decide_true,decide_false,wrap64,beq_self_eq_true,Nat.reduceAdd,Nat.reduceMul,Nat.reduceLeDiff,Nat.reduceEqDiff,↓reduceIte]
    exact hq _
   ·have hs0 : ((1 : Nat) : Int) = 1 := rfl
    simp (disch := first | omega | (simp only [next_new,next_upd] <;> omega) | fail) only [vai,vaim,vaic,vas,bots,Bool.not_true,Bool.not_false,decide_true,decide_false,wrap64,hs0,dw10,dw11,o6,Nat.reduceAdd,Nat.reduceMul,Nat.reduceLeDiff,Nat.reduceEqDiff,↓reduceIte]
    refine within_ret rfl (by omega) (by omega) ?_
    obtain ⟨x,hx'⟩ : ∃ x : Int,N - 1 + v % 2 = x := ⟨_,rfl⟩
    obtain ⟨es2,hsp,hrw⟩ := hset 1 x (by omega)
    have hge := ge_set (es := es) (f := 1) hkl (by omega)
    simp (disch := first | omega | (simp only [next_new,next_upd] <;> omega) | fail) only [vai,vaim,vaic,vas,bots,Bool.not_true,Bool.not_false,decide_true,decide_false,wrap64,o6,reK_same hbe,hx',hix,hobj,hge,hsp,Nat.reduceAdd,Nat.reduceMul,Nat.reduceLeDiff,Nat.reduceEqDiff,↓reduceIte]
    have hrow := hrw (H6.upd id (some (.cells (edgeCells es2) true))) (Nat.le_refl _) (obj_upd_eq rfl)
    have hbox : H3.next < (H6.upd id (some (.cells (edgeCells es2) true))).next := by simp only [next_upd]; omega
    have obox : (H6.upd id (some (.cells (edgeCells es2) true))).obj H3.next = some (.cells [.int .i64 N,ev] true) := (obj_upd_ne (by omega)).trans o6
    generalize H6.upd id (some (.cells (edgeCells es2) true)) = HC at *
    try simp (disch := first | omega | (simp only [next_new,next_upd] <;> omega) | fail) only [vai,vaim,vaic,vas,bots,Bool.not_true,Bool.not_false,decide_true,decide_false,wrap64,obox,Nat.reduceAdd,Nat.reduceMul,Nat.reduceLeDiff,Nat.reduceEqDiff,↓reduceIte]
    have hb2 := agg_beq (n := N) hbe
    refine netcheck_ret hrow fun b1 H8 k8 s8 => ?_
    have o8 := (k8.old hbox).trans obox
    simp (disch := first | omega | (simp only [next_new,next_upd] <;> omega) | fail) only [vai,vaim,vaic,vas,bots,Bool.not_true,Bool.not_false,decide_true,decide_false,wrap64,o8,reK_same hb2,Nat.reduceAdd,Nat.reduceMul,Nat.reduceLeDiff,Nat.reduceEqDiff,↓reduceIte]
    refine refnet_ret (hrow.kept k8) fun b2 H9 k9 s9 => ?_
    have hbb : b1 = b2 := says_eq s8 s9
    subst hbb
    simp (disch := first | omega | (simp only [next_new,next_upd] <;> omega) | fail) only [vai,vaim,vaic,vas,bots,Bool.not_true,Bool.not_false,decide_true,decide_false,wrap64,beq_self_eq_true,Nat.reduceAdd,Nat.reduceMul,Nat.reduceLeDiff,Nat.reduceEqDiff,↓reduceIte]
    exact hq _
   ·have hs0 : ((2 : Nat) : Int) = 2 := rfl
    simp (disch := first | omega | (simp only [next_new,next_upd] <;> omega) | fail) only [vai,vaim,vaic,vas,bots,Bool.not_true,Bool.not_false,decide_true,decide_false,wrap64,hs0,dw20,dw21,dw22,o6,Nat.reduceAdd,Nat.reduceMul,Nat.reduceLeDiff,Nat.reduceEqDiff,↓reduceIte]
    refine within_ret rfl (by omega) (by omega) ?_
    obtain ⟨j,hj⟩ : ∃ j : Nat,v % 5 = j := ⟨(v % 5).toNat,by omega⟩
    have hj5 : j < 5 := by omega
    obtain ⟨x,hx'⟩ : ∃ x : Int,([.int .i64 (-1),.int .i64 0,.int .i64 4,.int .i64 5,.int .i64 v] : List AVal)[j]? = some (.int .i64 x) := five hj5
    obtain ⟨es2,hsp,hrw⟩ := hset 2 x (by omega)
    have hge := ge_set (es := es) (f := 2) hkl (by omega)
    have hid6 : id < H6.next := hid2
    simp (disch := first | omega | (simp only [next_new,next_upd] <;> omega) | fail) only [vai,vaim,vaic,vas,bots,Bool.not_true,Bool.not_false,decide_true,decide_false,wrap64,hj,o6,reK_same hbe,hx',hix,hobj,hge,hsp,Int.toNat_natCast,Nat.reduceAdd,Nat.reduceMul,Nat.reduceLeDiff,Nat.reduceEqDiff,↓reduceIte]
    have kD : (H6.new (.cells [.int .i64 (-1),.int .i64 0,.int .i64 4,.int .i64 5,.int .i64 v] true)).next = H6.next + 1 := rfl
    have hrow := hrw ((H6.new (.cells [.int .i64 (-1),.int .i64 0,.int .i64 4,.int .i64 5,.int .i64 v] true)).upd id (some (.cells (edgeCells es2) true))) (by simp only [next_upd,next_new]; omega) (obj_upd_eq rfl)
    have hbox : H3.next < ((H6.new (.cells [.int .i64 (-1),.int .i64 0,.int .i64 4,.int .i64 5,.int .i64 v] true)).upd id (some (.cells (edgeCells es2) true))).next := by simp only [next_upd,next_new]; omega
    have obox : ((H6.new (.cells [.int .i64 (-1),.int .i64 0,.int .i64 4,.int .i64 5,.int .i64 v] true)).upd id (some (.cells (edgeCells es2) true))).obj H3.next = some (.cells [.int .i64 N,ev] true) := (obj_upd_ne (by omega)).trans ((obj_new_ne (by omega)).trans o6)
    generalize (H6.new (.cells [.int .i64 (-1),.int .i64 0,.int .i64 4,.int .i64 5,.int .i64 v] true)).upd id (some (.cells (edgeCells es2) true)) = HC at *
    try simp (disch := first | omega | (simp only [next_new,next_upd] <;> omega) | fail) only [vai,vaim,vaic,vas,bots,Bool.not_true,Bool.not_false,decide_true,decide_false,wrap64,obox,Nat.reduceAdd,Nat.reduceMul,Nat.reduceLeDiff,Nat.reduceEqDiff,↓reduceIte]
    have hb2 := agg_beq (n := N) hbe
    refine netcheck_ret hrow fun b1 H8 k8 s8 => ?_
    have o8 := (k8.old hbox).trans obox
    simp (disch := first | omega | (simp only [next_new,next_upd] <;> omega) | fail) only [vai,vaim,vaic,vas,bots,Bool.not_true,Bool.not_false,decide_true,decide_false,wrap64,o8,reK_same hb2,Nat.reduceAdd,Nat.reduceMul,Nat.reduceLeDiff,Nat.reduceEqDiff,↓reduceIte]
    refine refnet_ret (hrow.kept k8) fun b2 H9 k9 s9 => ?_
    have hbb : b1 = b2 := says_eq s8 s9
    subst hbb
    simp (disch := first | omega | (simp only [next_new,next_upd] <;> omega) | fail) only [vai,vaim,vaic,vas,bots,Bool.not_true,Bool.not_false,decide_true,decide_false,wrap64,beq_self_eq_true,Nat.reduceAdd,Nat.reduceMul,Nat.reduceLeDiff,Nat.reduceEqDiff,↓reduceIte]
    exact hq _
   ·have hs0 : ((3 : Nat) : Int) = 3 := rfl
    simp (disch := first | omega | (simp only [next_new,next_upd] <;> omega) | fail) only [vai,vaim,vaic,vas,bots,Bool.not_true,Bool.not_false,decide_true,decide_false,wrap64,hs0,dw30,dw31,dw32,dw33,o6,Nat.reduceAdd,Nat.reduceMul,Nat.reduceLeDiff,Nat.reduceEqDiff,↓reduceIte]
    refine within_ret rfl (by omega) (by omega) ?_
    obtain ⟨j,hj⟩ : ∃ j : Nat,v % 5 = j := ⟨(v % 5).toNat,by omega⟩
    have hj5 : j < 5 := by omega
    obtain ⟨x,hx'⟩ : ∃ x : Int,([.int .i64 (-1),.int .i64 0,.int .i64 2147483647,.int .i64 2147483648,.int .i64 v] : List AVal)[j]? = some (.int .i64 x) := five hj5
    obtain ⟨es2,hsp,hrw⟩ := hset 3 x (by omega)
    have hge := ge_set (es := es) (f := 3) hkl (by omega)
    have hid6 : id < H6.next := hid2
    simp (disch := first | omega | (simp only [next_new,next_upd] <;> omega) | fail) only [vai,vaim,vaic,vas,bots,Bool.not_true,Bool.not_false,decide_true,decide_false,wrap64,hj,o6,reK_same hbe,hx',hix,hobj,hge,hsp,Int.toNat_natCast,Nat.reduceAdd,Nat.reduceMul,Nat.reduceLeDiff,Nat.reduceEqDiff,↓reduceIte]
    have kD : (H6.new (.cells [.int .i64 (-1),.int .i64 0,.int .i64 2147483647,.int .i64 2147483648,.int .i64 v] true)).next = H6.next + 1 := rfl
    have hrow := hrw ((H6.new (.cells [.int .i64 (-1),.int .i64 0,.int .i64 2147483647,.int .i64 2147483648,.int .i64 v] true)).upd id (some (.cells (edgeCells es2) true))) (by simp only [next_upd,next_new]; omega) (obj_upd_eq rfl)
    have hbox : H3.next < ((H6.new (.cells [.int .i64 (-1),.int .i64 0,.int .i64 2147483647,.int .i64 2147483648,.int .i64 v] true)).upd id (some (.cells (edgeCells es2) true))).next := by simp only [next_upd,next_new]; omega
    have obox : ((H6.new (.cells [.int .i64 (-1),.int .i64 0,.int .i64 2147483647,.int .i64 2147483648,.int .i64 v] true)).upd id (some (.cells (edgeCells es2) true))).obj H3.next = some (.cells [.int .i64 N,ev] true) := (obj_upd_ne (by omega)).trans ((obj_new_ne (by omega)).trans o6)
    generalize (H6.new (.cells [.int .i64 (-1),.int .i64 0,.int .i64 2147483647,.int .i64 2147483648,.int .i64 v] true)).upd id (some (.cells (edgeCells es2) true)) = HC at *
    try simp (disch := first | omega | (simp only [next_new,next_upd] <;> omega) | fail) only [vai,vaim,vaic,vas,bots,Bool.not_true,Bool.not_false,decide_true,decide_false,wrap64,obox,Nat.reduceAdd,Nat.reduceMul,Nat.reduceLeDiff,Nat.reduceEqDiff,↓reduceIte]
    have hb2 := agg_beq (n := N) hbe
    refine netcheck_ret hrow fun b1 H8 k8 s8 => ?_
    have o8 := (k8.old hbox).trans obox
    simp (disch := first | omega | (simp only [next_new,next_upd] <;> omega) | fail) only [vai,vaim,vaic,vas,bots,Bool.not_true,Bool.not_false,decide_true,decide_false,wrap64,o8,reK_same hb2,Nat.reduceAdd,Nat.reduceMul,Nat.reduceLeDiff,Nat.reduceEqDiff,↓reduceIte]
    refine refnet_ret (hrow.kept k8) fun b2 H9 k9 s9 => ?_
    have hbb : b1 = b2 := says_eq s8 s9
    subst hbb
    simp (disch := first | omega | (simp only [next_new,next_upd] <;> omega) | fail) only [vai,vaim,vaic,vas,bots,Bool.not_true,Bool.not_false,decide_true,decide_false,wrap64,beq_self_eq_true,Nat.reduceAdd,Nat.reduceMul,Nat.reduceLeDiff,Nat.reduceEqDiff,↓reduceIte]
    exact hq _
   ·have hs0 : ((4 : Nat) : Int) = 4 := rfl
    simp (disch := first | omega | (simp only [next_new,next_upd] <;> omega) | fail) only [vai,vaim,vaic,vas,bots,Bool.not_true,Bool.not_false,decide_true,decide_false,wrap64,hs0,dw40,dw41,dw42,dw43,dw44,o6,Nat.reduceAdd,Nat.reduceMul,Nat.reduceLeDiff,Nat.reduceEqDiff,↓reduceIte]
    refine within_ret rfl (by omega) (by omega) ?_
    obtain ⟨j,hj⟩ : ∃ j : Nat,v % 5 = j := ⟨(v % 5).toNat,by omega⟩
    have hj5 : j < 5 := by omega
    obtain ⟨x,hx'⟩ : ∃ x : Int,([.int .i64 0,.int .i64 1,.int .i64 60,.int .i64 61,.int .i64 v] : List AVal)[j]? = some (.int .i64 x) := five hj5
    simp (disch := first | omega | (simp only [next_new,next_upd] <;> omega) | fail) only [vai,vaim,vaic,vas,bots,Bool.not_true,Bool.not_false,decide_true,decide_false,wrap64,hj,o6,hx',Int.toNat_natCast,Nat.reduceAdd,Nat.reduceMul,Nat.reduceLeDiff,Nat.reduceEqDiff,↓reduceIte]
    have hrow : Row ((H6.new (.cells [.int .i64 0,.int .i64 1,.int .i64 60,.int .i64 61,.int .i64 v] true)).upd H3.next (some (.cells [.int .i64 x,ev] true))) ev 4 (edgeCells es) := (g6.row.kept ((Keep.refl _ _).new _)).M (M := fun j => j = H3.next) ⟨Nat.le_refl _,fun j _ hj => obj_upd_ne hj⟩ fun j hj hm => by rw [hev] at hj; injection hj with hj; omega
    have hbox : H3.next < ((H6.new (.cells [.int .i64 0,.int .i64 1,.int .i64 60,.int .i64 61,.int .i64 v] true)).upd H3.next (some (.cells [.int .i64 x,ev] true))).next := by simp only [next_upd,next_new]; omega
    have obox : ((H6.new (.cells [.int .i64 0,.int .i64 1,.int .i64 60,.int .i64 61,.int .i64 v] true)).upd H3.next (some (.cells [.int .i64 x,ev] true))).obj H3.next = some (.cells [.int .i64 x,ev] true) := obj_upd_eq rfl
    generalize (H6.new (.cells [.int .i64 0,.int .i64 1,.int .i64 60,.int .i64 61,.int .i64 v] true)).upd H3.next (some (.cells [.int .i64 x,ev] true)) = HC at *
    try simp (disch := first | omega | (simp only [next_new,next_upd] <;> omega) | fail) only [vai,vaim,vaic,vas,bots,Bool.not_true,Bool.not_false,decide_true,decide_false,wrap64,obox,Nat.reduceAdd,Nat.reduceMul,Nat.reduceLeDiff,Nat.reduceEqDiff,↓reduceIte]
    have hb2 := agg_beq (n := x) hbe
    refine netcheck_ret hrow fun b1 H8 k8 s8 => ?_
    have o8 := (k8.old hbox).trans obox
    simp (disch := first | omega | (simp only [next_new,next_upd] <;> omega) | fail) only [vai,vaim,vaic,vas,bots,Bool.not_true,Bool.not_false,decide_true,decide_false,wrap64,o8,reK_same hb2,Nat.reduceAdd,Nat.reduceMul,Nat.reduceLeDiff,Nat.reduceEqDiff,↓reduceIte]
    refine refnet_ret (hrow.kept k8) fun b2 H9 k9 s9 => ?_
    have hbb : b1 = b2 := says_eq s8 s9
    subst hbb
    simp (disch := first | omega | (simp only [next_new,next_upd] <;> omega) | fail) only [vai,vaim,vaic,vas,bots,Bool.not_true,Bool.not_false,decide_true,decide_false,wrap64,beq_self_eq_true,Nat.reduceAdd,Nat.reduceMul,Nat.reduceLeDiff,Nat.reduceEqDiff,↓reduceIte]
    exact hq _
   ·have hs0 : ((5 : Nat) : Int) = 5 := rfl
    simp (disch := first | omega | (simp only [next_new,next_upd] <;> omega) | fail) only [vai,vaim,vaic,vas,bots,Bool.not_true,Bool.not_false,decide_true,decide_false,wrap64,hs0,dw50,dw51,dw52,dw53,dw54,dw55,Nat.reduceAdd,Nat.reduceMul,Nat.reduceLeDiff,Nat.reduceEqDiff,↓reduceIte]
    have hsid : sid ev ≠ some H3.next := by
     rw [hev]
     intro h
     injection h with h
     omega
    refine wpx_loop (fun m t H' => ∃ (es2 : List Edge) (ev2 : AVal),m = 402 - es2.length ∧ es2.length ≤ 402 ∧ k < es2.length ∧ t = (bots 5 (.int .i64 v :: bots 7 (.ptr H3.next 0 :: .int .i64 k :: bots 115 ([]))) : Tmps) ∧ H6.next ≤ H'.next ∧ H'.obj H3.next = some (.cells [.int .i64 N,ev2] true) ∧ Grown H2.next H' ev2 4 (edgeCells es2) ∧ sid ev2 ≠ some H3.next) (402 - es.length) ?_ ?_
    ·exact ⟨es,ev,rfl,by omega,hkl,rfl,Nat.le_refl _,o6,g6,hsid⟩
    ·rintro m t H7 ⟨es2,ev2,rfl,hl2,hk2,rfl,n7,o7,g7,hs7⟩
     have hl7 := g7.row.len (by omega) (edgeCells_length es2)
     have hb7 := g7.row.beq
     simp (disch := first | omega | (simp only [next_new,next_upd] <;> omega) | fail) only [vai,vaim,vaic,vas,bots,Bool.not_true,Bool.not_false,decide_true,decide_false,wrap64,o7,hl7,Nat.reduceAdd,Nat.reduceMul,Nat.reduceLeDiff,Nat.reduceEqDiff,↓reduceIte]
     refine within_ret rfl (by omega) (by omega) ?_
     by_cases hc : (es2.length : Int) < 399 + v % 4
     ·have hd : decide ((es2.length : Int) < 399 + v % 4) = true := decide_eq_true hc
      have he : es2[k]? = some es2[k] := List.getElem?_eq_getElem hk2
      obtain ⟨ie,oe,e1,_,_,_,_,_,e6⟩ := edge_at g7.row he
      generalize es2[k] = e at *
      simp only [Edge.cells] at e6
      simp (disch := first | omega | (simp only [next_new,next_upd] <;> omega) | fail) only [vai,vaim,vaic,vas,bots,Bool.not_true,Bool.not_false,decide_true,decide_false,wrap64,o7,hl7,reK_same hb7,hd,e1,e6,Nat.reduceAdd,Nat.reduceMul,Nat.reduceLeDiff,Nat.reduceEqDiff,↓reduceIte]
      refine append_ret' (n := es2.length) g7 (by simp only [next_new,next_upd]; omega) (fun j h1 h2 => by simp (disch := first | omega | (simp only [next_new,next_upd] <;> omega) | fail) only [vaim]) (by simp (disch := first | omega | (simp only [next_new,next_upd] <;> omega) | fail) only [vaim]; rfl) rfl (by omega) (by omega) (edgeCells_length es2) (by omega) (by omega) (by simp only [next_new,next_upd]; omega) ?_
      intro v' H' hn' hk0 hg' hsv
      obtain ⟨y,hy1,hy2⟩ := hsv
      simp only [next_new,next_upd] at hn' hy2
      have o8 : H'.obj H3.next = some (.cells [.int .i64 N,ev2] true) := by
       rw [hk0 _ (by simp only [next_new,next_upd]; omega) hs7]
       simp (disch := first | omega | (simp only [next_new,next_upd] <;> omega) | fail) only [vaim,o7]
      have hcell := hg'.cells
      simp (disch := first | omega | (simp only [next_new,next_upd] <;> omega) | fail) only [vai,vaim,vaic,vas,bots,Bool.not_true,Bool.not_false,decide_true,decide_false,wrap64,hcell,o8,Nat.reduceAdd,Nat.reduceMul,Nat.reduceLeDiff,Nat.reduceEqDiff,↓reduceIte]
      refine ⟨402 - (es2.length + 1),by omega,es2 ++ [e],v',by simp,by simp; omega,by simp; omega,by omega,by simp (disch := first | omega | (simp only [next_new,next_upd] <;> omega) | fail) only [vaim],?_,?_⟩
      ·have he4 : edgeCells (es2 ++ [e]) = edgeCells es2 ++ [.int .i64 e.src,.int .i64 e.dst,.int .i64 e.mode,.int .i64 e.cost] := by simp [edgeCells,Edge.cells]
       rw [he4]
       refine grown_upd hg' fun j hj => ?_
       rw [hy1] at hj
       injection hj with hj
       omega
      ·rw [hy1]
       intro h
       injection h with h
       omega
     ·have hd : decide ((es2.length : Int) < 399 + v % 4) = false := decide_eq_false hc
      simp (disch := first | omega | (simp only [next_new,next_upd] <;> omega) | fail) only [vai,vaim,vaic,vas,bots,Bool.not_true,Bool.not_false,decide_true,decide_false,wrap64,o7,hl7,reK_same hb7,hd,Nat.reduceAdd,Nat.reduceMul,Nat.reduceLeDiff,Nat.reduceEqDiff,↓reduceIte]
      have hrow := g7.row
      have hbox : H3.next < H7.next := by omega
      have obox := o7
      have hb2 := agg_beq (n := N) hb7
      refine netcheck_ret hrow fun b1 H8 k8 s8 => ?_
      have o8 := (k8.old hbox).trans obox
      simp (disch := first | omega | (simp only [next_new,next_upd] <;> omega) | fail) only [vai,vaim,vaic,vas,bots,Bool.not_true,Bool.not_false,decide_true,decide_false,wrap64,o8,reK_same hb2,Nat.reduceAdd,Nat.reduceMul,Nat.reduceLeDiff,Nat.reduceEqDiff,↓reduceIte]
      refine refnet_ret (hrow.kept k8) fun b2 H9 k9 s9 => ?_
      have hbb : b1 = b2 := says_eq s8 s9
      subst hbb
      simp (disch := first | omega | (simp only [next_new,next_upd] <;> omega) | fail) only [vai,vaim,vaic,vas,bots,Bool.not_true,Bool.not_false,decide_true,decide_false,wrap64,beq_self_eq_true,Nat.reduceAdd,Nat.reduceMul,Nat.reduceLeDiff,Nat.reduceEqDiff,↓reduceIte]
      exact hq _
   ·have hs0 : ((6 : Nat) : Int) = 6 := rfl
    simp (disch := first | omega | (simp only [next_new,next_upd] <;> omega) | fail) only [vai,vaim,vaic,vas,bots,Bool.not_true,Bool.not_false,decide_true,decide_false,wrap64,hs0,dw60,dw61,dw62,dw63,dw64,dw65,dw66,o6,Nat.reduceAdd,Nat.reduceMul,Nat.reduceLeDiff,Nat.reduceEqDiff,↓reduceIte]
    have hrow : Row (H6.upd H3.next (some (.cells [.int .i64 (0 - N),ev] true))) ev 4 (edgeCells es) := g6.row.M (M := fun j => j = H3.next) ⟨Nat.le_refl _,fun j _ hj => obj_upd_ne hj⟩ fun j hj hm => by rw [hev] at hj; injection hj with hj; omega
    have hbox : H3.next < (H6.upd H3.next (some (.cells [.int .i64 (0 - N),ev] true))).next := by simp only [next_upd]; omega
    have obox : (H6.upd H3.next (some (.cells [.int .i64 (0 - N),ev] true))).obj H3.next = some (.cells [.int .i64 (0 - N),ev] true) := obj_upd_eq rfl
    generalize H6.upd H3.next (some (.cells [.int .i64 (0 - N),ev] true)) = HC at *
    try simp (disch := first | omega | (simp only [next_new,next_upd] <;> omega) | fail) only [vai,vaim,vaic,vas,bots,Bool.not_true,Bool.not_false,decide_true,decide_false,wrap64,obox,Nat.reduceAdd,Nat.reduceMul,Nat.reduceLeDiff,Nat.reduceEqDiff,↓reduceIte]
    have hb2 := agg_beq (n := 0 - N) hbe
    refine netcheck_ret hrow fun b1 H8 k8 s8 => ?_
    have o8 := (k8.old hbox).trans obox
    simp (disch := first | omega | (simp only [next_new,next_upd] <;> omega) | fail) only [vai,vaim,vaic,vas,bots,Bool.not_true,Bool.not_false,decide_true,decide_false,wrap64,o8,reK_same hb2,Nat.reduceAdd,Nat.reduceMul,Nat.reduceLeDiff,Nat.reduceEqDiff,↓reduceIte]
    refine refnet_ret (hrow.kept k8) fun b2 H9 k9 s9 => ?_
    have hbb : b1 = b2 := says_eq s8 s9
    subst hbb
    simp (disch := first | omega | (simp only [next_new,next_upd] <;> omega) | fail) only [vai,vaim,vaic,vas,bots,Bool.not_true,Bool.not_false,decide_true,decide_false,wrap64,beq_self_eq_true,Nat.reduceAdd,Nat.reduceMul,Nat.reduceLeDiff,Nat.reduceEqDiff,↓reduceIte]
    exact hq _
  ·have hd0 : decide ((0 : Int) < es.length) = false := decide_eq_false c0
   simp (disch := first | omega | (simp only [next_new,next_upd] <;> omega) | fail) only [vai,vaim,vaic,vas,bots,Bool.not_true,Bool.not_false,decide_true,decide_false,wrap64,o6,hl,hd0,Nat.reduceAdd,Nat.reduceMul,Nat.reduceLeDiff,Nat.reduceEqDiff,↓reduceIte]
   have hrow := g6.row
   have hbox : H3.next < H6.next := by omega
   have obox := o6
   have hb2 := agg_beq (n := N) hbe
   refine netcheck_ret hrow fun b1 H8 k8 s8 => ?_
   have o8 := (k8.old hbox).trans obox
   simp (disch := first | omega | (simp only [next_new,next_upd] <;> omega) | fail) only [vai,vaim,vaic,vas,bots,Bool.not_true,Bool.not_false,decide_true,decide_false,wrap64,o8,reK_same hb2,Nat.reduceAdd,Nat.reduceMul,Nat.reduceLeDiff,Nat.reduceEqDiff,↓reduceIte]
   refine refnet_ret (hrow.kept k8) fun b2 H9 k9 s9 => ?_
   have hbb : b1 = b2 := says_eq s8 s9
   subst hbb
   simp (disch := first | omega | (simp only [next_new,next_upd] <;> omega) | fail) only [vai,vaim,vaic,vas,bots,Bool.not_true,Bool.not_false,decide_true,decide_false,wrap64,beq_self_eq_true,Nat.reduceAdd,Nat.reduceMul,Nat.reduceLeDiff,Nat.reduceEqDiff,↓reduceIte]
   exact hq _
 ·have hd5 : decide ((raw.length : Int) ≤ 500) = false := decide_eq_false c5
  simp (disch := first | omega | (simp only [next_new,next_upd] <;> omega) | fail) only [vai,vaim,vaic,vas,bots,Bool.not_true,Bool.not_false,decide_true,decide_false,wrap64,hd5,Nat.reduceAdd,Nat.reduceMul,Nat.reduceLeDiff,Nat.reduceEqDiff,↓reduceIte]
  exact hq _
end Go.Proofs.YtknhlpmmalcchaaDoor

/- Rows of structs of whole numbers that came in. -/
set_option linter.unusedVariables false
namespace Go.VAI
open Go Go.ChangeShapes Go.WideShapes Go.ChangeAt Go.RowKit

theorem list_of {α : Type} {p : Nat → α → Prop} : ∀ n,(∀ i,i < n → ∃ x,p i x) → ∃ l : List α,l.length = n ∧ ∀ i x,l[i]? = some x → p i x
 | 0,_ => ⟨[],rfl,fun i x h => by simp at h⟩
 | n + 1,h => by
  obtain ⟨l,h1,h2⟩ := list_of n (fun i hi => h i (by omega))
  obtain ⟨x,hx⟩ := h n (by omega)
  refine ⟨l ++ [x],by simp [h1],fun i y hy => ?_⟩
  by_cases hi : i < l.length
  ·rw [List.getElem?_append_left hi] at hy
   exact h2 i y hy
  ·have hl := (List.getElem?_eq_some_iff.1 hy).1
   simp only [List.length_append,List.length_cons,List.length_nil] at hl
   have e : i = l.length := by omega
   subst e
   simp at hy
   subst hy
   rw [h1]; exact hx
structure FlatT (P : Program) (e : TypeId) (k : IntKind) (m : Nat) : Prop where
 flds : ∃ fs : Array Field,P.underlying e = some (.struct fs) ∧ ∀ i,i < m → ∃ f,fs[i]? = some f ∧ f.offset = i ∧ P.underlying f.type = some (.int k) ∧ P.cellsOf f.type = 1
 cells : P.cellsOf e = m
section
variable {H : Type} {enc : TypeId × Value → H} {P : Program} {W : World} {r : Reach} {base : Nat} {t e : TypeId} {k : IntKind} {m fuel : Nat} {spare : Nat → Bool} {held : Bool}
theorem flat_cells {cs : List Value} {x : DataW H × List MemPlace} (hf : FlatT P e k m) (h : DataW.trod enc P W base spare held fuel e cs = some x) :
  ∃ r : List Int,r.length = m ∧ (∀ z ∈ r,(Lit.int k z).wf = true) ∧ cs = r.map (Value.int k) := by
 obtain ⟨fs,hu,hfl⟩ := hf.flds
 obtain ⟨xs,n,_,_,hl,hxl,hel⟩ := DataW.trod_struct hu h
 rw [hf.cells] at hl
 have hz : ∀ i,i < m → ∃ z : Int,cs[i]? = some (.int k z) ∧ (Lit.int k z).wf = true := by
  intro i hi
  obtain ⟨f,h1,h2,h3,h4⟩ := hfl i hi
  have hfi : i < fs.size := (Array.getElem?_eq_some_iff.1 h1).1
  have h5 := hel i f h1
  rw [h2,h4,List.getElem?_eq_getElem (by omega)] at h5
  obtain ⟨z,h6,_,h7⟩ := DataW.trod_int h3 h5
  refine ⟨z,?_,h7⟩
  have : ((cs.drop i).take 1)[0]? = some (.int k z) := by rw [h6]; rfl
  rw [List.getElem?_take,if_pos (by omega),List.getElem?_drop] at this
  exact this
 obtain ⟨r,hr,hrz⟩ := list_of m hz
 refine ⟨r,hr,fun z hz => ?_,?_⟩
 ·obtain ⟨i,hi⟩ := List.getElem?_of_mem hz
  exact (hrz i z hi).2
 ·apply List.ext_getElem?
  intro i
  rw [List.getElem?_map]
  by_cases hi : i < m
  ·rw [List.getElem?_eq_getElem (show i < r.length by omega),(hrz i _ (List.getElem?_eq_getElem (show i < r.length by omega))).1]
   rfl
  ·rw [List.getElem?_eq_none (by omega),List.getElem?_eq_none (by omega)]
   rfl
def flatCells (k : IntKind) (rs : List (List Int)) : List AVal := rs.flatMap fun r => r.map (AVal.int k)
theorem flatCells_length {k : IntKind} {m : Nat} : ∀ {rs : List (List Int)},(∀ r ∈ rs,r.length = m) → (flatCells k rs).length = rs.length * m
 | [],_ => by simp [flatCells]
 | r :: rs,h => by
  have ih := flatCells_length (k := k) (rs := rs) (fun x hx => h x (List.mem_cons_of_mem _ hx))
  have h0 := h r List.mem_cons_self
  simp only [flatCells,List.flatMap_cons,List.length_append,List.length_map,List.length_cons] at ih ⊢
  rw [ih,h0,Nat.add_mul]; omega
theorem flatCells_get {k : IntKind} {m : Nat} (hm : 0 < m) : ∀ {rs : List (List Int)},(∀ r ∈ rs,r.length = m) → ∀ (j : Nat) (v : AVal),(flatCells k rs)[j]? = some v → ∃ r z,rs[j / m]? = some r ∧ r[j % m]? = some z ∧ v = .int k z
 | [],_,j,v,h => by simp [flatCells] at h
 | r :: rs,hl,j,v,h => by
  have h0 := hl r List.mem_cons_self
  have e : flatCells k (r :: rs) = r.map (AVal.int k) ++ flatCells k rs := by simp [flatCells]
  rw [e] at h
  by_cases hj : j < m
  ·rw [List.getElem?_append_left (by rw [List.length_map]; omega),List.getElem?_map] at h
   rw [Nat.div_eq_of_lt hj,Nat.mod_eq_of_lt hj]
   cases hz : r[j]? with
   | none => rw [hz] at h; cases h
   | some z =>
    rw [hz] at h
    simp at h
    exact ⟨r,z,rfl,hz,h.symm⟩
  ·rw [List.getElem?_append_right (by rw [List.length_map]; omega),List.length_map,h0] at h
   obtain ⟨r',z,h1,h2,h3⟩ := flatCells_get hm (fun x hx => hl x (List.mem_cons_of_mem _ hx)) (j - m) v h
   obtain ⟨q,hq⟩ : ∃ q,j = q + m := ⟨j - m,by omega⟩
   subst hq
   rw [Nat.add_sub_cancel] at h1 h2
   refine ⟨r',z,?_,?_,h3⟩
   ·rw [Nat.add_div_right _ hm]
    exact h1
   ·rw [Nat.add_mod_right]
    exact h2
theorem opened_flat {a0 : Option Addr} {len cap : Nat} {x : DataW H × List MemPlace} (ht : P.underlying t = some (.slice e)) (hf : FlatT P e k m) (hm : 0 < m) (hpl : ∀ a,a0 = some a → a.spot = none ∧ a.block < W.heap.size)
  (h0 : DataW.trod enc P W 0 spare held fuel t [.slice a0 len cap] = some x) :
  ∃ (rs : List (List Int)) (v : Nat → AVal) (l : Option Loc),(∀ r ∈ rs,r.length = m ∧ ∀ z ∈ r,(Lit.int k z).wf = true) ∧ rs.length ≤ maxLen ∧
   (∀ l' ρ,l = some l' → l'.b < W.heap.size ∧ CRel ρ W l' (flatCells k rs)) ∧ (∀ (ρ : Ren) id,ρ id = l → VRel ρ (v id) (.slice a0 len cap)) ∧
   (∀ (H : AHeap) id,id < H.next → H.obj id = some (.cells (flatCells k rs) false) → Row H (v id) m (flatCells k rs)) := by
 rcases DataW.trod_slice ht h0 with ⟨hcs,_⟩ | ⟨a,len',cap',elems,rest,n,_,hcs,_,hb,hl,hmx,hlen,hel,_,_⟩
 ·injection hcs with hcs _
  injection hcs with h1 h2 h3
  subst h1 h2 h3
  exact ⟨[],fun _ => .nilSlice,none,by simp,by simp,fun l' ρ h => (by cases h),fun ρ id _ => (by simp only [VRel]),fun H id _ _ => .nil⟩
 ·injection hcs with hcs _
  injection hcs with h1 h2 h3
  subst h1 h2 h3
  obtain ⟨hsp,hbk⟩ := hpl a rfl
  obtain ⟨b,off,spot⟩ := a
  simp only at hsp hbk
  subst hsp
  have hrow : ∀ i,i < len → ∃ r : List Int,r.length = m ∧ (∀ z ∈ r,(Lit.int k z).wf = true) ∧ ∀ j z,r[j]? = some z → W.cell? ⟨b,off + (i * m + j),none⟩ = some (.int k z) := by
   intro i hi
   have h := hel i hi
   rw [List.getElem?_eq_getElem (by omega),Option.bind_eq_some_iff] at h
   obtain ⟨cs,hcs,hy⟩ := h
   obtain ⟨r,hr,hw,hcr⟩ := flat_cells hf hy
   refine ⟨r,hr,hw,fun j z hz => ?_⟩
   have hj : j < m := by
    have := (List.getElem?_eq_some_iff.1 hz).1
    omega
   have h2 := (World.cells?_some hcs).2.2 j (by rw [hf.cells]; exact hj)
   rw [hf.cells,add_plain,add_plain,hcr,List.getElem?_map,hz] at h2
   rw [← Nat.add_assoc]
   exact h2
  obtain ⟨rs,hrs,hrp⟩ := list_of len hrow
  have hall : ∀ r ∈ rs,r.length = m ∧ ∀ z ∈ r,(Lit.int k z).wf = true := fun r hr => by
   obtain ⟨i,hi⟩ := List.getElem?_of_mem hr
   exact ⟨(hrp i r hi).1,(hrp i r hi).2.1⟩
  have hfl := flatCells_length (k := k) (fun r hr => (hall r hr).1)
  refine ⟨rs,fun id => .slice id 0 len (.exact cap),some ⟨b,off,0⟩,hall,by omega,fun l' ρ h => ?_,fun ρ id h => ?_,fun H id hid ho => ?_⟩
  ·injection h with h; subst h
   refine ⟨hbk,fun x hx => ?_,fun i v hv => ?_⟩
   ·obtain ⟨i,hi⟩ := List.getElem?_of_mem hx
    obtain ⟨_,z,_,_,rfl⟩ := flatCells_get hm (fun r hr => (hall r hr).1) i x hi
    rfl
   ·obtain ⟨r,z,h1,h2,rfl⟩ := flatCells_get hm (fun r hr => (hall r hr).1) i v hv
    have h3 := (hrp _ r h1).2.2 _ z h2
    have h4 : i / m * m + i % m = i := by rw [Nat.mul_comm]; exact Nat.div_add_mod i m
    rw [h4] at h3
    exact ⟨_,h3,by simp only [VRel]⟩
  ·simp only [VRel]
   exact ⟨_,off,h,rfl,hl,.inl (by simp)⟩
  ·refine .mk (c := flatCells k rs) hid (by rw [cells?_of,ho]; rfl) (by rw [hfl,hrs]; omega) ?_
   rw [List.drop_zero]
   exact List.take_of_length_le (by rw [hfl,hrs]; omega)
end
end Go.VAI

/- A struct of a number and a row of structs of whole numbers that came in. -/
set_option linter.unusedVariables false
namespace Go.VAI
open Go Go.ChangeShapes Go.WideShapes Go.ChangeAt Go.RowKit

section
variable {H : Type} {enc : TypeId × Value → H} {P : Program} {W : World} {r : Reach} {base : Nat} {t s e : TypeId} {m : Nat}
theorem cell_has {a : Addr} {len cap : Nat} (ht : P.underlying t = some (.slice e)) (h : Cell.okWide P W r base t (.slice (some a) len cap)) : a.spot = none ∧ a.block < W.heap.size := by
 simp only [Cell.okWide,ht,Cell.ok,World.has] at h
 obtain ⟨_,_,_,h1,row,cells,h2,_⟩ := h
 refine ⟨h1,?_⟩
 apply Classical.byContradiction
 intro hn
 have : W.heap[a.block]? = none := by simp; omega
 simp [World.shape?,this] at h2
theorem opened_net {fs : Array Field} {x0 x1 : Field} {t0 : TypeId} {v : Value} {d : DataW H} {p : List MemPlace} (ht : P.underlying t = some (.struct fs)) (hct : P.cellsOf t = 2)
  (f0 : fs[0]? = some x0 ∧ x0.offset = 0 ∧ P.underlying x0.type = some (.int .i64) ∧ P.cellsOf x0.type = 1) (f1 : fs[1]? = some x1 ∧ x1.offset = 1 ∧ x1.type = s ∧ P.cellsOf s = 1) (hts : P.cellTypes P.depth t = some [t0,s])
  (hs : P.underlying s = some (.slice e)) (hf : FlatT P e .i64 m) (hm : 0 < m) (hok : Value.okWide P W r base t v) (h0 : DataW.Trod enc P W 0 (fun _ => true) true t v d p) :
  ∃ (n : Int) (a0 : Option Addr) (len cap : Nat) (rs : List (List Int)) (f : Nat → AVal) (l : Option Loc),v = .agg #[.int .i64 n,.slice a0 len cap] ∧ (Lit.int .i64 n).wf = true ∧
   (∀ r ∈ rs,r.length = m ∧ ∀ z ∈ r,(Lit.int .i64 z).wf = true) ∧ rs.length ≤ maxLen ∧
   (∀ l' ρ,l = some l' → l'.b < W.heap.size ∧ CRel ρ W l' (flatCells .i64 rs)) ∧ (∀ (ρ : Ren) id,ρ id = l → VRel ρ (f id) (.slice a0 len cap)) ∧
   (∀ (H : AHeap) id,id < H.next → H.obj id = some (.cells (flatCells .i64 rs) false) → Row H (f id) m (flatCells .i64 rs)) := by
 simp only [Value.okWide,ht] at hok
 obtain ⟨cs,rfl,hsz,ts,hts',_,hall⟩ := hok
 rw [hts] at hts'
 injection hts' with hts'
 subst hts'
 obtain ⟨fuel,hd⟩ := h0
 simp only [Value.cells] at hd
 obtain ⟨xs,n,_,_,hl,hxl,hel⟩ := DataW.trod_struct ht hd
 rw [hct] at hl hsz
 have e0 := hel 0 x0 f0.1
 have e1 := hel 1 x1 f1.1
 have hf1 : 1 < fs.size := (Array.getElem?_eq_some_iff.1 f1.1).1
 rw [f0.2.1,f0.2.2.2,List.getElem?_eq_getElem (by omega)] at e0
 rw [f1.2.1,f1.2.2.1,f1.2.2.2,List.getElem?_eq_getElem (by omega)] at e1
 obtain ⟨z,g0,_,hw⟩ := DataW.trod_int f0.2.2.1 e0
 obtain ⟨a0,len,cap,g1⟩ : ∃ a0 len cap,(cs.toList.drop 1).take 1 = [.slice a0 len cap] := by
  rcases DataW.trod_slice hs e1 with ⟨h,_⟩ | ⟨a,len,cap,_,_,_,_,h,_⟩
  ·exact ⟨_,_,_,h⟩
  ·exact ⟨_,_,_,h⟩
 rw [g1] at e1
 have hcs : cs = #[.int .i64 z,.slice a0 len cap] := by
  obtain ⟨l⟩ := cs
  match l,hl with
  | [u,w],_ =>
   simp at g0 g1
   rw [g0,g1]
 subst hcs
 obtain ⟨u,hu1,hu2⟩ := hall 1 (.slice a0 len cap) rfl
 simp at hu1
 subst hu1
 obtain ⟨rs,f,l,h1,h2,h3,h4,h5⟩ := opened_flat hs hf hm (fun a ha => cell_has hs (by rw [ha] at hu2; exact hu2)) e1
 exact ⟨z,a0,len,cap,rs,f,l,rfl,hw,h1,h2,h3,h4,h5⟩
end
end Go.VAI

namespace Go.Proofs.YtknhlpmmalcchaaDoor
open Go Go.VAI
def edgesOf (rs : List (List Int)) : List Edge := rs.map fun r => ⟨r.getD 0 0,r.getD 1 0,r.getD 2 0,r.getD 3 0⟩
theorem edges_flat : ∀ (rs : List (List Int)),(∀ r ∈ rs,r.length = 4) → edgeCells (edgesOf rs) = flatCells .i64 rs
 | [],_ => rfl
 | r :: rs,h => by
  have ih := edges_flat rs (fun x hx => h x (List.mem_cons_of_mem _ hx))
  have h4 := h r List.mem_cons_self
  match r,h4 with
  | [a,b,c,d],_ =>
   have e1 : edgeCells (edgesOf ([a,b,c,d] :: rs)) = [.int .i64 a,.int .i64 b,.int .i64 c,.int .i64 d] ++ edgeCells (edgesOf rs) := by simp [edgesOf,edgeCells,Edge.cells]
   rw [e1,ih]
   simp [flatCells]
theorem row_isCell {H : AHeap} {v : AVal} {sz : Nat} {cs : List AVal} (h : Row H v sz cs) : v.isCell = true := by cases h <;> rfl
theorem raw_isCell {f : Nat → AVal} {m : Nat} {cs : List AVal} (h : ∀ (H : AHeap) id,id < H.next → H.obj id = some (.cells cs false) → Row H (f id) m cs) (id : Nat) : (f id).isCell = true :=
 row_isCell (h ⟨fun _ => some (.cells cs false),id + 1⟩ id (Nat.lt_succ_self _) rfl)
theorem vrel_net {ρ : Ren} {n : Int} {x : AVal} {u : Value} (h : VRel ρ x u) (hc : x.isCell = true) : VRel ρ (.agg [.int .i64 n,x]) (.agg #[.int .i64 n,u]) := by
 simp only [VRel]
 refine ⟨[_,_],rfl,.cons (by simp only [VRel]) (.cons h .nil),fun c hc' => ?_⟩
 simp only [List.mem_cons,List.not_mem_nil,or_false] at hc'
 rcases hc' with rfl | rfl
 ·rfl
 ·exact hc
end Go.Proofs.YtknhlpmmalcchaaDoor

/- Closed facts of the program: what its head says,read as a list of signs (the kernel is slow at a long text's own signs). -/
namespace Go.Proofs.YtknhlpmmalcchaaDoor
open Go Go.ChangeShapes Go.WideShapes Go.ChangeAt Go.RowKit
set_option maxRecDepth 100000
def headSigns : List Char := List.map Char.ofNat [104,97,114,110,101,115,115,32,100,56,52,52,54,101,57,49,48,51,57,48,50,102,56,55,52,52,97,54,55,56,100,53,55,49,56,99,53,101,53,98,51,101,100,101,57,48,48,55,99,57,56,49,97,98,102,52,100,52,54,49,57,100,50,97,57,97,102,53,102,54,51,56,32,99,117,116,32,97,116,32,109,105,108,101,115,116,111,110,101,47,109,105,108,101,115,116,111,110,101,108,97,119,49,46,78,101,116,67,104,101,99,107,115,32,109,105,108,101,115,116,111,110,101,47,109,105,108,101,115,116,111,110,101,108,97,119,49,46,78,101,116,82,101,97,100,115,32,109,105,108,101,115,116,111,110,101,47,109,105,108,101,115,116,111,110,101,108,97,119,49,46,78,101,116,75,110,111,119,110,32,109,105,108,101,115,116,111,110,101,47,109,105,108,101,115,116,111,110,101,108,97,119,49,46,78,101,116,76,105,109,105,116,115,32,109,105,108,101,115,116,111,110,101,47,109,105,108,101,115,116,111,110,101,108,97,119,49,46,78,101,116,87,97,108,107,115,32,109,105,108,101,115,116,111,110,101,47,109,105,108,101,115,116,111,110,101,108,97,119,49,46,78,101,116,74,111,105,110,115,32,109,105,108,101,115,116,111,110,101,47,109,105,108,101,115,116,111,110,101,108,97,119,49,46,78,101,116,67,111,115,116,115,32,109,105,108,101,115,116,111,110,101,47,109,105,108,101,115,116,111,110,101,108,97,119,49,46,78,101,116,66,97,99,107,32,109,105,108,101,115,116,111,110,101,47,109,105,108,101,115,116,111,110,101,108,97,119,49,46,78,101,116,76,105,110,101,115,32,109,105,108,101,115,116,111,110,101,47,109,105,108,101,115,116,111,110,101,108,97,119,49,46,78,101,116,65,112,97,114,116]
theorem head_eq : Tryd.prog.initOrder = String.ofList headSigns := by kernel_rfl
theorem head_list : Tryd.prog.initOrder.toList = headSigns := by rw [head_eq,String.toList_ofList]
theorem head_words : ∃ rest,behindMainWord (wordsSigns headSigns) = "cut".toList :: rest := ⟨(behindMainWord (wordsSigns headSigns)).tail,by kernel_rfl⟩
theorem strip_cut (rest : List (List Char)) : stripLifts liftWords ("cut".toList :: rest) = ([],"cut".toList :: rest) := by kernel_rfl
theorem ne1 : ("cut".toList == "gc".toList) = false := by kernel_rfl
theorem ne2 : ("cut".toList == "spec".toList) = false := by kernel_rfl
theorem ne3 : ("cut".toList == "carried".toList) = false := by kernel_rfl
theorem words_of : ∃ rest,behindMainWord (wordsSigns Tryd.prog.initOrder.toList) = "cut".toList :: rest := by
 obtain ⟨rest,h⟩ := head_words
 exact ⟨rest,(congrArg (fun l => behindMainWord (wordsSigns l)) head_list).trans h⟩
theorem make_of (P : Program) (rest : List (List Char)) (h : behindMainWord (wordsSigns P.initOrder.toList) = "cut".toList :: rest) : P.make = some .cut := by
 unfold Program.make
 rw [h]
 simp only [ne1,ne2,beq_self_eq_true,Bool.false_or,Bool.true_or,Bool.or_self,Bool.false_eq_true,if_true,if_false]
theorem lifts_of (P : Program) (rest : List (List Char)) (h : behindMainWord (wordsSigns P.initOrder.toList) = "cut".toList :: rest) : P.liftsFinal = false := by
 unfold Program.liftsFinal Program.headLifts
 rw [h]
 have e : ((some "cut".toList : Option (List Char)) == some "carried".toList) = false := by kernel_rfl
 simp only [strip_cut,List.head?_cons,beq_self_eq_true,if_true,e,Bool.false_and,Bool.false_or]
 rfl
theorem enter_of (P : Program) (rest : List (List Char)) (h : behindMainWord (wordsSigns P.initOrder.toList) = "cut".toList :: rest) (h1 : P.laysLater = false) (h2 : P.bearsReflect = false) (h3 : P.doorFits [] = true) : P.mayEnter = true := by
 unfold Program.mayEnter
 rw [h]
 simp only [strip_cut,ne1,ne2,ne3,h1,h2,h3,List.head?_cons,beq_self_eq_true,Bool.false_or,Bool.or_false,Bool.false_and,Bool.true_and,Bool.and_true,Bool.not_false,Bool.or_true,List.contains_nil]
theorem fact_make : Tryd.prog.make = some .cut := by
 obtain ⟨rest,h⟩ := words_of
 exact make_of _ _ h
theorem fact_lifts : Tryd.prog.liftsFinal = false := by
 obtain ⟨rest,h⟩ := words_of
 exact lifts_of _ _ h
theorem fact_later : Tryd.prog.laysLater = false := by kernel_rfl
theorem fact_reflect : Tryd.prog.bearsReflect = false := by kernel_rfl
theorem fact_door : Tryd.prog.doorFits [] = true := by kernel_rfl
theorem fact_enter : Tryd.prog.mayEnter = true := by
 obtain ⟨rest,h⟩ := words_of
 exact enter_of _ _ h fact_later fact_reflect fact_door
theorem fact_laid : laidOutB Tryd.prog = true := by kernel_rfl
theorem fact_maps : mapsRowed Tryd.prog = true := by kernel_rfl
theorem fact_heard : Tryd.prog.stopsHeard = true := by kernel_rfl
theorem own : ownKnob Tryd.prog.godebug = none := by kernel_rfl
theorem follows : Tryd.prog.follows .mixedOrders = true := by kernel_rfl
end Go.Proofs.YtknhlpmmalcchaaDoor

/- What the rows' condition gives of the package variables at the start; the builder that hands both it and the world's shape to the contract. -/
namespace Go
variable {H : Type} {enc : TypeId × Value → H}
theorem returnsInHanded_of_change_both {a : Assume} {C : Checked} {os : Os} {f : FuncId} {fn : Func} {s : ChangeSpec} {conds : List PathCond} {apart fresh handsOn again : Bool} {X : World → Array Value → Prop}
  (hX : ∀ (w w' : World) (args : Array Value),w.heap = w'.heap → X w args → X w' args)
  (own : ownKnob C.prog.godebug = none) (started : os.Started) (noInit : C.prog.inits.idxOf? f = none) (hfn : C.prog.funcs[f]? = some fn)
  (witness : ∃ (w : World) (tape : Tape) (i : Input),w.os = os ∧ (w.forCall tape i).Shaped C.prog ∧ i.vars = [] ∧ Input.okWide C.prog (w.forCall tape i) .any w.heap.size f i ∧
   ((s.pre enc C.prog fn conds apart (w.forCall tape i).memory i.args ∧ X (w.forCall tape i).memory i.args) ∧ sizedMet enc C.prog fn (OpenSpec.ofChange s) apart (w.forCall tape i).memory i.args) ∧ a.holds C.prog (lone (Frame.enter C.prog f i.args .normal) [] (w.forCall tape i)))
  (contract : ∀ (W : World) (base : Nat) (args : Array Value) (ds gs : List (DataW H)) (before : List MemPlace),
   (∀ (j : Nat) t v,fn.params[j]? = some t → args[j]? = some v → Value.okWide C.prog W .any base t v) →
   DataW.Whole enc C.prog fn.params.toList s.vars apart W args.toList ds gs before →
   X W args → W.ShapedOpen C.prog →
   Calls C.prog f args W fun e W' => ∃ v,e = .returned v ∧ s.post enc C.prog fn apart fresh handsOn again W args v W') :
  ReturnsInHanded a C os f .any (fun w args => (s.pre enc C.prog fn conds apart w args ∧ X w args) ∧ sizedMet enc C.prog fn (OpenSpec.ofChange s) apart w args) (s.post enc C.prog fn apart fresh handsOn again) := by
 refine returnsInHanded_of_calls own started noInit witness ?_
 intro w tape i _ hsh _ hok hpre hholds
 obtain ⟨_,_,_,fn',hfn',_,_,_,_,hval⟩ := hok
 have e : fn' = fn := Option.some.inj (hfn'.symm.trans hfn)
 subst e
 obtain ⟨⟨⟨ds,gs,before,hw,hc⟩,hx⟩,hz⟩ := hpre
 have hw' := DataW.Whole.of_heap (w' := w.forCall tape i) (by rfl) hw
 refine (contract (w.forCall tape i) w.heap.size i.args ds gs before hval hw' (hX _ _ _ (by rfl) hx) hsh).mono fun e W' ⟨v,he,hp⟩ => ?_
 subst he
 exact ChangeSpec.post_blind hp
end Go
namespace Go.Proofs.YtknhlpmmalcchaaDoor
open Go Go.VAI Go.ChangeShapes Go.WideShapes Go.ChangeAt Go.RowKit
set_option linter.unusedVariables false
set_option linter.unusedSimpArgs false
def laidD : List (String × DataW Unit) := Rows.netKnownRow.laid
theorem laidD_plain : (laidD.all fun x => x.2.handleName?.isNone) = true := by kernel_rfl
theorem pow_data : (Rows.laid_internal_strconv_uint64pow10 : DataW Unit) = Lib.tabData .u64 Lib.pow10Tab := by kernel_rfl
theorem gErrR : Tryd.prog.globalNamed "strconv.ErrRange" = some 5 := by kernel_rfl
theorem gErrS : Tryd.prog.globalNamed "strconv.ErrSyntax" = some 4 := by kernel_rfl
theorem tPow : (Tryd.prog.globals[1]?).map (·.type) = some 108 := by kernel_rfl
theorem tErrR : (Tryd.prog.globals[5]?).map (·.type) = some 71 := by kernel_rfl
theorem tErrS : (Tryd.prog.globals[4]?).map (·.type) = some 71 := by kernel_rfl
theorem cellsPow : Tryd.prog.cellsOf 108 = 20 := by kernel_rfl
theorem iface_of_trod {P : Program} {w : World} {base : Nat} {sp : Nat → Bool} {held : Bool} {fuel : Nat} {t : TypeId} {ms : Array (String × TypeId)} {cs : List Value} {x : DataW Unit × List MemPlace} {enc : TypeId × Value → Unit}
  (ht : P.underlying t = some (.interface ms)) (h : DataW.trod enc P w base sp held fuel t cs = some x) : ∃ v,cs = [v] ∧ (v = .nilIface ∨ ∃ te pe,v = .iface te pe) := by
 cases fuel with
 | zero => simp [DataW.trod] at h
 | succ fuel =>
  match cs,h with
  | [],h => simp [DataW.trod,ht] at h
  | [v],h =>
   refine ⟨v,rfl,?_⟩
   cases v <;> first
    | exact .inl rfl
    | exact .inr ⟨_,_,rfl⟩
    | (exfalso; simp [DataW.trod,ht] at h)
  | _ :: _ :: _,h => simp [DataW.trod,ht] at h
set_option maxRecDepth 100000 in
theorem glob_of_laid {W : World} (h : laidMetH Tryd.prog laidD W) (hs : W.ShapedOpen Tryd.prog) : Glob W := by
 rw [MakeChecks.laidMetH_plain _ _ _ laidD_plain] at h
 obtain ⟨ps,⟨_,_,_,_,_,_,_,_,_,_,⟨_,_,_,_,_,_,_,_,_,_,⟨g,t,cs,fuel,p,q,hg,ht,hv,hd,⟨_,_,_,_,_,_,_,_,_,_,⟨g5,t5,cs5,f5,p5,q5,hg5,ht5,hv5,hd5,⟨g4,t4,cs4,f4,p4,q4,hg4,ht4,hv4,hd4,_,_⟩,_⟩,_⟩,_⟩,_⟩,_⟩,_,_⟩ := h
 obtain rfl := Option.some.inj (gPow.symm.trans hg)
 obtain rfl := Option.some.inj (tPow.symm.trans ht)
 obtain rfl := Option.some.inj (gErrR.symm.trans hg5)
 obtain rfl := Option.some.inj (tErrR.symm.trans ht5)
 obtain rfl := Option.some.inj (gErrS.symm.trans hg4)
 obtain rfl := Option.some.inj (tErrS.symm.trans ht4)
 have iface : ∀ (n : String) (b : Nat) (cs : Array Value) x fuel,Tryd.prog.globalNamed n = some b → W.var? Tryd.prog n = some cs → DataW.trod (fun _ => ()) Tryd.prog W 0 (fun _ => true) false fuel 71 cs.toList = some x → IfaceAt W b := fun n b cs x fuel hg hv hd => by
  obtain ⟨v,e1,e2⟩ := iface_of_trod Tryd.underlying71 hd
  refine ⟨v,?_,e2⟩
  have := World.var?_cell hg hv 0
  rw [this,← Array.getElem?_toList,e1]
  rfl
 refine ⟨Tryd.split.s1_3 W hs,?_,?_,?_⟩
 ·rw [pow_data] at hd
  have e := Lib.cells_of_tab Tryd.underlying108 Tryd.underlying93 (by kernel_rfl) cellsPow hd
  have hv' : World.var? Tryd.prog W powName = some cs := hv
  unfold World.var? at hv'
  rw [gPow] at hv'
  simp only [Option.bind_some] at hv'
  split at hv'
  ·rename_i c E fz hb
   injection hv' with hv'
   subst hv'
   refine ⟨E,fz,?_⟩
   rw [hb,← pow_eq,← e]
  ·cases hv'
 ·exact iface _ 4 cs4 _ f4 gErrS hv4 hd4
 ·exact iface _ 5 cs5 _ f5 gErrR hv5 hd5
end Go.Proofs.YtknhlpmmalcchaaDoor
