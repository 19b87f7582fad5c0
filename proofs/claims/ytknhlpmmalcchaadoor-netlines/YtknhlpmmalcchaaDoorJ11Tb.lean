/- Steps of the walk. -/
import Derived.Test.YtknhlpmmalcchaaDoorJ11Ta
import Derived.Test.YtknhlpmmalcchaaDoorJ11Vba
import Derived.Test.YtknhlpmmalcchaaDoorJ11Vca
import Derived.Shelf.Strings.OnBuilder
import Derived.Test.YtknhlpmmalcchaaDoorProg
import Derived.Lib.AppendStr
set_option linter.all false
set_option linter.unusedVariables false
set_option linter.unusedSimpArgs false
namespace Go.Proofs.YtknhlpmmalcchaaDoor
open Go Go.VAI
set_option linter.unusedSimpArgs false

theorem append_nil_ret {lo : Nat} {ev : AVal} {es : List Edge} {H : AHeap} {W : AVal → AHeap → Prop} (hg : Grown lo H ev 4 (edgeCells es)) (hlen : es.length ≤ 400)
  (hW : ∀ v' H',H.next ≤ H'.next → (∀ j,j < H.next → H'.obj j = H.obj j) → Grown H.next H' v' 4 (edgeCells es) → W v' H') : atResult (aappend H 4 32 .nilSlice ev) W := by
 have hl := edgeCells_length es
 generalize edgeCells es = cs at *
 cases hg with
 | nil => exact hW .nilSlice H (Nat.le_refl _) (fun _ _ => rfl) .nil
 | @mk id len _ _ hlo hhi ho hlen2 =>
  have ht : taken H 4 (.slice id 0 len (.room 4)) = some (len,cs) := taken_one (by rw [cells?_of,ho]; rfl) hlen2
  by_cases h0 : len = 0
  ·have e : aappend H 4 32 .nilSlice (.slice id 0 len (.room 4)) = some (.nilSlice,H) := by
    simp only [aappend,ht,bnd]
    rw [if_pos h0]
   rw [e]
   have : cs = [] := List.eq_nil_of_length_eq_zero (by omega)
   subst this
   exact hW .nilSlice H (Nat.le_refl _) (fun _ _ => rfl) .nil
  ·have e : aappend H 4 32 .nilSlice (.slice id 0 len (.room 4)) = some (.slice H.next 0 len (.room 4),H.new (.cells cs true)) := by
    simp only [aappend,ht,bnd]
    rw [if_neg h0,if_pos ⟨by omega,by omega⟩]
   rw [e]
   exact hW _ _ (by simp only [next_new]; omega) (fun j hj => obj_new_ne (by omega)) (.mk (Nat.le_refl _) (by simp only [next_new]; omega) (obj_new_eq rfl) hlen2)
theorem lines_cons (f : NetS → List UInt8 → Option NetS) (x : NetS) (k : Nat) (w : List UInt8) (ws : List (List UInt8)) : linesOf f x k (w :: ws) = if w = [] then linesOf f x (k + 1) ws else match f x w with
  | none => .inr (k + 1)
  | some y => linesOf f y (k + 1) ws := rfl
theorem addP_len {x y : NetS} {it : Item} (h : addP x it = some y) (hl : x.es.length ≤ 400) (h0 : x.n = 0 → x.es = []) : y.es.length ≤ 400 ∧ (y.n = 0 → y.es = []) := by
 cases it with
 | size k =>
  simp only [addP] at h
  split at h
  ·injection h with h; subst h
   exact ⟨hl,fun hk => by rename_i hh; have : k = 0 := hk; omega⟩
  ·cases h
 | edge e =>
  simp only [addP] at h
  split at h
  ·rename_i hh
   injection h with h; subst h
   exact ⟨by simp; omega,fun hk => absurd hk hh.1⟩
  ·cases h
 | no => cases h
theorem parse_long {f : NetS → List UInt8 → Option NetS} {s : List UInt8} (h : 60000 < s.length) : parseOf f s = (none0,0,2) := by
 unfold parseOf
 rw [if_pos h]
theorem parse_bad {f : NetS → List UInt8 → Option NetS} {s : List UInt8} {k : Nat} (h : ¬ 60000 < s.length) (hl : linesOf f none0 0 (cutAt 10 s) = .inr k) : parseOf f s = (none0,k,2) := by
 unfold parseOf
 rw [if_neg h,hl]
theorem parse_zero {f : NetS → List UInt8 → Option NetS} {s : List UInt8} {x : NetS} (h : ¬ 60000 < s.length) (hl : linesOf f none0 0 (cutAt 10 s) = .inl x) (hx : x.n = 0) : parseOf f s = (none0,1,2) := by
 unfold parseOf
 rw [if_neg h,hl]
 simp only [if_pos hx]
theorem parse_good {f : NetS → List UInt8 → Option NetS} {s : List UInt8} {x : NetS} (h : ¬ 60000 < s.length) (hl : linesOf f none0 0 (cutAt 10 s) = .inl x) (hx : ¬ x.n = 0) : parseOf f s = (x,0,0) := by
 unfold parseOf
 rw [if_neg h,hl]
 simp only [if_neg hx]
set_option maxRecDepth 20000 in
set_option maxHeartbeats 2000000 in
theorem parse_ret {s : List UInt8} {H : AHeap} {Q : AVal → AHeap → Prop}
  (hq : ∀ ev H',Keep Nothing H H' → Grown H.next H' ev 4 (edgeCells (parseOf stepP s).1.es) → Q (.tuple [.agg [.int .i64 (parseOf stepP s).1.n,ev],.int .i64 ((parseOf stepP s).2.1 : Nat),.int .i64 (parseOf stepP s).2.2]) H') : Ret A 20 [.str (bs s)] H Q := by
 refine Ret.of (fn := F20) rfl ?_
 have p1 := @parse_long stepP s
 have p2 := @parse_bad stepP s
 have p3 := @parse_zero stepP s
 have p4 := @parse_good stepP s
 generalize parseOf stepP s = R at *
 by_cases hlen : (60000 : Int) < s.length
 ·have hR := p1 (by omega)
  subst hR
  simp (disch := first | omega | (simp only [next_new,next_upd] <;> omega) | fail) only [vai,vaim,vaic,vas,bots,Bool.not_true,Bool.not_false,decide_true,decide_false,wrap64,F20,hlen,decide_true,Nat.reduceAdd,Nat.reduceMul,Nat.reduceLeDiff,Nat.reduceEqDiff,↓reduceIte]
  exact hq .nilSlice _ (((Keep.refl _ _).new _).upd (.inl (by omega)) _) .nil
 simp (disch := first | omega | (simp only [next_new,next_upd] <;> omega) | fail) only [vai,vaim,vaic,vas,bots,Bool.not_true,Bool.not_false,decide_true,decide_false,wrap64,F20,hlen,decide_false,Nat.reduceAdd,Nat.reduceMul,Nat.reduceLeDiff,Nat.reduceEqDiff,↓reduceIte]
 refine split_ret (by omega) ?_
 have hle := cutAt_le 10 s
 have hLl : (cutAt 10 s).length ≤ 60001 := by
  rw [cutAt_len]
  have := List.count_le_length (a := (10 : UInt8)) (l := s)
  omega
 generalize cutAt 10 s = L at *
 simp (disch := first | omega | (simp only [next_new,next_upd] <;> omega) | fail) only [vai,vaim,vaic,vas,bots,Bool.not_true,Bool.not_false,decide_true,decide_false,wrap64,Nat.reduceAdd,Nat.reduceMul,Nat.reduceLeDiff,Nat.reduceEqDiff,↓reduceIte]
 refine wpx_loop (fun m t H' => ∃ (i : Nat) (x : NetS) (ev : AVal),m = L.length - i ∧ i ≤ L.length ∧ t = (bots 2 (.ptr H.next 0 :: bots 9 (.slice (H.next + 1) 0 L.length (.exact L.length) :: .int .i64 L.length :: .int .i64 i :: bots 25 ([]))) : Tmps) ∧ Keep Nothing H H' ∧ H.next + 2 ≤ H'.next ∧
  H'.obj H.next = some (.cells [.int .i64 x.n,ev] true) ∧ H'.obj (H.next + 1) = some (.cells (strs L) true) ∧ Grown (H.next + 2) H' ev 4 (edgeCells x.es) ∧ Small x ∧ (x.n = 0 → x.es = []) ∧ x.es.length ≤ 400 ∧ linesOf stepP none0 0 L = linesOf stepP x i (L.drop i)) L.length ?_ ?_
 ·refine ⟨0,none0,.nilSlice,rfl,by omega,rfl,((Keep.refl _ _).new _).new _,(by first | omega | (simp only [next_new,next_upd]; omega)),?_,?_,.nil,small0,fun _ => rfl,by simp [none0],rfl⟩
  ·simp (disch := first | omega | (simp only [next_new,next_upd] <;> omega) | fail) only [vaim]; rfl
  ·simp (disch := first | omega | (simp only [next_new,next_upd] <;> omega) | fail) only [vaim]
 ·rintro m t H1 ⟨i,x,ev,rfl,hi,rfl,k1,hn1,o1,o2,hg,hsm,h0,hl4,hlin⟩
  by_cases hc : (i : Int) < L.length
  ·have hil : i < L.length := by omega
   have hd : L.drop i = L[i] :: L.drop (i + 1) := List.drop_eq_getElem_cons hil
   have hw := hle L[i] (List.getElem_mem hil)
   have hs : (strs L)[i]? = some (.str (bs L[i])) := by simp [strs,hil]
   rw [hd] at hlin
   generalize L[i] = w at *
   rw [lines_cons] at hlin
   by_cases hw0 : w = []
   ·rw [if_pos hw0] at hlin
    simp (disch := first | omega | (simp only [next_new,next_upd] <;> omega) | fail) only [vai,vaim,vaic,vas,bots,Bool.not_true,Bool.not_false,decide_true,decide_false,wrap64,hc,decide_true,o2,hs,hw0,Int.toNat_natCast,ne_eq,not_true_eq_false,decide_false,Nat.reduceAdd,Nat.reduceMul,Nat.reduceLeDiff,Nat.reduceEqDiff,↓reduceIte]
    refine ⟨L.length - (i + 1),by omega,i + 1,x,ev,rfl,by omega,rfl,k1,hn1,o1,hg,hsm,h0,hl4,hlin⟩
   ·rw [if_neg hw0] at hlin
    simp (disch := first | omega | (simp only [next_new,next_upd] <;> omega) | fail) only [vai,vaim,vaic,vas,bots,Bool.not_true,Bool.not_false,decide_true,decide_false,wrap64,hc,decide_true,o2,hs,hw0,Int.toNat_natCast,ne_eq,not_false_eq_true,Nat.reduceAdd,Nat.reduceMul,Nat.reduceLeDiff,Nat.reduceEqDiff,↓reduceIte]
    refine line_ret (by omega) fun H2 k2 => ?_
    have n2 := k2.next
    simp (disch := first | omega | (simp only [next_new,next_upd] <;> omega) | fail) only [vai,vaim,vaic,vas,bots,Bool.not_true,Bool.not_false,decide_true,decide_false,wrap64,Nat.reduceAdd,Nat.reduceMul,Nat.reduceLeDiff,Nat.reduceEqDiff,↓reduceIte]
    refine add_ret (lo := H.next + 2) (x := x) (by omega) (by omega) ((k2.old (by omega)).trans o1) (hg.keep n2 fun j h1 h2 => k2.old h2) h0 hl4 (fun hno H3 a b n3 k3 o3 => ?_) (fun y hyes H3 ev3 n3 k3 o3 g3 => ?_)
    ·have hst : stepP x w = none := hno
     rw [hst] at hlin
     simp only at hlin
     have hR := p2 (by omega) hlin
     subst hR
     simp (disch := first | omega | (simp only [next_new,next_upd] <;> omega) | fail) only [vai,vaim,vaic,vas,bots,Bool.not_true,Bool.not_false,decide_true,decide_false,wrap64,o3,Nat.reduceAdd,Nat.reduceMul,Nat.reduceLeDiff,Nat.reduceEqDiff,↓reduceIte]
     refine hq .nilSlice _ ?_ .nil
     refine Keep.upd ⟨by have := k1.next; omega,fun j hj hm => ?_⟩ (.inl (Nat.le_refl _)) _
     rw [k3 j (by omega) (by omega),k2.old (by omega)]
     exact k1.old hj
    ·have hst : stepP x w = some y := hyes
     rw [hst] at hlin
     simp only at hlin
     obtain ⟨q1,q2⟩ := addP_len hyes hl4 h0
     simp (disch := first | omega | (simp only [next_new,next_upd] <;> omega) | fail) only [vai,vaim,vaic,vas,bots,Bool.not_true,Bool.not_false,decide_true,decide_false,wrap64,Nat.reduceAdd,Nat.reduceMul,Nat.reduceLeDiff,Nat.reduceEqDiff,↓reduceIte]
     refine ⟨L.length - (i + 1),by omega,i + 1,y,ev3,rfl,by omega,rfl,⟨by have := k1.next; omega,fun j hj hm => ?_⟩,by omega,o3,?_,g3,stepP_small hsm hst,q2,q1,hlin⟩
     ·rw [k3 j (by omega) (by omega),k2.old (by omega)]
      exact k1.old hj
     ·rw [k3 _ (by omega) (by omega),k2.old (by omega)]
      exact o2
  ·have hiL : i = L.length := by omega
   rw [hiL,List.drop_length] at hlin
   have hlin2 : linesOf stepP none0 0 L = .inl x := hlin
   by_cases hx : x.n = 0
   ·have hR := p3 (by omega) hlin2 hx
    subst hR
    simp (disch := first | omega | (simp only [next_new,next_upd] <;> omega) | fail) only [vai,vaim,vaic,vas,bots,Bool.not_true,Bool.not_false,decide_true,decide_false,wrap64,hc,o1,hx,decide_true,decide_false,Nat.reduceAdd,Nat.reduceMul,Nat.reduceLeDiff,Nat.reduceEqDiff,↓reduceIte]
    exact hq .nilSlice _ (k1.upd (.inl (Nat.le_refl _)) _) .nil
   ·have hR := p4 (by omega) hlin2 hx
    subst hR
    simp (disch := first | omega | (simp only [next_new,next_upd] <;> omega) | fail) only [vai,vaim,vaic,vas,bots,Bool.not_true,Bool.not_false,decide_true,decide_false,wrap64,hc,o1,hx,decide_true,decide_false,Nat.reduceAdd,Nat.reduceMul,Nat.reduceLeDiff,Nat.reduceEqDiff,↓reduceIte]
    refine append_nil_ret hg hl4 fun v' H2 n2 k2 g2 => ?_
    have o3 := (k2 H.next (by omega)).trans o1
    have hcv := g2.cells
    simp (disch := first | omega | (simp only [next_new,next_upd] <;> omega) | fail) only [vai,vaim,vaic,vas,bots,Bool.not_true,Bool.not_false,decide_true,decide_false,wrap64,o3,hcv,Nat.reduceAdd,Nat.reduceMul,Nat.reduceLeDiff,Nat.reduceEqDiff,↓reduceIte]
    refine hq v' _ ?_ ?_
    ·refine Keep.upd (Keep.upd ⟨by have := k1.next; omega,fun j hj hm => (k2 j (by omega)).trans (k1.old hj)⟩ (.inl (Nat.le_refl _)) _) (.inl (Nat.le_refl _)) _
    ·exact ((g2.upd (by omega) _).upd (by omega) _).keep' ⟨by omega,Nat.le_refl _⟩ (fun _ _ _ => rfl)
end Go.Proofs.YtknhlpmmalcchaaDoor

namespace Go.Proofs.YtknhlpmmalcchaaDoor
open Go Go.VAI
set_option linter.unusedSimpArgs false

end Go.Proofs.YtknhlpmmalcchaaDoor

namespace Go.Proofs.YtknhlpmmalcchaaDoor
open Go Go.VAI
set_option linter.unusedSimpArgs false

def part (l : List UInt8) (a i : Nat) : List UInt8 := (l.drop a).take (i - a)
theorem part_drop {l : List UInt8} {a i : Nat} (h : a ≤ i) : l.drop a = part l a i ++ l.drop i := by
 unfold part
 have e : l.drop i = (l.drop a).drop (i - a) := by rw [List.drop_drop]; congr 1; omega
 rw [e,List.take_append_drop]
theorem part_self (l : List UInt8) (a : Nat) : part l a a = [] := by simp [part]
theorem part_snoc {l : List UInt8} {a i : Nat} {b : UInt8} (h : a ≤ i) (hb : l[i]? = some b) : part l a (i + 1) = part l a i ++ [b] := by
 unfold part
 rw [show i + 1 - a = (i - a) + 1 by omega,List.take_succ]
 congr 1
 rw [List.getElem?_drop,show a + (i - a) = i by omega,hb]
 rfl
theorem part_length {l : List UInt8} {a i : Nat} (h : a ≤ i) (hi : i ≤ l.length) : (part l a i).length = i - a := by
 unfold part
 rw [List.length_take,List.length_drop]
 omega
theorem cut_hit {c : UInt8} {l : List UInt8} {a i : Nat} (h : a ≤ i) (hb : l[i]? = some c) (hn : c ∉ part l a i) : cutAt c (l.drop a) = part l a i :: cutAt c (l.drop (i + 1)) := by
 have hi : i < l.length := (List.getElem?_eq_some_iff.1 hb).1
 have e : l.drop i = c :: l.drop (i + 1) := by
  rw [List.drop_eq_getElem_cons hi]
  congr 1
  rw [List.getElem?_eq_getElem hi] at hb
  exact Option.some.inj hb
 rw [part_drop h,e,cutAt_piece _ hn]
theorem cut_end {c : UInt8} {l : List UInt8} {a : Nat} (h : a ≤ l.length) (hn : c ∉ part l a l.length) : cutAt c (l.drop a) = [part l a l.length] := by
 rw [part_drop h,List.drop_length,List.append_nil,cutAt_last hn]
theorem part_step {c b : UInt8} {l : List UInt8} {a i : Nat} (h : a ≤ i) (hb : l[i]? = some b) (hbc : b ≠ c) (hn : c ∉ part l a i) : c ∉ part l a (i + 1) := by
 rw [part_snoc h hb]
 simp only [List.mem_append,List.mem_singleton,not_or]
 exact ⟨hn,fun e => hbc e.symm⟩
end Go.Proofs.YtknhlpmmalcchaaDoor

namespace Go.Proofs.YtknhlpmmalcchaaDoor
open Go Go.VAI
set_option linter.unusedSimpArgs false

end Go.Proofs.YtknhlpmmalcchaaDoor

namespace Go.Proofs.YtknhlpmmalcchaaDoor
open Go Go.VAI
set_option linter.unusedSimpArgs false

end Go.Proofs.YtknhlpmmalcchaaDoor

namespace Go.Proofs.YtknhlpmmalcchaaDoor
open Go Go.VAI
set_option linter.unusedSimpArgs false

theorem nflat4 {a b c d e f g h : Int} : abin .neq (.flat [.int,.int,.int,.int]) (.agg [.int .i64 a,.int .i64 b,.int .i64 c,.int .i64 d]) (.agg [.int .i64 e,.int .i64 f,.int .i64 g,.int .i64 h]) = some (.bool (!(decide (a = e) && (decide (b = f) && (decide (c = g) && (decide (d = h) && true)))))) := rfl
theorem edge_neq {x y : Edge} : abin .neq (.flat [.int,.int,.int,.int]) (.agg x.cells) (.agg y.cells) = some (.bool (decide (x ≠ y))) := by
 obtain ⟨a,b,c,d⟩ := x
 obtain ⟨e,f,g,h⟩ := y
 simp only [Edge.cells,nflat4]
 congr 2
 by_cases h1 : a = e <;> by_cases h2 : b = f <;> by_cases h3 : c = g <;> by_cases h4 : d = h <;> simp [h1,h2,h3,h4]

set_option maxRecDepth 20000 in
set_option maxHeartbeats 1000000 in
theorem same_ret {n m : Int} {ev ev' : AVal} {es fs : List Edge} {H : AHeap} {Q : AVal → AHeap → Prop} (hr : Row H ev 4 (edgeCells es)) (hs : Row H ev' 4 (edgeCells fs)) (hle : es.length ≤ 1000000)
  (hq : ∀ b H',Keep Nothing H H' → Says b (n = m ∧ es = fs) → Q (.bool b) H') : Ret A 22 [.agg [.int .i64 n,ev],.agg [.int .i64 m,ev']] H Q := by
 refine Ret.of (fn := F22) rfl ?_
 have hl1 := hr.len (by omega) (edgeCells_length es)
 have hl2 := hs.len (by omega) (edgeCells_length fs)
 have hb1 := hr.beq
 have hb2 := hs.beq
 have k0 : Keep Nothing H ((H.new (.cells [.int .i64 n,ev] true)).new (.cells [.int .i64 m,ev'] true)) := ((Keep.refl _ _).new _).new _
 by_cases c1 : n = m
 ·by_cases c2 : (es.length : Int) = fs.length
  ·have hd1 : decide (n ≠ m) = false := decide_eq_false (fun h => h c1)
   have hd2 : decide ((es.length : Int) ≠ fs.length) = false := decide_eq_false (fun h => h c2)
   simp (disch := first | omega | (simp only [next_new,next_upd] <;> omega) | fail) only [vai,vaim,vaic,vas,bots,Bool.not_true,Bool.not_false,decide_true,decide_false,wrap64,F22,hd1,hl1,hl2,hd2,Nat.reduceAdd,Nat.reduceMul,Nat.reduceLeDiff,Nat.reduceEqDiff,↓reduceIte]
   refine wpx_loop (fun mm t H' => ∃ (i : Nat),mm = es.length - i ∧ i ≤ es.length ∧ t = (bots 2 (.ptr H.next 0 :: .ptr (H.next + 1) 0 :: bots 1 (.int .i64 i :: bots 32 ([]))) : Tmps) ∧ Keep Nothing H H' ∧ H'.obj H.next = some (.cells [.int .i64 n,ev] true) ∧ H'.obj (H.next + 1) = some (.cells [.int .i64 m,ev'] true) ∧ H.next + 2 ≤ H'.next ∧ es.take i = fs.take i) es.length ?_ ?_
   ·exact ⟨0,rfl,by omega,rfl,k0,by simp (disch := first | omega | (simp only [next_new,next_upd] <;> omega) | fail) only [vaim],by simp (disch := first | omega | (simp only [next_new,next_upd] <;> omega) | fail) only [vaim],(by first | omega | (simp only [next_new,next_upd]; omega)),by simp⟩
   ·rintro mm t H1 ⟨i,rfl,hi,rfl,k1,o1,o2,hn,heq⟩
    by_cases hc : (i : Int) < es.length
    ·have hi1 : i < es.length := by omega
     have hi2 : i < fs.length := by omega
     have he1 : es[i]? = some es[i] := List.getElem?_eq_getElem hi1
     have he2 : fs[i]? = some fs[i] := List.getElem?_eq_getElem hi2
     have ht1 := List.take_succ_eq_append_getElem hi1
     have ht2 := List.take_succ_eq_append_getElem hi2
     obtain ⟨id,off,e1,_,_,_,_,_,e6⟩ := edge_at (hr.kept k1) he1
     obtain ⟨id',off',f1,_,_,_,_,_,f6⟩ := edge_at (hs.kept k1) he2
     have hget : es[i] = es[i] := rfl
     generalize hx : es[i] = x at *
     generalize hy : fs[i] = y at *
     by_cases hxy : x = y
     ·have hd : decide (x ≠ y) = false := decide_eq_false (fun h => h hxy)
      simp (disch := first | omega | (simp only [next_new,next_upd] <;> omega) | fail) only [vai,vaim,vaic,vas,bots,Bool.not_true,Bool.not_false,decide_true,decide_false,wrap64,hc,decide_true,o1,o2,hl1,hl2,e1,e6,f1,f6,edge_neq,hd,Nat.reduceAdd,Nat.reduceMul,Nat.reduceLeDiff,Nat.reduceEqDiff,↓reduceIte]
      exact ⟨es.length - (i + 1),by omega,i + 1,rfl,by omega,rfl,k1,hn,by rw [ht1,ht2,heq,hxy]⟩
     ·have hd : decide (x ≠ y) = true := decide_eq_true hxy
      simp (disch := first | omega | (simp only [next_new,next_upd] <;> omega) | fail) only [vai,vaim,vaic,vas,bots,Bool.not_true,Bool.not_false,decide_true,decide_false,wrap64,hc,decide_true,o1,o2,hl1,hl2,e1,e6,f1,f6,edge_neq,hd,Nat.reduceAdd,Nat.reduceMul,Nat.reduceLeDiff,Nat.reduceEqDiff,↓reduceIte]
      refine hq _ _ k1 (says_no fun h => hxy ?_)
      rw [← hx,← hy]
      simp only [h.2]
    ·have hie : i = es.length := by omega
     simp (disch := first | omega | (simp only [next_new,next_upd] <;> omega) | fail) only [vai,vaim,vaic,vas,bots,Bool.not_true,Bool.not_false,decide_true,decide_false,wrap64,hc,decide_false,o1,hl1,Nat.reduceAdd,Nat.reduceMul,Nat.reduceLeDiff,Nat.reduceEqDiff,↓reduceIte]
     refine hq _ _ k1 (says_yes ⟨c1,?_⟩)
     rw [hie,List.take_length] at heq
     rw [heq,List.take_of_length_le (by omega)]
  ·have hd1 : decide (n ≠ m) = false := decide_eq_false (fun h => h c1)
   have hd2 : decide ((es.length : Int) ≠ fs.length) = true := decide_eq_true c2
   simp (disch := first | omega | (simp only [next_new,next_upd] <;> omega) | fail) only [vai,vaim,vaic,vas,bots,Bool.not_true,Bool.not_false,decide_true,decide_false,wrap64,F22,hd1,hl1,hl2,hd2,Nat.reduceAdd,Nat.reduceMul,Nat.reduceLeDiff,Nat.reduceEqDiff,↓reduceIte]
   exact hq _ _ k0 (says_no fun h => c2 (by rw [h.2]))
 ·have hd1 : decide (n ≠ m) = true := decide_eq_true c1
  simp (disch := first | omega | (simp only [next_new,next_upd] <;> omega) | fail) only [vai,vaim,vaic,vas,bots,Bool.not_true,Bool.not_false,decide_true,decide_false,wrap64,F22,hd1,Nat.reduceAdd,Nat.reduceMul,Nat.reduceLeDiff,Nat.reduceEqDiff,↓reduceIte]
  exact hq _ _ k0 (says_no fun h => c1 h.1)

end Go.Proofs.YtknhlpmmalcchaaDoor

namespace Go.Proofs.YtknhlpmmalcchaaDoor
open Go Go.VAI
set_option linter.unusedSimpArgs false

theorem fits_take {x : NetS} (h : Fits x) (i : Nat) : Fits ⟨x.n,x.es.take i⟩ := by
 obtain ⟨h1,h2,h3,h4⟩ := h
 exact ⟨h1,h2,by simp only [List.length_take]; omega,fun e he => h4 e (List.mem_of_mem_take he)⟩
end Go.Proofs.YtknhlpmmalcchaaDoor

namespace Go.Proofs.YtknhlpmmalcchaaDoor
open Go Go.VAI
set_option linter.unusedSimpArgs false

def knownText : List UInt8 := [110,101,116,32,50,10,101,100,103,101,32,48,32,49,32,119,32,53,10]
theorem pk0 : parseOf stepP [] = (none0,1,2) := by rw [parse_eq]; rfl
theorem pk1 : parseOf stepP knownText = (⟨2,[⟨0,1,0,5⟩]⟩,0,0) := by rw [parse_eq]; kernel_rfl
theorem c1n : ((1 : Nat) : Int) = 1 := rfl
theorem c0n : ((0 : Nat) : Int) = 0 := rfl
set_option maxRecDepth 20000 in
set_option maxHeartbeats 1000000 in
theorem known_ret {H : AHeap} {Q : AVal → AHeap → Prop} (hq : ∀ H',Keep Nothing H H' → Q (.bool true) H') : Ret A 13 [] H Q := by
 refine Ret.of (fn := F13) rfl ?_
 simp (disch := first | omega | (simp only [next_new,next_upd] <;> omega) | fail) only [vai,vaim,vaic,vas,bots,Bool.not_true,Bool.not_false,decide_true,decide_false,wrap64,F13,Nat.reduceAdd,Nat.reduceMul,Nat.reduceLeDiff,Nat.reduceEqDiff,↓reduceIte]
 refine parse_ret (s := []) fun ev H1 k1 g1 => ?_
 rw [pk0] at g1
 rw [pk0]
 have n1 := k1.next
 have c1 := g1.cells
 simp (disch := first | omega | (simp only [next_new,next_upd] <;> omega) | fail) only [vai,vaim,vaic,vas,bots,Bool.not_true,Bool.not_false,decide_true,decide_false,wrap64,c1,Nat.reduceAdd,Nat.reduceMul,Nat.reduceLeDiff,Nat.reduceEqDiff,↓reduceIte]
 refine parse_ret (s := knownText) fun ev2 H2 k2 g2 => ?_
 rw [pk1] at g2
 rw [pk1]
 have n2 := k2.next
 simp only [next_upd,next_new] at n2
 have c2 := g2.cells
 have hl := g2.row.len (n := 1) (by omega) (by rw [edgeCells_length]; rfl)
 have hbe := g2.row.beq
 obtain ⟨id,off,e1,hid,_,_,_,e5,_⟩ := edge_at (i := 0) (e := ⟨0,1,0,5⟩) g2.row rfl
 have e1' : aindexAddrS 4 ev2 (.int .i64 0) = some (.ptr id off) := e1
 have kA : Keep Nothing H H2 := ((k1.new _).upd (.inl (by omega)) _).trans k2
 simp (disch := first | omega | (simp only [next_new,next_upd] <;> omega) | fail) only [vai,vaim,vaic,vas,bots,Bool.not_true,Bool.not_false,decide_true,decide_false,wrap64,c2,c1n,c0n,hl,e1',e5,Nat.reduceAdd,Nat.reduceMul,Nat.reduceLeDiff,Nat.reduceEqDiff,↓reduceIte]
 have kB : Keep Nothing H2 ((H2.new (.cells [.int .i64 0,.nilSlice] true)).upd H2.next (some (.cells [.int .i64 2,ev2] true))) := ((Keep.refl _ _).new _).upd (.inl (Nat.le_refl _)) _
 refine netcheck_ret (es := [⟨0,1,0,5⟩]) (g2.row.kept kB) fun b H3 k3 s3 => ?_
 have hb : b = true := s3.2 ⟨by omega,by omega,by simp,fun e he => by
  simp only [List.mem_singleton] at he
  subst he
  refine ⟨⟨?_,?_⟩,⟨?_,?_⟩,⟨?_,?_⟩,?_,?_⟩ <;> decide⟩
 subst hb
 simp (disch := first | omega | (simp only [next_new,next_upd] <;> omega) | fail) only [vai,vaim,vaic,vas,bots,Bool.not_true,Bool.not_false,decide_true,decide_false,wrap64,Nat.reduceAdd,Nat.reduceMul,Nat.reduceLeDiff,Nat.reduceEqDiff,↓reduceIte]
 exact hq _ ((kA.trans kB).trans k3)
end Go.Proofs.YtknhlpmmalcchaaDoor

namespace Go.Proofs.YtknhlpmmalcchaaDoor
open Go Go.VAI
set_option linter.unusedSimpArgs false

def mkNet (size modes : Int) (xs : List Int) : NetS := ⟨1 + size % 12,(xs.take 40).map (mkEdge (1 + size % 12) modes)⟩
theorem mkEdge_right {n modes k : Int} (h1 : 1 ≤ n) : rightB n (mkEdge n modes k) = true := by
 unfold rightB mkEdge
 rw [decide_eq_true_iff]
 simp only
 have a1 := Int.emod_nonneg k (show n ≠ 0 by omega)
 have a2 := Int.emod_lt_of_pos k (show 0 < n by omega)
 have b1 := Int.emod_nonneg (k.tdiv 13) (show n ≠ 0 by omega)
 have b2 := Int.emod_lt_of_pos (k.tdiv 13) (show 0 < n by omega)
 refine ⟨a1,a2,b1,b2,?_⟩
 refine ⟨?_,?_,?_,?_⟩
 ·split
  ·omega
  ·split <;> omega
 ·split
  ·omega
  ·split <;> omega
 ·split <;> omega
 ·split <;> omega
theorem mk_fits (size modes : Int) (xs : List Int) : Fits (mkNet size modes xs) := by
 refine ⟨?_,?_,?_,fun e he => ?_⟩
 ·show 1 ≤ 1 + size % 12
  omega
 ·show 1 + size % 12 ≤ 60
  omega
 ·show ((xs.take 40).map _).length ≤ 400
  rw [List.length_map,List.length_take]; omega
 ·obtain ⟨k,_,rfl⟩ := List.mem_map.1 he
  exact mkEdge_right (by show 1 ≤ 1 + size % 12; omega)
theorem text_pos (x : NetS) : 1 ≤ (textOf x).length := by
 simp [textOf,headText,netW]
end Go.Proofs.YtknhlpmmalcchaaDoor

namespace Go.Proofs.YtknhlpmmalcchaaDoor
open Go Go.VAI
set_option linter.unusedSimpArgs false

def walkGo (es : List Edge) : Int → Int → List Int → List Int → Option (Int × Int × List Int)
 | a,c,w,[] => some (a,c,w)
 | a,c,w,i :: p => if i < 0 then none else match es[i.toNat]? with
  | none => none
  | some e => if e.src = a then walkGo es e.dst (c + e.cost) (w ++ [e.mode]) p else none
def walkOf (n : Int) (es : List Edge) (f t : Int) (p : List Int) : Option (Int × List Int) :=
 if (0 ≤ f ∧ f < n) ∧ (0 ≤ t ∧ t < n) then match walkGo es f 0 [] p with
  | none => none
  | some (a,c,w) => if a = t then some (c,w) else none
 else none
theorem walk_some {n : Int} {es : List Edge} {f t : Int} {p : List Int} {a c : Int} {w : List Int} (h1 : (0 ≤ f ∧ f < n) ∧ (0 ≤ t ∧ t < n)) (h : walkGo es f 0 [] p = some (a,c,w)) (ha : a = t) : walkOf n es f t p = some (c,w) := by
 unfold walkOf
 rw [h,if_pos h1]
 simp only [if_pos ha]
end Go.Proofs.YtknhlpmmalcchaaDoor

namespace Go.Proofs.YtknhlpmmalcchaaDoor
open Go Go.VAI
set_option linter.unusedSimpArgs false

end Go.Proofs.YtknhlpmmalcchaaDoor

namespace Go.Proofs.YtknhlpmmalcchaaDoor
open Go Go.VAI
set_option linter.unusedSimpArgs false

end Go.Proofs.YtknhlpmmalcchaaDoor

namespace Go.Proofs.YtknhlpmmalcchaaDoor
open Go Go.VAI
set_option linter.unusedSimpArgs false

def e5 (c : Int) (i : Nat) : Edge := ⟨0,0,i,c - i⟩
def q5 (i : Nat) : Int := ((i % 5 : Nat) : Int)
end Go.Proofs.YtknhlpmmalcchaaDoor

namespace Go.Proofs.YtknhlpmmalcchaaDoor
open Go Go.VAI
set_option linter.unusedSimpArgs false

end Go.Proofs.YtknhlpmmalcchaaDoor

namespace Go.Proofs.YtknhlpmmalcchaaDoor
open Go Go.VAI
set_option linter.unusedSimpArgs false

def Walked (n : Int) (es : List Edge) (f : Int) (l : List Int) (a : Int) : Prop := (∃ c w,walkGo es f 0 [] l = some (a,c,w)) ∧ 0 ≤ a ∧ a < n
theorem Walked.nil {n : Int} {es : List Edge} {f : Int} (h : 0 ≤ f ∧ f < n) : Walked n es f [] f := ⟨⟨0,[],rfl⟩,h⟩
theorem Walked.of {n : Int} {es : List Edge} {f a : Int} {l : List Int} (h : Walked n es f l a) (hf : 0 ≤ f ∧ f < n) : ∃ c w,walkGo es f 0 [] l = some (a,c,w) ∧ walkOf n es f a l = some (c,w) := by
 obtain ⟨⟨c,w,h⟩,ha⟩ := h
 exact ⟨c,w,h,walk_some ⟨hf,ha⟩ h rfl⟩

end Go.Proofs.YtknhlpmmalcchaaDoor

namespace Go.Proofs.YtknhlpmmalcchaaDoor
open Go Go.VAI
set_option linter.unusedSimpArgs false

def Rows4 (H : AHeap) (vs : List AVal) : Prop := vs.length = 4 ∧ ∀ v ∈ vs,∃ p : List Int,Row H v 1 (ints p) ∧ p.length ≤ 80
theorem Rows4.at {H : AHeap} {vs : List AVal} (h : Rows4 H vs) {i : Nat} (hi : i < 4) : ∃ v p,vs[i]? = some v ∧ Row H v 1 (ints p) ∧ p.length ≤ 80 := by
 have h4 := h.1
 obtain ⟨p,h1,h2⟩ := h.2 vs[i] (List.getElem_mem (by omega))
 exact ⟨vs[i],p,List.getElem?_eq_getElem (by omega),h1,h2⟩
end Go.Proofs.YtknhlpmmalcchaaDoor

namespace Go.Proofs.YtknhlpmmalcchaaDoor
open Go Go.VAI
set_option linter.unusedSimpArgs false

def gap (ps : List (Nat × List UInt8)) : List (List UInt8) := ps.flatMap fun p => List.replicate p.1 [] ++ [p.2]
def linesG (f : NetS → List UInt8 → Option NetS) : NetS → Nat → List (Nat × List UInt8) → NetS ⊕ Nat
 | x,_,[] => .inl x
 | x,k,p :: ps => match f x p.2 with
  | none => .inr (k + p.1 + 1)
  | some y => linesG f y (k + p.1 + 1) ps
def gapN (ps : List (Nat × List UInt8)) : Nat := (ps.map fun p => p.1 + 1).sum
theorem gap_cons (p : Nat × List UInt8) (ps : List (Nat × List UInt8)) : gap (p :: ps) = List.replicate p.1 [] ++ p.2 :: gap ps := by simp [gap]
theorem gap_append (a b : List (Nat × List UInt8)) : gap (a ++ b) = gap a ++ gap b := by simp [gap]
theorem gapN_append (a b : List (Nat × List UInt8)) : gapN (a ++ b) = gapN a + gapN b := by simp [gapN]
theorem ended_append (a b : List (List UInt8)) : ended (a ++ b) = ended a ++ ended b := by simp [ended]
theorem lines_skip (f : NetS → List UInt8 → Option NetS) (x : NetS) (ws : List (List UInt8)) : ∀ (g k : Nat),linesOf f x k (List.replicate g [] ++ ws) = linesOf f x (k + g) ws
 | 0,k => by simp
 | g + 1,k => by
  rw [List.replicate_succ,List.cons_append,lines_cons,if_pos rfl,lines_skip f x ws g (k + 1)]
  congr 1
  omega
theorem lines_gap (f : NetS → List UInt8 → Option NetS) : ∀ (ps : List (Nat × List UInt8)) (x : NetS) (k : Nat),(∀ p ∈ ps,p.2 ≠ []) → linesOf f x k (gap ps) = linesG f x k ps
 | [],x,k,_ => rfl
 | p :: ps,x,k,h => by
  have hp := h p List.mem_cons_self
  rw [gap_cons,lines_skip,lines_cons,if_neg hp]
  simp only [linesG]
  cases f x p.2 with
  | none => rfl
  | some y => exact lines_gap f ps y _ (fun q hq => h q (List.mem_cons_of_mem _ hq))
theorem lines_last (f : NetS → List UInt8 → Option NetS) : ∀ (ws : List (List UInt8)) (x : NetS) (k : Nat),linesOf f x k (ws ++ [[]]) = linesOf f x k ws
 | [],x,k => rfl
 | w :: ws,x,k => by
  rw [List.cons_append,lines_cons,lines_cons]
  split
  ·exact lines_last f ws x _
  ·cases f x w with
   | none => rfl
   | some y => exact lines_last f ws y _
theorem gap_not {c : UInt8} : ∀ {ps : List (Nat × List UInt8)},(∀ p ∈ ps,c ∉ p.2) → ∀ w ∈ gap ps,c ∉ w := by
 intro ps h w hw
 simp only [gap,List.mem_flatMap,List.mem_append,List.mem_replicate,List.mem_singleton] at hw
 obtain ⟨p,hp,⟨_,rfl⟩ | rfl⟩ := hw
 ·simp
 ·exact h p hp
theorem parse_gap {ps : List (Nat × List UInt8)} (h1 : ∀ p ∈ ps,p.2 ≠ []) (h2 : ∀ p ∈ ps,(10 : UInt8) ∉ p.2) (hl : (ended (gap ps)).length ≤ 60000) : parseOf stepP (ended (gap ps)) = match linesG stepP none0 0 ps with
  | .inr k => (none0,k,2)
  | .inl x => if x.n = 0 then (none0,1,2) else (x,0,0) := by
 unfold parseOf
 rw [if_neg (by omega)]
 have e := cut_ended (gap ps) [] (gap_not h2)
 rw [List.append_nil] at e
 rw [e]
 have e0 : cutAt 10 ([] : List UInt8) = [[]] := rfl
 rw [e0,lines_last,lines_gap _ _ _ _ h1]
 cases linesG stepP none0 0 ps <;> rfl
theorem linesG_ok (f : NetS → List UInt8 → Option NetS) : ∀ (ps : List (Nat × List UInt8)) (x y : NetS) (k k' : Nat),(∀ p ∈ ps,p.2 ≠ []) → linesOf f x k (ps.map Prod.snd) = .inl y → ∀ qs,linesG f x k' (ps ++ qs) = linesG f y (k' + gapN ps) qs
 | [],x,y,k,k',_,h,qs => by
  simp only [List.map_nil,linesOf] at h
  injection h with h; subst h
  rfl
 | p :: ps,x,y,k,k',hne,h,qs => by
  rw [List.map_cons,lines_cons,if_neg (hne p List.mem_cons_self)] at h
  rw [List.cons_append]
  simp only [linesG]
  cases hf : f x p.2 with
  | none => rw [hf] at h; cases h
  | some z =>
   rw [hf] at h
   simp only at h ⊢
   rw [linesG_ok f ps z y _ _ (fun q hq => hne q (List.mem_cons_of_mem _ hq)) h]
   congr 1
   simp [gapN]
   omega
theorem ended_rep (g : Nat) (ws : List (List UInt8)) : ended (List.replicate g [] ++ ws) = List.replicate g 10 ++ ended ws := by
 rw [ended_append]
 congr 1
 induction g with
 | zero => rfl
 | succ g ih => rw [List.replicate_succ,List.replicate_succ]; simp only [ended,List.flatMap_cons,List.nil_append,List.singleton_append] at ih ⊢; rw [ih]
end Go.Proofs.YtknhlpmmalcchaaDoor

namespace Go.Proofs.YtknhlpmmalcchaaDoor
open Go Go.VAI
set_option linter.unusedSimpArgs false

end Go.Proofs.YtknhlpmmalcchaaDoor

namespace Go.Proofs.YtknhlpmmalcchaaDoor
open Go Go.VAI
set_option linter.unusedSimpArgs false

end Go.Proofs.YtknhlpmmalcchaaDoor

/- Rows of structs of whole numbers that came in. -/
set_option linter.unusedVariables false
namespace Go.VAI
open Go Go.ChangeShapes Go.WideShapes Go.ChangeAt Go.RowKit

section
variable {H : Type} {enc : TypeId × Value → H} {P : Program} {W : World} {r : Reach} {base : Nat} {t e : TypeId} {k : IntKind} {m fuel : Nat} {spare : Nat → Bool} {held : Bool}
end
end Go.VAI

/- A struct of a number and a row of structs of whole numbers that came in. -/
set_option linter.unusedVariables false
namespace Go.VAI
open Go Go.ChangeShapes Go.WideShapes Go.ChangeAt Go.RowKit

section
variable {H : Type} {enc : TypeId × Value → H} {P : Program} {W : World} {r : Reach} {base : Nat} {t s e : TypeId} {m : Nat}
end
end Go.VAI

namespace Go.Proofs.YtknhlpmmalcchaaDoor
open Go Go.VAI
end Go.Proofs.YtknhlpmmalcchaaDoor

/- The library's contracts of strings.Builder and strings.Join laid on this program (written by the kit's tool lay-plain; WriteString's out of Join's). -/
namespace Go.Proofs
open Go.Shelf
def Tryd.bstr_ren : Go.Shelf.Ren := ⟨fun | 169 => 39 | n => n,fun | 70 => 66 | 9 => 9 | 0 => 0 | 72 => 68 | 37 => 34 | 127 => 83 | 3 => 3 | 5 => 5 | n => n,fun | n => n⟩
theorem Tryd.bstr : Go.Proofs.Lays.n169 Tryd.prog Tryd.bstr_ren := {
 mixed := by kernel_rfl
 f169 := Tryd.func39.trans (congrArg some (by kernel_rfl))
 t0 := Tryd.underlying0
 a0 := Tryd.isAgg0
 z0 := Tryd.sizeOf0
 v0 := Tryd.zeroValue0
 t3 := Tryd.underlying3
 a3 := Tryd.isAgg3
 z3 := Tryd.sizeOf3
 v3 := Tryd.zeroValue3
 t9 := Tryd.underlying9
 a9 := Tryd.isAgg9
 z9 := Tryd.sizeOf9
 v9 := Tryd.zeroValue9
 t37 := Tryd.underlying34
 a37 := Tryd.isAgg34
 z37 := Tryd.sizeOf34
 v37 := Tryd.zeroValue34
 t70 := Tryd.underlying66
 a70 := Tryd.isAgg66
 z70 := Tryd.sizeOf66
 v70 := Tryd.zeroValue66
 t72 := Tryd.underlying68
 a72 := Tryd.isAgg68
 z72 := Tryd.sizeOf68
 v72 := Tryd.zeroValue68
 t127 := Tryd.underlying83
 a127 := Tryd.isAgg83
 z127 := Tryd.sizeOf83
 v127 := Tryd.zeroValue83 }
def Tryd.join_ren : Go.Shelf.Ren := ⟨fun | 156 => 38 | 165 => 48 | 166 => 36 | 169 => 39 | 240 => 46 | 241 => 56 | 276 => 54 | 277 => 68 | n => n,fun | 31 => 35 | 9 => 9 | 3 => 3 | 4 => 4 | 0 => 0 | 20 => 20 | 72 => 68 | 76 => 72 | 70 => 66 | 37 => 34 | 75 => 71 | 127 => 83 | 164 => 86 | 5 => 5 | 80 => 74 | n => n,fun | n => n⟩
theorem Tryd.join : Go.Proofs.Lays.n156 Tryd.prog Tryd.join_ren := {
 mixed := by kernel_rfl
 f156 := Tryd.func38.trans (congrArg some (by kernel_rfl))
 f165 := Tryd.func48.trans (congrArg some (by kernel_rfl))
 f166 := Tryd.func36.trans (congrArg some (by kernel_rfl))
 f169 := Tryd.func39.trans (congrArg some (by kernel_rfl))
 f240 := Tryd.func46.trans (congrArg some (by kernel_rfl))
 f241 := Tryd.func56.trans (congrArg some (by kernel_rfl))
 f276 := Tryd.func54.trans (congrArg some (by kernel_rfl))
 f277 := Tryd.func68.trans (congrArg some (by kernel_rfl))
 t0 := Tryd.underlying0
 a0 := Tryd.isAgg0
 z0 := Tryd.sizeOf0
 v0 := Tryd.zeroValue0
 t3 := Tryd.underlying3
 a3 := Tryd.isAgg3
 z3 := Tryd.sizeOf3
 v3 := Tryd.zeroValue3
 t4 := Tryd.underlying4
 a4 := Tryd.isAgg4
 z4 := Tryd.sizeOf4
 v4 := Tryd.zeroValue4
 t9 := Tryd.underlying9
 a9 := Tryd.isAgg9
 z9 := Tryd.sizeOf9
 v9 := Tryd.zeroValue9
 t20 := Tryd.underlying20
 a20 := Tryd.isAgg20
 z20 := Tryd.sizeOf20
 v20 := Tryd.zeroValue20
 t31 := Tryd.underlying35
 a31 := Tryd.isAgg35
 z31 := Tryd.sizeOf35
 v31 := Tryd.zeroValue35
 t37 := Tryd.underlying34
 a37 := Tryd.isAgg34
 z37 := Tryd.sizeOf34
 v37 := Tryd.zeroValue34
 t70 := Tryd.underlying66
 a70 := Tryd.isAgg66
 z70 := Tryd.sizeOf66
 v70 := Tryd.zeroValue66
 t72 := Tryd.underlying68
 a72 := Tryd.isAgg68
 z72 := Tryd.sizeOf68
 v72 := Tryd.zeroValue68
 t75 := Tryd.underlying71
 a75 := Tryd.isAgg71
 z75 := Tryd.sizeOf71
 v75 := Tryd.zeroValue71
 t76 := Tryd.underlying72
 a76 := Tryd.isAgg72
 z76 := Tryd.sizeOf72
 v76 := Tryd.zeroValue72
 t127 := Tryd.underlying83
 a127 := Tryd.isAgg83
 z127 := Tryd.sizeOf83
 v127 := Tryd.zeroValue83
 t164 := Tryd.underlying86
 a164 := Tryd.isAgg86
 z164 := Tryd.sizeOf86
 v164 := Tryd.zeroValue86 }
abbrev Tryd.bws_ren : Go.Shelf.Ren := Tryd.join_ren
theorem Tryd.bws : Go.Proofs.Lays.n166 Tryd.prog Tryd.bws_ren := {
 mixed := Tryd.join.mixed
 f166 := Tryd.join.f166
 f240 := Tryd.join.f240
 f276 := Tryd.join.f276
 t0 := Tryd.join.t0
 a0 := Tryd.join.a0
 z0 := Tryd.join.z0
 v0 := Tryd.join.v0
 t3 := Tryd.join.t3
 a3 := Tryd.join.a3
 z3 := Tryd.join.z3
 v3 := Tryd.join.v3
 t4 := Tryd.join.t4
 a4 := Tryd.join.a4
 z4 := Tryd.join.z4
 v4 := Tryd.join.v4
 t9 := Tryd.join.t9
 a9 := Tryd.join.a9
 z9 := Tryd.join.z9
 v9 := Tryd.join.v9
 t20 := Tryd.join.t20
 a20 := Tryd.join.a20
 z20 := Tryd.join.z20
 v20 := Tryd.join.v20
 t37 := Tryd.join.t37
 a37 := Tryd.join.a37
 z37 := Tryd.join.z37
 v37 := Tryd.join.v37
 t70 := Tryd.join.t70
 a70 := Tryd.join.a70
 z70 := Tryd.join.z70
 v70 := Tryd.join.v70
 t72 := Tryd.join.t72
 a72 := Tryd.join.a72
 z72 := Tryd.join.z72
 v72 := Tryd.join.v72
 t75 := Tryd.join.t75
 a75 := Tryd.join.a75
 z75 := Tryd.join.z75
 v75 := Tryd.join.v75
 t164 := Tryd.join.t164
 a164 := Tryd.join.a164
 z164 := Tryd.join.z164
 v164 := Tryd.join.v164 }
end Go.Proofs

/- What strings.Builder's methods leave of the memory,block by block. -/
set_option linter.unusedVariables false
namespace Go.Proofs
open Go.Shelf Go.RowKit
variable {P : Program} {ρ : Ren}

theorem run_app_x (w : World) (base : Nat) (t u ty e : TypeId) (i : TypeInfo) (ht : P.underlying t = some (.slice e)) (hu : P.underlying u = some .string) (hi : P.info? e = some i) (hz : i.zero = some (.int .u8 0))
  (hsize : i.size = 1) (hby : i.bytes = 1) (v : Value) (n : Nat) (xs : List Value) (hown : w.ownsRow base e 1 v n xs) (s : ByteArray) (hs : s.size ≠ 0)
  (h63 : n + s.size ≤ maxLen) (hbytes : n + s.size ≤ 140737488355328) (hbase : base ≤ w.heap.size) :
  ∃ v' w',(Builtin.append_ #[t,u] ty #[v,.string s]).run P w = .ok v' w' ∧ w'.ownsRow base e 1 v' (n + s.size) (xs ++ Lib.strCells s) ∧ w.grownBy w' v.ownBlock ∧
   ∃ g cap,v' = .slice (some ⟨g,0,none⟩) (n + s.size) cap ∧ (v.ownBlock = some g ∨ w.heap.size ≤ g) := by
 have hsmall : n + s.size ≤ 9223372036854775807 := by simp only [maxLen] at h63; omega
 have hxl : xs.length = n := by simpa using hown.1
 obtain ⟨v',w',hr,h2,h3,_⟩ := Lib.run_append_own_string (P := P) w base t u ty e i ht hu hi hz hsize hby v n xs hown s h63 hbytes hbase
 refine ⟨v',w',hr,h2,h3,?_⟩
 rcases hown.2 with ⟨rfl,rfl⟩ | ⟨g,cap,cur,rfl,hbg,hg,hnc,hcm,hcs,htake⟩
 ·have hr2 := run_append_nil_string (P := P) w t u ty e i (.int .u8 0) ht hu hi hz s (by omega) (by omega) (by rw [hby]; omega)
  rw [hr] at hr2
  injection hr2 with e1 e2
  exact ⟨_,_,by rw [e1,Nat.zero_add],.inr (Nat.le_refl _)⟩
 ·by_cases hroom : n + s.size ≤ cap
  ·have hcs' : cur.size = cap := by simpa using hcs
   have hr2 := Lib.run_append_room_string (P := P) w t u ty e i ht hu hi hsize g n cap cur hg s hroom (by omega)
   rw [hr] at hr2
   injection hr2 with e1 e2
   exact ⟨_,_,e1,.inl rfl⟩
  ·have holds : ∀ j u,xs[j]? = some u → w.cell? ((⟨g,0,none⟩ : Addr).add j) = some u := hown.cells (g := g) rfl
   have hr2 := Lib.run_append_grow_string (P := P) w t u ty e i (.int .u8 0) ht hu hi hz ⟨g,0,none⟩ n cap xs (by rw [hsize]; simpa using hxl) holds s (by omega) (by omega) (by rw [hby]; exact growslice_fits (by omega) (by omega))
   rw [hr] at hr2
   injection hr2 with e1 e2
   exact ⟨_,_,e1,.inr (Nat.le_refl _)⟩
theorem wp_app_x {w : World} {ops : Array Oper} {rest : List Oper} {o : Oper} {a : Act} {Q : Exit → Act → World → Prop} (hgd : o.guard = none) (sl x : Operand) (t u : TypeId)
  (ho : o.op = .call { callee := .builtin .append,args := #[sl,x],argTypes := #[t,u] })
  (base : Nat) (e : TypeId) (i : TypeInfo) (ht : P.underlying t = some (.slice e)) (hu : P.underlying u = some .string) (hi : P.info? e = some i) (hz : i.zero = some (.int .u8 0))
  (hsize : i.size = 1) (hby : i.bytes = 1)
  (v : Value) (n : Nat) (xs : List Value) (hs : a.eval sl = v) (hown : w.ownsRow base e 1 v n xs) (s : ByteArray) (hx : a.eval x = .string s) (hs0 : s.size ≠ 0)
  (h63 : n + s.size ≤ maxLen) (hbytes : n + s.size ≤ 140737488355328) (hbase : base ≤ w.heap.size)
  (h : ∀ v' w',w'.ownsRow base e 1 v' (n + s.size) (xs ++ Lib.strCells s) → w.grownBy w' v.ownBlock → (∃ g cap,v' = .slice (some ⟨g,0,none⟩) (n + s.size) cap ∧ (v.ownBlock = some g ∨ w.heap.size ≤ g)) → wpList P ops Q rest (a.put o.dst v') w') : wpList P ops Q (o :: rest) a w := by
 refine wpList_plain hgd fun K hK => ?_
 obtain ⟨v',w',hr,h2,h3,h4⟩ := run_app_x (P := P) w base t u o.type e i ht hu hi hz hsize hby v n xs hown s hs0 h63 hbytes hbase
 unfold Oper.wp execOp
 simp only [ho,resolve,invoke,builtin,Sem.run_bind,Sem.run_pure,Result.andThen_ok,List.map_toArray,List.map_cons,List.map_nil,hs,hx,hr]
 exact hK _ _ (h v' w' h2 h3 h4)

theorem copy_x (L : Lays.n240 P ρ) (X : Builder.X72 P ρ) {B b : Nat} {p v : Value} {w : World} (hB : B ≤ b) (hb : w.heap[b]? = some (.cells #[p,v] (ρ.t 72) (0,0))) (hp : p = .pointer none ∨ p = .pointer (some ⟨b,0,none⟩)) :
  Calls P (ρ.f 240) #[.pointer (some ⟨b,0,none⟩)] w fun e w' => e = .returned (.tuple #[]) ∧ (w'.heap[b]? = some (.cells #[.pointer (some ⟨b,0,none⟩),v] (ρ.t 72) (0,0)) ∧ w'.heap.size = w.heap.size ∧ (∀ k,k ≠ b → w'.heap[k]? = w.heap[k]?) ∧ Below B w w') := by
 rcases hp with rfl | rfl
 ·refine (Any.Builder_copyCheck_fresh L X b w (by rw [Lib.cell_of_heap hb]; rfl) (by simp [World.shape?,hb]) (Lib.frozen_of_heap hb 0)).mono ?_
  rintro e w' ⟨rfl,rfl⟩
  refine ⟨rfl,?_,by simp [World.setCell],fun k hk => Below.heap_setCell _ _ _ _ hk,(Below.refl B w).setCell (p := ⟨b,0,none⟩) hB _⟩
  simp [World.setCell,Array.getElem?_modify,hb]
 ·refine (Any.Builder_copyCheck_used L X b w (by rw [Lib.cell_of_heap hb]; rfl)).mono ?_
  rintro e w' ⟨rfl,rfl⟩
  exact ⟨rfl,hb,rfl,fun _ _ => rfl,.refl _ _⟩

set_option maxHeartbeats 2000000 in
set_option maxRecDepth 100000 in
theorem ws_x (L : Lays.n166 P ρ) (X : Builder.Extra P ρ) {B b n : Nat} {p v : Value} {xs : List Value} {s : ByteArray} {w : World} (hB : B ≤ b) (hb : w.heap[b]? = some (.cells #[p,v] (ρ.t 72) (0,0))) (hp : p = .pointer none ∨ p = .pointer (some ⟨b,0,none⟩))
  (hown : w.ownsRow B (ρ.t 5) 1 v n xs) (hne : v.ownBlock ≠ some b) (hs : s.size ≠ 0) (hlen : n + s.size ≤ 140737488355328) (hBw : B ≤ w.heap.size) :
  Calls P (ρ.f 166) #[.pointer (some ⟨b,0,none⟩),.string s] w fun e w' => e = .returned (.tuple #[.int .i64 s.size,.nilIface]) ∧
   ∃ g cap cur,w'.heap[b]? = some (.cells #[.pointer (some ⟨b,0,none⟩),.slice (some ⟨g,0,none⟩) (n + s.size) cap] (ρ.t 72) (0,0)) ∧ (v.ownBlock = some g ∨ w.heap.size ≤ g) ∧ B ≤ g ∧ w'.heap[g]? = some (.cells cur (ρ.t 5) (0,0)) ∧ n + s.size ≤ cap ∧ cap ≤ maxLen ∧
    cur.size = cap ∧ cur.toList.take (n + s.size) = xs ++ Lib.strCells s ∧ w.heap.size ≤ w'.heap.size ∧ (∀ k,k < w.heap.size → k ≠ b → v.ownBlock ≠ some k → w'.heap[k]? = w.heap[k]?) ∧ Below B w w' := by
 obtain ⟨i0,hi,hz0,hz1,hz2⟩ := info_parts X.infoByte
 have mixed := L.mixed
 have t72 := L.t72; have a72 := L.a72; have z72 := L.z72; have v72 := L.v72; have u72 := run_underlying L.t72
 have t70 := L.t70; have a70 := L.a70; have z70 := L.z70; have v70 := L.v70; have u70 := run_underlying L.t70
 have t37 := L.t37; have a37 := L.a37; have z37 := L.z37; have v37 := L.v37; have u37 := run_underlying L.t37
 have t3 := L.t3; have a3 := L.a3; have z3 := L.z3; have v3 := L.v3; have u3 := run_underlying L.t3
 have t9 := L.t9; have a9 := L.a9; have z9 := L.z9; have v9 := L.v9; have u9 := run_underlying L.t9
 have t4 := L.t4; have a4 := L.a4; have z4 := L.z4; have v4 := L.v4; have u4 := run_underlying L.t4
 have t164 := L.t164; have a164 := L.a164; have z164 := L.z164; have v164 := L.v164; have u164 := run_underlying L.t164
 have t5 := X.t5; have a5 := X.a5; have z5 := X.z5; have v5 := X.v5; have u5 := run_underlying X.t5
 have e240 : ∀ args w,(callFunc (ρ.f 240) args).run P w = .ok (.enter (ρ.f 240) args) w := enters_of L.f240 (by kernel_rfl) rfl
 have hlt : b < w.heap.size := (Array.getElem?_eq_some_iff.1 hb).1
 go_enter L.f166,Body.n166_ntmps ρ
 go_wp2_with (go_at_fn (ρ.f 240); refine (copy_x { L with } X.toX72 hB hb hp).mono ?_)
 rintro e w1 ⟨rfl,hb1,hsz1,hk1,hbl1⟩
 have hown1 : w1.ownsRow B (ρ.t 5) 1 v n xs := by
  refine ⟨hown.1,?_⟩
  rcases hown.2 with h | ⟨g,cap,cur,hv,h1,h2,h3⟩
  ·exact .inl h
  ·refine .inr ⟨g,cap,cur,hv,h1,?_,h3⟩
   rw [hk1 g (fun e => hne (by rw [hv,← e]; rfl))]
   exact h2
 have c1 : w1.cell? ⟨b,1,none⟩ = some v := by rw [Lib.cell_of_heap hb1]; rfl
 go_wp2_with (at_builtin; refine wp_app_x rfl _ _ (ρ.t 37) (ρ.t 9) rfl B (ρ.t 5) i0 L.t37 L.t9 hi hz0 hz1 hz2 _ _ _ rfl hown1 s rfl hs ?c3 ?c4 ?c5 ?_)
 case c3 => unfold maxLen; omega
 case c4 => omega
 case c5 => omega
 rintro v' w2 hown' hgrow g cap rfl hg
 have hb2 : w2.heap[b]? = some (.cells #[.pointer (some ⟨b,0,none⟩),v] (ρ.t 72) (0,0)) := by
  rw [hgrow.block b (by omega) (fun e => hne e.symm)]
  exact hb1
 have d0 : w2.cell? ⟨b,0,none⟩ = some (.pointer (some ⟨b,0,none⟩)) := by rw [Lib.cell_of_heap hb2]; rfl
 have d1 : w2.cell? ⟨b,1,none⟩ = some v := by rw [Lib.cell_of_heap hb2]; rfl
 have f1 : w2.frozen? ⟨b,1,none⟩ = false := Lib.frozen_of_heap hb2 1
 go_wp2
 go_ret2
 obtain ⟨cur,hBg,hgc,hcap,hmax,hcsz,htk⟩ : ∃ cur,B ≤ g ∧ w2.heap[g]? = some (.cells cur (ρ.t 5) (0,0)) ∧ n + s.size ≤ cap ∧ cap ≤ maxLen ∧ cur.size = cap ∧ cur.toList.take (n + s.size) = xs ++ Lib.strCells s := by
  rcases hown'.2 with ⟨h,_⟩ | ⟨g2,cap2,cur,hv,h1,h2,h3,h4,h5,h6⟩
  ·cases h
  ·injection hv with hv1 hv2 hv3
   injection hv1 with hv1
   injection hv1 with hv1
   subst hv1; subst hv3
   exact ⟨cur,h1,h2,h3,h4,by simpa using h5,by simpa using h6⟩
 have hgb : g ≠ b := by
  intro e
  rcases hg with h | h
  ·exact hne (by rw [h,e])
  ·omega
 refine ⟨rfl,g,cap,cur,?_,?_,hBg,?_,hcap,hmax,hcsz,htk,?_,fun k hk hkb hkv => ?_,?_⟩
 ·simp [World.setCell,Array.getElem?_modify,hb2]
 ·rcases hg with h | h
  ·exact .inl h
  ·exact .inr (by omega)
 ·rw [Below.heap_setCell _ _ _ _ hgb]
  exact hgc
 ·have := hgrow.size
  simp only [World.setCell,Array.size_modify]
  omega
 ·rw [Below.heap_setCell _ _ _ _ hkb,hgrow.block k (by omega) (fun e => hkv e.symm)]
  exact hk1 k hkb
 ·exact (hbl1.grown hgrow (by omega) (fun k hk => by
   rcases hown1.2 with ⟨rfl,_⟩ | ⟨g3,cap3,cur3,rfl,h1,_⟩
   ·cases hk
   ·have hk : some g3 = some k := hk
    injection hk with hk
    omega)).setCell (p := ⟨b,1,none⟩) hB _

set_option maxHeartbeats 2000000 in
set_option maxRecDepth 100000 in
theorem str_x (L : Lays.n169 P ρ) (X : Builder.Extra P ρ) {B b g cap : Nat} {p : Value} {cur : Array Value} {l : List UInt8} {w : World} (hbk : w.heap[b]? = some (.cells #[p,.slice (some ⟨g,0,none⟩) l.length cap] (ρ.t 72) (0,0)))
  (hBg : B ≤ g) (hg : w.heap[g]? = some (.cells cur (ρ.t 5) (0,0))) (hnc : l.length ≤ cap) (hcm : cap ≤ maxLen) (hcs : cur.size = cap) (htake : cur.toList.take l.length = Lib.byteCells l) (h0 : l ≠ []) :
  Calls P (ρ.f 169) #[.pointer (some ⟨b,0,none⟩)] w fun e w' => e = .returned (.string ⟨l.toArray⟩) ∧ (w'.heap.size = w.heap.size ∧ (∀ k,k ≠ g → w'.heap[k]? = w.heap[k]?) ∧ Below B w w') := by
 have hl0 : l.length ≠ 0 := by simpa using h0
 have c1 : w.drew.cell? ⟨b,1,none⟩ = some (.slice (some ⟨g,0,none⟩) l.length cap) := by
  have : w.drew.heap[b]? = some (.cells #[p,.slice (some ⟨g,0,none⟩) l.length cap] (ρ.t 72) (0,0)) := hbk
  rw [Lib.cell_of_heap this]; rfl
 have hSD : (Builtin.unsafeSliceData_ #[(ρ.t 37)] (ρ.t 127) #[.slice (some ⟨g,0,none⟩) l.length cap]).run P w.drew = .ok (.pointer (some ⟨g,0,none⟩)) w.drew :=
  Lib.run_unsafeSliceData_row _ _ _ _ _ _ (by omega)
 have hown : w.ownsRow B (ρ.t 5) 1 (.slice (some ⟨g,0,none⟩) l.length cap) l.length (Lib.byteCells l) := ⟨by rw [Lib.byteCells_length,Nat.mul_one],.inr ⟨g,cap,cur,rfl,hBg,hg,hnc,hcm,by omega,by rw [Nat.mul_one]; exact htake⟩⟩
 have hUS : (Builtin.unsafeString_ #[(ρ.t 127),(ρ.t 3)] (ρ.t 9) #[.pointer (some ⟨g,0,none⟩),.int .i64 l.length]).run P w.drew = .ok (.string ⟨l.toArray⟩) (w.drew.freeze ⟨g,0,none⟩ l.length) := by
  refine Lib.run_unsafeString_row w.drew (ρ.t 127) (ρ.t 3) (ρ.t 9) (ρ.t 5) L.t127 X.cellsByte g cur.size (by have hg' : w.drew.heap[g]? = some (.cells cur (ρ.t 5) (0,0)) := hg; simp [World.shape?,hg']) l h0 (by omega) (by unfold maxLen at hcm; omega) ?_
  intro j x hx
  exact hown.cells (g := g) rfl j (.int .u8 x.toNat) (by simp [Lib.byteCells,hx])
 have hfr : ∀ k,k ≠ g → (w.drew.freeze ⟨g,0,none⟩ l.length).heap[k]? = w.heap[k]? := by
  intro k hk
  unfold World.freeze
  rw [if_neg hl0]
  show (w.drew.heap.modify g _)[k]? = _
  rw [Array.getElem?_modify,if_neg (fun e => hk e.symm)]
  rfl
 have hfs : (w.drew.freeze ⟨g,0,none⟩ l.length).heap.size = w.heap.size := by
  unfold World.freeze
  rw [if_neg hl0]
  show (w.drew.heap.modify g _).size = _
  rw [Array.size_modify]
  rfl
 have mixed := L.mixed
 have t72 := L.t72; have a72 := L.a72; have z72 := L.z72; have v72 := L.v72; have u72 := run_underlying L.t72
 have t70 := L.t70; have a70 := L.a70; have z70 := L.z70; have v70 := L.v70; have u70 := run_underlying L.t70
 have t37 := L.t37; have a37 := L.a37; have z37 := L.z37; have v37 := L.v37; have u37 := run_underlying L.t37
 have t127 := L.t127; have a127 := L.a127; have z127 := L.z127; have v127 := L.v127; have u127 := run_underlying L.t127
 have t3 := L.t3; have a3 := L.a3; have z3 := L.z3; have v3 := L.v3; have u3 := run_underlying L.t3
 have t9 := L.t9; have a9 := L.a9; have z9 := L.z9; have v9 := L.v9; have u9 := run_underlying L.t9
 have t5 := X.t5; have a5 := X.a5; have z5 := X.z5; have v5 := X.v5; have u5 := run_underlying X.t5
 go_enter L.f169,Body.n169_ntmps ρ
 go_wp2
 go_region_o
 all_goals (go_wp2; go_ret; exact ⟨rfl,hfs,hfr,Lib.below_freeze (Below.drew (Below.refl B w)) (p := ⟨g,0,none⟩) hBg _⟩)
end Go.Proofs

/- strings.Builder's methods and strings.Join in the interpreter's words. -/
namespace Go.Proofs.YtknhlpmmalcchaaDoor
open Go Go.VAI Go.RowKit
set_option linter.unusedVariables false
set_option linter.unusedSimpArgs false

theorem bextra : Builder.Extra Tryd.prog Tryd.bws_ren where
 sizeBuilder := by kernel_rfl
 liesBuilder := by kernel_rfl
 t5 := by kernel_rfl
 a5 := Tryd.isAgg5
 z5 := Tryd.sizeOf5
 v5 := Tryd.zeroValue5
 infoByte := by kernel_rfl
 cellsByte := by kernel_rfl
 sizeByte := by kernel_rfl
 neB5 := by decide
theorem bextra2 : Builder.Extra Tryd.prog Tryd.bstr_ren where
 sizeBuilder := by kernel_rfl
 liesBuilder := by kernel_rfl
 t5 := by kernel_rfl
 a5 := Tryd.isAgg5
 z5 := Tryd.sizeOf5
 v5 := Tryd.zeroValue5
 infoByte := by kernel_rfl
 cellsByte := by kernel_rfl
 sizeByte := by kernel_rfl
 neB5 := by decide
theorem bextra3 : Builder.Extra Tryd.prog Tryd.join_ren where
 sizeBuilder := by kernel_rfl
 liesBuilder := by kernel_rfl
 t5 := by kernel_rfl
 a5 := Tryd.isAgg5
 z5 := Tryd.sizeOf5
 v5 := Tryd.zeroValue5
 infoByte := by kernel_rfl
 cellsByte := by kernel_rfl
 sizeByte := by kernel_rfl
 neB5 := by decide
section
variable {ρ : Go.VAI.Ren} {B : Nat} {H : AHeap} {w : World}
theorem rowCells_length (l : List UInt8) : (rowCells l).length = l.length := by simp [rowCells]
theorem rowCells_append (a b : List UInt8) : rowCells (a ++ b) = rowCells a ++ rowCells b := by simp [rowCells]
theorem ws_heap {b : Nat} {y : Option Nat} {l m : List UInt8} {lb : VAI.Loc} (hH : HRel ρ B H w) (hlb : ρ b = some lb) (hob : H.obj b = some (.bld y l)) (hoy : ∀ y',y = some y' → H.obj y' = some (.brow l))
  {v : Value} (hbuf : BufRel ρ y l v) {w' : World} {g cap : Nat} {cur : Array Value} (hb' : w'.heap[lb.b]? = some (.cells #[.pointer (some ⟨lb.b,0,none⟩),.slice (some ⟨g,0,none⟩) m.length cap] TB (0,0)))
  (hg : v.ownBlock = some g ∨ w.heap.size ≤ g) (hBg : B ≤ g) (hgc : w'.heap[g]? = some (.cells cur TR (0,0))) (hcap : m.length ≤ cap) (hmax : cap ≤ maxLen) (hcs : cur.size = cap) (htk : cur.toList.take m.length = rowCells m)
  (hsz : w.heap.size ≤ w'.heap.size) (hk : ∀ k,k < w.heap.size → k ≠ lb.b → v.ownBlock ≠ some k → w'.heap[k]? = w.heap[k]?) (hbl : Below B w w') :
  Step ρ B H w (bindAt ρ H.next ⟨g,0,cap⟩) (wsH H b y m) w' := by
 have hy0 : ρ H.next = none := hH.fresh
 have hbo := hH.obj b lb _ hlb hob
 obtain ⟨hBb,hlo,_⟩ := hbo
 have hbn := (hH.dom b lb hlb).1
 -- the old row
 have hrow : ∀ y',y = some y' → ∃ ly,ρ y' = some ly ∧ v.ownBlock = some ly.b ∧ B ≤ ly.b ∧ y' ≠ b ∧ y' < H.next := by
  intro y' e
  subst e
  obtain ⟨ly,e1,e2,rfl,_⟩ := hbuf
  refine ⟨ly,e1,rfl,(hH.obj y' ly _ e1 (hoy y' rfl)).1,fun e => ?_,(hH.dom y' ly e1).1⟩
  have := hoy y' rfl
  rw [e,hob] at this
  cases this
 have hnone : y = none → v.ownBlock = none := by
  intro e
  subst e
  obtain ⟨rfl,_⟩ := hbuf
  rfl
 -- who keeps his cells
 have hobj : ∀ id,id ≠ b → y ≠ some id → id ≠ H.next → (wsH H b y m).obj id = H.obj id := by
  intro id h1 h2 h3
  unfold wsH
  cases y with
  | none =>
   show (if id = H.next then some (AObj.brow m) else if id = b then _ else H.obj id) = _
   rw [if_neg h3,if_neg h1]
  | some y' =>
   show (if id = H.next then some (AObj.brow m) else if id = y' then none else if id = b then _ else H.obj id) = _
   rw [if_neg h3,if_neg (fun e => h2 (by rw [e])),if_neg h1]
 have hobb : (wsH H b y m).obj b = some (.bld (some H.next) m) := by
  unfold wsH
  cases y with
  | none =>
   show (if b = H.next then some (AObj.brow m) else if b = b then some (AObj.bld (some H.next) m) else H.obj b) = _
   rw [if_neg (by omega),if_pos rfl]
  | some y' =>
   obtain ⟨_,_,_,_,hyb,_⟩ := hrow y' rfl
   show (if b = H.next then some (AObj.brow m) else if b = y' then none else if b = b then some (AObj.bld (some H.next) m) else H.obj b) = _
   rw [if_neg (by omega),if_neg (fun e => hyb e.symm),if_pos rfl]
 have hobn : (wsH H b y m).obj H.next = some (.brow m) := by
  unfold wsH
  cases y with
  | none => show (if H.next = H.next then some (AObj.brow m) else _) = _; rw [if_pos rfl]
  | some y' => show (if H.next = H.next then some (AObj.brow m) else _) = _; rw [if_pos rfl]
 have hoby : ∀ y',y = some y' → (wsH H b y m).obj y' = none := by
  intro y' e
  obtain ⟨_,_,_,_,_,hyn⟩ := hrow y' e
  subst e
  unfold wsH
  show (if y' = H.next then some (AObj.brow m) else if y' = y' then none else _) = _
  rw [if_neg (by omega),if_pos rfl]
 have hnext : (wsH H b y m).next = H.next + 1 := by unfold wsH; cases y <;> rfl
 have hle := bindAt_le (l := ⟨g,0,cap⟩) hy0
 have hgl : g < w'.heap.size := (Array.getElem?_eq_some_iff.1 hgc).1
 have same : ∀ id l2 o2,ρ id = some l2 → H.obj id = some o2 → id ≠ b → y ≠ some id → l2.b ≠ lb.b ∧ v.ownBlock ≠ some l2.b := by
  intro id l2 o2 e1 e2 hib hiy
  have hr := hH.obj id l2 o2 e1 e2
  by_cases hw : o2.own = true
  ·refine ⟨hH.inj id b l2 lb o2 _ e1 hlb hib e2 hob hw rfl,fun e => ?_⟩
   cases hyc : y with
   | none => rw [hnone hyc] at e; cases e
   | some y' =>
    obtain ⟨ly,f1,f2,_⟩ := hrow y' hyc
    rw [f2] at e
    injection e with e
    exact hH.inj id y' l2 ly o2 _ e1 f1 (fun h => hiy (by rw [hyc,h])) e2 (hoy y' hyc) hw rfl e.symm
  ·have hlt : l2.b < B := by
    cases o2 with
    | cells c2 rw2 =>
     cases rw2 with
     | true => exact absurd rfl hw
     | false => exact hr.1
    | amap _ => exact absurd rfl hw
    | bld _ _ => exact absurd rfl hw
    | brow _ => exact absurd rfl hw
   refine ⟨by omega,fun e => ?_⟩
   cases hyc : y with
   | none => rw [hnone hyc] at e; cases e
   | some y' =>
    obtain ⟨ly,_,f2,f3,_⟩ := hrow y' hyc
    rw [f2] at e
    injection e with e
    omega
 have gne : ∀ id l2 o2,ρ id = some l2 → (wsH H b y m).obj id = some o2 → o2.own = true → id ≠ H.next → l2.b ≠ g := by
  intro id l2 o2 e1 e2 hw hin
  have hdom := (hH.dom id l2 e1).2
  rcases hg with h | h
  ·cases hyc : y with
   | none => rw [hnone hyc] at h; cases h
   | some y' =>
    obtain ⟨ly,f1,f2,_,f4,_⟩ := hrow y' hyc
    rw [f2] at h
    injection h with h
    subst h
    by_cases hiy : id = y'
    ·rw [hiy,hoby y' hyc] at e2; cases e2
    ·by_cases hib : id = b
     ·rw [hib,hlb] at e1; injection e1 with e1; subst e1
      exact hH.inj b y' lb ly _ _ hlb f1 (fun e => f4 e.symm) hob (hoy y' hyc) rfl rfl
     ·rw [hobj id hib (fun e => by rw [hyc] at e; injection e with e; exact hiy e.symm) hin] at e2
      exact hH.inj id y' l2 ly o2 _ e1 f1 hiy e2 (hoy y' hyc) hw rfl
  ·omega
 refine ⟨hle,⟨fun id l2 e => ?_,fun id l2 o2 e1 e2 => ?_,fun id id' l2 l3 o2 o3 e1 e2 hne h1 h2 h3 h4 => ?_,Nat.le_trans hH.base hsz,fun id hid => ?_,hH.glob.heap hbl.block⟩,⟨hbl⟩,fun id h1 h2 => ?_,by rw [hnext]; omega,fun id h1 h2 => ?_⟩
 ·unfold bindAt at e
  split at e
  ·rename_i hi
   injection e with e; subst e; subst hi
   exact ⟨by rw [hnext]; omega,hgl⟩
  ·exact ⟨by rw [hnext]; have := (hH.dom id l2 e).1; omega,Nat.lt_of_lt_of_le (hH.dom id l2 e).2 hsz⟩
 ·unfold bindAt at e1
  split at e1
  ·rename_i hi
   injection e1 with e1; subst e1; subst hi
   rw [hobn] at e2; injection e2 with e2; subst e2
   exact ⟨hBg,rfl,cur,hgc,hcs,htk⟩
  ·rename_i hi
   by_cases hib : id = b
   ·subst hib
    rw [hobb] at e2; injection e2 with e2; subst e2
    rw [hlb] at e1; injection e1 with e1; subst e1
    exact ⟨hBb,hlo,_,_,hb',.inr rfl,⟨g,0,cap⟩,by simp [bindAt],rfl,rfl,hcap,hmax⟩
   ·by_cases hiy : y = some id
    ·rw [hoby id hiy] at e2; cases e2
    ·rw [hobj id hib hiy hi] at e2
     obtain ⟨s1,s2⟩ := same id l2 o2 e1 e2 hib hiy
     exact (hH.obj id l2 o2 e1 e2).mono hle (hk _ (hH.dom id l2 e1).2 s1 s2)
 ·unfold bindAt at e1 e2
  split at e1
  ·rename_i hi
   injection e1 with e1; subst e1
   split at e2
   ·rename_i hj; exact absurd (hi.trans hj.symm) hne
   ·rename_i hj
    exact fun e => gne id' l3 o3 e2 h2 h4 hj e.symm
  ·rename_i hi
   split at e2
   ·injection e2 with e2; subst e2
    exact gne id l2 o2 e1 h1 h3 hi
   ·rename_i hj
    have own : ∀ j o,j ≠ H.next → (wsH H b y m).obj j = some o → ∃ o',H.obj j = some o' ∧ (o.own = true → o'.own = true) := by
     intro j o hjn hjo
     by_cases hjb : j = b
     ·subst hjb; exact ⟨_,hob,fun _ => rfl⟩
     ·by_cases hjy : y = some j
      ·rw [hoby j hjy] at hjo; cases hjo
      ·rw [hobj j hjb hjy hjn] at hjo
       exact ⟨o,hjo,fun h => h⟩
    obtain ⟨p1,q1,r1⟩ := own id o2 hi h1
    obtain ⟨p2,q2,r2⟩ := own id' o3 hj h2
    exact hH.inj id id' l2 l3 p1 p2 e1 e2 hne q1 q2 (r1 h3) (r2 h4)
 ·rw [hnext] at hid
  rw [hobj id (by omega) (fun e => by obtain ⟨_,_,_,_,_,hn⟩ := hrow id e; omega) (by omega)]
  exact hH.top id (by omega)
 ·unfold bindAt at h2
  split at h2
  ·omega
  ·exact absurd h1 h2
 ·refine hobj id (fun e => ?_) (fun e => ?_) (by omega)
  ·rw [e,hlb] at h2; cases h2
  ·obtain ⟨ly,f1,_⟩ := hrow id e
   rw [f1] at h2; cases h2
theorem ws_at {b : Nat} {y : Option Nat} {l : List UInt8} {s : ByteArray} (hob : H.obj b = some (.bld y l)) (hoy : ∀ y',y = some y' → H.obj y' = some (.brow l)) (hs : s.size ≠ 0) (hlen : l.length + s.size ≤ 140737488355328) :
  CallAt Tryd.prog 36 [.ptr b 0,.str s] H (.tuple [.int .i64 s.size,.nilIface]) (wsH H b y (l ++ s.data.toList)) := by
 refine ⟨⟨_,_,Tryd.func36,rfl,by kernel_rfl⟩,fun ρ B w us hH hus => ?_⟩
 obtain ⟨v,us1,rfl,r1,hus⟩ := hus.cons_inv
 obtain ⟨v2,us2,rfl,r2,hus⟩ := hus.cons_inv
 have := hus.nil_inv
 subst this
 simp only [VRel] at r1 r2
 subst r2
 obtain ⟨lb,hlb,rfl⟩ := r1
 have hbo := hH.obj b lb _ hlb hob
 obtain ⟨hBb,hlo,p,v,hb,hp,hbuf⟩ := hbo
 have hsd : s.data.toList.length = s.size := by simp
 have hown : w.ownsRow B TR 1 v l.length (rowCells l) ∧ v.ownBlock ≠ some lb.b := by
  cases y with
  | none =>
   obtain ⟨rfl,rfl⟩ := hbuf
   exact ⟨⟨rfl,.inl ⟨rfl,rfl⟩⟩,fun e => by cases e⟩
  | some y =>
   obtain ⟨ly,e1,e2,rfl,e3,e4⟩ := hbuf
   have hyo := hoy y rfl
   obtain ⟨h1,h2,cur,h3,h4,h5⟩ := hH.obj y ly _ e1 hyo
   refine ⟨⟨by rw [rowCells_length,Nat.mul_one],.inr ⟨ly.b,ly.n,cur,rfl,h1,h3,e3,e4,by omega,by rw [Nat.mul_one]; exact h5⟩⟩,fun e => ?_⟩
   injection e with e
   exact hH.inj y b ly lb _ _ e1 hlb (fun e => by rw [e,hob] at hyo; cases hyo) hyo hob rfl rfl e
 have hc := ws_x (P := Tryd.prog) (ρ := Tryd.bws_ren) Tryd.bws bextra hBb hb hp hown.1 hown.2 hs hlen hH.base
 rw [hlo] at *
 change Calls Tryd.prog 36 _ _ _ at hc
 refine hc.mono fun e w' => ?_
 rintro ⟨rfl,g,cap,cur,f1,f2,f3,f4,f5,f6,f7,f8,f9,f10,f11⟩
 have hml : (l ++ s.data.toList).length = l.length + s.size := by rw [List.length_append,hsd]
 refine ⟨_,rfl,_,?_,ws_heap hH hlb hob hoy hbuf (m := l ++ s.data.toList) (by rw [hml]; exact f1) f2 f3 f4 (by omega) f6 f7 (by rw [hml,rowCells_append]; exact f8) f9 f10 f11⟩
 simp only [VRel]
 exact ⟨[_,_],rfl,.cons (by simp only [VRel]) (.cons (by simp only [VRel]) .nil)⟩
theorem bstr_at {b y : Nat} {l : List UInt8} (hob : H.obj b = some (.bld (some y) l)) (hoy : H.obj y = some (.brow l)) (h0 : l ≠ []) :
  CallAt Tryd.prog 39 [.ptr b 0] H (.str (bs l)) (H.upd y none) := by
 refine ⟨⟨_,_,Tryd.func39,rfl,by kernel_rfl⟩,fun ρ B w us hH hus => ?_⟩
 obtain ⟨v,us1,rfl,r1,hus⟩ := hus.cons_inv
 have := hus.nil_inv
 subst this
 simp only [VRel] at r1
 obtain ⟨lb,hlb,rfl⟩ := r1
 obtain ⟨hBb,hlo,p,v,hb,hp,hbuf⟩ := hH.obj b lb _ hlb hob
 obtain ⟨ly,e1,e2,rfl,e3,e4⟩ := hbuf
 obtain ⟨h1,h2,cur,h3,h4,h5⟩ := hH.obj y ly _ e1 hoy
 have hc := str_x (P := Tryd.prog) (ρ := Tryd.bstr_ren) (B := B) Tryd.bstr bextra2 hb h1 h3 e3 e4 h4 h5 h0
 rw [hlo] at *
 change Calls Tryd.prog 39 _ _ _ at hc
 refine hc.mono fun e w' => ?_
 rintro ⟨rfl,f1,f2,f3⟩
 refine ⟨_,rfl,ρ,by simp only [VRel]; rfl,Step.upd e1 ⟨fun id l2 e => ?_,fun id l2 o2 g1 g2 => ?_,fun id id' l2 l3 o2 o3 g1 g2 hne k1 k2 k3 k4 => ?_,by rw [f1]; exact hH.base,fun id hid => ?_,hH.glob.heap f3.block⟩ ⟨f3⟩⟩
 ·exact ⟨(hH.dom id l2 e).1,by rw [f1]; exact (hH.dom id l2 e).2⟩
 ·simp only [AHeap.upd] at g2
  split at g2
  ·cases g2
  ·rename_i hi
   have hr := hH.obj id l2 o2 g1 g2
   have hne : l2.b ≠ ly.b := by
    by_cases hw : o2.own = true
    ·exact hH.inj id y l2 ly o2 _ g1 e1 hi g2 hoy hw rfl
    ·cases o2 with
     | cells c2 rw2 =>
      cases rw2 with
      | true => exact absurd rfl hw
      | false => have := hr.1; omega
     | amap _ => exact absurd rfl hw
     | bld _ _ => exact absurd rfl hw
     | brow _ => exact absurd rfl hw
   exact hr.mono (.refl _) (f2 _ hne)
 ·simp only [AHeap.upd] at k1 k2
  split at k1
  ·cases k1
  ·split at k2
   ·cases k2
   ·exact hH.inj id id' l2 l3 o2 o3 g1 g2 hne k1 k2 k3 k4
 ·simp only [AHeap.upd]
  split
  ·rfl
  ·exact hH.top id hid
theorem join_at {id n : Nat} {sep : ByteArray} {xs : List (List UInt8)} (ho : H.obj id = some (.cells (strs xs) true)) (hn : n = xs.length) (h0 : 0 < n) (hN : n ≤ 140737488355328) (hlen : (Lib.join xs sep.data.toList).length ≤ 140737488355328) :
  CallAt Tryd.prog 38 [.slice id 0 n (.exact n),.str sep] H (.str (bs (Lib.join xs sep.data.toList))) H := by
 refine ⟨⟨_,_,Tryd.func38,rfl,by kernel_rfl⟩,fun ρ B w us hH hus => ?_⟩
 obtain ⟨v,us1,rfl,r1,hus⟩ := hus.cons_inv
 obtain ⟨v2,us2,rfl,r2,hus⟩ := hus.cons_inv
 have := hus.nil_inv
 subst this
 simp only [VRel] at r1 r2
 subst r2
 obtain ⟨l,p,hl,rfl,_,hp⟩ := r1
 have hp' : p = l.o + 0 := hp.resolve_right (by omega)
 subst hp'
 have hr := hH.obj id l _ hl ho
 obtain ⟨_,hcr,_⟩ := hr
 have hmap : (xs.map bs).map (·.data.toList) = xs := by
  rw [List.map_map]
  conv => rhs; rw [← List.map_id xs]
  refine List.map_congr_left fun x _ => bs_data x
 have hc := Any.strings_Join (P := Tryd.prog) (ρ := Tryd.join_ren) Tryd.join bextra3 l.b (l.o + 0) n (xs.map bs) sep w (fun j x hx => by
  rw [List.getElem?_map] at hx
  cases hj : xs[j]? with
  | none => rw [hj] at hx; cases hx
  | some y =>
   rw [hj] at hx
   simp only [Option.map_some] at hx
   injection hx with hx
   subst hx
   obtain ⟨u,e1,e2⟩ := hcr.2 j (.str (bs y)) (by simp [strs,hj])
   simp only [VRel] at e2
   subst e2
   rw [Nat.add_zero]
   exact e1) (hH.dom id l hl).2 (by rw [List.length_map]; omega) (by rw [List.length_map]; omega) (by rw [hmap]; exact hlen)
 rw [hmap,List.length_map,← hn] at hc
 change Calls Tryd.prog 38 _ _ _ at hc
 refine hc.mono fun e w' => ?_
 rintro ⟨rfl,hb⟩
 exact ⟨_,rfl,ρ,by simp only [VRel]; rfl,quiet_step hH hb⟩
end
end Go.Proofs.YtknhlpmmalcchaaDoor

namespace Go.Proofs.YtknhlpmmalcchaaDoor
open Go Go.VAI
set_option linter.unusedSimpArgs false

theorem ws_facts {H : AHeap} {b : Nat} {y : Option Nat} {m : List UInt8} (hb : b < H.next) (hy : ∀ y',y = some y' → y' < H.next ∧ y' ≠ b) :
  (wsH H b y m).next = H.next + 1 ∧ (wsH H b y m).obj b = some (.bld (some H.next) m) ∧ (wsH H b y m).obj H.next = some (.brow m) ∧ ∀ j,j < H.next → j ≠ b → y ≠ some j → (wsH H b y m).obj j = H.obj j := by
 cases y with
 | none =>
  refine ⟨rfl,?_,?_,fun j h1 h2 _ => ?_⟩
  ·show (if b = H.next then some (AObj.brow m) else if b = b then some (AObj.bld (some H.next) m) else H.obj b) = _
   rw [if_neg (by omega),if_pos rfl]
  ·show (if H.next = H.next then some (AObj.brow m) else _) = _
   rw [if_pos rfl]
  ·show (if j = H.next then some (AObj.brow m) else if j = b then _ else H.obj j) = _
   rw [if_neg (by omega),if_neg h2]
 | some y' =>
  obtain ⟨h3,h4⟩ := hy y' rfl
  refine ⟨rfl,?_,?_,fun j h1 h2 h5 => ?_⟩
  ·show (if b = H.next then some (AObj.brow m) else if b = y' then none else if b = b then some (AObj.bld (some H.next) m) else H.obj b) = _
   rw [if_neg (by omega),if_neg (fun e => h4 e.symm),if_pos rfl]
  ·show (if H.next = H.next then some (AObj.brow m) else _) = _
   rw [if_pos rfl]
  ·show (if j = H.next then some (AObj.brow m) else if j = y' then none else if j = b then _ else H.obj j) = _
   rw [if_neg (by omega),if_neg (fun e => h5 (by rw [e])),if_neg h2]
theorem ws_ret0 {b : Nat} {s : List UInt8} {H : AHeap} {Q : AVal → AHeap → Prop} (hbn : b < H.next) (hob : H.obj b = some (.bld none [])) (hs : s ≠ []) (hlen : s.length ≤ 140737488355328)
  (hq : ∀ H' v,H'.next = H.next + 1 → H'.obj b = some (.bld (some H.next) s) → H'.obj H.next = some (.brow s) → (∀ j,j < H.next → j ≠ b → H'.obj j = H.obj j) → Q (.tuple [v,.nilIface]) H') : Ret A 36 [.ptr b 0,.str (bs s)] H Q := by
 have hz : (bs s).size ≠ 0 := by rw [bs_size]; simpa using hs
 have hl : (bs s).size ≤ 140737488355328 := by rw [bs_size]; exact hlen
 have e : libD 36 [.ptr b 0,.str (bs s)] H = some (.tuple [.int .i64 (bs s).size,.nilIface],wsH H b none s) := by
  show wsF [.ptr b 0,.str (bs s)] H = _
  unfold wsF
  simp only [hob]
  rw [if_pos ⟨hz,hl,trivial⟩,bs_data]
 have hc := ws_at (H := H) (b := b) (y := none) (l := []) (s := bs s) hob (fun y' h => by cases h) hz (by simpa using hl)
 rw [bs_data,List.nil_append] at hc
 obtain ⟨f1,f2,f3,f4⟩ := ws_facts (H := H) (b := b) (y := none) (m := s) hbn (fun y' h => by cases h)
 exact Ret.lib rfl (show lawful Tryd.prog libD 36 _ H = _ from lawful_eq e hc) (hq _ _ f1 f2 f3 fun j h1 h2 => f4 j h1 h2 (fun h => by cases h))
theorem ws_ret {b y : Nat} {l s : List UInt8} {H : AHeap} {Q : AVal → AHeap → Prop} (hbn : b < H.next) (hyn : y < H.next) (hob : H.obj b = some (.bld (some y) l)) (hoy : H.obj y = some (.brow l)) (hs : s ≠ []) (hlen : l.length + s.length ≤ 140737488355328)
  (hq : ∀ H' v,H'.next = H.next + 1 → H'.obj b = some (.bld (some H.next) (l ++ s)) → H'.obj H.next = some (.brow (l ++ s)) → (∀ j,j < H.next → j ≠ b → j ≠ y → H'.obj j = H.obj j) → Q (.tuple [v,.nilIface]) H') : Ret A 36 [.ptr b 0,.str (bs s)] H Q := by
 have hz : (bs s).size ≠ 0 := by rw [bs_size]; simpa using hs
 have hl : l.length + (bs s).size ≤ 140737488355328 := by rw [bs_size]; exact hlen
 have hyb : y ≠ b := fun e => by rw [e,hob] at hoy; cases hoy
 have e : libD 36 [.ptr b 0,.str (bs s)] H = some (.tuple [.int .i64 (bs s).size,.nilIface],wsH H b (some y) (l ++ s)) := by
  show wsF [.ptr b 0,.str (bs s)] H = _
  unfold wsF
  simp only [hob,hoy]
  rw [if_pos ⟨hz,hl,trivial⟩,bs_data]
 have hc := ws_at (H := H) (b := b) (y := some y) (l := l) (s := bs s) hob (fun y' h => by injection h with h; rw [← h]; exact hoy) hz hl
 rw [bs_data] at hc
 obtain ⟨f1,f2,f3,f4⟩ := ws_facts (H := H) (b := b) (y := some y) (m := l ++ s) hbn (fun y' h => by injection h with h; rw [← h]; exact ⟨hyn,hyb⟩)
 exact Ret.lib rfl (show lawful Tryd.prog libD 36 _ H = _ from lawful_eq e hc) (hq _ _ f1 f2 f3 fun j h1 h2 h3 => f4 j h1 h2 (fun h => h3 (by injection h with h; exact h.symm)))
theorem bstr_ret {b y : Nat} {l : List UInt8} {H : AHeap} {Q : AVal → AHeap → Prop} (hob : H.obj b = some (.bld (some y) l)) (hoy : H.obj y = some (.brow l)) (h0 : l ≠ []) (hq : Q (.str (bs l)) (H.upd y none)) : Ret A 39 [.ptr b 0] H Q := by
 have e : libD 39 [.ptr b 0] H = some (.str (bs l),H.upd y none) := by
  show bstrF [.ptr b 0] H = _
  unfold bstrF
  simp only [hob,hoy]
  rw [if_pos ⟨h0,trivial⟩]
 exact Ret.lib rfl (show lawful Tryd.prog libD 39 _ H = _ from lawful_eq e (bstr_at hob hoy h0)) hq
theorem join_ret {id n : Nat} {sep : List UInt8} {xs : List (List UInt8)} {H : AHeap} {Q : AVal → AHeap → Prop} (ho : H.obj id = some (.cells (strs xs) true)) (hn : n = xs.length) (h0 : 0 < n) (hN : n ≤ 140737488355328) (hlen : (Lib.join xs sep).length ≤ 140737488355328)
  (hq : Q (.str (bs (Lib.join xs sep))) H) : Ret A 38 [.slice id 0 n (.exact n),.str (bs sep)] H Q := by
 have e : libD 38 [.slice id 0 n (.exact n),.str (bs sep)] H = some (.str (bs (Lib.join xs sep)),H) := by
  show joinF [.slice id 0 n (.exact n),.str (bs sep)] H = _
  unfold joinF
  simp only [ho,unstrs_strs,bs_data]
  rw [if_pos ⟨hn,trivial,h0,hN,hlen⟩]
 have hc := join_at (H := H) (sep := bs sep) ho hn h0 hN (by rw [bs_data]; exact hlen)
 rw [bs_data] at hc
 exact Ret.lib rfl (show lawful Tryd.prog libD 38 _ H = _ from lawful_eq e hc) hq
theorem textOf_snoc (n : Int) (es : List Edge) (e : Edge) : textOf ⟨n,es ++ [e]⟩ = textOf ⟨n,es⟩ ++ (edgeText e ++ [10]) := by simp [textOf]
theorem textOf_nil (n : Int) : textOf ⟨n,[]⟩ = headText n ++ [10] := by simp [textOf]
theorem join_edge (e : Edge) : Lib.join [[101,100,103,101],dec e.src,dec e.dst,signOf e.mode,dec e.cost] [32] = edgeText e := by
 simp [Lib.join,edgeText,edgeW]
theorem itoa_dec {n : Int} (h : 0 ≤ n) : Lib.itoa n = dec n := by
 obtain ⟨k,rfl⟩ : ∃ k : Nat,n = k := ⟨n.toNat,by omega⟩
 rw [itoa_nat]
 unfold dec
 rw [Int.toNat_natCast]
set_option maxRecDepth 20000 in
set_option maxHeartbeats 4000000 in
theorem text_ret {x : NetS} {ev : AVal} {H : AHeap} {Q : AVal → AHeap → Prop} (hx : Fits x) (hr : Row H ev 4 (edgeCells x.es)) (hq : ∀ H',Keep Nothing H H' → Q (.str (bs (textOf x))) H') : Ret A 27 [.agg [.int .i64 x.n,ev]] H Q := by
 refine Ret.of (fn := F27) rfl ?_
 have hl := hr.len (by omega) (edgeCells_length x.es)
 have hce := hr.cells
 have hx' := hx
 obtain ⟨h1,h2,h3,h4⟩ := hx'
 simp (disch := first | omega | (simp only [next_new,next_upd] <;> omega) | fail) only [vai,vaim,vaic,vas,bots,Bool.not_true,Bool.not_false,decide_true,decide_false,wrap64,F27,hce,Nat.reduceAdd,Nat.reduceMul,Nat.reduceLeDiff,Nat.reduceEqDiff,↓reduceIte]
 refine itoa_ret (by omega) (by omega) ?_
 rw [itoa_dec (by omega)]
 have hdl : (dec x.n).length ≤ 2 := nDig2 (by omega)
 have z1 : ([110,101,116,32] : List UInt8).length = 4 := rfl
 have z2 : ([10] : List UInt8).length = 1 := rfl
 have z3 : (110 :: 101 :: 116 :: 32 :: dec x.n : List UInt8).length = 4 + (dec x.n).length := by simp; omega
 have z4 : ([110,101,116,32] ++ dec x.n : List UInt8).length = 4 + (dec x.n).length := by simp; omega
 simp (disch := first | omega | (simp only [next_new,next_upd] <;> omega) | fail) only [vai,vaim,vaic,vas,bots,Bool.not_true,Bool.not_false,decide_true,decide_false,wrap64,Nat.reduceAdd,Nat.reduceMul,Nat.reduceLeDiff,Nat.reduceEqDiff,↓reduceIte]
 have hS0 : 110 :: 101 :: 116 :: 32 :: (dec x.n ++ [10]) = textOf ⟨x.n,[]⟩ := by rw [textOf_nil]; simp [headText,netW]
 have kA : Keep Nothing H ((H.new (.cells [.int .i64 x.n,ev] true)).new (.bld none [])) := ((Keep.refl _ _).new _).new _
 have oA : ((H.new (.cells [.int .i64 x.n,ev] true)).new (.bld none [])).obj H.next = some (.cells [.int .i64 x.n,ev] true) := (obj_new_ne (by simp only [next_new]; omega)).trans (obj_new_eq rfl)
 have nA : ((H.new (.cells [.int .i64 x.n,ev] true)).new (.bld none [])).next = H.next + 2 := rfl
 refine ws_ret0 (b := H.next + 1) (by rw [nA]; omega) (by simp (disch := first | omega | (simp only [next_new,next_upd] <;> omega) | fail) only [vaim]) (by simp) (by simp; omega) ?_
 intro H1 v n1 o1 b1 k1
 rw [nA] at n1 b1 o1 k1
 have q1 := (k1 H.next (by omega) (by omega)).trans oA
 simp (disch := first | omega | (simp only [next_new,next_upd] <;> omega) | fail) only [vai,vaim,vaic,vas,bots,Bool.not_true,Bool.not_false,decide_true,decide_false,wrap64,q1,hl,Nat.reduceAdd,Nat.reduceMul,Nat.reduceLeDiff,Nat.reduceEqDiff,↓reduceIte]
 refine wpx_loop (fun m t H' => ∃ (i y : Nat),m = x.es.length - i ∧ i ≤ x.es.length ∧ t = (bots 3 (.ptr (H.next + 1) 0 :: .func (.func 36) [.ptr (H.next + 1) 0] [] :: bots 11 (ev :: .int .i64 x.es.length :: .int .i64 i :: bots 25 ([]))) : Tmps) ∧ Keep Nothing H H' ∧ H.next + 2 ≤ H'.next ∧ H.next + 2 ≤ y ∧ y < H'.next ∧ H'.obj (H.next + 1) = some (.bld (some y) (textOf ⟨x.n,x.es.take i⟩)) ∧ H'.obj y = some (.brow (textOf ⟨x.n,x.es.take i⟩))) x.es.length ?_ ?_
 ·refine ⟨0,H.next + 2,rfl,by omega,rfl,⟨by omega,fun j hj hm => ?_⟩,by omega,by omega,by omega,?_,?_⟩
  ·rw [k1 j (by omega) (by omega)]
   exact kA.obj j hj hm
  ·rw [o1,List.take_zero,← hS0]
   try simp
  ·rw [b1,List.take_zero,← hS0]
   try simp
 ·rintro m t H2 ⟨i,y,rfl,hi,rfl,k2,n2,hy1,hy2,o2,p2⟩
  by_cases hc : (i : Int) < x.es.length
  ·have hd : decide ((i : Int) < x.es.length) = true := decide_eq_true hc
   have he : x.es[i]? = some x.es[i] := List.getElem?_eq_getElem (by omega)
   obtain ⟨ie,oe,e1,_,_,_,_,_,e6⟩ := edge_at (hr.kept k2) he
   have hr1 := h4 _ (List.getElem_mem (show i < x.es.length by omega))
   have htl := text_len (fits_take hx i)
   have hsn : textOf ⟨x.n,x.es.take (i + 1)⟩ = textOf ⟨x.n,x.es.take i⟩ ++ (edgeText x.es[i] ++ [10]) := by
    rw [List.take_succ_eq_append_getElem (show i < x.es.length by omega),textOf_snoc]
   generalize x.es[i] = e at *
   have hel := edgeText_len h2 hr1
   have hre := edgeOk_iff.1 hr1
   obtain ⟨⟨f1,f2⟩,⟨f3,f4⟩,⟨f5,f6⟩,f7,f8⟩ := hre
   obtain ⟨mo,hmo⟩ : ∃ mo : Nat,e.mode = mo := ⟨e.mode.toNat,by omega⟩
   have hsl : asliceStr (.str (bs [119,98,99,102,116])) (some (.int .i64 (mo : Int))) (some (.int .i64 ((mo : Int) + 1))) = some (.str (bs (signOf mo))) := by
    have h := asliceStr_bs (l := signs) (i := mo) (j := mo + 1) (k1 := .i64) (k2 := .i64) ⟨by omega,by show mo + 1 ≤ 5; omega⟩
    rw [show mo + 1 - mo = 1 by omega] at h
    exact h
   simp only [Edge.cells] at e6
   simp (disch := first | omega | (simp only [next_new,next_upd] <;> omega) | fail) only [vai,vaim,vaic,vas,bots,Bool.not_true,Bool.not_false,decide_true,decide_false,wrap64,hd,e1,e6,hmo,hsl,Nat.reduceAdd,Nat.reduceMul,Nat.reduceLeDiff,Nat.reduceEqDiff,↓reduceIte]
   refine itoa_ret (by omega) (by omega) ?_
   rw [itoa_dec (by omega)]
   simp (disch := first | omega | (simp only [next_new,next_upd] <;> omega) | fail) only [vai,vaim,vaic,vas,bots,Bool.not_true,Bool.not_false,decide_true,decide_false,wrap64,hmo,Nat.reduceAdd,Nat.reduceMul,Nat.reduceLeDiff,Nat.reduceEqDiff,↓reduceIte]
   refine itoa_ret (by omega) (by omega) ?_
   rw [itoa_dec (by omega)]
   simp (disch := first | omega | (simp only [next_new,next_upd] <;> omega) | fail) only [vai,vaim,vaic,vas,bots,Bool.not_true,Bool.not_false,decide_true,decide_false,wrap64,hmo,Nat.reduceAdd,Nat.reduceMul,Nat.reduceLeDiff,Nat.reduceEqDiff,↓reduceIte]
   refine itoa_ret (by omega) (by omega) ?_
   rw [itoa_dec (by omega)]
   simp (disch := first | omega | (simp only [next_new,next_upd] <;> omega) | fail) only [vai,vaim,vaic,vas,bots,Bool.not_true,Bool.not_false,decide_true,decide_false,wrap64,hmo,Nat.reduceAdd,Nat.reduceMul,Nat.reduceLeDiff,Nat.reduceEqDiff,↓reduceIte]
   have hj : Lib.join [[101,100,103,101],dec e.src,dec e.dst,signOf mo,dec e.cost] [32] = edgeText e := by rw [← hmo]; exact join_edge e
   have kK : ∀ j,j < H2.next → (((H2.new (.cells [.int .i64 0,.int .i64 0,.int .i64 0,.int .i64 0] true)).upd H2.next (some (.cells [.int .i64 e.src,.int .i64 e.dst,.int .i64 mo,.int .i64 e.cost] true))).new (.cells [.str (bs [101,100,103,101]),.str (bs (dec e.src)),.str (bs (dec e.dst)),.str (bs (signOf mo)),.str (bs (dec e.cost))] true)).obj j = H2.obj j := fun j hj => by
    rw [obj_new_ne (by show j ≠ H2.next + 1; omega),obj_upd_ne (by omega),obj_new_ne (by omega)]
   have nK : (((H2.new (.cells [.int .i64 0,.int .i64 0,.int .i64 0,.int .i64 0] true)).upd H2.next (some (.cells [.int .i64 e.src,.int .i64 e.dst,.int .i64 mo,.int .i64 e.cost] true))).new (.cells [.str (bs [101,100,103,101]),.str (bs (dec e.src)),.str (bs (dec e.dst)),.str (bs (signOf mo)),.str (bs (dec e.cost))] true)).next = H2.next + 2 := rfl
   refine join_ret (id := H2.next + 1) (n := 5) (sep := [32]) (xs := [[101,100,103,101],dec e.src,dec e.dst,signOf mo,dec e.cost]) (obj_new_eq rfl) rfl (by omega) (by omega) (by rw [hj]; omega) ?_
   rw [hj]
   have z5 : (edgeText e ++ [10]).length = (edgeText e).length + 1 := by simp
   simp (disch := first | omega | (simp only [next_new,next_upd] <;> omega) | fail) only [vai,vaim,vaic,vas,bots,Bool.not_true,Bool.not_false,decide_true,decide_false,wrap64,Nat.reduceAdd,Nat.reduceMul,Nat.reduceLeDiff,Nat.reduceEqDiff,↓reduceIte]
   generalize ((H2.new (.cells [.int .i64 0,.int .i64 0,.int .i64 0,.int .i64 0] true)).upd H2.next (some (.cells [.int .i64 e.src,.int .i64 e.dst,.int .i64 mo,.int .i64 e.cost] true))).new (.cells [.str (bs [101,100,103,101]),.str (bs (dec e.src)),.str (bs (dec e.dst)),.str (bs (signOf mo)),.str (bs (dec e.cost))] true) = K at *
   refine ws_ret (b := H.next + 1) (y := y) (l := textOf ⟨x.n,x.es.take i⟩) (s := edgeText e ++ [10]) (by omega) (by omega) (by rw [kK _ (by omega)]; exact o2) (by rw [kK _ (by omega)]; exact p2) (by simp) (by rw [z5]; omega) ?_
   intro H3 v3 n3 o3 p3 k3
   rw [nK] at n3 o3 p3 k3
   rw [← hsn] at o3 p3
   simp (disch := first | omega | (simp only [next_new,next_upd] <;> omega) | fail) only [vai,vaim,vaic,vas,bots,Bool.not_true,Bool.not_false,decide_true,decide_false,wrap64,Nat.reduceAdd,Nat.reduceMul,Nat.reduceLeDiff,Nat.reduceEqDiff,↓reduceIte]
   have k4 : Keep Nothing H H3 := ⟨by omega,fun j hj hm => by
    rw [k3 j (by omega) (by omega) (by omega),kK j (by omega)]
    exact k2.obj j hj hm⟩
   exact ⟨x.es.length - (i + 1),by omega,i + 1,H2.next + 2,rfl,by omega,rfl,k4,by omega,by omega,by omega,o3,p3⟩
  ·have hd : decide ((i : Int) < x.es.length) = false := decide_eq_false hc
   have hie : i = x.es.length := by omega
   rw [hie,List.take_length] at o2 p2
   simp (disch := first | omega | (simp only [next_new,next_upd] <;> omega) | fail) only [vai,vaim,vaic,vas,bots,Bool.not_true,Bool.not_false,decide_true,decide_false,wrap64,hd,Nat.reduceAdd,Nat.reduceMul,Nat.reduceLeDiff,Nat.reduceEqDiff,↓reduceIte]
   refine bstr_ret o2 p2 (fun h => by
    have := text_pos x
    rw [show textOf x = textOf ⟨x.n,x.es⟩ from rfl,h] at this
    simp at this) ?_
   simp (disch := first | omega | (simp only [next_new,next_upd] <;> omega) | fail) only [vai,vaim,vaic,vas,bots,Bool.not_true,Bool.not_false,decide_true,decide_false,wrap64,Nat.reduceAdd,Nat.reduceMul,Nat.reduceLeDiff,Nat.reduceEqDiff,↓reduceIte]
   exact hq _ (k2.upd (.inl (by omega)) _)
end Go.Proofs.YtknhlpmmalcchaaDoor

namespace Go.Proofs.YtknhlpmmalcchaaDoor
open Go Go.VAI
set_option linter.unusedSimpArgs false

end Go.Proofs.YtknhlpmmalcchaaDoor

namespace Go.Proofs.YtknhlpmmalcchaaDoor
open Go Go.VAI
set_option linter.unusedSimpArgs false

end Go.Proofs.YtknhlpmmalcchaaDoor

namespace Go.Proofs.YtknhlpmmalcchaaDoor
open Go Go.VAI
set_option linter.unusedSimpArgs false

def gapAt (gs : List Int) (c : Nat) : Nat := if c < gs.length then (gs.getD c 0 % 4).toNat else 0
theorem gapAt_lt (gs : List Int) (c : Nat) : gapAt gs c < 4 := by
 unfold gapAt
 split
 ·have := Int.emod_lt_of_pos (gs.getD c 0) (show (0 : Int) < 4 by omega)
  have := Int.emod_nonneg (gs.getD c 0) (show (4 : Int) ≠ 0 by omega)
  omega
 ·omega
def psG (gs : List Int) (ws : List (List UInt8)) (c : Nat) : List (Nat × List UInt8) := (List.range c).map fun j => (gapAt gs j,ws.getD j [])
theorem psG_succ (gs : List Int) (ws : List (List UInt8)) (c : Nat) : psG gs ws (c + 1) = psG gs ws c ++ [(gapAt gs c,ws.getD c [])] := by simp [psG,List.range_succ]
theorem psG_snd (gs : List Int) (ws : List (List UInt8)) : ∀ c,c ≤ ws.length → (psG gs ws c).map Prod.snd = ws.take c
 | 0,_ => by simp [psG]
 | c + 1,h => by
  rw [psG_succ,List.map_append,psG_snd gs ws c (by omega),List.take_succ_eq_append_getElem (by omega)]
  simp [List.getD_eq_getElem?_getD,show c < ws.length by omega]
def textG (gs : List Int) (ws : List (List UInt8)) (c : Nat) : List UInt8 := ended (gap (psG gs ws c))
theorem textG_succ (gs : List Int) (ws : List (List UInt8)) (c : Nat) : textG gs ws (c + 1) = textG gs ws c ++ (List.replicate (gapAt gs c) 10 ++ (ws.getD c [] ++ [10])) := by
 unfold textG
 rw [psG_succ,gap_append,ended_append]
 congr 1
 rw [gap_cons,ended_rep]
 simp [gap,ended]
theorem gapN_succ (gs : List Int) (ws : List (List UInt8)) (c : Nat) : gapN (psG gs ws (c + 1)) = gapN (psG gs ws c) + gapAt gs c + 1 := by
 rw [psG_succ,gapN_append]
 simp [gapN]
 omega
def wsOf (x : NetS) (bad : Bool) : List (List UInt8) := headText x.n :: (x.es.map edgeText ++ if bad then [edgeW] else [])
theorem wsOf_text (x : NetS) (bad : Bool) : ended (wsOf x bad) = textOf x ++ (if bad then [101,100,103,101,10] else []) := by
 have : wsOf x bad = (headText x.n :: x.es.map edgeText) ++ if bad then [edgeW] else [] := by simp [wsOf]
 rw [this,ended_append,← text_ended]
 cases bad <;> simp [ended,edgeW]
theorem wsOf_ne (x : NetS) (bad : Bool) : ∀ w ∈ wsOf x bad,w ≠ [] := by
 intro w hw
 simp only [wsOf,List.mem_cons,List.mem_append,List.mem_map] at hw
 rcases hw with rfl | ⟨e,_,rfl⟩ | hw
 ·exact headText_ne _
 ·exact edgeText_ne _
 ·cases bad with
  | false => simp at hw
  | true =>
   simp at hw
   subst hw
   simp [edgeW]
theorem wsOf_not {x : NetS} (h : Fits x) (bad : Bool) : ∀ w ∈ wsOf x bad,(10 : UInt8) ∉ w := by
 intro w hw
 have h1 := lines_nots h
 simp only [wsOf,List.mem_cons,List.mem_append,List.mem_map] at hw
 rcases hw with rfl | ⟨e,he,rfl⟩ | hw
 ·exact head_not _
 ·exact edge_not (h.2.2.2 e he)
 ·cases bad with
  | false => simp at hw
  | true =>
   simp at hw
   subst hw
   decide
theorem psG_mem {gs : List Int} {ws : List (List UInt8)} {c : Nat} (hc : c ≤ ws.length) : ∀ p ∈ psG gs ws c,p.2 ∈ ws := by
 intro p hp
 simp only [psG,List.mem_map,List.mem_range] at hp
 obtain ⟨j,hj,rfl⟩ := hp
 have : j < ws.length := by omega
 simp only [List.getD_eq_getElem?_getD,List.getElem?_eq_getElem this,Option.getD_some]
 exact List.getElem_mem this
theorem parse_textG {x : NetS} (h : Fits x) (bad : Bool) (gs : List Int) (hl : (textG gs (wsOf x bad) (wsOf x bad).length).length ≤ 60000) :
  parseOf stepP (textG gs (wsOf x bad) (wsOf x bad).length) = if bad then (none0,gapN (psG gs (wsOf x bad) (wsOf x bad).length),2) else (x,0,0) := by
 have hmem := psG_mem (gs := gs) (ws := wsOf x bad) (Nat.le_refl _)
 unfold textG at hl ⊢
 rw [parse_gap (fun p hp => wsOf_ne x bad _ (hmem p hp)) (fun p hp => wsOf_not h bad _ (hmem p hp)) hl]
 have hok := lines_text h
 have hxn : ¬ x.n = 0 := by have := h.1; omega
 cases bad with
 | false =>
  have hsnd := psG_snd gs (wsOf x false) _ (Nat.le_refl _)
  rw [List.take_length] at hsnd
  have hws : wsOf x false = headText x.n :: x.es.map edgeText := by simp [wsOf]
  rw [← hws,← hsnd] at hok
  have h1 := linesG_ok stepP (psG gs (wsOf x false) (wsOf x false).length) none0 x 0 0 (fun p hp => wsOf_ne x false _ (hmem p hp)) hok []
  rw [List.append_nil] at h1
  rw [h1]
  simp only [linesG,if_neg hxn]
  rfl
 | true =>
  have hws : wsOf x true = (headText x.n :: x.es.map edgeText) ++ [edgeW] := by simp [wsOf]
  obtain ⟨c,hc⟩ : ∃ c,c = (headText x.n :: x.es.map edgeText).length := ⟨_,rfl⟩
  have hwl : (wsOf x true).length = c + 1 := by rw [hws,List.length_append,← hc]; rfl
  have hsnd := psG_snd gs (wsOf x true) c (by omega)
  have htk : (wsOf x true).take c = headText x.n :: x.es.map edgeText := by rw [hws,hc,List.take_left]
  rw [htk] at hsnd
  rw [← hsnd] at hok
  have hlast : (wsOf x true).getD c [] = edgeW := by
   rw [hws,List.getD_eq_getElem?_getD,List.getElem?_append_right (by omega),hc,Nat.sub_self]
   rfl
  have hne : ∀ p ∈ psG gs (wsOf x true) c,p.2 ≠ [] := fun p hp => wsOf_ne x true _ (psG_mem (by omega) p hp)
  have h1 := linesG_ok stepP (psG gs (wsOf x true) c) none0 x 0 0 hne hok [(gapAt gs c,edgeW)]
  rw [hwl,psG_succ,hlast,h1,gapN_append]
  have hst : stepP x edgeW = none := by
   have hcut : cutAt 32 edgeW = [edgeW] := by decide
   have : itemP edgeW = .no := by
    unfold itemP
    rw [hcut]
   unfold stepP
   rw [this]
   rfl
  simp only [linesG,hst]
  simp [gapN]
  omega
theorem textG_len {x : NetS} (h : Fits x) (bad : Bool) (gs : List Int) : ∀ c,c ≤ (wsOf x bad).length → (textG gs (wsOf x bad) c).length ≤ c * 30
 | 0,_ => by simp [textG,psG,gap,ended]
 | c + 1,hc => by
  have ih := textG_len h bad gs c (by omega)
  have hg := gapAt_lt gs c
  have hw : ((wsOf x bad).getD c []).length ≤ 23 := by
   have hm : (wsOf x bad).getD c [] ∈ wsOf x bad := by
    rw [List.getD_eq_getElem?_getD,List.getElem?_eq_getElem (by omega),Option.getD_some]
    exact List.getElem_mem _
   obtain ⟨w,hw0⟩ : ∃ w,w = (wsOf x bad).getD c [] := ⟨_,rfl⟩
   rw [← hw0] at hm ⊢
   simp only [wsOf,List.mem_cons,List.mem_append,List.mem_map] at hm
   rcases hm with hm | ⟨e,he,hm⟩ | hm
   ·rw [hm]
    have : (dec x.n).length ≤ 2 := nDig2 (by have := h.2.1; omega)
    simp only [headText,netW,List.length_append,List.length_cons,List.length_nil]
    omega
   ·rw [← hm]
    exact edgeText_len h.2.1 (h.2.2.2 e he)
   ·cases bad with
    | false => simp at hm
    | true =>
     simp only [if_true,List.mem_singleton] at hm
     rw [hm]
     decide
  rw [textG_succ]
  simp only [List.length_append,List.length_replicate,List.length_cons,List.length_nil]
  omega
end Go.Proofs.YtknhlpmmalcchaaDoor
