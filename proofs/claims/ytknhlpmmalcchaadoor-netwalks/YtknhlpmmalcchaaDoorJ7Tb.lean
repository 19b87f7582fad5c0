/- Steps of the walk. -/
import Derived.Test.YtknhlpmmalcchaaDoorJ7Ta
import Derived.Test.YtknhlpmmalcchaaDoorJ7Vba
import Derived.Test.YtknhlpmmalcchaaDoorRows
import Derived.ProofKit
import Derived.Test.YtknhlpmmalcchaaDoorJ7Vca
import Derived.Test.YtknhlpmmalcchaaDoorTie
import Derived.HandedShaped
import Derived.LaidMore
import Derived.Lay
import Derived.Lib.LaidTab
import Derived.Stop.Joined
set_option linter.all false
set_option linter.unusedVariables false
set_option linter.unusedSimpArgs false
namespace Go.Proofs.YtknhlpmmalcchaaDoor
open Go Go.VAI
set_option linter.unusedSimpArgs false

def knownText : List UInt8 := [110,101,116,32,50,10,101,100,103,101,32,48,32,49,32,119,32,53,10]
theorem pk0 : parseOf stepP [] = (none0,1,2) := by rw [parse_eq]; rfl
theorem pk1 : parseOf stepP knownText = (⟨2,[⟨0,1,0,5⟩]⟩,0,0) := by rw [parse_eq]; kernel_rfl
theorem c1n : ((1 : Nat) : Int) = 1 := rfl
theorem c0n : ((0 : Nat) : Int) = 0 := rfl
set_option maxRecDepth 20000 in
set_option maxHeartbeats 1000000 in
theorem known_ret {H : AHeap} {Q : AVal → AHeap → Prop} (hq : ∀ H',Keep Nothing H H' → Q (.bool true) H') : Ret A 13 [] H Q := by
 refine Ret.of (fn := F13) rfl ?_
 simp (disch := first | omega | (simp only [next_new,next_upd] <;> omega) | fail) only [vai,vaim,vaic,vas,bots,Bool.not_true,Bool.not_false,decide_true,decide_false,wrap64,F13,Nat.reduceAdd,Nat.reduceMul,Nat.reduceLeDiff,Nat.reduceEqDiff,↓reduceIte]
 refine parse_ret (s := []) fun ev H1 k1 g1 => ?_
 rw [pk0] at g1
 rw [pk0]
 have n1 := k1.next
 have c1 := g1.cells
 simp (disch := first | omega | (simp only [next_new,next_upd] <;> omega) | fail) only [vai,vaim,vaic,vas,bots,Bool.not_true,Bool.not_false,decide_true,decide_false,wrap64,c1,Nat.reduceAdd,Nat.reduceMul,Nat.reduceLeDiff,Nat.reduceEqDiff,↓reduceIte]
 refine parse_ret (s := knownText) fun ev2 H2 k2 g2 => ?_
 rw [pk1] at g2
 rw [pk1]
 have n2 := k2.next
 simp only [next_upd,next_new] at n2
 have c2 := g2.cells
 have hl := g2.row.len (n := 1) (by omega) (by rw [edgeCells_length]; rfl)
 have hbe := g2.row.beq
 obtain ⟨id,off,e1,hid,_,_,_,e5,_⟩ := edge_at (i := 0) (e := ⟨0,1,0,5⟩) g2.row rfl
 have e1' : aindexAddrS 4 ev2 (.int .i64 0) = some (.ptr id off) := e1
 have kA : Keep Nothing H H2 := ((k1.new _).upd (.inl (by omega)) _).trans k2
 simp (disch := first | omega | (simp only [next_new,next_upd] <;> omega) | fail) only [vai,vaim,vaic,vas,bots,Bool.not_true,Bool.not_false,decide_true,decide_false,wrap64,c2,c1n,c0n,hl,e1',e5,Nat.reduceAdd,Nat.reduceMul,Nat.reduceLeDiff,Nat.reduceEqDiff,↓reduceIte]
 have kB : Keep Nothing H2 ((H2.new (.cells [.int .i64 0,.nilSlice] true)).upd H2.next (some (.cells [.int .i64 2,ev2] true))) := ((Keep.refl _ _).new _).upd (.inl (Nat.le_refl _)) _
 refine netcheck_ret (es := [⟨0,1,0,5⟩]) (g2.row.kept kB) fun b H3 k3 s3 => ?_
 have hb : b = true := s3.2 ⟨by omega,by omega,by simp,fun e he => by
  simp only [List.mem_singleton] at he
  subst he
  refine ⟨⟨?_,?_⟩,⟨?_,?_⟩,⟨?_,?_⟩,?_,?_⟩ <;> decide⟩
 subst hb
 simp (disch := first | omega | (simp only [next_new,next_upd] <;> omega) | fail) only [vai,vaim,vaic,vas,bots,Bool.not_true,Bool.not_false,decide_true,decide_false,wrap64,Nat.reduceAdd,Nat.reduceMul,Nat.reduceLeDiff,Nat.reduceEqDiff,↓reduceIte]
 exact hq _ ((kA.trans kB).trans k3)
end Go.Proofs.YtknhlpmmalcchaaDoor

namespace Go.Proofs.YtknhlpmmalcchaaDoor
open Go Go.VAI
set_option linter.unusedSimpArgs false

def mkNet (size modes : Int) (xs : List Int) : NetS := ⟨1 + size % 12,(xs.take 40).map (mkEdge (1 + size % 12) modes)⟩
theorem mkEdge_right {n modes k : Int} (h1 : 1 ≤ n) : rightB n (mkEdge n modes k) = true := by
 unfold rightB mkEdge
 rw [decide_eq_true_iff]
 simp only
 have a1 := Int.emod_nonneg k (show n ≠ 0 by omega)
 have a2 := Int.emod_lt_of_pos k (show 0 < n by omega)
 have b1 := Int.emod_nonneg (k.tdiv 13) (show n ≠ 0 by omega)
 have b2 := Int.emod_lt_of_pos (k.tdiv 13) (show 0 < n by omega)
 refine ⟨a1,a2,b1,b2,?_⟩
 refine ⟨?_,?_,?_,?_⟩
 ·split
  ·omega
  ·split <;> omega
 ·split
  ·omega
  ·split <;> omega
 ·split <;> omega
 ·split <;> omega
theorem mk_fits (size modes : Int) (xs : List Int) : Fits (mkNet size modes xs) := by
 refine ⟨?_,?_,?_,fun e he => ?_⟩
 ·show 1 ≤ 1 + size % 12
  omega
 ·show 1 + size % 12 ≤ 60
  omega
 ·show ((xs.take 40).map _).length ≤ 400
  rw [List.length_map,List.length_take]; omega
 ·obtain ⟨k,_,rfl⟩ := List.mem_map.1 he
  exact mkEdge_right (by show 1 ≤ 1 + size % 12; omega)
end Go.Proofs.YtknhlpmmalcchaaDoor

namespace Go.Proofs.YtknhlpmmalcchaaDoor
open Go Go.VAI
set_option linter.unusedSimpArgs false

def walkGo (es : List Edge) : Int → Int → List Int → List Int → Option (Int × Int × List Int)
 | a,c,w,[] => some (a,c,w)
 | a,c,w,i :: p => if i < 0 then none else match es[i.toNat]? with
  | none => none
  | some e => if e.src = a then walkGo es e.dst (c + e.cost) (w ++ [e.mode]) p else none
theorem walkGo_nil {es : List Edge} {a c : Int} {w : List Int} : walkGo es a c w [] = some (a,c,w) := rfl
theorem walkGo_cons {es : List Edge} {a c i : Int} {w p : List Int} : walkGo es a c w (i :: p) = if i < 0 then none else match es[i.toNat]? with
  | none => none
  | some e => if e.src = a then walkGo es e.dst (c + e.cost) (w ++ [e.mode]) p else none := rfl
def walkOf (n : Int) (es : List Edge) (f t : Int) (p : List Int) : Option (Int × List Int) :=
 if (0 ≤ f ∧ f < n) ∧ (0 ≤ t ∧ t < n) then match walkGo es f 0 [] p with
  | none => none
  | some (a,c,w) => if a = t then some (c,w) else none
 else none
def wCost : Option (Int × List Int) → Int
 | none => 0
 | some x => x.1
def wWord : Option (Int × List Int) → List Int
 | none => []
 | some x => x.2
theorem walk_off {n : Int} {es : List Edge} {f t : Int} {p : List Int} (h : ¬ ((0 ≤ f ∧ f < n) ∧ (0 ≤ t ∧ t < n))) : walkOf n es f t p = none := if_neg h
theorem walk_none {n : Int} {es : List Edge} {f t : Int} {p : List Int} (h : walkGo es f 0 [] p = none) : walkOf n es f t p = none := by
 unfold walkOf
 rw [h]
 split <;> rfl
theorem walk_other {n : Int} {es : List Edge} {f t : Int} {p : List Int} {a c : Int} {w : List Int} (h : walkGo es f 0 [] p = some (a,c,w)) (ha : ¬ a = t) : walkOf n es f t p = none := by
 unfold walkOf
 rw [h]
 simp only [if_neg ha]
 split <;> rfl
theorem walk_some {n : Int} {es : List Edge} {f t : Int} {p : List Int} {a c : Int} {w : List Int} (h1 : (0 ≤ f ∧ f < n) ∧ (0 ≤ t ∧ t < n)) (h : walkGo es f 0 [] p = some (a,c,w)) (ha : a = t) : walkOf n es f t p = some (c,w) := by
 unfold walkOf
 rw [h,if_pos h1]
 simp only [if_pos ha]
theorem ints_app (a b : List Int) : ints (a ++ b) = ints a ++ ints b := by simp [ints]

set_option maxRecDepth 20000 in
set_option maxHeartbeats 1000000 in
theorem ints_ret {av bv : AVal} {a b : List Int} {H : AHeap} {Q : AVal → AHeap → Prop} (ha : Row H av 1 (ints a)) (hb : Row H bv 1 (ints b)) (hal : a.length ≤ 1000000)
  (hq : ∀ r,Says r (a = b) → Q (.bool r) H) : Ret A 26 [av,bv] H Q := by
 refine Ret.of (fn := F26) rfl ?_
 have hl1 := ha.len1
 have hl2 := hb.len1
 simp only [ints,List.length_map] at hl1 hl2
 have hb1 := ha.beq
 have hb2 := hb.beq
 by_cases c : (a.length : Int) = b.length
 ·have hd : decide ((a.length : Int) ≠ b.length) = false := decide_eq_false (fun h => h c)
  simp (disch := first | omega | (simp only [next_new,next_upd] <;> omega) | fail) only [vai,vaim,vaic,vas,bots,Bool.not_true,Bool.not_false,decide_true,decide_false,wrap64,F26,hl1,hl2,hd,Nat.reduceAdd,Nat.reduceMul,Nat.reduceLeDiff,Nat.reduceEqDiff,↓reduceIte]
  refine wpx_loop (fun mm t H' => ∃ (i : Nat),mm = a.length - i ∧ i ≤ a.length ∧ t = (av :: bv :: bots 3 (.int .i64 i :: bots 20 ([])) : Tmps) ∧ H' = H ∧ a.take i = b.take i) a.length ?_ ?_
  ·exact ⟨0,rfl,by omega,rfl,rfl,rfl⟩
  ·rintro mm t H1 ⟨i,rfl,hi,rfl,rfl,heq⟩
   by_cases hc : (i : Int) < a.length
   ·have hi1 : i < a.length := by omega
    have hi2 : i < b.length := by omega
    have ht1 := List.take_succ_eq_append_getElem hi1
    have ht2 := List.take_succ_eq_append_getElem hi2
    obtain ⟨id,off,e1,_,e2⟩ := ha.at1 (j := i) (x := .int .i64 a[i]) (k := .i64) (by omega) (by simp [ints,hi1])
    obtain ⟨id',off',f1,_,f2⟩ := hb.at1 (j := i) (x := .int .i64 b[i]) (k := .i64) (by omega) (by simp [ints,hi2])
    generalize hx : a[i] = x at *
    generalize hy : b[i] = y at *
    by_cases hxy : x = y
    ·have hd : decide (x ≠ y) = false := decide_eq_false (fun h => h hxy)
     simp (disch := first | omega | (simp only [next_new,next_upd] <;> omega) | fail) only [vai,vaim,vaic,vas,bots,Bool.not_true,Bool.not_false,decide_true,decide_false,wrap64,hc,decide_true,hl1,e1,e2,f1,f2,hd,Nat.reduceAdd,Nat.reduceMul,Nat.reduceLeDiff,Nat.reduceEqDiff,↓reduceIte]
     exact ⟨a.length - (i + 1),by omega,i + 1,rfl,by omega,rfl,by rw [ht1,ht2,heq,hxy]⟩
    ·have hd : decide (x ≠ y) = true := decide_eq_true hxy
     simp (disch := first | omega | (simp only [next_new,next_upd] <;> omega) | fail) only [vai,vaim,vaic,vas,bots,Bool.not_true,Bool.not_false,decide_true,decide_false,wrap64,hc,decide_true,hl1,e1,e2,f1,f2,hd,Nat.reduceAdd,Nat.reduceMul,Nat.reduceLeDiff,Nat.reduceEqDiff,↓reduceIte]
     refine hq _ (says_no fun h => hxy ?_)
     rw [← hx,← hy]
     simp only [h]
   ·have hie : i = a.length := by omega
    simp (disch := first | omega | (simp only [next_new,next_upd] <;> omega) | fail) only [vai,vaim,vaic,vas,bots,Bool.not_true,Bool.not_false,decide_true,decide_false,wrap64,hc,decide_false,hl1,Nat.reduceAdd,Nat.reduceMul,Nat.reduceLeDiff,Nat.reduceEqDiff,↓reduceIte]
    refine hq _ (says_yes ?_)
    rw [hie,List.take_length] at heq
    rw [heq,List.take_of_length_le (by omega)]
 ·have hd : decide ((a.length : Int) ≠ b.length) = true := decide_eq_true c
  simp (disch := first | omega | (simp only [next_new,next_upd] <;> omega) | fail) only [vai,vaim,vaic,vas,bots,Bool.not_true,Bool.not_false,decide_true,decide_false,wrap64,F26,hl1,hl2,hd,Nat.reduceAdd,Nat.reduceMul,Nat.reduceLeDiff,Nat.reduceEqDiff,↓reduceIte]
  exact hq _ (says_no fun h => c (by rw [h]))
end Go.Proofs.YtknhlpmmalcchaaDoor

namespace Go.Proofs.YtknhlpmmalcchaaDoor
open Go Go.VAI
set_option linter.unusedSimpArgs false

set_option maxRecDepth 20000 in
set_option maxHeartbeats 2000000 in
theorem walk_ret {n f t : Int} {ev pv : AVal} {es : List Edge} {p : List Int} {H : AHeap} {Q : AVal → AHeap → Prop} (hr : Row H ev 4 (edgeCells es)) (hp : Row H pv 1 (ints p)) (hes : es.length ≤ 1000000) (hpl : p.length ≤ 1000000) (hco : ∀ e ∈ es,0 ≤ e.cost ∧ e.cost ≤ 2147483647)
  (hq : ∀ wv H',Keep Nothing H H' → Row H' wv 1 (ints (wWord (walkOf n es f t p))) → Q (.tuple [.int .i64 (wCost (walkOf n es f t p)),wv,.bool (walkOf n es f t p).isSome]) H') : Ret A 24 [.agg [.int .i64 n,ev],.int .i64 f,.int .i64 t,pv] H Q := by
 refine Ret.of (fn := F24) rfl ?_
 have hl := hr.len (by omega) (edgeCells_length es)
 have hlp := hp.len1
 simp only [ints,List.length_map] at hlp
 have hce := hr.cells
 have q1 := @walk_off n es f t p
 have q2 := @walk_none n es f t p
 have q3 := @walk_other n es f t p
 have q4 := @walk_some n es f t p
 generalize walkOf n es f t p = R at *
 have k0 : Keep Nothing H (H.new (.cells [.int .i64 n,ev] true)) := (Keep.refl _ _).new _
 simp (disch := first | omega | (simp only [next_new,next_upd] <;> omega) | fail) only [vai,vaim,vaic,vas,bots,Bool.not_true,Bool.not_false,decide_true,decide_false,wrap64,F24,hce,Nat.reduceAdd,Nat.reduceMul,Nat.reduceLeDiff,Nat.reduceEqDiff,↓reduceIte]
 refine vertex_ret fun b1 H1 k1 s1 => ?_
 have n1 := k1.next
 simp only [next_new] at n1
 have kA := k0.trans k1
 have o1 : H1.obj H.next = some (.cells [.int .i64 n,ev] true) := (k1.old (by first | omega | (simp only [next_new,next_upd]; omega))).trans (obj_new_eq rfl)
 cases b1 with
 | false =>
  have hR : R = none := q1 (fun h => by have := s1.2 h.1; cases this)
  subst hR
  simp (disch := first | omega | (simp only [next_new,next_upd] <;> omega) | fail) only [vai,vaim,vaic,vas,bots,Bool.not_true,Bool.not_false,decide_true,decide_false,wrap64,Nat.reduceAdd,Nat.reduceMul,Nat.reduceLeDiff,Nat.reduceEqDiff,↓reduceIte]
  exact hq _ _ kA .nil
 | true =>
 have p1 := s1.1 rfl
 simp (disch := first | omega | (simp only [next_new,next_upd] <;> omega) | fail) only [vai,vaim,vaic,vas,bots,Bool.not_true,Bool.not_false,decide_true,decide_false,wrap64,Nat.reduceAdd,Nat.reduceMul,Nat.reduceLeDiff,Nat.reduceEqDiff,↓reduceIte]
 refine vertex_ret fun b2 H2 k2 s2 => ?_
 have n2 := k2.next
 have kB := kA.trans k2
 have o2 := (k2.old (i := H.next) (by omega)).trans o1
 cases b2 with
 | false =>
  have hR : R = none := q1 (fun h => by have := s2.2 h.2; cases this)
  subst hR
  simp (disch := first | omega | (simp only [next_new,next_upd] <;> omega) | fail) only [vai,vaim,vaic,vas,bots,Bool.not_true,Bool.not_false,decide_true,decide_false,wrap64,Nat.reduceAdd,Nat.reduceMul,Nat.reduceLeDiff,Nat.reduceEqDiff,↓reduceIte]
  exact hq _ _ kB .nil
 | true =>
 have p2 := s2.1 rfl
 simp (disch := first | omega | (simp only [next_new,next_upd] <;> omega) | fail) only [vai,vaim,vaic,vas,bots,Bool.not_true,Bool.not_false,decide_true,decide_false,wrap64,hlp,Nat.reduceAdd,Nat.reduceMul,Nat.reduceLeDiff,Nat.reduceEqDiff,↓reduceIte]
 refine wpx_loop (fun mm tt H' => ∃ (i : Nat) (a c : Int) (w : List Int) (wv : AVal),mm = p.length - i ∧ i ≤ p.length ∧ tt = (bots 2 (.int .i64 t :: bots 1 (.ptr H.next 0 :: bots 3 (.int .i64 c :: wv :: bots 2 (.int .i64 a :: bots 18 (pv :: .int .i64 p.length :: .int .i64 i :: bots 45 ([])))))) : Tmps) ∧ Keep Nothing H H' ∧ H.next < H'.next ∧ H'.obj H.next = some (.cells [.int .i64 n,ev] true) ∧
  Grown (H.next + 1) H' wv 1 (ints w) ∧ w.length = i ∧ 0 ≤ c ∧ c ≤ i * 2147483647 ∧ walkGo es f 0 [] p = walkGo es a c w (p.drop i)) p.length ?_ ?_
 ·exact ⟨0,f,0,[],.nilSlice,rfl,by omega,rfl,kB,by omega,o2,.nil,rfl,by omega,by omega,rfl⟩
 ·rintro mm tt H3 ⟨i,a,c,w,wv,rfl,hi,rfl,k3,n3,o3,hg,hwl,hc0,hc1,hgo⟩
  by_cases hc : (i : Int) < p.length
  ·have hi1 : i < p.length := by omega
   have hd : p.drop i = p[i] :: p.drop (i + 1) := List.drop_eq_getElem_cons hi1
   obtain ⟨id,off,e1,_,e2⟩ := (hp.kept k3).at1 (j := i) (x := .int .i64 p[i]) (k := .i64) (by omega) (by simp [ints,hi1])
   rw [hd,walkGo_cons] at hgo
   generalize p[i] = x at *
   by_cases hx0 : x < 0
   ·rw [if_pos hx0] at hgo
    have hR : R = none := q2 hgo
    subst hR
    simp (disch := first | omega | (simp only [next_new,next_upd] <;> omega) | fail) only [vai,vaim,vaic,vas,bots,Bool.not_true,Bool.not_false,decide_true,decide_false,wrap64,hc,decide_true,e1,e2,hx0,Nat.reduceAdd,Nat.reduceMul,Nat.reduceLeDiff,Nat.reduceEqDiff,↓reduceIte]
    exact hq _ _ k3 .nil
   rw [if_neg hx0] at hgo
   obtain ⟨y,rfl⟩ : ∃ y : Nat,x = y := ⟨x.toNat,by omega⟩
   rw [Int.toNat_natCast] at hgo
   by_cases hx1 : (es.length : Int) ≤ y
   ·rw [List.getElem?_eq_none (by omega)] at hgo
    have hR : R = none := q2 hgo
    subst hR
    simp (disch := first | omega | (simp only [next_new,next_upd] <;> omega) | fail) only [vai,vaim,vaic,vas,bots,Bool.not_true,Bool.not_false,decide_true,decide_false,wrap64,hc,decide_true,e1,e2,hx0,o3,hl,hx1,Nat.reduceAdd,Nat.reduceMul,Nat.reduceLeDiff,Nat.reduceEqDiff,↓reduceIte]
    exact hq _ _ k3 .nil
   have hy : y < es.length := by omega
   have he : es[y]? = some es[y] := List.getElem?_eq_getElem hy
   have hbe := hco es[y] (List.getElem_mem hy)
   obtain ⟨id2,off2,f1,_,f2,f3,f4,f5,f6⟩ := edge_at (hr.kept k3) he
   rw [he] at hgo
   simp only at hgo
   generalize es[y] = e at *
   by_cases hs : e.src = a
   ·rw [if_pos hs] at hgo
    have hds : decide (e.src ≠ a) = false := decide_eq_false (fun h => h hs)
    simp only [Edge.cells] at f6
    simp (disch := first | omega | (simp only [next_new,next_upd] <;> omega) | fail) only [vai,vaim,vaic,vas,bots,Bool.not_true,Bool.not_false,decide_true,decide_false,wrap64,hc,decide_true,decide_false,e1,e2,hx0,o3,hl,hx1,f1,f2,hds,f6,Nat.reduceAdd,Nat.reduceMul,Nat.reduceLeDiff,Nat.reduceEqDiff,↓reduceIte]
    refine append_ret' (n := i) hg (by simp only [next_new,next_upd]; omega) (fun j h1 h2 => by simp (disch := first | omega | (simp only [next_new,next_upd] <;> omega) | fail) only [vaim]) (by simp (disch := first | omega | (simp only [next_new,next_upd] <;> omega) | fail) only [vaim]; rfl) rfl (by omega) (by omega) (by simp [ints,hwl]) (by omega) (by omega) (by simp only [next_new,next_upd]; omega) ?_
    intro v' H' hn' hk0 hg' _
    have hk' : ∀ j,j < H3.next + 1 → sid wv ≠ some j → H'.obj j = _ := fun j hj hs => hk0 j (by simp only [next_new,next_upd]; omega) hs
    have hsw : ∀ j,sid wv = some j → H.next + 1 ≤ j ∧ j < H3.next := fun j hj => hg.sid_ge hj
    simp only [next_new,next_upd] at hn'
    have hcell := hg'.cells
    have o4 : H'.obj H.next = some (.cells [.int .i64 n,ev] true) := by rw [hk' _ (by omega) (fun h => by have := hsw _ h; omega)]; simp (disch := first | omega | (simp only [next_new,next_upd] <;> omega) | fail) only [vaim,o3]
    have kk : Keep Nothing H H' := ⟨by have := k3.next; omega,fun j hj hm => by
     have h1 := k3.next
     rw [hk' _ (by omega) (fun h => by have := hsw _ h; omega),← k3.obj j hj hm]
     simp (disch := first | omega | (simp only [next_new,next_upd] <;> omega) | fail) only [vaim]⟩
    have o5 : H'.obj H3.next = some (.cells e.cells true) := by rw [hk' _ (by omega) (fun h => by have := hsw _ h; omega)]; simp (disch := first | omega | (simp only [next_new,next_upd] <;> omega) | fail) only [vaim]; rfl
    simp only [Edge.cells] at o5
    simp (disch := first | omega | (simp only [next_new,next_upd] <;> omega) | fail) only [vai,vaim,vaic,vas,bots,Bool.not_true,Bool.not_false,decide_true,decide_false,wrap64,hcell,o5,Nat.reduceAdd,Nat.reduceMul,Nat.reduceLeDiff,Nat.reduceEqDiff,↓reduceIte]
    refine ⟨p.length - (i + 1),by omega,i + 1,e.dst,c + e.cost,w ++ [e.mode],v',rfl,by omega,rfl,kk,by omega,o4,?_,by simp [hwl],by omega,by omega,hgo⟩
    rw [ints_app]
    exact hg'
   ·rw [if_neg hs] at hgo
    have hR : R = none := q2 hgo
    subst hR
    have hds : decide (e.src ≠ a) = true := decide_eq_true hs
    simp (disch := first | omega | (simp only [next_new,next_upd] <;> omega) | fail) only [vai,vaim,vaic,vas,bots,Bool.not_true,Bool.not_false,decide_true,decide_false,wrap64,hc,decide_true,decide_false,e1,e2,hx0,o3,hl,hx1,f1,f2,hds,Nat.reduceAdd,Nat.reduceMul,Nat.reduceLeDiff,Nat.reduceEqDiff,↓reduceIte]
    exact hq _ _ k3 .nil
  ·have hie : i = p.length := by omega
   rw [hie,List.drop_length,walkGo_nil] at hgo
   by_cases ht : a = t
   ·have hR := q4 ⟨p1,p2⟩ hgo ht
    subst hR
    have hdt : decide (a ≠ t) = false := decide_eq_false (fun h => h ht)
    simp (disch := first | omega | (simp only [next_new,next_upd] <;> omega) | fail) only [vai,vaim,vaic,vas,bots,Bool.not_true,Bool.not_false,decide_true,decide_false,wrap64,hc,decide_false,hdt,Nat.reduceAdd,Nat.reduceMul,Nat.reduceLeDiff,Nat.reduceEqDiff,↓reduceIte]
    refine appRow_ret (lo := H.next + 1) (n := 0) (k := w.length) .nil hg.row (by simp [ints]) (by omega) rfl (by omega) (by omega) ?_ (by omega) (Nat.le_refl _) (fun _ _ _ => rfl)
    intro v' H' hn' hk' ho' _
    have hcell := ho'.notBot
    simp (disch := first | omega | (simp only [next_new,next_upd] <;> omega) | fail) only [vai,vaim,vaic,vas,bots,Bool.not_true,Bool.not_false,decide_true,decide_false,wrap64,hcell,Nat.reduceAdd,Nat.reduceMul,Nat.reduceLeDiff,Nat.reduceEqDiff,↓reduceIte]
    exact hq _ _ ⟨by have := k3.next; omega,fun j hj hm => by rw [hk' j (by omega) (by simp [sid]),← k3.obj j hj hm]⟩ ho'.row
   ·have hR := q3 hgo ht
    subst hR
    have hdt : decide (a ≠ t) = true := decide_eq_true ht
    simp (disch := first | omega | (simp only [next_new,next_upd] <;> omega) | fail) only [vai,vaim,vaic,vas,bots,Bool.not_true,Bool.not_false,decide_true,decide_false,wrap64,hc,decide_false,hdt,Nat.reduceAdd,Nat.reduceMul,Nat.reduceLeDiff,Nat.reduceEqDiff,↓reduceIte]
    exact hq _ _ k3 .nil
end Go.Proofs.YtknhlpmmalcchaaDoor

namespace Go.Proofs.YtknhlpmmalcchaaDoor
open Go Go.VAI
set_option linter.unusedSimpArgs false

set_option maxRecDepth 20000 in
set_option maxHeartbeats 2000000 in
theorem refwalk_ret {n f t : Int} {ev pv : AVal} {es : List Edge} {p : List Int} {H : AHeap} {Q : AVal → AHeap → Prop} (hr : Row H ev 4 (edgeCells es)) (hp : Row H pv 1 (ints p)) (hes : es.length ≤ 1000000) (hpl : p.length ≤ 1000000) (hco : ∀ e ∈ es,0 ≤ e.cost ∧ e.cost ≤ 2147483647)
  (hq : ∀ wv H',Keep Nothing H H' → Row H' wv 1 (ints (wWord (walkOf n es f t p))) → Q (.tuple [.int .i64 (wCost (walkOf n es f t p)),wv,.bool (walkOf n es f t p).isSome]) H') : Ret A 25 [.agg [.int .i64 n,ev],.int .i64 f,.int .i64 t,pv] H Q := by
 refine Ret.of (fn := F25) rfl ?_
 have hl := hr.len (by omega) (edgeCells_length es)
 have hlp := hp.len1
 simp only [ints,List.length_map] at hlp
 have hbe := hr.beq
 have hbp := hp.beq
 have q1 := @walk_off n es f t p
 have q2 := @walk_none n es f t p
 have q3 := @walk_other n es f t p
 have q4 := @walk_some n es f t p
 generalize walkOf n es f t p = R at *
 have k0 : Keep Nothing H (H.new (.cells [.int .i64 n,ev] true)) := (Keep.refl _ _).new _
 by_cases a1 : f < 0
 ·have hR : R = none := q1 (by omega)
  subst hR
  simp (disch := first | omega | (simp only [next_new,next_upd] <;> omega) | fail) only [vai,vaim,vaic,vas,bots,Bool.not_true,Bool.not_false,decide_true,decide_false,wrap64,F25,a1,Nat.reduceAdd,Nat.reduceMul,Nat.reduceLeDiff,Nat.reduceEqDiff,↓reduceIte]
  exact hq _ _ k0 .nil
 by_cases a2 : n ≤ f
 ·have hR : R = none := q1 (by omega)
  subst hR
  simp (disch := first | omega | (simp only [next_new,next_upd] <;> omega) | fail) only [vai,vaim,vaic,vas,bots,Bool.not_true,Bool.not_false,decide_true,decide_false,wrap64,F25,a1,a2,Nat.reduceAdd,Nat.reduceMul,Nat.reduceLeDiff,Nat.reduceEqDiff,↓reduceIte]
  exact hq _ _ k0 .nil
 by_cases a3 : t < 0
 ·have hR : R = none := q1 (by omega)
  subst hR
  simp (disch := first | omega | (simp only [next_new,next_upd] <;> omega) | fail) only [vai,vaim,vaic,vas,bots,Bool.not_true,Bool.not_false,decide_true,decide_false,wrap64,F25,a1,a2,a3,Nat.reduceAdd,Nat.reduceMul,Nat.reduceLeDiff,Nat.reduceEqDiff,↓reduceIte]
  exact hq _ _ k0 .nil
 by_cases a4 : n ≤ t
 ·have hR : R = none := q1 (by omega)
  subst hR
  simp (disch := first | omega | (simp only [next_new,next_upd] <;> omega) | fail) only [vai,vaim,vaic,vas,bots,Bool.not_true,Bool.not_false,decide_true,decide_false,wrap64,F25,a1,a2,a3,a4,Nat.reduceAdd,Nat.reduceMul,Nat.reduceLeDiff,Nat.reduceEqDiff,↓reduceIte]
  exact hq _ _ k0 .nil
 simp (disch := first | omega | (simp only [next_new,next_upd] <;> omega) | fail) only [vai,vaim,vaic,vas,bots,Bool.not_true,Bool.not_false,decide_true,decide_false,wrap64,F25,a1,a2,a3,a4,Nat.reduceAdd,Nat.reduceMul,Nat.reduceLeDiff,Nat.reduceEqDiff,↓reduceIte]
 refine wpx_loop (fun mm tt H' => ∃ (i : Nat) (a c : Int) (w : List Int) (wv : AVal),mm = p.length - i ∧ i ≤ p.length ∧ tt = (bots 1 (.int .i64 a :: .int .i64 t :: pv :: .ptr H.next 0 :: bots 6 (.int .i64 c :: wv :: .int .i64 i :: bots 77 ([]))) : Tmps) ∧ Keep Nothing H H' ∧ H.next < H'.next ∧ H'.obj H.next = some (.cells [.int .i64 n,ev] true) ∧
  Grown (H.next + 1) H' wv 1 (ints w) ∧ w.length = i ∧ 0 ≤ c ∧ c ≤ i * 2147483647 ∧ walkGo es f 0 [] p = walkGo es a c w (p.drop i)) p.length ?_ ?_
 ·exact ⟨0,f,0,[],.nilSlice,rfl,by omega,rfl,k0,(by first | omega | (simp only [next_new,next_upd]; omega)),obj_new_eq rfl,.nil,rfl,by omega,by omega,rfl⟩
 ·rintro mm tt H3 ⟨i,a,c,w,wv,rfl,hi,rfl,k3,n3,o3,hg,hwl,hc0,hc1,hgo⟩
  have hbw := hg.row.beq
  by_cases hc : (i : Int) < p.length
  ·have hi1 : i < p.length := by omega
   have hd : p.drop i = p[i] :: p.drop (i + 1) := List.drop_eq_getElem_cons hi1
   obtain ⟨id,off,e1,_,e2⟩ := (hp.kept k3).at1 (j := i) (x := .int .i64 p[i]) (k := .i64) (by omega) (by simp [ints,hi1])
   rw [hd,walkGo_cons] at hgo
   generalize p[i] = x at *
   by_cases hx0 : x < 0
   ·rw [if_pos hx0] at hgo
    have hR : R = none := q2 hgo
    subst hR
    simp (disch := first | omega | (simp only [next_new,next_upd] <;> omega) | fail) only [vai,vaim,vaic,vas,bots,Bool.not_true,Bool.not_false,decide_true,decide_false,wrap64,hc,hlp,e1,e2,hx0,Nat.reduceAdd,Nat.reduceMul,Nat.reduceLeDiff,Nat.reduceEqDiff,↓reduceIte]
    exact hq _ _ k3 .nil
   rw [if_neg hx0] at hgo
   obtain ⟨y,rfl⟩ : ∃ y : Nat,x = y := ⟨x.toNat,by omega⟩
   rw [Int.toNat_natCast] at hgo
   by_cases hx1 : (es.length : Int) ≤ y
   ·rw [List.getElem?_eq_none (by omega)] at hgo
    have hR : R = none := q2 hgo
    subst hR
    simp (disch := first | omega | (simp only [next_new,next_upd] <;> omega) | fail) only [vai,vaim,vaic,vas,bots,Bool.not_true,Bool.not_false,decide_true,decide_false,wrap64,hc,hlp,e1,e2,hx0,o3,hl,hx1,reK_same hbe,Nat.reduceAdd,Nat.reduceMul,Nat.reduceLeDiff,Nat.reduceEqDiff,↓reduceIte]
    exact hq _ _ k3 .nil
   have hy : y < es.length := by omega
   have he : es[y]? = some es[y] := List.getElem?_eq_getElem hy
   have hbe' := hco es[y] (List.getElem_mem hy)
   obtain ⟨id2,off2,f1,_,f2,f3,f4,f5,f6⟩ := edge_at (hr.kept k3) he
   rw [he] at hgo
   simp only at hgo
   generalize es[y] = e at *
   by_cases hs : e.src = a
   ·rw [if_pos hs] at hgo
    have hds : decide (e.src ≠ a) = false := decide_eq_false (fun h => h hs)
    simp only [Edge.cells] at f6
    simp (disch := first | omega | (simp only [next_new,next_upd] <;> omega) | fail) only [vai,vaim,vaic,vas,bots,Bool.not_true,Bool.not_false,decide_true,decide_false,wrap64,hc,hlp,e1,e2,hx0,o3,hl,hx1,f1,f2,hds,f6,reK_same hbe,Nat.reduceAdd,Nat.reduceMul,Nat.reduceLeDiff,Nat.reduceEqDiff,↓reduceIte]
    refine append_ret' (n := i) hg (by simp only [next_new,next_upd]; omega) (fun j h1 h2 => by simp (disch := first | omega | (simp only [next_new,next_upd] <;> omega) | fail) only [vaim]) (by simp (disch := first | omega | (simp only [next_new,next_upd] <;> omega) | fail) only [vaim]; rfl) rfl (by omega) (by omega) (by simp [ints,hwl]) (by omega) (by omega) (by simp only [next_new,next_upd]; omega) ?_
    intro v' H' hn' hk0 hg' _
    have hk' : ∀ j,j < H3.next + 1 → sid wv ≠ some j → H'.obj j = _ := fun j hj hs => hk0 j (by simp only [next_new,next_upd]; omega) hs
    have hsw : ∀ j,sid wv = some j → H.next + 1 ≤ j ∧ j < H3.next := fun j hj => hg.sid_ge hj
    simp only [next_new,next_upd] at hn'
    have hcell := hg'.notBot
    have o4 : H'.obj H.next = some (.cells [.int .i64 n,ev] true) := by rw [hk' _ (by omega) (fun h => by have := hsw _ h; omega)]; simp (disch := first | omega | (simp only [next_new,next_upd] <;> omega) | fail) only [vaim,o3]
    have kk : Keep Nothing H H' := ⟨by have := k3.next; omega,fun j hj hm => by
     have h1 := k3.next
     rw [hk' _ (by omega) (fun h => by have := hsw _ h; omega),← k3.obj j hj hm]
     simp (disch := first | omega | (simp only [next_new,next_upd] <;> omega) | fail) only [vaim]⟩
    simp (disch := first | omega | (simp only [next_new,next_upd] <;> omega) | fail) only [vai,vaim,vaic,vas,bots,Bool.not_true,Bool.not_false,decide_true,decide_false,wrap64,hcell,Nat.reduceAdd,Nat.reduceMul,Nat.reduceLeDiff,Nat.reduceEqDiff,↓reduceIte]
    refine ⟨p.length - (i + 1),by omega,i + 1,e.dst,c + e.cost,w ++ [e.mode],v',rfl,by omega,rfl,kk,by omega,o4,?_,by simp [hwl],by omega,by omega,hgo⟩
    rw [ints_app]
    exact hg'
   ·rw [if_neg hs] at hgo
    have hR : R = none := q2 hgo
    subst hR
    have hds : decide (e.src ≠ a) = true := decide_eq_true hs
    simp (disch := first | omega | (simp only [next_new,next_upd] <;> omega) | fail) only [vai,vaim,vaic,vas,bots,Bool.not_true,Bool.not_false,decide_true,decide_false,wrap64,hc,hlp,e1,e2,hx0,o3,hl,hx1,f1,f2,hds,reK_same hbe,Nat.reduceAdd,Nat.reduceMul,Nat.reduceLeDiff,Nat.reduceEqDiff,↓reduceIte]
    exact hq _ _ k3 .nil
  ·have hie : i = p.length := by omega
   rw [hie,List.drop_length,walkGo_nil] at hgo
   have hnb := hg.notBot
   by_cases ht : a = t
   ·have hR := q4 ⟨by omega,by omega⟩ hgo ht
    subst hR
    have hdt : decide (a ≠ t) = false := decide_eq_false (fun h => h ht)
    simp (disch := first | omega | (simp only [next_new,next_upd] <;> omega) | fail) only [vai,vaim,vaic,vas,bots,Bool.not_true,Bool.not_false,decide_true,decide_false,wrap64,hc,hlp,hdt,hnb,Nat.reduceAdd,Nat.reduceMul,Nat.reduceLeDiff,Nat.reduceEqDiff,↓reduceIte]
    exact hq _ _ k3 hg.row
   ·have hR := q3 hgo ht
    subst hR
    have hdt : decide (a ≠ t) = true := decide_eq_true ht
    simp (disch := first | omega | (simp only [next_new,next_upd] <;> omega) | fail) only [vai,vaim,vaic,vas,bots,Bool.not_true,Bool.not_false,decide_true,decide_false,wrap64,hc,hlp,hdt,Nat.reduceAdd,Nat.reduceMul,Nat.reduceLeDiff,Nat.reduceEqDiff,↓reduceIte]
    exact hq _ _ k3 .nil
end Go.Proofs.YtknhlpmmalcchaaDoor

namespace Go.Proofs.YtknhlpmmalcchaaDoor
open Go Go.VAI
set_option linter.unusedSimpArgs false

def e5 (c : Int) (i : Nat) : Edge := ⟨0,0,i,c - i⟩
def q5 (i : Nat) : Int := ((i % 5 : Nat) : Int)
end Go.Proofs.YtknhlpmmalcchaaDoor

namespace Go.Proofs.YtknhlpmmalcchaaDoor
open Go Go.VAI
set_option linter.unusedSimpArgs false

theorem walkGo_append (es : List Edge) : ∀ (p q : List Int) (a c : Int) (w : List Int),walkGo es a c w (p ++ q) = (walkGo es a c w p).bind fun x => walkGo es x.1 x.2.1 x.2.2 q
 | [],q,a,c,w => rfl
 | i :: p,q,a,c,w => by
  rw [List.cons_append,walkGo_cons,walkGo_cons]
  split
  ·rfl
  ·split
   ·rfl
   ·split
    ·exact walkGo_append es p q _ _ _
    ·rfl
theorem walkGo_snoc {es : List Edge} {a z c : Int} {w l : List Int} {y : Nat} {e : Edge} (h : walkGo es a 0 [] l = some (z,c,w)) (he : es[y]? = some e) (hs : e.src = z) : walkGo es a 0 [] (l ++ [(y : Int)]) = some (e.dst,c + e.cost,w ++ [e.mode]) := by
 rw [walkGo_append,h]
 simp only [Option.bind_some]
 rw [walkGo_cons,if_neg (by omega),Int.toNat_natCast,he]
 simp only [if_pos hs]
 rfl
def OutOf (es : List Edge) (a : Int) (o : List Int) : Prop := ∀ x ∈ o,∃ (y : Nat) (e : Edge),x = y ∧ es[y]? = some e ∧ e.src = a
theorem outOf_nil {es : List Edge} {a : Int} : OutOf es a [] := fun x h => by simp at h
theorem outOf_snoc {es : List Edge} {a : Int} {o : List Int} {y : Nat} {e : Edge} (h : OutOf es a o) (he : es[y]? = some e) (hs : e.src = a) : OutOf es a (o ++ [(y : Int)]) := by
 intro x hx
 rcases List.mem_append.1 hx with hx | hx
 ·exact h x hx
 ·simp at hx
  exact ⟨y,e,hx,he,hs⟩
end Go.Proofs.YtknhlpmmalcchaaDoor

namespace Go.Proofs.YtknhlpmmalcchaaDoor
open Go Go.VAI
set_option linter.unusedSimpArgs false

def Walked (n : Int) (es : List Edge) (f : Int) (l : List Int) (a : Int) : Prop := (∃ c w,walkGo es f 0 [] l = some (a,c,w)) ∧ 0 ≤ a ∧ a < n
theorem Walked.nil {n : Int} {es : List Edge} {f : Int} (h : 0 ≤ f ∧ f < n) : Walked n es f [] f := ⟨⟨0,[],rfl⟩,h⟩
theorem Walked.snoc {n : Int} {es : List Edge} {f a : Int} {l : List Int} {y : Nat} {e : Edge} (h : Walked n es f l a) (he : es[y]? = some e) (hs : e.src = a) (hok : EdgeOk n e) : Walked n es f (l ++ [(y : Int)]) e.dst := by
 obtain ⟨⟨c,w,h⟩,_⟩ := h
 exact ⟨⟨_,_,walkGo_snoc h he hs⟩,hok.2.1⟩
theorem Walked.of {n : Int} {es : List Edge} {f a : Int} {l : List Int} (h : Walked n es f l a) (hf : 0 ≤ f ∧ f < n) : ∃ c w,walkGo es f 0 [] l = some (a,c,w) ∧ walkOf n es f a l = some (c,w) := by
 obtain ⟨⟨c,w,h⟩,ha⟩ := h
 exact ⟨c,w,h,walk_some ⟨hf,ha⟩ h rfl⟩

theorem walkGo_bd {es : List Edge} (hco : ∀ e ∈ es,0 ≤ e.cost ∧ e.cost ≤ 2147483647) : ∀ {p : List Int} {a c z c' : Int} {w w' : List Int},walkGo es a c w p = some (z,c',w') → c ≤ c' ∧ c' ≤ c + p.length * 2147483647 ∧ w'.length = w.length + p.length
 | [],a,c,z,c',w,w',h => by
  simp only [walkGo] at h
  injection h with h
  injection h with h1 h
  injection h with h2 h3
  subst h2 h3
  simp
 | i :: p,a,c,z,c',w,w',h => by
  rw [walkGo_cons] at h
  split at h
  ·cases h
  ·split at h
   ·cases h
   ·rename_i e he
    split at h
    ·have h1 := hco e (List.mem_of_getElem? he)
     have h2 := walkGo_bd hco h
     simp only [List.length_append,List.length_cons,List.length_nil] at h2 ⊢
     omega
    ·cases h
end Go.Proofs.YtknhlpmmalcchaaDoor

namespace Go.Proofs.YtknhlpmmalcchaaDoor
open Go Go.VAI
set_option linter.unusedSimpArgs false

def Rows4 (H : AHeap) (vs : List AVal) : Prop := vs.length = 4 ∧ ∀ v ∈ vs,∃ p : List Int,Row H v 1 (ints p) ∧ p.length ≤ 80
theorem Rows4.at {H : AHeap} {vs : List AVal} (h : Rows4 H vs) {i : Nat} (hi : i < 4) : ∃ v p,vs[i]? = some v ∧ Row H v 1 (ints p) ∧ p.length ≤ 80 := by
 have h4 := h.1
 obtain ⟨p,h1,h2⟩ := h.2 vs[i] (List.getElem_mem (by omega))
 exact ⟨vs[i],p,List.getElem?_eq_getElem (by omega),h1,h2⟩
theorem word_len {n : Int} {es : List Edge} {f t : Int} {p : List Int} (hco : ∀ e ∈ es,0 ≤ e.cost ∧ e.cost ≤ 2147483647) : (wWord (walkOf n es f t p)).length ≤ p.length := by
 unfold walkOf
 split
 ·cases h : walkGo es f 0 [] p with
  | none => simp [wWord]
  | some x =>
   obtain ⟨a,c,w⟩ := x
   have hb := walkGo_bd hco h
   simp only
   split
   ·simp only [wWord]
    simp only [List.length_nil] at hb
    omega
   ·simp [wWord]
 ·simp [wWord]
set_option maxRecDepth 20000 in
set_option maxHeartbeats 8000000 in
theorem netWalks_ret {size frm too : Int} {ns pk rv : AVal} {xs ps rs : List Int} {H : AHeap} {Q : AVal → AHeap → Prop} (hsize : I64 size) (hr : Row H ns 1 (ints xs)) (hx : ∀ x ∈ xs,I64 x) (hx2 : xs.length ≤ 9223372036854775807) (hfrm : I64 frm) (hto : I64 too) (hp : Row H pk 1 (ints ps)) (hpx : ∀ x ∈ ps,I64 x) (hpl : ps.length ≤ 9223372036854775807)
  (hrv : Row H rv 1 (ints rs)) (hrx : ∀ x ∈ rs,I64 x) (hrl : rs.length ≤ 9223372036854775807) (hq : ∀ H',Q (.bool true) H') : Ret A 7 [.int .i64 size,ns,.int .i64 frm,.int .i64 too,pk,rv] H Q := by
 refine Ret.of (fn := F7) rfl ?_
 simp (disch := first | omega | (simp only [next_new,next_upd] <;> omega) | fail) only [vai,vaim,vaic,vas,bots,Bool.not_true,Bool.not_false,decide_true,decide_false,wrap64,F7,Nat.reduceAdd,Nat.reduceMul,Nat.reduceLeDiff,Nat.reduceEqDiff,↓reduceIte]
 refine known_ret fun H1 k1 => ?_
 have hlr := hrv.len1
 simp only [ints,List.length_map] at hlr
 by_cases c60 : (60 : Int) < rs.length
 ·have hd : decide ((60 : Int) < rs.length) = true := decide_eq_true c60
  simp (disch := first | omega | (simp only [next_new,next_upd] <;> omega) | fail) only [vai,vaim,vaic,vas,bots,Bool.not_true,Bool.not_false,decide_true,decide_false,wrap64,hlr,hd,Nat.reduceAdd,Nat.reduceMul,Nat.reduceLeDiff,Nat.reduceEqDiff,↓reduceIte]
  exact hq _
 have hd60 : decide ((60 : Int) < rs.length) = false := decide_eq_false c60
 simp (disch := first | omega | (simp only [next_new,next_upd] <;> omega) | fail) only [vai,vaim,vaic,vas,bots,Bool.not_true,Bool.not_false,decide_true,decide_false,wrap64,hlr,hd60,Nat.reduceAdd,Nat.reduceMul,Nat.reduceLeDiff,Nat.reduceEqDiff,↓reduceIte]
 refine make_ret (hr.kept k1) hx hx2 fun ev H2 k2 g2 => ?_
 have hfit := fits_iff.1 (mk_fits size 2 xs)
 have h40 : ((xs.take 40).map (mkEdge (1 + size % 12) 2)).length ≤ 40 := by rw [List.length_map,List.length_take]; omega
 simp only [mkNet] at hfit
 generalize (xs.take 40).map (mkEdge (1 + size % 12) 2) = es at *
 generalize hN : 1 + size % 12 = N at *
 have hce := g2.cells
 have hl := g2.row.len (by omega) (edgeCells_length es)
 have hN0 : 1 ≤ N ∧ N ≤ 12 := by omega
 have hok : ∀ e ∈ es,EdgeOk N e := hfit.2.2.2
 have hco : ∀ e ∈ es,0 ≤ e.cost ∧ e.cost ≤ 2147483647 := fun e he => (hok e he).2.2.2
 have hp2 := (hp.kept k1).kept k2
 have hr2 := (hrv.kept k1).kept k2
 have hlp := hp.len1
 simp only [ints,List.length_map] at hlp
 simp (disch := first | omega | (simp only [next_new,next_upd] <;> omega) | fail) only [vai,vaim,vaic,vas,bots,Bool.not_true,Bool.not_false,decide_true,decide_false,wrap64,hce,Nat.reduceAdd,Nat.reduceMul,Nat.reduceLeDiff,Nat.reduceEqDiff,↓reduceIte]
 refine within_ret rfl (by omega) (by omega) ?_
 have b1 := Int.emod_nonneg frm (show N ≠ 0 by omega)
 have b2 := Int.emod_lt_of_pos frm (show 0 < N by omega)
 generalize frm % N = F at b1 b2
 simp (disch := first | omega | (simp only [next_new,next_upd] <;> omega) | fail) only [vai,vaim,vaic,vas,bots,Bool.not_true,Bool.not_false,decide_true,decide_false,wrap64,Nat.reduceAdd,Nat.reduceMul,Nat.reduceLeDiff,Nat.reduceEqDiff,↓reduceIte]
 have kB : Keep Nothing H2 ((H2.new (.cells [.int .i64 0,.nilSlice] true)).upd H2.next (some (.cells [.int .i64 N,ev] true))) := ((Keep.refl _ _).new _).upd (.inl (Nat.le_refl _)) _
 have oB : ((H2.new (.cells [.int .i64 0,.nilSlice] true)).upd H2.next (some (.cells [.int .i64 N,ev] true))).obj H2.next = some (.cells [.int .i64 N,ev] true) := obj_upd_eq rfl
 have nB : H2.next < ((H2.new (.cells [.int .i64 0,.nilSlice] true)).upd H2.next (some (.cells [.int .i64 N,ev] true))).next := (by first | omega | (simp only [next_new,next_upd]; omega))
 generalize (H2.new (.cells [.int .i64 0,.nilSlice] true)).upd H2.next (some (.cells [.int .i64 N,ev] true)) = HB at *
 refine wpx_cutB (fun t H' => ∃ (a : Int) (lv : AVal) (l : List Int),t = (bots 2 (.int .i64 frm :: .int .i64 too :: bots 1 (rv :: bots 6 (.bot :: .ptr H2.next 0 :: .int .i64 F :: lv :: .int .i64 a :: bots 196 ([])))) : Tmps) ∧ Keep Nothing H2 H' ∧ H2.next < H'.next ∧ H'.obj H2.next = some (.cells [.int .i64 N,ev] true) ∧ Grown (H2.next + 1) H' lv 1 (ints l) ∧ l.length ≤ 20 ∧ Walked N es F l a) ?_ ?_
 ·refine wpx_loop (fun m t H' => ∃ (i : Nat) (a : Int) (lv : AVal) (l : List Int),m = 20 - i ∧ i ≤ 20 ∧ t = (bots 2 (.int .i64 frm :: .int .i64 too :: pk :: rv :: bots 7 (.ptr H2.next 0 :: .int .i64 F :: lv :: .int .i64 a :: .int .i64 i :: bots 195 ([]))) : Tmps) ∧ Keep Nothing H2 H' ∧ H2.next < H'.next ∧ H'.obj H2.next = some (.cells [.int .i64 N,ev] true) ∧ Grown (H2.next + 1) H' lv 1 (ints l) ∧ l.length ≤ i ∧ Walked N es F l a) 20 ?_ ?_
  ·exact ⟨0,F,.nilSlice,[],rfl,by omega,rfl,kB,nB,oB,.nil,Nat.le_refl _,.nil (by omega)⟩
  ·rintro m t H3 ⟨i,a,lv,l,rfl,hi,rfl,k3,n3,o3,g3,hll,hw1⟩
   by_cases c1 : (i : Int) < ps.length
   ·by_cases c2 : (i : Int) < 20
    ·have hd1 : decide ((i : Int) < ps.length) = true := decide_eq_true c1
     have hd2 : decide ((i : Int) < 20) = true := decide_eq_true c2
     simp (disch := first | omega | (simp only [next_new,next_upd] <;> omega) | fail) only [vai,vaim,vaic,vas,bots,Bool.not_true,Bool.not_false,decide_true,decide_false,wrap64,hlp,hd1,hd2,Nat.reduceAdd,Nat.reduceMul,Nat.reduceLeDiff,Nat.reduceEqDiff,↓reduceIte]
     refine wpx_loop (fun m t H' => ∃ (j : Nat) (ov : AVal) (o : List Int),m = es.length - j ∧ j ≤ es.length ∧ t = (bots 2 (.int .i64 frm :: .int .i64 too :: pk :: rv :: bots 7 (.ptr H2.next 0 :: .int .i64 F :: lv :: .int .i64 a :: .int .i64 i :: ov :: .int .i64 j :: bots 193 ([]))) : Tmps) ∧ Keep Nothing H3 H' ∧ Grown H3.next H' ov 1 (ints o) ∧ o.length ≤ j ∧ OutOf es a o) es.length ?_ ?_
     ·exact ⟨0,.nilSlice,[],rfl,by omega,rfl,Keep.refl _ _,.nil,Nat.le_refl _,outOf_nil⟩
     ·rintro m t H4 ⟨j,ov,o,rfl,hj,rfl,k4,g4,hol,hout⟩
      have o4 := (k4.old n3).trans o3
      have n4 := k4.next
      by_cases c3 : (j : Int) < es.length
      ·have hjl : j < es.length := by omega
       have he : es[j]? = some es[j] := List.getElem?_eq_getElem hjl
       obtain ⟨id,off,e1,_,e2,_,_,_,_⟩ := edge_at ((g2.row.kept k3).kept k4) he
       generalize es[j] = e at *
       by_cases c4 : e.src = a
       ·have hd4 : decide (e.src = a) = true := decide_eq_true c4
        simp (disch := first | omega | (simp only [next_new,next_upd] <;> omega) | fail) only [vai,vaim,vaic,vas,bots,Bool.not_true,Bool.not_false,decide_true,decide_false,wrap64,o4,hl,c3,decide_true,e1,e2,hd4,Nat.reduceAdd,Nat.reduceMul,Nat.reduceLeDiff,Nat.reduceEqDiff,↓reduceIte]
        refine append_ret (n := o.length) g4 (by simp only [next_new,next_upd]; omega) (fun j h1 h2 => by simp (disch := first | omega | (simp only [next_new,next_upd] <;> omega) | fail) only [vaim]) (by simp (disch := first | omega | (simp only [next_new,next_upd] <;> omega) | fail) only [vaim]; rfl) rfl (by omega) (by omega) (by simp [ints]) (by omega) (by omega) (by simp only [next_new,next_upd]; omega) ?_
        intro v' H' hn' hk' hg'
        simp only [next_new,next_upd] at hn'
        have hcell := hg'.cells
        simp (disch := first | omega | (simp only [next_new,next_upd] <;> omega) | fail) only [vai,vaim,vaic,vas,bots,Bool.not_true,Bool.not_false,decide_true,decide_false,wrap64,hcell,Nat.reduceAdd,Nat.reduceMul,Nat.reduceLeDiff,Nat.reduceEqDiff,↓reduceIte]
        refine ⟨es.length - (j + 1),by omega,j + 1,v',o ++ [(j : Int)],rfl,by omega,rfl,⟨by omega,fun y hy hm => ?_⟩,?_,by simp; omega,outOf_snoc hout he c4⟩
        ·rw [hk' _ (by omega),← k4.obj y hy hm]
         simp (disch := first | omega | (simp only [next_new,next_upd] <;> omega) | fail) only [vaim]
        ·rw [ints_app]
         exact hg'
       ·have hd4 : decide (e.src = a) = false := decide_eq_false c4
        simp (disch := first | omega | (simp only [next_new,next_upd] <;> omega) | fail) only [vai,vaim,vaic,vas,bots,Bool.not_true,Bool.not_false,decide_true,decide_false,wrap64,o4,hl,c3,decide_true,e1,e2,hd4,Nat.reduceAdd,Nat.reduceMul,Nat.reduceLeDiff,Nat.reduceEqDiff,↓reduceIte]
        exact ⟨es.length - (j + 1),by omega,j + 1,ov,o,rfl,by omega,rfl,k4,g4,by omega,hout⟩
      ·have hlo := g4.row.len1
       simp only [ints,List.length_map] at hlo
       by_cases c5 : (o.length : Int) = 0
       ·have hd5 : decide ((o.length : Int) = 0) = true := decide_eq_true c5
        simp (disch := first | omega | (simp only [next_new,next_upd] <;> omega) | fail) only [vai,vaim,vaic,vas,bots,Bool.not_true,Bool.not_false,decide_true,decide_false,wrap64,o4,hl,c3,decide_false,hlo,hd5,Nat.reduceAdd,Nat.reduceMul,Nat.reduceLeDiff,Nat.reduceEqDiff,↓reduceIte]
        refine ⟨a,lv,l,rfl,k3.trans k4,by omega,o4,?_,by omega,hw1⟩
        exact g3.keep n4 fun y _ hy => k4.old hy
       ·have hd5 : decide ((o.length : Int) = 0) = false := decide_eq_false c5
        obtain ⟨ix,ox,p1,_,p2⟩ := ((hp2.kept k3).kept k4).at1 (j := i) (x := .int .i64 ps[i]) (k := .i64) (by omega) (by
         have : i < ps.length := by omega
         simp [ints,this])
        have hpb := hpx _ (List.getElem_mem (show i < ps.length by omega))
        generalize ps[i] = pi at *
        simp (disch := first | omega | (simp only [next_new,next_upd] <;> omega) | fail) only [vai,vaim,vaic,vas,bots,Bool.not_true,Bool.not_false,decide_true,decide_false,wrap64,o4,hl,c3,decide_false,hlo,hd5,p1,p2,Nat.reduceAdd,Nat.reduceMul,Nat.reduceLeDiff,Nat.reduceEqDiff,↓reduceIte]
        refine within_ret rfl (by omega) (by omega) ?_
        have r1 := Int.emod_nonneg pi (show (o.length : Int) ≠ 0 by omega)
        have r2 := Int.emod_lt_of_pos pi (show 0 < (o.length : Int) by omega)
        obtain ⟨r,hr'⟩ : ∃ r : Nat,pi % (o.length : Int) = r := ⟨(pi % (o.length : Int)).toNat,by omega⟩
        have hro : r < o.length := by omega
        obtain ⟨y,e,hy,he,hes⟩ := hout _ (List.getElem_mem hro)
        obtain ⟨iy,oy,t1,_,t2⟩ := g4.row.at1 (j := r) (x := .int .i64 o[r]) (k := .i64) (by omega) (by simp [ints,hro])
        rw [hy] at t2
        simp (disch := first | omega | (simp only [next_new,next_upd] <;> omega) | fail) only [vai,vaim,vaic,vas,bots,Bool.not_true,Bool.not_false,decide_true,decide_false,wrap64,hr',t1,t2,Nat.reduceAdd,Nat.reduceMul,Nat.reduceLeDiff,Nat.reduceEqDiff,↓reduceIte]
        have g3' := g3.keep n4 fun y _ hy => k4.old hy
        refine append_ret' (n := l.length) g3' (by simp only [next_new,next_upd]; omega) (fun j h1 h2 => by simp (disch := first | omega | (simp only [next_new,next_upd] <;> omega) | fail) only [vaim]) (by simp (disch := first | omega | (simp only [next_new,next_upd] <;> omega) | fail) only [vaim]; rfl) rfl (by omega) (by omega) (by simp [ints]) (by omega) (by omega) (by simp only [next_new,next_upd]; omega) ?_
        intro v' H' hn' hk0 hg' _
        have hk' : ∀ j,j < H4.next → sid lv ≠ some j → H'.obj j = _ := fun j hj hs => hk0 j (by simp only [next_new,next_upd]; omega) hs
        have hsw : ∀ j,sid lv = some j → H2.next + 1 ≤ j := fun j hj => (g3'.sid_ge hj).1
        simp only [next_new,next_upd] at hn'
        have hcell := hg'.cells
        have hlv : alenS v' = some (.int .i64 ((l.length : Int) + 1)) := by rw [hg'.row.len1]; simp [ints]
        have o5 : H'.obj H2.next = some (.cells [.int .i64 N,ev] true) := by
         rw [hk' _ (by omega) (fun h => by have := hsw _ h; omega)]
         simp (disch := first | omega | (simp only [next_new,next_upd] <;> omega) | fail) only [vaim,o4]
        have kk : Keep Nothing H2 H' := ⟨by have := k3.next; omega,fun z hz hm => by
         have h1 := k3.next
         rw [hk' _ (by omega) (fun h => by have := hsw _ h; omega),← (k3.trans k4).obj z hz hm]
         simp (disch := first | omega | (simp only [next_new,next_upd] <;> omega) | fail) only [vaim]⟩
        obtain ⟨iz,oz,s1,_,s2⟩ := hg'.row.at1 (j := l.length) (x := .int .i64 (y : Int)) (k := .i64) (by omega) (by simp [ints])
        obtain ⟨id,off,e1,_,_,e3,_,_,_⟩ := edge_at (g2.row.kept kk) he
        have hsn := hw1.snoc he hes (hok e (List.mem_of_getElem? he))
        have hone : (l.length : Int) + 1 - 1 = l.length := by omega
        simp (disch := first | omega | (simp only [next_new,next_upd] <;> omega) | fail) only [vai,vaim,vaic,vas,bots,Bool.not_true,Bool.not_false,decide_true,decide_false,wrap64,hcell,o5,hlv,hone,s1,s2,e1,e3,Nat.reduceAdd,Nat.reduceMul,Nat.reduceLeDiff,Nat.reduceEqDiff,↓reduceIte]
        refine ⟨20 - (i + 1),by omega,i + 1,e.dst,v',l ++ [(y : Int)],rfl,by omega,rfl,kk,by omega,?_,by simp; omega,hsn⟩
        rw [ints_app]; exact hg'
    ·have hd1 : decide ((i : Int) < ps.length) = true := decide_eq_true c1
     have hd2 : decide ((i : Int) < 20) = false := decide_eq_false c2
     simp (disch := first | omega | (simp only [next_new,next_upd] <;> omega) | fail) only [vai,vaim,vaic,vas,bots,Bool.not_true,Bool.not_false,decide_true,decide_false,wrap64,hlp,hd1,hd2,Nat.reduceAdd,Nat.reduceMul,Nat.reduceLeDiff,Nat.reduceEqDiff,↓reduceIte]
     exact ⟨a,lv,l,rfl,k3,n3,o3,g3,by omega,hw1⟩
   ·have hd1 : decide ((i : Int) < ps.length) = false := decide_eq_false c1
    simp (disch := first | omega | (simp only [next_new,next_upd] <;> omega) | fail) only [vai,vaim,vaic,vas,bots,Bool.not_true,Bool.not_false,decide_true,decide_false,wrap64,hlp,hd1,Nat.reduceAdd,Nat.reduceMul,Nat.reduceLeDiff,Nat.reduceEqDiff,↓reduceIte]
    exact ⟨a,lv,l,rfl,k3,n3,o3,g3,by omega,hw1⟩
 ·rintro t H3 ⟨a,lv,l,rfl,k3,n3,o3,g3,hll,hw1⟩
  have hl3 := hw1.of ⟨b1,b2⟩
  simp (disch := first | omega | (simp only [next_new,next_upd] <;> omega) | fail) only [vai,vaim,vaic,vas,bots,Bool.not_true,Bool.not_false,decide_true,decide_false,wrap64,Nat.reduceAdd,Nat.reduceMul,Nat.reduceLeDiff,Nat.reduceEqDiff,↓reduceIte]
  refine copy_ret (n := l.length) (obj_new_eq rfl) (by first | omega | (simp only [next_new,next_upd]; omega)) (g3.row.kept ((Keep.refl _ _).new _)) (by simp [ints]) (by omega) (by omega) (by omega) fun v5 H5 k5 g5 _ => ?_
  have n5 := k5.next
  simp only [next_new] at n5
  have hn5 := g5.notBot
  have k35 : Keep Nothing H3 H5 := ((Keep.refl _ _).new _).trans k5
  simp (disch := first | omega | (simp only [next_new,next_upd] <;> omega) | fail) only [vai,vaim,vaic,vas,bots,Bool.not_true,Bool.not_false,decide_true,decide_false,wrap64,hn5,Nat.reduceAdd,Nat.reduceMul,Nat.reduceLeDiff,Nat.reduceEqDiff,↓reduceIte]
  refine appRow_ret (n := l.length) (k := rs.length) g5 ((hr2.kept k3).kept k35) (by simp [ints]) (by omega) (by simp [ints]) (by omega) (by omega) ?_ (by omega) (Nat.le_refl _) (fun _ _ _ => rfl)
  intro v6 H6 n6 k6 g6 _
  have k36 : Keep Nothing H3 H6 := ⟨by omega,fun j hj hm => by
   rw [k6 j (by omega) (fun h => by have := (g5.sid_ge h).1; omega)]
   exact k35.old hj⟩
  have hn6 := g6.notBot
  have hcl := g3.row.cells
  have hcr := hr2.cells
  have hc6 := g6.cells
  have o6 := (k36.old n3).trans o3
  simp (disch := first | omega | (simp only [next_new,next_upd] <;> omega) | fail) only [vai,vaim,vaic,vas,bots,Bool.not_true,Bool.not_false,decide_true,decide_false,wrap64,hn6,hcl,hcr,hc6,o6,Nat.reduceAdd,Nat.reduceMul,Nat.reduceLeDiff,Nat.reduceEqDiff,↓reduceIte]
  refine within_ret rfl (by omega) (by omega) ?_
  generalize too % N = T
  simp (disch := first | omega | (simp only [next_new,next_upd] <;> omega) | fail) only [vai,vaim,vaic,vas,bots,Bool.not_true,Bool.not_false,decide_true,decide_false,wrap64,Nat.reduceAdd,Nat.reduceMul,Nat.reduceLeDiff,Nat.reduceEqDiff,↓reduceIte]
  obtain ⟨vs,hvs⟩ : ∃ vs,vs = [lv,rv,v6,.nilSlice] := ⟨_,rfl⟩
  obtain ⟨L,hL⟩ : ∃ L,L = [a,T,too,F] := ⟨_,rfl⟩
  have hL4 : L.length = 4 := by rw [hL]; rfl
  have hLi : [AVal.int .i64 a,.int .i64 T,.int .i64 too,.int .i64 F] = ints L := by rw [hL]; rfl
  have kC : Keep Nothing H6 ((H6.new (.cells vs true)).new (.cells (ints L) true)) := ((Keep.refl _ _).new _).new _
  have oR : ((H6.new (.cells vs true)).new (.cells (ints L) true)).obj H6.next = some (.cells vs true) := by simp (disch := first | omega | (simp only [next_new,next_upd] <;> omega) | fail) only [vaim]
  have oE : ((H6.new (.cells vs true)).new (.cells (ints L) true)).obj (H6.next + 1) = some (.cells (ints L) true) := by simp (disch := first | omega | (simp only [next_new,next_upd] <;> omega) | fail) only [vaim]
  have nC : H6.next + 2 ≤ ((H6.new (.cells vs true)).new (.cells (ints L) true)).next := (by first | omega | (simp only [next_new,next_upd]; omega))
  have h46 : Rows4 H6 vs := by
   rw [hvs]
   refine ⟨rfl,fun v hv => ?_⟩
   simp only [List.mem_cons,List.not_mem_nil,or_false] at hv
   rcases hv with rfl | rfl | rfl | rfl
   ·exact ⟨l,g3.row.kept k36,by omega⟩
   ·exact ⟨rs,(hr2.kept k3).kept k36,by omega⟩
   ·exact ⟨l ++ rs,by rw [ints_app]; exact g6.row,by rw [List.length_append]; omega⟩
   ·exact ⟨[],.nil,by simp⟩
  rw [← hvs,hLi]
  generalize (H6.new (.cells vs true)).new (.cells (ints L) true) = HC at *
  have oN := (kC.old (i := H2.next) (by omega)).trans o6
  have gev := ((g2.row.kept k3).kept k36).kept kC
  have glv := (g3.row.kept k36).kept kC
  have h4n : ((4 : Nat) : Int) = 4 := rfl
  refine wpx_loop (fun m t H' => ∃ (i : Nat),m = 4 - i ∧ i ≤ 4 ∧ t = (bots 2 (.int .i64 frm :: .int .i64 too :: bots 9 (.ptr H2.next 0 :: .int .i64 F :: lv :: .int .i64 a :: bots 3 (.slice H6.next 0 4 (.exact 4) :: .slice (H6.next + 1) 0 4 (.exact 4) :: .int .i64 i :: bots 190 ([])))) : Tmps) ∧ Keep Nothing HC H') 4 ?_ ?_
  ·exact ⟨0,rfl,by omega,rfl,Keep.refl _ _⟩
  ·rintro m t H7 ⟨i,rfl,hi,rfl,k7⟩
   by_cases c1 : (i : Int) < 4
   ·simp (disch := first | omega | (simp only [next_new,next_upd] <;> omega) | fail) only [vai,vaim,vaic,vas,bots,Bool.not_true,Bool.not_false,decide_true,decide_false,wrap64,h4n,c1,decide_true,Nat.reduceAdd,Nat.reduceMul,Nat.reduceLeDiff,Nat.reduceEqDiff,↓reduceIte]
    refine wpx_loop (fun m t H' => ∃ (j : Nat),m = 4 - j ∧ j ≤ 4 ∧ t = (bots 2 (.int .i64 frm :: .int .i64 too :: bots 9 (.ptr H2.next 0 :: .int .i64 F :: lv :: .int .i64 a :: bots 3 (.slice H6.next 0 4 (.exact 4) :: .slice (H6.next + 1) 0 4 (.exact 4) :: .int .i64 i :: .int .i64 j :: bots 189 ([])))) : Tmps) ∧ Keep Nothing HC H') 4 ?_ ?_
    ·exact ⟨0,rfl,by omega,rfl,k7⟩
    ·rintro m t H8 ⟨j,rfl,hj,rfl,k8⟩
     by_cases c2 : (j : Int) < 4
     ·obtain ⟨v,p,hv,hpv,hpl8⟩ := h46.at (i := i) (by omega)
      have hpC := (hpv.kept kC).kept k8
      have q1 := (k8.old (i := H2.next) (by omega)).trans oN
      have q2 := (k8.old (i := H6.next) (by omega)).trans oR
      have q3 := (k8.old (i := H6.next + 1) (by omega)).trans oE
      have hLj : (ints L)[j]? = some (.int .i64 L[j]) := by simp [ints,show j < L.length by omega]
      generalize L[j] = x at hLj
      have n8 := k8.next
      simp (disch := first | omega | (simp only [next_new,next_upd] <;> omega) | fail) only [vai,vaim,vaic,vas,bots,Bool.not_true,Bool.not_false,decide_true,decide_false,wrap64,h4n,c2,decide_true,q1,q2,q3,hv,hLj,Int.toNat_natCast,Nat.reduceAdd,Nat.reduceMul,Nat.reduceLeDiff,Nat.reduceEqDiff,↓reduceIte]
      refine walk_ret (gev.kept k8) hpC (by omega) (by omega) hco fun wv H9 k9 r9 => ?_
      have q19 := (k9.old (i := H2.next) (by omega)).trans q1
      have q29 := (k9.old (i := H6.next) (by omega)).trans q2
      have q39 := (k9.old (i := H6.next + 1) (by omega)).trans q3
      have hn9 := r9.notBot
      simp (disch := first | omega | (simp only [next_new,next_upd] <;> omega) | fail) only [vai,vaim,vaic,vas,bots,Bool.not_true,Bool.not_false,decide_true,decide_false,wrap64,hn9,q19,q29,q39,hv,hLj,Int.toNat_natCast,Nat.reduceAdd,Nat.reduceMul,Nat.reduceLeDiff,Nat.reduceEqDiff,↓reduceIte]
      refine refwalk_ret ((gev.kept k8).kept k9) (hpC.kept k9) (by omega) (by omega) hco fun xv H10 k10 r10 => ?_
      have hn10 := r10.notBot
      have hwl := word_len (n := N) (f := F) (t := x) (p := p) hco
      generalize walkOf N es F x p = R at *
      have hdc : decide (wCost R ≠ wCost R) = false := decide_eq_false (fun h => h rfl)
      simp (disch := first | omega | (simp only [next_new,next_upd] <;> omega) | fail) only [vai,vaim,vaic,vas,bots,Bool.not_true,Bool.not_false,decide_true,decide_false,wrap64,hn10,hdc,beq_self_eq_true,Nat.reduceAdd,Nat.reduceMul,Nat.reduceLeDiff,Nat.reduceEqDiff,↓reduceIte]
      refine ints_ret (r9.kept k10) r10 (by omega) fun r hsr => ?_
      have hrt : r = true := hsr.2 rfl
      subst hrt
      simp (disch := first | omega | (simp only [next_new,next_upd] <;> omega) | fail) only [vai,vaim,vaic,vas,bots,Bool.not_true,Bool.not_false,decide_true,decide_false,wrap64,Nat.reduceAdd,Nat.reduceMul,Nat.reduceLeDiff,Nat.reduceEqDiff,↓reduceIte]
      exact ⟨4 - (j + 1),by omega,j + 1,rfl,by omega,rfl,(k8.trans k9).trans k10⟩
     ·simp (disch := first | omega | (simp only [next_new,next_upd] <;> omega) | fail) only [vai,vaim,vaic,vas,bots,Bool.not_true,Bool.not_false,decide_true,decide_false,wrap64,h4n,c2,decide_false,Nat.reduceAdd,Nat.reduceMul,Nat.reduceLeDiff,Nat.reduceEqDiff,↓reduceIte]
      exact ⟨4 - (i + 1),by omega,i + 1,rfl,by omega,rfl,k8⟩
   ·simp (disch := first | omega | (simp only [next_new,next_upd] <;> omega) | fail) only [vai,vaim,vaic,vas,bots,Bool.not_true,Bool.not_false,decide_true,decide_false,wrap64,h4n,c1,decide_false,Nat.reduceAdd,Nat.reduceMul,Nat.reduceLeDiff,Nat.reduceEqDiff,↓reduceIte]
    obtain ⟨c,w,_,hwa⟩ := hl3
    have q1 := (k7.old (i := H2.next) (by omega)).trans oN
    simp (disch := first | omega | (simp only [next_new,next_upd] <;> omega) | fail) only [vai,vaim,vaic,vas,bots,Bool.not_true,Bool.not_false,decide_true,decide_false,wrap64,q1,Nat.reduceAdd,Nat.reduceMul,Nat.reduceLeDiff,Nat.reduceEqDiff,↓reduceIte]
    refine walk_ret (gev.kept k7) (glv.kept k7) (by omega) (by omega) hco fun wv H8 k8 r8 => ?_
    rw [hwa] at r8 ⊢
    simp only [wWord,wCost,Option.isSome] at r8 ⊢
    have hn8 := r8.notBot
    have q2 := (k8.old (i := H2.next) (by have := k7.next; omega)).trans q1
    simp (disch := first | omega | (simp only [next_new,next_upd] <;> omega) | fail) only [vai,vaim,vaic,vas,bots,Bool.not_true,Bool.not_false,decide_true,decide_false,wrap64,hn8,q2,Nat.reduceAdd,Nat.reduceMul,Nat.reduceLeDiff,Nat.reduceEqDiff,↓reduceIte]
    refine walk_ret ((gev.kept k7).kept k8) ((glv.kept k7).kept k8) (by omega) (by omega) hco fun wv2 H9 k9 r9 => ?_
    have hn9 := r9.notBot
    have q3 := (k9.old (i := H2.next) (by have := k7.next; have := k8.next; omega)).trans q2
    simp (disch := first | omega | (simp only [next_new,next_upd] <;> omega) | fail) only [vai,vaim,vaic,vas,bots,Bool.not_true,Bool.not_false,decide_true,decide_false,wrap64,hn9,q3,Nat.reduceAdd,Nat.reduceMul,Nat.reduceLeDiff,Nat.reduceEqDiff,↓reduceIte]
    refine refwalk_ret (((gev.kept k7).kept k8).kept k9) (((glv.kept k7).kept k8).kept k9) (by omega) (by omega) hco fun wv3 H10 k10 r10 => ?_
    have hn10 := r10.notBot
    simp (disch := first | omega | (simp only [next_new,next_upd] <;> omega) | fail) only [vai,vaim,vaic,vas,bots,Bool.not_true,Bool.not_false,decide_true,decide_false,wrap64,hn10,beq_self_eq_true,Nat.reduceAdd,Nat.reduceMul,Nat.reduceLeDiff,Nat.reduceEqDiff,↓reduceIte]
    exact hq _
end Go.Proofs.YtknhlpmmalcchaaDoor

/- Closed facts of the program: what its head says,read as a list of signs (the kernel is slow at a long text's own signs). -/
namespace Go.Proofs.YtknhlpmmalcchaaDoor
open Go Go.ChangeShapes Go.WideShapes Go.ChangeAt Go.RowKit
set_option maxRecDepth 100000
def headSigns : List Char := List.map Char.ofNat [104,97,114,110,101,115,115,32,100,56,52,52,54,101,57,49,48,51,57,48,50,102,56,55,52,52,97,54,55,56,100,53,55,49,56,99,53,101,53,98,51,101,100,101,57,48,48,55,99,57,56,49,97,98,102,52,100,52,54,49,57,100,50,97,57,97,102,53,102,54,51,56,32,99,117,116,32,97,116,32,109,105,108,101,115,116,111,110,101,47,109,105,108,101,115,116,111,110,101,108,97,119,49,46,78,101,116,67,104,101,99,107,115,32,109,105,108,101,115,116,111,110,101,47,109,105,108,101,115,116,111,110,101,108,97,119,49,46,78,101,116,82,101,97,100,115,32,109,105,108,101,115,116,111,110,101,47,109,105,108,101,115,116,111,110,101,108,97,119,49,46,78,101,116,75,110,111,119,110,32,109,105,108,101,115,116,111,110,101,47,109,105,108,101,115,116,111,110,101,108,97,119,49,46,78,101,116,76,105,109,105,116,115,32,109,105,108,101,115,116,111,110,101,47,109,105,108,101,115,116,111,110,101,108,97,119,49,46,78,101,116,87,97,108,107,115,32,109,105,108,101,115,116,111,110,101,47,109,105,108,101,115,116,111,110,101,108,97,119,49,46,78,101,116,74,111,105,110,115,32,109,105,108,101,115,116,111,110,101,47,109,105,108,101,115,116,111,110,101,108,97,119,49,46,78,101,116,67,111,115,116,115,32,109,105,108,101,115,116,111,110,101,47,109,105,108,101,115,116,111,110,101,108,97,119,49,46,78,101,116,66,97,99,107,32,109,105,108,101,115,116,111,110,101,47,109,105,108,101,115,116,111,110,101,108,97,119,49,46,78,101,116,76,105,110,101,115,32,109,105,108,101,115,116,111,110,101,47,109,105,108,101,115,116,111,110,101,108,97,119,49,46,78,101,116,65,112,97,114,116]
theorem head_eq : Tryd.prog.initOrder = String.ofList headSigns := by kernel_rfl
theorem head_list : Tryd.prog.initOrder.toList = headSigns := by rw [head_eq,String.toList_ofList]
theorem head_words : ∃ rest,behindMainWord (wordsSigns headSigns) = "cut".toList :: rest := ⟨(behindMainWord (wordsSigns headSigns)).tail,by kernel_rfl⟩
theorem strip_cut (rest : List (List Char)) : stripLifts liftWords ("cut".toList :: rest) = ([],"cut".toList :: rest) := by kernel_rfl
theorem ne1 : ("cut".toList == "gc".toList) = false := by kernel_rfl
theorem ne2 : ("cut".toList == "spec".toList) = false := by kernel_rfl
theorem ne3 : ("cut".toList == "carried".toList) = false := by kernel_rfl
theorem words_of : ∃ rest,behindMainWord (wordsSigns Tryd.prog.initOrder.toList) = "cut".toList :: rest := by
 obtain ⟨rest,h⟩ := head_words
 exact ⟨rest,(congrArg (fun l => behindMainWord (wordsSigns l)) head_list).trans h⟩
theorem make_of (P : Program) (rest : List (List Char)) (h : behindMainWord (wordsSigns P.initOrder.toList) = "cut".toList :: rest) : P.make = some .cut := by
 unfold Program.make
 rw [h]
 simp only [ne1,ne2,beq_self_eq_true,Bool.false_or,Bool.true_or,Bool.or_self,Bool.false_eq_true,if_true,if_false]
theorem lifts_of (P : Program) (rest : List (List Char)) (h : behindMainWord (wordsSigns P.initOrder.toList) = "cut".toList :: rest) : P.liftsFinal = false := by
 unfold Program.liftsFinal Program.headLifts
 rw [h]
 have e : ((some "cut".toList : Option (List Char)) == some "carried".toList) = false := by kernel_rfl
 simp only [strip_cut,List.head?_cons,beq_self_eq_true,if_true,e,Bool.false_and,Bool.false_or]
 rfl
theorem enter_of (P : Program) (rest : List (List Char)) (h : behindMainWord (wordsSigns P.initOrder.toList) = "cut".toList :: rest) (h1 : P.laysLater = false) (h2 : P.bearsReflect = false) (h3 : P.doorFits [] = true) : P.mayEnter = true := by
 unfold Program.mayEnter
 rw [h]
 simp only [strip_cut,ne1,ne2,ne3,h1,h2,h3,List.head?_cons,beq_self_eq_true,Bool.false_or,Bool.or_false,Bool.false_and,Bool.true_and,Bool.and_true,Bool.not_false,Bool.or_true,List.contains_nil]
theorem fact_make : Tryd.prog.make = some .cut := by
 obtain ⟨rest,h⟩ := words_of
 exact make_of _ _ h
theorem fact_lifts : Tryd.prog.liftsFinal = false := by
 obtain ⟨rest,h⟩ := words_of
 exact lifts_of _ _ h
theorem fact_later : Tryd.prog.laysLater = false := by kernel_rfl
theorem fact_reflect : Tryd.prog.bearsReflect = false := by kernel_rfl
theorem fact_door : Tryd.prog.doorFits [] = true := by kernel_rfl
theorem fact_enter : Tryd.prog.mayEnter = true := by
 obtain ⟨rest,h⟩ := words_of
 exact enter_of _ _ h fact_later fact_reflect fact_door
theorem fact_laid : laidOutB Tryd.prog = true := by kernel_rfl
theorem fact_maps : mapsRowed Tryd.prog = true := by kernel_rfl
theorem fact_heard : Tryd.prog.stopsHeard = true := by kernel_rfl
theorem own : ownKnob Tryd.prog.godebug = none := by kernel_rfl
theorem follows : Tryd.prog.follows .mixedOrders = true := by kernel_rfl
end Go.Proofs.YtknhlpmmalcchaaDoor

/- What the rows' condition gives of the package variables at the start; the builder that hands both it and the world's shape to the contract. -/
namespace Go
variable {H : Type} {enc : TypeId × Value → H}
theorem returnsInHanded_of_change_both {a : Assume} {C : Checked} {os : Os} {f : FuncId} {fn : Func} {s : ChangeSpec} {conds : List PathCond} {apart fresh handsOn again : Bool} {X : World → Array Value → Prop}
  (hX : ∀ (w w' : World) (args : Array Value),w.heap = w'.heap → X w args → X w' args)
  (own : ownKnob C.prog.godebug = none) (started : os.Started) (noInit : C.prog.inits.idxOf? f = none) (hfn : C.prog.funcs[f]? = some fn)
  (witness : ∃ (w : World) (tape : Tape) (i : Input),w.os = os ∧ (w.forCall tape i).Shaped C.prog ∧ i.vars = [] ∧ Input.okWide C.prog (w.forCall tape i) .any w.heap.size f i ∧
   ((s.pre enc C.prog fn conds apart (w.forCall tape i).memory i.args ∧ X (w.forCall tape i).memory i.args) ∧ sizedMet enc C.prog fn (OpenSpec.ofChange s) apart (w.forCall tape i).memory i.args) ∧ a.holds C.prog (lone (Frame.enter C.prog f i.args .normal) [] (w.forCall tape i)))
  (contract : ∀ (W : World) (base : Nat) (args : Array Value) (ds gs : List (DataW H)) (before : List MemPlace),
   (∀ (j : Nat) t v,fn.params[j]? = some t → args[j]? = some v → Value.okWide C.prog W .any base t v) →
   DataW.Whole enc C.prog fn.params.toList s.vars apart W args.toList ds gs before →
   X W args → W.ShapedOpen C.prog →
   Calls C.prog f args W fun e W' => ∃ v,e = .returned v ∧ s.post enc C.prog fn apart fresh handsOn again W args v W') :
  ReturnsInHanded a C os f .any (fun w args => (s.pre enc C.prog fn conds apart w args ∧ X w args) ∧ sizedMet enc C.prog fn (OpenSpec.ofChange s) apart w args) (s.post enc C.prog fn apart fresh handsOn again) := by
 refine returnsInHanded_of_calls own started noInit witness ?_
 intro w tape i _ hsh _ hok hpre hholds
 obtain ⟨_,_,_,fn',hfn',_,_,_,_,hval⟩ := hok
 have e : fn' = fn := Option.some.inj (hfn'.symm.trans hfn)
 subst e
 obtain ⟨⟨⟨ds,gs,before,hw,hc⟩,hx⟩,hz⟩ := hpre
 have hw' := DataW.Whole.of_heap (w' := w.forCall tape i) (by rfl) hw
 refine (contract (w.forCall tape i) w.heap.size i.args ds gs before hval hw' (hX _ _ _ (by rfl) hx) hsh).mono fun e W' ⟨v,he,hp⟩ => ?_
 subst he
 exact ChangeSpec.post_blind hp
end Go
namespace Go.Proofs.YtknhlpmmalcchaaDoor
open Go Go.VAI Go.ChangeShapes Go.WideShapes Go.ChangeAt Go.RowKit
set_option linter.unusedVariables false
set_option linter.unusedSimpArgs false
def laidD : List (String × DataW Unit) := Rows.netKnownRow.laid
theorem laidD_plain : (laidD.all fun x => x.2.handleName?.isNone) = true := by kernel_rfl
theorem pow_data : (Rows.laid_internal_strconv_uint64pow10 : DataW Unit) = Lib.tabData .u64 Lib.pow10Tab := by kernel_rfl
theorem gErrR : Tryd.prog.globalNamed "strconv.ErrRange" = some 5 := by kernel_rfl
theorem gErrS : Tryd.prog.globalNamed "strconv.ErrSyntax" = some 4 := by kernel_rfl
theorem tPow : (Tryd.prog.globals[1]?).map (·.type) = some 108 := by kernel_rfl
theorem tErrR : (Tryd.prog.globals[5]?).map (·.type) = some 71 := by kernel_rfl
theorem tErrS : (Tryd.prog.globals[4]?).map (·.type) = some 71 := by kernel_rfl
theorem cellsPow : Tryd.prog.cellsOf 108 = 20 := by kernel_rfl
theorem iface_of_trod {P : Program} {w : World} {base : Nat} {sp : Nat → Bool} {held : Bool} {fuel : Nat} {t : TypeId} {ms : Array (String × TypeId)} {cs : List Value} {x : DataW Unit × List MemPlace} {enc : TypeId × Value → Unit}
  (ht : P.underlying t = some (.interface ms)) (h : DataW.trod enc P w base sp held fuel t cs = some x) : ∃ v,cs = [v] ∧ (v = .nilIface ∨ ∃ te pe,v = .iface te pe) := by
 cases fuel with
 | zero => simp [DataW.trod] at h
 | succ fuel =>
  match cs,h with
  | [],h => simp [DataW.trod,ht] at h
  | [v],h =>
   refine ⟨v,rfl,?_⟩
   cases v <;> first
    | exact .inl rfl
    | exact .inr ⟨_,_,rfl⟩
    | (exfalso; simp [DataW.trod,ht] at h)
  | _ :: _ :: _,h => simp [DataW.trod,ht] at h
set_option maxRecDepth 100000 in
theorem glob_of_laid {W : World} (h : laidMetH Tryd.prog laidD W) (hs : W.ShapedOpen Tryd.prog) : Glob W := by
 rw [MakeChecks.laidMetH_plain _ _ _ laidD_plain] at h
 obtain ⟨ps,⟨_,_,_,_,_,_,_,_,_,_,⟨_,_,_,_,_,_,_,_,_,_,⟨g,t,cs,fuel,p,q,hg,ht,hv,hd,⟨_,_,_,_,_,_,_,_,_,_,⟨g5,t5,cs5,f5,p5,q5,hg5,ht5,hv5,hd5,⟨g4,t4,cs4,f4,p4,q4,hg4,ht4,hv4,hd4,_,_⟩,_⟩,_⟩,_⟩,_⟩,_⟩,_,_⟩ := h
 obtain rfl := Option.some.inj (gPow.symm.trans hg)
 obtain rfl := Option.some.inj (tPow.symm.trans ht)
 obtain rfl := Option.some.inj (gErrR.symm.trans hg5)
 obtain rfl := Option.some.inj (tErrR.symm.trans ht5)
 obtain rfl := Option.some.inj (gErrS.symm.trans hg4)
 obtain rfl := Option.some.inj (tErrS.symm.trans ht4)
 have iface : ∀ (n : String) (b : Nat) (cs : Array Value) x fuel,Tryd.prog.globalNamed n = some b → W.var? Tryd.prog n = some cs → DataW.trod (fun _ => ()) Tryd.prog W 0 (fun _ => true) false fuel 71 cs.toList = some x → IfaceAt W b := fun n b cs x fuel hg hv hd => by
  obtain ⟨v,e1,e2⟩ := iface_of_trod Tryd.underlying71 hd
  refine ⟨v,?_,e2⟩
  have := World.var?_cell hg hv 0
  rw [this,← Array.getElem?_toList,e1]
  rfl
 refine ⟨Tryd.split.s1_3 W hs,?_,?_,?_⟩
 ·rw [pow_data] at hd
  have e := Lib.cells_of_tab Tryd.underlying108 Tryd.underlying93 (by kernel_rfl) cellsPow hd
  have hv' : World.var? Tryd.prog W powName = some cs := hv
  unfold World.var? at hv'
  rw [gPow] at hv'
  simp only [Option.bind_some] at hv'
  split at hv'
  ·rename_i c E fz hb
   injection hv' with hv'
   subst hv'
   refine ⟨E,fz,?_⟩
   rw [hb,← pow_eq,← e]
  ·cases hv'
 ·exact iface _ 4 cs4 _ f4 gErrS hv4 hd4
 ·exact iface _ 5 cs5 _ f5 gErrR hv5 hd5
end Go.Proofs.YtknhlpmmalcchaaDoor
