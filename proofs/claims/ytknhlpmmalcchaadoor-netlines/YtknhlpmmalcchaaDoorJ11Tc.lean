/- Steps of the walk. -/
import Derived.Test.YtknhlpmmalcchaaDoorJ11Tb
import Derived.Test.YtknhlpmmalcchaaDoorRows
import Derived.ProofKit
import Derived.Test.YtknhlpmmalcchaaDoorJ11Ta
import Derived.Test.YtknhlpmmalcchaaDoorJ11Vca
import Derived.Test.YtknhlpmmalcchaaDoorTie
import Derived.HandedShaped
import Derived.LaidMore
import Derived.Lay
import Derived.Lib.LaidTab
import Derived.Stop.Joined
set_option linter.all false
set_option linter.unusedVariables false
set_option linter.unusedSimpArgs false
namespace Go.Proofs.YtknhlpmmalcchaaDoor
open Go Go.VAI
set_option linter.unusedSimpArgs false

set_option maxRecDepth 20000 in
set_option maxHeartbeats 8000000 in
theorem netLines_ret {size : Int} {bad : Bool} {ns gv : AVal} {xs gs : List Int} {H : AHeap} {Q : AVal → AHeap → Prop} (hsize : I64 size) (hr : Row H ns 1 (ints xs)) (hx : ∀ x ∈ xs,I64 x) (hx2 : xs.length ≤ 9223372036854775807)
  (hg : Row H gv 1 (ints gs)) (hgx : ∀ x ∈ gs,I64 x) (hgl : gs.length ≤ 9223372036854775807) (hq : ∀ H',Q (.bool true) H') : Ret A 11 [.int .i64 size,ns,gv,.bool bad] H Q := by
 refine Ret.of (fn := F11) rfl ?_
 simp (disch := first | omega | (simp only [next_new,next_upd] <;> omega) | fail) only [vai,vaim,vaic,vas,bots,Bool.not_true,Bool.not_false,decide_true,decide_false,wrap64,F11,Nat.reduceAdd,Nat.reduceMul,Nat.reduceLeDiff,Nat.reduceEqDiff,↓reduceIte]
 refine known_ret fun H1 k1 => ?_
 simp (disch := first | omega | (simp only [next_new,next_upd] <;> omega) | fail) only [vai,vaim,vaic,vas,bots,Bool.not_true,Bool.not_false,decide_true,decide_false,wrap64,Nat.reduceAdd,Nat.reduceMul,Nat.reduceLeDiff,Nat.reduceEqDiff,↓reduceIte]
 refine make_ret (hr.kept k1) hx hx2 fun ev H2 k2 g2 => ?_
 have hfit := mk_fits size 2 xs
 obtain ⟨X,hX⟩ : ∃ X,X = mkNet size 2 xs := ⟨_,rfl⟩
 have hXn : (1 + size % 12) = X.n := by rw [hX]; rfl
 have hXe : (xs.take 40).map (mkEdge (1 + size % 12) 2) = X.es := by rw [hX]; rfl
 have h40 : X.es.length ≤ 40 := by rw [← hXe,List.length_map,List.length_take]; omega
 rw [← hX] at hfit
 rw [hXe] at g2
 rw [hXn]
 have hce := g2.cells
 have kB : Keep Nothing H2 ((H2.new (.cells [.int .i64 0,.nilSlice] true)).upd H2.next (some (.cells [.int .i64 X.n,ev] true))) := ((Keep.refl _ _).new _).upd (.inl (Nat.le_refl _)) _
 have oB : ((H2.new (.cells [.int .i64 0,.nilSlice] true)).upd H2.next (some (.cells [.int .i64 X.n,ev] true))).obj H2.next = some (.cells [.int .i64 X.n,ev] true) := obj_upd_eq rfl
 have nB : H2.next < ((H2.new (.cells [.int .i64 0,.nilSlice] true)).upd H2.next (some (.cells [.int .i64 X.n,ev] true))).next := (by first | omega | (simp only [next_new,next_upd]; omega))
 simp (disch := first | omega | (simp only [next_new,next_upd] <;> omega) | fail) only [vai,vaim,vaic,vas,bots,Bool.not_true,Bool.not_false,decide_true,decide_false,wrap64,hce,Nat.reduceAdd,Nat.reduceMul,Nat.reduceLeDiff,Nat.reduceEqDiff,↓reduceIte]
 refine text_ret hfit (g2.row.kept kB) fun HT k3 => ?_
 generalize (H2.new (.cells [.int .i64 0,.nilSlice] true)).upd H2.next (some (.cells [.int .i64 X.n,ev] true)) = HB at *
 have n3 := k3.next
 have o3 := (k3.old nB).trans oB
 have hevT := (g2.row.kept kB).kept k3
 have hgT : Row HT gv 1 (ints gs) := (((hg.kept k1).kept k2).kept kB).kept k3
 have hg5 : ∀ H5,H5 = HT → Row H5 gv 1 (ints gs) := fun H5 h => by rw [h]; exact hgT
 have hlg := hg.len1
 simp only [ints,List.length_map] at hlg
 have hXl := text_len hfit
 cases bad with
 | true =>
  obtain ⟨S,hS⟩ : ∃ S,S = textOf X ++ (if true then [101,100,103,101,10] else []) := ⟨_,rfl⟩
  have hS2 : textOf X ++ [101,100,103,101,10] = S := by rw [hS]; rfl
  obtain ⟨ws,hws⟩ : ∃ ws,ws = wsOf X true := ⟨_,rfl⟩
  have z5 : ([101,100,103,101,10] : List UInt8).length = 5 := rfl
  simp (disch := first | omega | (simp only [next_new,next_upd] <;> omega) | fail) only [vai,vaim,vaic,vas,bots,Bool.not_true,Bool.not_false,decide_true,decide_false,wrap64,hS2,Nat.reduceAdd,Nat.reduceMul,Nat.reduceLeDiff,Nat.reduceEqDiff,↓reduceIte]
  have hwl : ws.length ≤ 42 := by
   rw [hws]
   simp only [wsOf,List.length_cons,List.length_append,List.length_map]
   split <;> simp <;> omega
  have hcut : cutAt 10 S = ws ++ [[]] := by
   have h := cut_ended ws [] (by rw [hws]; exact wsOf_not hfit _)
   rw [List.append_nil] at h
   rw [hS,hws,← wsOf_text,← hws]
   exact h
  have htl : ∀ c,c ≤ ws.length → (textG gs ws c).length ≤ c * 30 := by rw [hws]; exact textG_len hfit _ gs
  have hpar := parse_textG hfit true gs (by
   have h := htl ws.length (Nat.le_refl _)
   rw [hws] at h hwl
   omega)
  rw [← hws] at hpar
  have hSl : S.length ≤ 9700 := by
   have h := text_len hfit
   rw [hS]
   simp only [List.length_append]
   split <;> simp <;> omega
  have hgN : ∀ c,gapN (psG gs ws c) ≤ 4 * c := by
   intro c
   induction c with
   | zero => simp [psG,gapN]
   | succ c ih =>
    have := gapAt_lt gs c
    rw [gapN_succ]
    omega
  clear hS
  try simp (disch := first | omega | (simp only [next_new,next_upd] <;> omega) | fail) only [vai,vaim,vaic,vas,bots,Bool.not_true,Bool.not_false,decide_true,decide_false,wrap64,Nat.reduceAdd,Nat.reduceMul,Nat.reduceLeDiff,Nat.reduceEqDiff,↓reduceIte]
  refine wpx_loop (fun m t H' => ∃ (i c a : Nat),m = S.length - i ∧ i ≤ S.length ∧ t = (bots 2 (gv :: .bool true :: bots 5 (.ptr H2.next 0 :: .str (bs S) :: .str (bs (textG gs ws c)) :: .int .i64 ((gapN (psG gs ws c) : Nat) : Int) :: .int .i64 a :: .int .i64 c :: .int .i64 i :: bots 81 ([]))) : Tmps) ∧ H' = HT ∧ a ≤ i ∧ c ≤ ws.length ∧ (10 : UInt8) ∉ part S a i ∧ cutAt 10 (S.drop a) = ws.drop c ++ [[]]) S.length ?_ ?_
  ·exact ⟨0,0,0,rfl,by omega,rfl,rfl,Nat.le_refl _,by omega,by rw [part_self]; simp,hcut⟩
  ·rintro m t H5 ⟨i,c,a,rfl,hi,rfl,hH5,hai,hcl,hno,hcc⟩
   by_cases hci : (i : Int) < S.length
   ·have hd1 : decide ((i : Int) < S.length) = true := decide_eq_true hci
    have hb : S[i]? = some S[i] := List.getElem?_eq_getElem (by omega)
    generalize S[i] = b at hb
    have hix : aindexStr (.str (bs S)) (.int .i64 (i : Int)) = some (.int .u8 (b.toNat : Int)) := aindexStr_bs hb
    by_cases hb10 : (b.toNat : Int) = 10
    ·have hbe : b = 10 := UInt8.toNat_inj.1 (by show b.toNat = 10; omega)
     have hd2 : decide ((b.toNat : Int) ≠ 10) = false := decide_eq_false (fun h => h hb10)
     have hch := cut_hit hai (by rw [hbe] at hb; exact hb) hno
     rw [hch] at hcc
     have hcl2 : c < ws.length := by
      rcases Nat.lt_or_ge c ws.length with h | h
      ·exact h
      ·rw [List.drop_eq_nil_of_le h] at hcc
       simp only [List.nil_append] at hcc
       injection hcc with _ hcc
       exact absurd hcc (cutAt_ne _ _)
     have hdr : ws.drop c = ws[c] :: ws.drop (c + 1) := List.drop_eq_getElem_cons hcl2
     rw [hdr,List.cons_append] at hcc
     injection hcc with hw hcc
     have hgd : ws.getD c [] = part S a i := by rw [List.getD_eq_getElem?_getD,List.getElem?_eq_getElem hcl2,Option.getD_some,hw]
     have hsl : asliceStr (.str (bs S)) (some (.int .i64 (a : Int))) (some (.int .i64 ((i : Int) + 1))) = some (.str (bs (part S a i ++ [10]))) := by
      have h := asliceStr_bs (l := S) (i := a) (j := i + 1) (k1 := .i64) (k2 := .i64) ⟨by omega,by omega⟩
      have h2 := part_snoc hai hb
      unfold part at h2 ⊢
      rw [h2,hbe] at h
      exact h
     have hpl := part_length hai (by omega : i ≤ S.length)
     have hT := htl c hcl
     have hG := hgN c
     have hga := gapAt_lt gs c
     obtain ⟨T,hTe⟩ : ∃ T,T = textG gs ws c := ⟨_,rfl⟩
     obtain ⟨N,hNe⟩ : ∃ N,N = gapN (psG gs ws c) := ⟨_,rfl⟩
     have hts := textG_succ gs ws c
     have hns := gapN_succ gs ws c
     rw [hgd] at hts
     rw [← hTe] at hts hT ⊢
     rw [← hNe] at hns hG ⊢
     obtain ⟨k,hk⟩ : ∃ k : Nat,k = gapAt gs c := ⟨_,rfl⟩
     rw [← hk] at hts hns hga
     have z1 : ([10] : List UInt8).length = 1 := rfl
     by_cases hcg : (c : Int) < gs.length
     ·have hd3 : decide ((c : Int) < gs.length) = true := decide_eq_true hcg
      obtain ⟨iq,oq,e1,_,e2⟩ := (hg5 H5 hH5).at1 (j := c) (x := .int .i64 gs[c]) (k := .i64) (by omega) (by
       have : c < gs.length := by omega
       simp [ints,this])
      have hgb := hgx _ (List.getElem_mem (show c < gs.length by omega))
      have hkv : gs[c] % 4 = (k : Int) := by
       rw [hk]
       unfold gapAt
       rw [if_pos (by omega),List.getD_eq_getElem?_getD,List.getElem?_eq_getElem (by omega),Option.getD_some]
       have := Int.emod_nonneg gs[c] (show (4 : Int) ≠ 0 by omega)
       omega
      generalize gs[c] = q at *
      simp (disch := first | omega | (simp only [next_new,next_upd] <;> omega) | fail) only [vai,vaim,vaic,vas,bots,Bool.not_true,Bool.not_false,decide_true,decide_false,wrap64,hd1,hix,hd2,hlg,hd3,e1,e2,Nat.reduceAdd,Nat.reduceMul,Nat.reduceLeDiff,Nat.reduceEqDiff,↓reduceIte]
      refine within_ret rfl (by omega) (by omega) ?_
      rw [hkv]
      try simp (disch := first | omega | (simp only [next_new,next_upd] <;> omega) | fail) only [vai,vaim,vaic,vas,bots,Bool.not_true,Bool.not_false,decide_true,decide_false,wrap64,Nat.reduceAdd,Nat.reduceMul,Nat.reduceLeDiff,Nat.reduceEqDiff,↓reduceIte]
      refine wpx_loop (fun m t H' => ∃ (j : Nat),m = k - j ∧ j ≤ k ∧ t = (bots 2 (gv :: .bool true :: bots 5 (.ptr H2.next 0 :: .str (bs S) :: .str (bs (T ++ List.replicate j 10)) :: .int .i64 ((N : Nat) : Int) :: .int .i64 a :: .int .i64 c :: .int .i64 i :: .int .i64 k :: .int .i64 j :: bots 79 ([]))) : Tmps) ∧ H' = H5) k ?_ ?_
      ·exact ⟨0,rfl,by omega,by rw [List.replicate_zero,List.append_nil]; rfl,rfl⟩
      ·rintro m t H6 ⟨j,rfl,hj,rfl,hH6⟩
       have hTl : (T ++ List.replicate j (10 : UInt8)).length = T.length + j := by simp
       by_cases hcj : (j : Int) < k
       ·have hdj : decide ((j : Int) < k) = true := decide_eq_true hcj
        have hrs : T ++ List.replicate j (10 : UInt8) ++ [10] = T ++ List.replicate (j + 1) 10 := by rw [List.replicate_succ',List.append_assoc]
        simp (disch := first | omega | (simp only [next_new,next_upd] <;> omega) | fail) only [vai,vaim,vaic,vas,bots,Bool.not_true,Bool.not_false,decide_true,decide_false,wrap64,hdj,hrs,Nat.reduceAdd,Nat.reduceMul,Nat.reduceLeDiff,Nat.reduceEqDiff,↓reduceIte]
        exact ⟨k - (j + 1),by omega,j + 1,rfl,by omega,rfl,hH6⟩
       ·have hdj : decide ((j : Int) < k) = false := decide_eq_false hcj
        have hjk : j = k := by omega
        subst hjk
        have hpp : (part S a i ++ [10]).length = i - a + 1 := by rw [List.length_append,hpl]; rfl
        have hts2 : T ++ List.replicate j 10 ++ (part S a i ++ [10]) = textG gs ws (c + 1) := by rw [hts,List.append_assoc]
        have hns2 : (N : Int) + j + 1 = ((gapN (psG gs ws (c + 1)) : Nat) : Int) := by rw [hns]; omega
        simp (disch := first | omega | (simp only [next_new,next_upd] <;> omega) | fail) only [vai,vaim,vaic,vas,bots,Bool.not_true,Bool.not_false,decide_true,decide_false,wrap64,hdj,hsl,hts2,hns2,Nat.reduceAdd,Nat.reduceMul,Nat.reduceLeDiff,Nat.reduceEqDiff,↓reduceIte]
        exact ⟨S.length - (i + 1),by omega,i + 1,c + 1,i + 1,rfl,by omega,rfl,hH6.trans hH5,Nat.le_refl _,hcl2,by rw [part_self]; simp,hcc⟩
     ·have hd3 : decide ((c : Int) < gs.length) = false := decide_eq_false hcg
      have hk0 : k = 0 := by
       rw [hk]
       unfold gapAt
       rw [if_neg (by omega)]
      simp (disch := first | omega | (simp only [next_new,next_upd] <;> omega) | fail) only [vai,vaim,vaic,vas,bots,Bool.not_true,Bool.not_false,decide_true,decide_false,wrap64,hd1,hix,hd2,hlg,hd3,Nat.reduceAdd,Nat.reduceMul,Nat.reduceLeDiff,Nat.reduceEqDiff,↓reduceIte]
      rw [hk0] at hts hns
      refine wpx_loop (fun m t H' => t = (bots 2 (gv :: .bool true :: bots 5 (.ptr H2.next 0 :: .str (bs S) :: .str (bs T) :: .int .i64 ((N : Nat) : Int) :: .int .i64 a :: .int .i64 c :: .int .i64 i :: .int .i64 0 :: .int .i64 0 :: bots 79 ([]))) : Tmps) ∧ H' = H5) 0 ?_ ?_
      ·exact ⟨rfl,rfl⟩
      ·rintro m t H6 ⟨rfl,hH6⟩
       have hdj : decide ((0 : Int) < 0) = false := rfl
       have hpp : (part S a i ++ [10]).length = i - a + 1 := by rw [List.length_append,hpl]; rfl
       have hts2 : T ++ (part S a i ++ [10]) = textG gs ws (c + 1) := by rw [hts]; simp
       have hns2 : (N : Int) + 0 + 1 = ((gapN (psG gs ws (c + 1)) : Nat) : Int) := by rw [hns]; omega
       have hns3 : (N : Int) + 1 = ((gapN (psG gs ws (c + 1)) : Nat) : Int) := by rw [hns]; omega
       have hN0 : (N : Int) + 0 = N := by omega
       simp (disch := first | omega | (simp only [next_new,next_upd] <;> omega) | fail) only [vai,vaim,vaic,vas,bots,Bool.not_true,Bool.not_false,decide_true,decide_false,wrap64,hdj,hsl,hts2,hN0,hns2,hns3,Nat.reduceAdd,Nat.reduceMul,Nat.reduceLeDiff,Nat.reduceEqDiff,↓reduceIte]
       exact ⟨S.length - (i + 1),by omega,i + 1,c + 1,i + 1,rfl,by omega,rfl,hH6.trans hH5,Nat.le_refl _,hcl2,by rw [part_self]; simp,hcc⟩
    ·have hd2 : decide ((b.toNat : Int) ≠ 10) = true := decide_eq_true hb10
     have hbn : b ≠ 10 := fun h => by subst h; exact hb10 rfl
     simp (disch := first | omega | (simp only [next_new,next_upd] <;> omega) | fail) only [vai,vaim,vaic,vas,bots,Bool.not_true,Bool.not_false,decide_true,decide_false,wrap64,hd1,hix,hd2,Nat.reduceAdd,Nat.reduceMul,Nat.reduceLeDiff,Nat.reduceEqDiff,↓reduceIte]
     exact ⟨S.length - (i + 1),by omega,i + 1,c,a,rfl,by omega,rfl,hH5,by omega,hcl,part_step hai hb hbn hno,hcc⟩
   ·have hd1 : decide ((i : Int) < S.length) = false := decide_eq_false hci
    have hiS : i = S.length := by omega
    subst hiS
    have hce := cut_end (l := S) (a := a) hai hno
    rw [hce] at hcc
    have hcw : c = ws.length := by
     have := congrArg List.length hcc
     simp only [List.length_append,List.length_drop,List.length_cons,List.length_nil] at this
     omega
    subst hcw
    subst hH5
    simp (disch := first | omega | (simp only [next_new,next_upd] <;> omega) | fail) only [vai,vaim,vaic,vas,bots,Bool.not_true,Bool.not_false,decide_true,decide_false,wrap64,hd1,Nat.reduceAdd,Nat.reduceMul,Nat.reduceLeDiff,Nat.reduceEqDiff,↓reduceIte]
    refine parse_ret (s := textG gs ws ws.length) fun ev4 H6 k6 g6 => ?_
    rw [hpar] at g6 ⊢
    simp only [if_true] at g6 ⊢
    have h22 : decide ((2 : Int) = 2) = true := rfl
    have hNN : decide (((gapN (psG gs ws ws.length) : Nat) : Int) = ((gapN (psG gs ws ws.length) : Nat) : Int)) = true := decide_eq_true rfl
    have hc6 := g6.row.cells
    simp (disch := first | omega | (simp only [next_new,next_upd] <;> omega) | fail) only [vai,vaim,vaic,vas,bots,Bool.not_true,Bool.not_false,decide_true,decide_false,wrap64,hc6,h22,hNN,Nat.reduceAdd,Nat.reduceMul,Nat.reduceLeDiff,Nat.reduceEqDiff,↓reduceIte]
    exact hq _
 | false =>
  obtain ⟨S,hS⟩ : ∃ S,S = textOf X ++ (if false then [101,100,103,101,10] else []) := ⟨_,rfl⟩
  have hS2 : textOf X = S := by rw [hS]; simp
  obtain ⟨ws,hws⟩ : ∃ ws,ws = wsOf X false := ⟨_,rfl⟩
  rw [hS2]
  simp (disch := first | omega | (simp only [next_new,next_upd] <;> omega) | fail) only [vai,vaim,vaic,vas,bots,Bool.not_true,Bool.not_false,decide_true,decide_false,wrap64,Nat.reduceAdd,Nat.reduceMul,Nat.reduceLeDiff,Nat.reduceEqDiff,↓reduceIte]
  have hwl : ws.length ≤ 42 := by
   rw [hws]
   simp only [wsOf,List.length_cons,List.length_append,List.length_map]
   split <;> simp <;> omega
  have hcut : cutAt 10 S = ws ++ [[]] := by
   have h := cut_ended ws [] (by rw [hws]; exact wsOf_not hfit _)
   rw [List.append_nil] at h
   rw [hS,hws,← wsOf_text,← hws]
   exact h
  have htl : ∀ c,c ≤ ws.length → (textG gs ws c).length ≤ c * 30 := by rw [hws]; exact textG_len hfit _ gs
  have hpar := parse_textG hfit false gs (by
   have h := htl ws.length (Nat.le_refl _)
   rw [hws] at h hwl
   omega)
  rw [← hws] at hpar
  have hSl : S.length ≤ 9700 := by
   have h := text_len hfit
   rw [hS]
   simp only [List.length_append]
   split <;> simp <;> omega
  have hgN : ∀ c,gapN (psG gs ws c) ≤ 4 * c := by
   intro c
   induction c with
   | zero => simp [psG,gapN]
   | succ c ih =>
    have := gapAt_lt gs c
    rw [gapN_succ]
    omega
  clear hS
  try simp (disch := first | omega | (simp only [next_new,next_upd] <;> omega) | fail) only [vai,vaim,vaic,vas,bots,Bool.not_true,Bool.not_false,decide_true,decide_false,wrap64,Nat.reduceAdd,Nat.reduceMul,Nat.reduceLeDiff,Nat.reduceEqDiff,↓reduceIte]
  refine wpx_loop (fun m t H' => ∃ (i c a : Nat),m = S.length - i ∧ i ≤ S.length ∧ t = (bots 2 (gv :: .bool false :: bots 5 (.ptr H2.next 0 :: .str (bs S) :: .str (bs (textG gs ws c)) :: .int .i64 ((gapN (psG gs ws c) : Nat) : Int) :: .int .i64 a :: .int .i64 c :: .int .i64 i :: bots 81 ([]))) : Tmps) ∧ H' = HT ∧ a ≤ i ∧ c ≤ ws.length ∧ (10 : UInt8) ∉ part S a i ∧ cutAt 10 (S.drop a) = ws.drop c ++ [[]]) S.length ?_ ?_
  ·exact ⟨0,0,0,rfl,by omega,rfl,rfl,Nat.le_refl _,by omega,by rw [part_self]; simp,hcut⟩
  ·rintro m t H5 ⟨i,c,a,rfl,hi,rfl,hH5,hai,hcl,hno,hcc⟩
   by_cases hci : (i : Int) < S.length
   ·have hd1 : decide ((i : Int) < S.length) = true := decide_eq_true hci
    have hb : S[i]? = some S[i] := List.getElem?_eq_getElem (by omega)
    generalize S[i] = b at hb
    have hix : aindexStr (.str (bs S)) (.int .i64 (i : Int)) = some (.int .u8 (b.toNat : Int)) := aindexStr_bs hb
    by_cases hb10 : (b.toNat : Int) = 10
    ·have hbe : b = 10 := UInt8.toNat_inj.1 (by show b.toNat = 10; omega)
     have hd2 : decide ((b.toNat : Int) ≠ 10) = false := decide_eq_false (fun h => h hb10)
     have hch := cut_hit hai (by rw [hbe] at hb; exact hb) hno
     rw [hch] at hcc
     have hcl2 : c < ws.length := by
      rcases Nat.lt_or_ge c ws.length with h | h
      ·exact h
      ·rw [List.drop_eq_nil_of_le h] at hcc
       simp only [List.nil_append] at hcc
       injection hcc with _ hcc
       exact absurd hcc (cutAt_ne _ _)
     have hdr : ws.drop c = ws[c] :: ws.drop (c + 1) := List.drop_eq_getElem_cons hcl2
     rw [hdr,List.cons_append] at hcc
     injection hcc with hw hcc
     have hgd : ws.getD c [] = part S a i := by rw [List.getD_eq_getElem?_getD,List.getElem?_eq_getElem hcl2,Option.getD_some,hw]
     have hsl : asliceStr (.str (bs S)) (some (.int .i64 (a : Int))) (some (.int .i64 ((i : Int) + 1))) = some (.str (bs (part S a i ++ [10]))) := by
      have h := asliceStr_bs (l := S) (i := a) (j := i + 1) (k1 := .i64) (k2 := .i64) ⟨by omega,by omega⟩
      have h2 := part_snoc hai hb
      unfold part at h2 ⊢
      rw [h2,hbe] at h
      exact h
     have hpl := part_length hai (by omega : i ≤ S.length)
     have hT := htl c hcl
     have hG := hgN c
     have hga := gapAt_lt gs c
     obtain ⟨T,hTe⟩ : ∃ T,T = textG gs ws c := ⟨_,rfl⟩
     obtain ⟨N,hNe⟩ : ∃ N,N = gapN (psG gs ws c) := ⟨_,rfl⟩
     have hts := textG_succ gs ws c
     have hns := gapN_succ gs ws c
     rw [hgd] at hts
     rw [← hTe] at hts hT ⊢
     rw [← hNe] at hns hG ⊢
     obtain ⟨k,hk⟩ : ∃ k : Nat,k = gapAt gs c := ⟨_,rfl⟩
     rw [← hk] at hts hns hga
     have z1 : ([10] : List UInt8).length = 1 := rfl
     by_cases hcg : (c : Int) < gs.length
     ·have hd3 : decide ((c : Int) < gs.length) = true := decide_eq_true hcg
      obtain ⟨iq,oq,e1,_,e2⟩ := (hg5 H5 hH5).at1 (j := c) (x := .int .i64 gs[c]) (k := .i64) (by omega) (by
       have : c < gs.length := by omega
       simp [ints,this])
      have hgb := hgx _ (List.getElem_mem (show c < gs.length by omega))
      have hkv : gs[c] % 4 = (k : Int) := by
       rw [hk]
       unfold gapAt
       rw [if_pos (by omega),List.getD_eq_getElem?_getD,List.getElem?_eq_getElem (by omega),Option.getD_some]
       have := Int.emod_nonneg gs[c] (show (4 : Int) ≠ 0 by omega)
       omega
      generalize gs[c] = q at *
      simp (disch := first | omega | (simp only [next_new,next_upd] <;> omega) | fail) only [vai,vaim,vaic,vas,bots,Bool.not_true,Bool.not_false,decide_true,decide_false,wrap64,hd1,hix,hd2,hlg,hd3,e1,e2,Nat.reduceAdd,Nat.reduceMul,Nat.reduceLeDiff,Nat.reduceEqDiff,↓reduceIte]
      refine within_ret rfl (by omega) (by omega) ?_
      rw [hkv]
      try simp (disch := first | omega | (simp only [next_new,next_upd] <;> omega) | fail) only [vai,vaim,vaic,vas,bots,Bool.not_true,Bool.not_false,decide_true,decide_false,wrap64,Nat.reduceAdd,Nat.reduceMul,Nat.reduceLeDiff,Nat.reduceEqDiff,↓reduceIte]
      refine wpx_loop (fun m t H' => ∃ (j : Nat),m = k - j ∧ j ≤ k ∧ t = (bots 2 (gv :: .bool false :: bots 5 (.ptr H2.next 0 :: .str (bs S) :: .str (bs (T ++ List.replicate j 10)) :: .int .i64 ((N : Nat) : Int) :: .int .i64 a :: .int .i64 c :: .int .i64 i :: .int .i64 k :: .int .i64 j :: bots 79 ([]))) : Tmps) ∧ H' = H5) k ?_ ?_
      ·exact ⟨0,rfl,by omega,by rw [List.replicate_zero,List.append_nil]; rfl,rfl⟩
      ·rintro m t H6 ⟨j,rfl,hj,rfl,hH6⟩
       have hTl : (T ++ List.replicate j (10 : UInt8)).length = T.length + j := by simp
       by_cases hcj : (j : Int) < k
       ·have hdj : decide ((j : Int) < k) = true := decide_eq_true hcj
        have hrs : T ++ List.replicate j (10 : UInt8) ++ [10] = T ++ List.replicate (j + 1) 10 := by rw [List.replicate_succ',List.append_assoc]
        simp (disch := first | omega | (simp only [next_new,next_upd] <;> omega) | fail) only [vai,vaim,vaic,vas,bots,Bool.not_true,Bool.not_false,decide_true,decide_false,wrap64,hdj,hrs,Nat.reduceAdd,Nat.reduceMul,Nat.reduceLeDiff,Nat.reduceEqDiff,↓reduceIte]
        exact ⟨k - (j + 1),by omega,j + 1,rfl,by omega,rfl,hH6⟩
       ·have hdj : decide ((j : Int) < k) = false := decide_eq_false hcj
        have hjk : j = k := by omega
        subst hjk
        have hpp : (part S a i ++ [10]).length = i - a + 1 := by rw [List.length_append,hpl]; rfl
        have hts2 : T ++ List.replicate j 10 ++ (part S a i ++ [10]) = textG gs ws (c + 1) := by rw [hts,List.append_assoc]
        have hns2 : (N : Int) + j + 1 = ((gapN (psG gs ws (c + 1)) : Nat) : Int) := by rw [hns]; omega
        simp (disch := first | omega | (simp only [next_new,next_upd] <;> omega) | fail) only [vai,vaim,vaic,vas,bots,Bool.not_true,Bool.not_false,decide_true,decide_false,wrap64,hdj,hsl,hts2,hns2,Nat.reduceAdd,Nat.reduceMul,Nat.reduceLeDiff,Nat.reduceEqDiff,↓reduceIte]
        exact ⟨S.length - (i + 1),by omega,i + 1,c + 1,i + 1,rfl,by omega,rfl,hH6.trans hH5,Nat.le_refl _,hcl2,by rw [part_self]; simp,hcc⟩
     ·have hd3 : decide ((c : Int) < gs.length) = false := decide_eq_false hcg
      have hk0 : k = 0 := by
       rw [hk]
       unfold gapAt
       rw [if_neg (by omega)]
      simp (disch := first | omega | (simp only [next_new,next_upd] <;> omega) | fail) only [vai,vaim,vaic,vas,bots,Bool.not_true,Bool.not_false,decide_true,decide_false,wrap64,hd1,hix,hd2,hlg,hd3,Nat.reduceAdd,Nat.reduceMul,Nat.reduceLeDiff,Nat.reduceEqDiff,↓reduceIte]
      rw [hk0] at hts hns
      refine wpx_loop (fun m t H' => t = (bots 2 (gv :: .bool false :: bots 5 (.ptr H2.next 0 :: .str (bs S) :: .str (bs T) :: .int .i64 ((N : Nat) : Int) :: .int .i64 a :: .int .i64 c :: .int .i64 i :: .int .i64 0 :: .int .i64 0 :: bots 79 ([]))) : Tmps) ∧ H' = H5) 0 ?_ ?_
      ·exact ⟨rfl,rfl⟩
      ·rintro m t H6 ⟨rfl,hH6⟩
       have hdj : decide ((0 : Int) < 0) = false := rfl
       have hpp : (part S a i ++ [10]).length = i - a + 1 := by rw [List.length_append,hpl]; rfl
       have hts2 : T ++ (part S a i ++ [10]) = textG gs ws (c + 1) := by rw [hts]; simp
       have hns2 : (N : Int) + 0 + 1 = ((gapN (psG gs ws (c + 1)) : Nat) : Int) := by rw [hns]; omega
       have hns3 : (N : Int) + 1 = ((gapN (psG gs ws (c + 1)) : Nat) : Int) := by rw [hns]; omega
       have hN0 : (N : Int) + 0 = N := by omega
       simp (disch := first | omega | (simp only [next_new,next_upd] <;> omega) | fail) only [vai,vaim,vaic,vas,bots,Bool.not_true,Bool.not_false,decide_true,decide_false,wrap64,hdj,hsl,hts2,hN0,hns2,hns3,Nat.reduceAdd,Nat.reduceMul,Nat.reduceLeDiff,Nat.reduceEqDiff,↓reduceIte]
       exact ⟨S.length - (i + 1),by omega,i + 1,c + 1,i + 1,rfl,by omega,rfl,hH6.trans hH5,Nat.le_refl _,hcl2,by rw [part_self]; simp,hcc⟩
    ·have hd2 : decide ((b.toNat : Int) ≠ 10) = true := decide_eq_true hb10
     have hbn : b ≠ 10 := fun h => by subst h; exact hb10 rfl
     simp (disch := first | omega | (simp only [next_new,next_upd] <;> omega) | fail) only [vai,vaim,vaic,vas,bots,Bool.not_true,Bool.not_false,decide_true,decide_false,wrap64,hd1,hix,hd2,Nat.reduceAdd,Nat.reduceMul,Nat.reduceLeDiff,Nat.reduceEqDiff,↓reduceIte]
     exact ⟨S.length - (i + 1),by omega,i + 1,c,a,rfl,by omega,rfl,hH5,by omega,hcl,part_step hai hb hbn hno,hcc⟩
   ·have hd1 : decide ((i : Int) < S.length) = false := decide_eq_false hci
    have hiS : i = S.length := by omega
    subst hiS
    have hce := cut_end (l := S) (a := a) hai hno
    rw [hce] at hcc
    have hcw : c = ws.length := by
     have := congrArg List.length hcc
     simp only [List.length_append,List.length_drop,List.length_cons,List.length_nil] at this
     omega
    subst hcw
    subst hH5
    simp (disch := first | omega | (simp only [next_new,next_upd] <;> omega) | fail) only [vai,vaim,vaic,vas,bots,Bool.not_true,Bool.not_false,decide_true,decide_false,wrap64,hd1,Nat.reduceAdd,Nat.reduceMul,Nat.reduceLeDiff,Nat.reduceEqDiff,↓reduceIte]
    refine parse_ret (s := textG gs ws ws.length) fun ev4 H6 k6 g6 => ?_
    rw [hpar] at g6 ⊢
    simp only [Bool.false_eq_true,if_false] at g6 ⊢
    have h00 : decide ((0 : Int) = 0) = true := rfl
    have hn0 : ((0 : Nat) : Int) = 0 := rfl
    have hc6 := g6.cells
    have n6 := k6.next
    have o6 := (k6.old (by omega)).trans o3
    have hev6 := hevT.kept k6
    have kC : Keep Nothing H6 ((H6.new (.cells [.int .i64 0,.nilSlice] true)).upd H6.next (some (.cells [.int .i64 X.n,ev4] true))) := ((Keep.refl _ _).new _).upd (.inl (Nat.le_refl _)) _
    simp (disch := first | omega | (simp only [next_new,next_upd] <;> omega) | fail) only [vai,vaim,vaic,vas,bots,Bool.not_true,Bool.not_false,decide_true,decide_false,wrap64,hc6,h00,hn0,o6,Nat.reduceAdd,Nat.reduceMul,Nat.reduceLeDiff,Nat.reduceEqDiff,↓reduceIte]
    refine same_ret (g6.row.kept kC) (hev6.kept kC) (by omega) fun r H7 k7 s7 => ?_
    have hr7 : r = true := s7.2 ⟨rfl,rfl⟩
    subst hr7
    simp (disch := first | omega | (simp only [next_new,next_upd] <;> omega) | fail) only [vai,vaim,vaic,vas,bots,Bool.not_true,Bool.not_false,decide_true,decide_false,wrap64,Nat.reduceAdd,Nat.reduceMul,Nat.reduceLeDiff,Nat.reduceEqDiff,↓reduceIte]
    exact hq _
end Go.Proofs.YtknhlpmmalcchaaDoor

/- Closed facts of the program: what its head says,read as a list of signs (the kernel is slow at a long text's own signs). -/
namespace Go.Proofs.YtknhlpmmalcchaaDoor
open Go Go.ChangeShapes Go.WideShapes Go.ChangeAt Go.RowKit
set_option maxRecDepth 100000
def headSigns : List Char := List.map Char.ofNat [104,97,114,110,101,115,115,32,100,56,52,52,54,101,57,49,48,51,57,48,50,102,56,55,52,52,97,54,55,56,100,53,55,49,56,99,53,101,53,98,51,101,100,101,57,48,48,55,99,57,56,49,97,98,102,52,100,52,54,49,57,100,50,97,57,97,102,53,102,54,51,56,32,99,117,116,32,97,116,32,109,105,108,101,115,116,111,110,101,47,109,105,108,101,115,116,111,110,101,108,97,119,49,46,78,101,116,67,104,101,99,107,115,32,109,105,108,101,115,116,111,110,101,47,109,105,108,101,115,116,111,110,101,108,97,119,49,46,78,101,116,82,101,97,100,115,32,109,105,108,101,115,116,111,110,101,47,109,105,108,101,115,116,111,110,101,108,97,119,49,46,78,101,116,75,110,111,119,110,32,109,105,108,101,115,116,111,110,101,47,109,105,108,101,115,116,111,110,101,108,97,119,49,46,78,101,116,76,105,109,105,116,115,32,109,105,108,101,115,116,111,110,101,47,109,105,108,101,115,116,111,110,101,108,97,119,49,46,78,101,116,87,97,108,107,115,32,109,105,108,101,115,116,111,110,101,47,109,105,108,101,115,116,111,110,101,108,97,119,49,46,78,101,116,74,111,105,110,115,32,109,105,108,101,115,116,111,110,101,47,109,105,108,101,115,116,111,110,101,108,97,119,49,46,78,101,116,67,111,115,116,115,32,109,105,108,101,115,116,111,110,101,47,109,105,108,101,115,116,111,110,101,108,97,119,49,46,78,101,116,66,97,99,107,32,109,105,108,101,115,116,111,110,101,47,109,105,108,101,115,116,111,110,101,108,97,119,49,46,78,101,116,76,105,110,101,115,32,109,105,108,101,115,116,111,110,101,47,109,105,108,101,115,116,111,110,101,108,97,119,49,46,78,101,116,65,112,97,114,116]
theorem head_eq : Tryd.prog.initOrder = String.ofList headSigns := by kernel_rfl
theorem head_list : Tryd.prog.initOrder.toList = headSigns := by rw [head_eq,String.toList_ofList]
theorem head_words : ∃ rest,behindMainWord (wordsSigns headSigns) = "cut".toList :: rest := ⟨(behindMainWord (wordsSigns headSigns)).tail,by kernel_rfl⟩
theorem strip_cut (rest : List (List Char)) : stripLifts liftWords ("cut".toList :: rest) = ([],"cut".toList :: rest) := by kernel_rfl
theorem ne1 : ("cut".toList == "gc".toList) = false := by kernel_rfl
theorem ne2 : ("cut".toList == "spec".toList) = false := by kernel_rfl
theorem ne3 : ("cut".toList == "carried".toList) = false := by kernel_rfl
theorem words_of : ∃ rest,behindMainWord (wordsSigns Tryd.prog.initOrder.toList) = "cut".toList :: rest := by
 obtain ⟨rest,h⟩ := head_words
 exact ⟨rest,(congrArg (fun l => behindMainWord (wordsSigns l)) head_list).trans h⟩
theorem make_of (P : Program) (rest : List (List Char)) (h : behindMainWord (wordsSigns P.initOrder.toList) = "cut".toList :: rest) : P.make = some .cut := by
 unfold Program.make
 rw [h]
 simp only [ne1,ne2,beq_self_eq_true,Bool.false_or,Bool.true_or,Bool.or_self,Bool.false_eq_true,if_true,if_false]
theorem lifts_of (P : Program) (rest : List (List Char)) (h : behindMainWord (wordsSigns P.initOrder.toList) = "cut".toList :: rest) : P.liftsFinal = false := by
 unfold Program.liftsFinal Program.headLifts
 rw [h]
 have e : ((some "cut".toList : Option (List Char)) == some "carried".toList) = false := by kernel_rfl
 simp only [strip_cut,List.head?_cons,beq_self_eq_true,if_true,e,Bool.false_and,Bool.false_or]
 rfl
theorem enter_of (P : Program) (rest : List (List Char)) (h : behindMainWord (wordsSigns P.initOrder.toList) = "cut".toList :: rest) (h1 : P.laysLater = false) (h2 : P.bearsReflect = false) (h3 : P.doorFits [] = true) : P.mayEnter = true := by
 unfold Program.mayEnter
 rw [h]
 simp only [strip_cut,ne1,ne2,ne3,h1,h2,h3,List.head?_cons,beq_self_eq_true,Bool.false_or,Bool.or_false,Bool.false_and,Bool.true_and,Bool.and_true,Bool.not_false,Bool.or_true,List.contains_nil]
theorem fact_make : Tryd.prog.make = some .cut := by
 obtain ⟨rest,h⟩ := words_of
 exact make_of _ _ h
theorem fact_lifts : Tryd.prog.liftsFinal = false := by
 obtain ⟨rest,h⟩ := words_of
 exact lifts_of _ _ h
theorem fact_later : Tryd.prog.laysLater = false := by kernel_rfl
theorem fact_reflect : Tryd.prog.bearsReflect = false := by kernel_rfl
theorem fact_door : Tryd.prog.doorFits [] = true := by kernel_rfl
theorem fact_enter : Tryd.prog.mayEnter = true := by
 obtain ⟨rest,h⟩ := words_of
 exact enter_of _ _ h fact_later fact_reflect fact_door
theorem fact_laid : laidOutB Tryd.prog = true := by kernel_rfl
theorem fact_maps : mapsRowed Tryd.prog = true := by kernel_rfl
theorem fact_heard : Tryd.prog.stopsHeard = true := by kernel_rfl
theorem own : ownKnob Tryd.prog.godebug = none := by kernel_rfl
theorem follows : Tryd.prog.follows .mixedOrders = true := by kernel_rfl
end Go.Proofs.YtknhlpmmalcchaaDoor

/- What the rows' condition gives of the package variables at the start; the builder that hands both it and the world's shape to the contract. -/
namespace Go
variable {H : Type} {enc : TypeId × Value → H}
theorem returnsInHanded_of_change_both {a : Assume} {C : Checked} {os : Os} {f : FuncId} {fn : Func} {s : ChangeSpec} {conds : List PathCond} {apart fresh handsOn again : Bool} {X : World → Array Value → Prop}
  (hX : ∀ (w w' : World) (args : Array Value),w.heap = w'.heap → X w args → X w' args)
  (own : ownKnob C.prog.godebug = none) (started : os.Started) (noInit : C.prog.inits.idxOf? f = none) (hfn : C.prog.funcs[f]? = some fn)
  (witness : ∃ (w : World) (tape : Tape) (i : Input),w.os = os ∧ (w.forCall tape i).Shaped C.prog ∧ i.vars = [] ∧ Input.okWide C.prog (w.forCall tape i) .any w.heap.size f i ∧
   ((s.pre enc C.prog fn conds apart (w.forCall tape i).memory i.args ∧ X (w.forCall tape i).memory i.args) ∧ sizedMet enc C.prog fn (OpenSpec.ofChange s) apart (w.forCall tape i).memory i.args) ∧ a.holds C.prog (lone (Frame.enter C.prog f i.args .normal) [] (w.forCall tape i)))
  (contract : ∀ (W : World) (base : Nat) (args : Array Value) (ds gs : List (DataW H)) (before : List MemPlace),
   (∀ (j : Nat) t v,fn.params[j]? = some t → args[j]? = some v → Value.okWide C.prog W .any base t v) →
   DataW.Whole enc C.prog fn.params.toList s.vars apart W args.toList ds gs before →
   X W args → W.ShapedOpen C.prog →
   Calls C.prog f args W fun e W' => ∃ v,e = .returned v ∧ s.post enc C.prog fn apart fresh handsOn again W args v W') :
  ReturnsInHanded a C os f .any (fun w args => (s.pre enc C.prog fn conds apart w args ∧ X w args) ∧ sizedMet enc C.prog fn (OpenSpec.ofChange s) apart w args) (s.post enc C.prog fn apart fresh handsOn again) := by
 refine returnsInHanded_of_calls own started noInit witness ?_
 intro w tape i _ hsh _ hok hpre hholds
 obtain ⟨_,_,_,fn',hfn',_,_,_,_,hval⟩ := hok
 have e : fn' = fn := Option.some.inj (hfn'.symm.trans hfn)
 subst e
 obtain ⟨⟨⟨ds,gs,before,hw,hc⟩,hx⟩,hz⟩ := hpre
 have hw' := DataW.Whole.of_heap (w' := w.forCall tape i) (by rfl) hw
 refine (contract (w.forCall tape i) w.heap.size i.args ds gs before hval hw' (hX _ _ _ (by rfl) hx) hsh).mono fun e W' ⟨v,he,hp⟩ => ?_
 subst he
 exact ChangeSpec.post_blind hp
end Go
namespace Go.Proofs.YtknhlpmmalcchaaDoor
open Go Go.VAI Go.ChangeShapes Go.WideShapes Go.ChangeAt Go.RowKit
set_option linter.unusedVariables false
set_option linter.unusedSimpArgs false
def laidD : List (String × DataW Unit) := Rows.netKnownRow.laid
theorem laidD_plain : (laidD.all fun x => x.2.handleName?.isNone) = true := by kernel_rfl
theorem pow_data : (Rows.laid_internal_strconv_uint64pow10 : DataW Unit) = Lib.tabData .u64 Lib.pow10Tab := by kernel_rfl
theorem gErrR : Tryd.prog.globalNamed "strconv.ErrRange" = some 5 := by kernel_rfl
theorem gErrS : Tryd.prog.globalNamed "strconv.ErrSyntax" = some 4 := by kernel_rfl
theorem tPow : (Tryd.prog.globals[1]?).map (·.type) = some 108 := by kernel_rfl
theorem tErrR : (Tryd.prog.globals[5]?).map (·.type) = some 71 := by kernel_rfl
theorem tErrS : (Tryd.prog.globals[4]?).map (·.type) = some 71 := by kernel_rfl
theorem cellsPow : Tryd.prog.cellsOf 108 = 20 := by kernel_rfl
theorem iface_of_trod {P : Program} {w : World} {base : Nat} {sp : Nat → Bool} {held : Bool} {fuel : Nat} {t : TypeId} {ms : Array (String × TypeId)} {cs : List Value} {x : DataW Unit × List MemPlace} {enc : TypeId × Value → Unit}
  (ht : P.underlying t = some (.interface ms)) (h : DataW.trod enc P w base sp held fuel t cs = some x) : ∃ v,cs = [v] ∧ (v = .nilIface ∨ ∃ te pe,v = .iface te pe) := by
 cases fuel with
 | zero => simp [DataW.trod] at h
 | succ fuel =>
  match cs,h with
  | [],h => simp [DataW.trod,ht] at h
  | [v],h =>
   refine ⟨v,rfl,?_⟩
   cases v <;> first
    | exact .inl rfl
    | exact .inr ⟨_,_,rfl⟩
    | (exfalso; simp [DataW.trod,ht] at h)
  | _ :: _ :: _,h => simp [DataW.trod,ht] at h
set_option maxRecDepth 100000 in
theorem glob_of_laid {W : World} (h : laidMetH Tryd.prog laidD W) (hs : W.ShapedOpen Tryd.prog) : Glob W := by
 rw [MakeChecks.laidMetH_plain _ _ _ laidD_plain] at h
 obtain ⟨ps,⟨_,_,_,_,_,_,_,_,_,_,⟨_,_,_,_,_,_,_,_,_,_,⟨g,t,cs,fuel,p,q,hg,ht,hv,hd,⟨_,_,_,_,_,_,_,_,_,_,⟨g5,t5,cs5,f5,p5,q5,hg5,ht5,hv5,hd5,⟨g4,t4,cs4,f4,p4,q4,hg4,ht4,hv4,hd4,_,_⟩,_⟩,_⟩,_⟩,_⟩,_⟩,_,_⟩ := h
 obtain rfl := Option.some.inj (gPow.symm.trans hg)
 obtain rfl := Option.some.inj (tPow.symm.trans ht)
 obtain rfl := Option.some.inj (gErrR.symm.trans hg5)
 obtain rfl := Option.some.inj (tErrR.symm.trans ht5)
 obtain rfl := Option.some.inj (gErrS.symm.trans hg4)
 obtain rfl := Option.some.inj (tErrS.symm.trans ht4)
 have iface : ∀ (n : String) (b : Nat) (cs : Array Value) x fuel,Tryd.prog.globalNamed n = some b → W.var? Tryd.prog n = some cs → DataW.trod (fun _ => ()) Tryd.prog W 0 (fun _ => true) false fuel 71 cs.toList = some x → IfaceAt W b := fun n b cs x fuel hg hv hd => by
  obtain ⟨v,e1,e2⟩ := iface_of_trod Tryd.underlying71 hd
  refine ⟨v,?_,e2⟩
  have := World.var?_cell hg hv 0
  rw [this,← Array.getElem?_toList,e1]
  rfl
 refine ⟨Tryd.split.s1_3 W hs,?_,?_,?_⟩
 ·rw [pow_data] at hd
  have e := Lib.cells_of_tab Tryd.underlying108 Tryd.underlying93 (by kernel_rfl) cellsPow hd
  have hv' : World.var? Tryd.prog W powName = some cs := hv
  unfold World.var? at hv'
  rw [gPow] at hv'
  simp only [Option.bind_some] at hv'
  split at hv'
  ·rename_i c E fz hb
   injection hv' with hv'
   subst hv'
   refine ⟨E,fz,?_⟩
   rw [hb,← pow_eq,← e]
  ·cases hv'
 ·exact iface _ 4 cs4 _ f4 gErrS hv4 hd4
 ·exact iface _ 5 cs5 _ f5 gErrR hv5 hd5
end Go.Proofs.YtknhlpmmalcchaaDoor
