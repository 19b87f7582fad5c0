/- Steps of the walk. -/
import Derived.Test.YtknhlpmmalcchaaGreatG3Fa
import Derived.Test.YtknhlpmmalcchaaGreatG3Vba
import Derived.Test.YtknhlpmmalcchaaGreatG3Pa
set_option linter.all false
set_option linter.unusedVariables false
set_option linter.unusedSimpArgs false
namespace Go.Proofs.YtknhlpmmalcchaaGreat
open Go Go.VAI
theorem tmod_neg {x n:Int} (hn:0 < n) (h:x.tmod n < 0):x.tmod n+n=x % n:=by
 have h1:=Int.tmod_eq_emod (a:=x) (b:=n)
 have h2:=Int.emod_nonneg x (show n≠0 by omega)
 have h3:=Int.emod_lt_of_pos x hn
 by_cases hc:0≤x∨n ∣ x
 ·rw [if_pos hc] at h1; omega
 ·rw [if_neg hc] at h1; omega
theorem tmod_pos {x n:Int} (hn:0 < n) (h:¬ x.tmod n < 0):x.tmod n=x % n:=by
 have h1:=Int.tmod_eq_emod (a:=x) (b:=n)
 have h2:=Int.emod_nonneg x (show n≠0 by omega)
 have h3:=Int.emod_lt_of_pos x hn
 by_cases hc:0≤x∨n ∣ x
 ·rw [if_pos hc] at h1; omega
 ·rw [if_neg hc] at h1; omega
theorem yE {f:Nat} (hf:A f=some F12) {x n:Int} (hn:0 < n) (h3:n < 9223372036854775808) {H:AHeap} {Q:AVal→AHeap→Prop} (hq:Q (.int .i64 (x % n)) H):Ret A f [.int .i64 x,.int .i64 n] H Q:=by
 refine Ret.of (fn:=F12) hf ?_
 have hn0:n≠0:=by omega
 have h2:=Int.emod_nonneg x hn0
 have h4:=Int.emod_lt_of_pos x hn
 simp (disch:=omega) only [vai,F12]
 refine condK_split (fun hc=>?_) (fun hc=>?_)
 ·have e:=tmod_neg hn hc
  simp (disch:=omega) only [vai,e,xH]
  exact hq
 ·have e:=tmod_pos hn hc
  simp (disch:=omega) only [vai,e]
  exact hq
end Go.Proofs.YtknhlpmmalcchaaGreat

namespace Go.Proofs.YtknhlpmmalcchaaGreat
open Go Go.VAI
set_option linter.unusedSimpArgs false

def Edge.cells (e:Edge):List AVal:=[.int .i64 e.src,.int .i64 e.dst,.int .i64 e.mode,.int .i64 e.cost]
def xG (l:List Edge):List AVal:=l.flatMap Edge.cells
def zK (n modes k:Int):Edge :=
 let a:=k % n
 let b:=k.tdiv 13 % n
 let m:=k.tdiv 170 % 5
 { src:=a,dst:=b,mode:=if modes % 3=0 then (a+b) % 2 else if modes % 3=1 then (m*a) % 3 else m,cost:=if k % 31=0 then 2147483647 - k.tdiv 31 % 3 else k.tdiv 900 % 9 }
def I64 (x:Int):Prop := -9223372036854775808≤x∧x < 9223372036854775808
theorem tdiv_bd {x c:Int} (h:I64 x) (hc:0 < c) : -9223372036854775808≤x.tdiv c∧x.tdiv c < 9223372036854775808:=by
 obtain ⟨h1,h2⟩:=h
 have h3:=Int.natAbs_tdiv_le_natAbs x c
 constructor
 ·by_cases hx:0≤x
  ·have:=Int.tdiv_nonneg hx (Int.le_of_lt hc); omega
  ·omega
 ·by_cases hx:0≤x
  ·omega
  ·have h4:=Int.tdiv_nonneg (a := -x) (b:=c) (by omega) (Int.le_of_lt hc)
   rw [Int.neg_tdiv] at h4
   omega
theorem xU (l:List Edge):(xG l).length=l.length*4:=by
 induction l with
 | nil=>rfl
 | cons e l ih=>simp only [xG,List.flatMap_cons,List.length_append] at ih ⊢; rw [ih]; simp [Edge.cells]; omega

theorem make_ret {size modes:Int} {ns:AVal} {xs:List Int} {H:AHeap} {Q:AVal→AHeap→Prop} (hr:Row H ns 1 (xL xs)) (hx:∀ x∈xs,I64 x) (hx2:xs.length≤9223372036854775807)
  (hq:∀ ev H',Keep Nothing H H'→Grown H.next H' ev 4 (xG ((xs.take 40).map (zK (1+size % 12) modes)))→Q (.agg [.int .i64 (1+size % 12),ev]) H'):Ret A 8 [.int .i64 size,ns,.int .i64 modes] H Q:=by
 refine Ret.of (fn:=F8) rfl ?_
 simp (disch:=first | omega | (simp only [xB,xC] <;> omega) | fail) only [vai,xI,xH,F8,Nat.reduceAdd,Nat.reduceMul,Nat.reduceLeDiff,Nat.reduceEqDiff,↓reduceIte]
 refine yE rfl (by omega) (by omega) ?_
 have hN1:0≤size % 12:=by omega
 have hN2:size % 12 < 12:=by omega
 simp (disch:=first | omega | (simp only [xB,xC] <;> omega) | fail) only [vai,xI,xH,Nat.reduceAdd,Nat.reduceMul,Nat.reduceLeDiff,Nat.reduceEqDiff,↓reduceIte]
 refine xS (fun m t H'=>∃ (i:Nat) (ev:AVal),m=xs.length - i∧i≤xs.length∧i≤40 ∧
  t=[.bot,ns,.int .i64 modes,.bot,.bot,.bot,.ptr H.next 0,.ptr (H.next+1) 0,.int .i64 i]++List.replicate 71 .bot∧Keep Nothing H H'∧H.next+2≤H'.next ∧
  H'.obj H.next=some (.cells [.int .i64 0,.nilSlice] true)∧H'.obj (H.next+1)=some (.cells [.int .i64 (1+size % 12),ev] true)∧Grown (H.next+2) H' ev 4 (xG ((xs.take i).map (zK (1+size % 12) modes)))) xs.length ?_ ?_
 ·refine ⟨0,.nilSlice,rfl,by omega,by omega,rfl,?_,?_,?_,?_,.nil⟩
  ·exact (((Keep.refl _ _).new _).new _).upd (.inl (by omega)) _
  ·simp only [xB,xC]; exact Nat.le_refl _
  ·simp (disch:=first | omega | (simp only [xB,xC] <;> omega) | fail) only [xI]
  ·simp (disch:=first | omega | (simp only [xB,xC] <;> omega) | fail) only [xI]
 ·rintro m t H1 ⟨i,ev,rfl,hi1,hi2,rfl,hk,hn,h6,h7,hg⟩
  have hr1:Row H1 ns 1 (xL xs):=hr.kept hk
  have hlen:=hr1.len1
  simp only [xL,List.length_map] at hlen
  by_cases hc1:(i:Int) < xs.length
  ·by_cases hc2:(i:Int) < 40
   ·have hix:i < xs.length:=by omega
    obtain ⟨id,off,e1,hid,e2⟩:=hr1.at1 (j:=i) (x:=.int .i64 xs[i]) (k:=.i64) (by omega) (by simp [xL,hix])
    have hb:=hx xs[i] (List.getElem_mem hix)
    have htake:(xs.take (i+1)).map (zK (1+size % 12) modes)=(xs.take i).map (zK (1+size % 12) modes)++[zK (1+size % 12) modes xs[i]]:=by
     rw [List.take_succ_eq_append_getElem hix,List.map_append]; rfl
    generalize xs[i]=x at e2 hb htake
    have d13:=tdiv_bd hb (c:=13) (by omega)
    have d170:=tdiv_bd hb (c:=170) (by omega)
    have d900:=tdiv_bd hb (c:=900) (by omega)
    have d31:=tdiv_bd hb (c:=31) (by omega)
    simp (disch:=first | omega | (simp only [xB,xC] <;> omega) | fail) only [vai,xI,xH,hlen,List.replicate,hc1,hc2,decide_true,e1,e2,h6,h7,Nat.reduceAdd,Nat.reduceMul,Nat.reduceLeDiff,Nat.reduceEqDiff,↓reduceIte]
    refine yE rfl (by omega) (by omega) ?_
    have a1:=Int.emod_nonneg x (show 1+size % 12≠0 by omega)
    have a2:=Int.emod_lt_of_pos x (show 0 < 1+size % 12 by omega)
    generalize ha:x % (1+size % 12)=a at a1 a2
    simp (disch:=first | omega | (simp only [xB,xC] <;> omega) | fail) only [vai,xI,xH,h6,h7,Nat.reduceAdd,Nat.reduceMul,Nat.reduceLeDiff,Nat.reduceEqDiff,↓reduceIte]
    refine yE rfl (by omega) (by omega) ?_
    have b1:=Int.emod_nonneg (x.tdiv 13) (show 1+size % 12≠0 by omega)
    have b2:=Int.emod_lt_of_pos (x.tdiv 13) (show 0 < 1+size % 12 by omega)
    generalize hb':x.tdiv 13 % (1+size % 12)=b at b1 b2
    simp (disch:=first | omega | (simp only [xB,xC] <;> omega) | fail) only [vai,xI,xH,h6,h7,Nat.reduceAdd,Nat.reduceMul,Nat.reduceLeDiff,Nat.reduceEqDiff,↓reduceIte]
    refine yE rfl (by omega) (by omega) ?_
    simp (disch:=first | omega | (simp only [xB,xC] <;> omega) | fail) only [vai,xI,xH,h6,h7,Nat.reduceAdd,Nat.reduceMul,Nat.reduceLeDiff,Nat.reduceEqDiff,↓reduceIte]
    refine yE rfl (by omega) (by omega) ?_
    simp (disch:=first | omega | (simp only [xB,xC] <;> omega) | fail) only [vai,xI,xH,h6,h7,Nat.reduceAdd,Nat.reduceMul,Nat.reduceLeDiff,Nat.reduceEqDiff,↓reduceIte]
    refine yE rfl (by omega) (by omega) ?_
    simp (disch:=first | omega | (simp only [xB,xC] <;> omega) | fail) only [vai,xI,xH,h6,h7,Nat.reduceAdd,Nat.reduceMul,Nat.reduceLeDiff,Nat.reduceEqDiff,↓reduceIte]
    by_cases m0:modes % 3=0
    ·simp (disch:=first | omega | (simp only [xB,xC] <;> omega) | fail) only [vai,xI,xH,m0,decide_true,h6,h7,Nat.reduceAdd,Nat.reduceMul,Nat.reduceLeDiff,Nat.reduceEqDiff,↓reduceIte]
     refine yE rfl (by omega) (by omega) ?_
     simp (disch:=first | omega | (simp only [xB,xC] <;> omega) | fail) only [vai,xI,xH,h6,h7,Nat.reduceAdd,Nat.reduceMul,Nat.reduceLeDiff,Nat.reduceEqDiff,↓reduceIte]
     refine yE rfl (by omega) (by omega) ?_
     by_cases c0:x % 31=0
     ·simp (disch:=first | omega | (simp only [xB,xC] <;> omega) | fail) only [vai,xI,xH,c0,decide_true,h6,h7,Nat.reduceAdd,Nat.reduceMul,Nat.reduceLeDiff,Nat.reduceEqDiff,↓reduceIte]
      refine yE rfl (by omega) (by omega) ?_
      simp (disch:=first | omega | (simp only [xB,xC] <;> omega) | fail) only [vai,xI,xH,h6,h7,Nat.reduceAdd,Nat.reduceMul,Nat.reduceLeDiff,Nat.reduceEqDiff,↓reduceIte]
      refine wC (n:=i) hg (by simp only [xB,xC]; omega) (fun j h1 h2=>by simp (disch:=first | omega | (simp only [xB,xC] <;> omega) | fail) only [xI]) (by simp (disch:=first | omega | (simp only [xB,xC] <;> omega) | fail) only [xI]; rfl) rfl (by omega) (by omega) (by rw [xU]; simp; omega) (by omega) (by omega) (by simp only [xB,xC]; omega) ?_
      intro v' H' hn' hk' hg'
      have k6:H'.obj H.next=some (.cells [.int .i64 0,.nilSlice] true):=by rw [hk' _ (by omega)]; simp (disch:=first | omega | (simp only [xB,xC] <;> omega) | fail) only [xI,h6]
      have k7:H'.obj (H.next+1)=some (.cells [.int .i64 (1+size % 12),ev] true):=by rw [hk' _ (by omega)]; simp (disch:=first | omega | (simp only [xB,xC] <;> omega) | fail) only [xI,h7]
      have hcell:=hg'.cells
      have kk:Keep Nothing H H':=⟨by have:=hk.next; simp only [xB,xC] at hn'; omega,fun j hj hm=>by
       rw [hk' _ (by omega),← hk.obj j hj hm]
       simp (disch:=first | omega | (simp only [xB,xC] <;> omega) | fail) only [xI]⟩
      have hnn:H1.next≤H'.next:=by simp only [xB,xC] at hn'; omega
      have he:(xG ((xs.take (i+1)).map (zK (1+size % 12) modes)))=xG ((xs.take i).map (zK (1+size % 12) modes))++Edge.cells (zK (1+size % 12) modes x):=by rw [htake]; simp [xG]
      simp (disch:=first | omega | (simp only [xB,xC] <;> omega) | fail) only [vai,xI,xH,k6,k7,hcell,Nat.reduceAdd,Nat.reduceMul,Nat.reduceLeDiff,Nat.reduceEqDiff,↓reduceIte]
      refine ⟨xs.length - (i+1),by omega,i+1,v',rfl,by omega,by omega,rfl,kk.upd (.inl (by omega)) _,by omega,rfl,?_⟩
      rw [he]
      refine Grown.upd ?_ (by omega) _
      simp only [zK,Edge.cells,ha,hb']
      first | rw [if_pos m0] | rw [if_neg m0,if_pos m1] | rw [if_neg m0,if_neg m1]
      first | rw [if_pos c0] | rw [if_neg c0]
      exact hg'
     ·simp (disch:=first | omega | (simp only [xB,xC] <;> omega) | fail) only [vai,xI,xH,c0,decide_false,h6,h7,Nat.reduceAdd,Nat.reduceMul,Nat.reduceLeDiff,Nat.reduceEqDiff,↓reduceIte]
      refine wC (n:=i) hg (by simp only [xB,xC]; omega) (fun j h1 h2=>by simp (disch:=first | omega | (simp only [xB,xC] <;> omega) | fail) only [xI]) (by simp (disch:=first | omega | (simp only [xB,xC] <;> omega) | fail) only [xI]; rfl) rfl (by omega) (by omega) (by rw [xU]; simp; omega) (by omega) (by omega) (by simp only [xB,xC]; omega) ?_
      intro v' H' hn' hk' hg'
      have k6:H'.obj H.next=some (.cells [.int .i64 0,.nilSlice] true):=by rw [hk' _ (by omega)]; simp (disch:=first | omega | (simp only [xB,xC] <;> omega) | fail) only [xI,h6]
      have k7:H'.obj (H.next+1)=some (.cells [.int .i64 (1+size % 12),ev] true):=by rw [hk' _ (by omega)]; simp (disch:=first | omega | (simp only [xB,xC] <;> omega) | fail) only [xI,h7]
      have hcell:=hg'.cells
      have kk:Keep Nothing H H':=⟨by have:=hk.next; simp only [xB,xC] at hn'; omega,fun j hj hm=>by
       rw [hk' _ (by omega),← hk.obj j hj hm]
       simp (disch:=first | omega | (simp only [xB,xC] <;> omega) | fail) only [xI]⟩
      have hnn:H1.next≤H'.next:=by simp only [xB,xC] at hn'; omega
      have he:(xG ((xs.take (i+1)).map (zK (1+size % 12) modes)))=xG ((xs.take i).map (zK (1+size % 12) modes))++Edge.cells (zK (1+size % 12) modes x):=by rw [htake]; simp [xG]
      simp (disch:=first | omega | (simp only [xB,xC] <;> omega) | fail) only [vai,xI,xH,k6,k7,hcell,Nat.reduceAdd,Nat.reduceMul,Nat.reduceLeDiff,Nat.reduceEqDiff,↓reduceIte]
      refine ⟨xs.length - (i+1),by omega,i+1,v',rfl,by omega,by omega,rfl,kk.upd (.inl (by omega)) _,by omega,rfl,?_⟩
      rw [he]
      refine Grown.upd ?_ (by omega) _
      simp only [zK,Edge.cells,ha,hb']
      first | rw [if_pos m0] | rw [if_neg m0,if_pos m1] | rw [if_neg m0,if_neg m1]
      first | rw [if_pos c0] | rw [if_neg c0]
      exact hg'
    ·by_cases m1:modes % 3=1
     ·simp (disch:=first | omega | (simp only [xB,xC] <;> omega) | fail) only [vai,xI,xH,m0,decide_false,h6,h7,Nat.reduceAdd,Nat.reduceMul,Nat.reduceLeDiff,Nat.reduceEqDiff,↓reduceIte]
      refine yE rfl (by omega) (by omega) ?_
      simp (disch:=first | omega | (simp only [xB,xC] <;> omega) | fail) only [vai,xI,xH,m1,decide_true,h6,h7,Nat.reduceAdd,Nat.reduceMul,Nat.reduceLeDiff,Nat.reduceEqDiff,↓reduceIte]
      have p1:0≤x.tdiv 170 % 5*a:=Int.mul_nonneg (by omega) a1
      have p2:x.tdiv 170 % 5*a≤5*12:=Int.mul_le_mul (by omega) (by omega) a1 (by omega)
      simp (disch:=first | omega | (simp only [xB,xC] <;> omega) | fail) only [vai,xI,xH,h6,h7,Nat.reduceAdd,Nat.reduceMul,Nat.reduceLeDiff,Nat.reduceEqDiff,↓reduceIte]
      refine yE rfl (by omega) (by omega) ?_
      simp (disch:=first | omega | (simp only [xB,xC] <;> omega) | fail) only [vai,xI,xH,h6,h7,Nat.reduceAdd,Nat.reduceMul,Nat.reduceLeDiff,Nat.reduceEqDiff,↓reduceIte]
      refine yE rfl (by omega) (by omega) ?_
      by_cases c0:x % 31=0
      ·simp (disch:=first | omega | (simp only [xB,xC] <;> omega) | fail) only [vai,xI,xH,c0,decide_true,h6,h7,Nat.reduceAdd,Nat.reduceMul,Nat.reduceLeDiff,Nat.reduceEqDiff,↓reduceIte]
       refine yE rfl (by omega) (by omega) ?_
       simp (disch:=first | omega | (simp only [xB,xC] <;> omega) | fail) only [vai,xI,xH,h6,h7,Nat.reduceAdd,Nat.reduceMul,Nat.reduceLeDiff,Nat.reduceEqDiff,↓reduceIte]
       refine wC (n:=i) hg (by simp only [xB,xC]; omega) (fun j h1 h2=>by simp (disch:=first | omega | (simp only [xB,xC] <;> omega) | fail) only [xI]) (by simp (disch:=first | omega | (simp only [xB,xC] <;> omega) | fail) only [xI]; rfl) rfl (by omega) (by omega) (by rw [xU]; simp; omega) (by omega) (by omega) (by simp only [xB,xC]; omega) ?_
       intro v' H' hn' hk' hg'
       have k6:H'.obj H.next=some (.cells [.int .i64 0,.nilSlice] true):=by rw [hk' _ (by omega)]; simp (disch:=first | omega | (simp only [xB,xC] <;> omega) | fail) only [xI,h6]
       have k7:H'.obj (H.next+1)=some (.cells [.int .i64 (1+size % 12),ev] true):=by rw [hk' _ (by omega)]; simp (disch:=first | omega | (simp only [xB,xC] <;> omega) | fail) only [xI,h7]
       have hcell:=hg'.cells
       have kk:Keep Nothing H H':=⟨by have:=hk.next; simp only [xB,xC] at hn'; omega,fun j hj hm=>by
        rw [hk' _ (by omega),← hk.obj j hj hm]
        simp (disch:=first | omega | (simp only [xB,xC] <;> omega) | fail) only [xI]⟩
       have hnn:H1.next≤H'.next:=by simp only [xB,xC] at hn'; omega
       have he:(xG ((xs.take (i+1)).map (zK (1+size % 12) modes)))=xG ((xs.take i).map (zK (1+size % 12) modes))++Edge.cells (zK (1+size % 12) modes x):=by rw [htake]; simp [xG]
       simp (disch:=first | omega | (simp only [xB,xC] <;> omega) | fail) only [vai,xI,xH,k6,k7,hcell,Nat.reduceAdd,Nat.reduceMul,Nat.reduceLeDiff,Nat.reduceEqDiff,↓reduceIte]
       refine ⟨xs.length - (i+1),by omega,i+1,v',rfl,by omega,by omega,rfl,kk.upd (.inl (by omega)) _,by omega,rfl,?_⟩
       rw [he]
       refine Grown.upd ?_ (by omega) _
       simp only [zK,Edge.cells,ha,hb']
       first | rw [if_pos m0] | rw [if_neg m0,if_pos m1] | rw [if_neg m0,if_neg m1]
       first | rw [if_pos c0] | rw [if_neg c0]
       exact hg'
      ·simp (disch:=first | omega | (simp only [xB,xC] <;> omega) | fail) only [vai,xI,xH,c0,decide_false,h6,h7,Nat.reduceAdd,Nat.reduceMul,Nat.reduceLeDiff,Nat.reduceEqDiff,↓reduceIte]
       refine wC (n:=i) hg (by simp only [xB,xC]; omega) (fun j h1 h2=>by simp (disch:=first | omega | (simp only [xB,xC] <;> omega) | fail) only [xI]) (by simp (disch:=first | omega | (simp only [xB,xC] <;> omega) | fail) only [xI]; rfl) rfl (by omega) (by omega) (by rw [xU]; simp; omega) (by omega) (by omega) (by simp only [xB,xC]; omega) ?_
       intro v' H' hn' hk' hg'
       have k6:H'.obj H.next=some (.cells [.int .i64 0,.nilSlice] true):=by rw [hk' _ (by omega)]; simp (disch:=first | omega | (simp only [xB,xC] <;> omega) | fail) only [xI,h6]
       have k7:H'.obj (H.next+1)=some (.cells [.int .i64 (1+size % 12),ev] true):=by rw [hk' _ (by omega)]; simp (disch:=first | omega | (simp only [xB,xC] <;> omega) | fail) only [xI,h7]
       have hcell:=hg'.cells
       have kk:Keep Nothing H H':=⟨by have:=hk.next; simp only [xB,xC] at hn'; omega,fun j hj hm=>by
        rw [hk' _ (by omega),← hk.obj j hj hm]
        simp (disch:=first | omega | (simp only [xB,xC] <;> omega) | fail) only [xI]⟩
       have hnn:H1.next≤H'.next:=by simp only [xB,xC] at hn'; omega
       have he:(xG ((xs.take (i+1)).map (zK (1+size % 12) modes)))=xG ((xs.take i).map (zK (1+size % 12) modes))++Edge.cells (zK (1+size % 12) modes x):=by rw [htake]; simp [xG]
       simp (disch:=first | omega | (simp only [xB,xC] <;> omega) | fail) only [vai,xI,xH,k6,k7,hcell,Nat.reduceAdd,Nat.reduceMul,Nat.reduceLeDiff,Nat.reduceEqDiff,↓reduceIte]
       refine ⟨xs.length - (i+1),by omega,i+1,v',rfl,by omega,by omega,rfl,kk.upd (.inl (by omega)) _,by omega,rfl,?_⟩
       rw [he]
       refine Grown.upd ?_ (by omega) _
       simp only [zK,Edge.cells,ha,hb']
       first | rw [if_pos m0] | rw [if_neg m0,if_pos m1] | rw [if_neg m0,if_neg m1]
       first | rw [if_pos c0] | rw [if_neg c0]
       exact hg'
     ·simp (disch:=first | omega | (simp only [xB,xC] <;> omega) | fail) only [vai,xI,xH,m0,decide_false,h6,h7,Nat.reduceAdd,Nat.reduceMul,Nat.reduceLeDiff,Nat.reduceEqDiff,↓reduceIte]
      refine yE rfl (by omega) (by omega) ?_
      simp (disch:=first | omega | (simp only [xB,xC] <;> omega) | fail) only [vai,xI,xH,m1,decide_false,h6,h7,Nat.reduceAdd,Nat.reduceMul,Nat.reduceLeDiff,Nat.reduceEqDiff,↓reduceIte]
      refine yE rfl (by omega) (by omega) ?_
      by_cases c0:x % 31=0
      ·simp (disch:=first | omega | (simp only [xB,xC] <;> omega) | fail) only [vai,xI,xH,c0,decide_true,h6,h7,Nat.reduceAdd,Nat.reduceMul,Nat.reduceLeDiff,Nat.reduceEqDiff,↓reduceIte]
       refine yE rfl (by omega) (by omega) ?_
       simp (disch:=first | omega | (simp only [xB,xC] <;> omega) | fail) only [vai,xI,xH,h6,h7,Nat.reduceAdd,Nat.reduceMul,Nat.reduceLeDiff,Nat.reduceEqDiff,↓reduceIte]
       refine wC (n:=i) hg (by simp only [xB,xC]; omega) (fun j h1 h2=>by simp (disch:=first | omega | (simp only [xB,xC] <;> omega) | fail) only [xI]) (by simp (disch:=first | omega | (simp only [xB,xC] <;> omega) | fail) only [xI]; rfl) rfl (by omega) (by omega) (by rw [xU]; simp; omega) (by omega) (by omega) (by simp only [xB,xC]; omega) ?_
       intro v' H' hn' hk' hg'
       have k6:H'.obj H.next=some (.cells [.int .i64 0,.nilSlice] true):=by rw [hk' _ (by omega)]; simp (disch:=first | omega | (simp only [xB,xC] <;> omega) | fail) only [xI,h6]
       have k7:H'.obj (H.next+1)=some (.cells [.int .i64 (1+size % 12),ev] true):=by rw [hk' _ (by omega)]; simp (disch:=first | omega | (simp only [xB,xC] <;> omega) | fail) only [xI,h7]
       have hcell:=hg'.cells
       have kk:Keep Nothing H H':=⟨by have:=hk.next; simp only [xB,xC] at hn'; omega,fun j hj hm=>by
        rw [hk' _ (by omega),← hk.obj j hj hm]
        simp (disch:=first | omega | (simp only [xB,xC] <;> omega) | fail) only [xI]⟩
       have hnn:H1.next≤H'.next:=by simp only [xB,xC] at hn'; omega
       have he:(xG ((xs.take (i+1)).map (zK (1+size % 12) modes)))=xG ((xs.take i).map (zK (1+size % 12) modes))++Edge.cells (zK (1+size % 12) modes x):=by rw [htake]; simp [xG]
       simp (disch:=first | omega | (simp only [xB,xC] <;> omega) | fail) only [vai,xI,xH,k6,k7,hcell,Nat.reduceAdd,Nat.reduceMul,Nat.reduceLeDiff,Nat.reduceEqDiff,↓reduceIte]
       refine ⟨xs.length - (i+1),by omega,i+1,v',rfl,by omega,by omega,rfl,kk.upd (.inl (by omega)) _,by omega,rfl,?_⟩
       rw [he]
       refine Grown.upd ?_ (by omega) _
       simp only [zK,Edge.cells,ha,hb']
       first | rw [if_pos m0] | rw [if_neg m0,if_pos m1] | rw [if_neg m0,if_neg m1]
       first | rw [if_pos c0] | rw [if_neg c0]
       exact hg'
      ·simp (disch:=first | omega | (simp only [xB,xC] <;> omega) | fail) only [vai,xI,xH,c0,decide_false,h6,h7,Nat.reduceAdd,Nat.reduceMul,Nat.reduceLeDiff,Nat.reduceEqDiff,↓reduceIte]
       refine wC (n:=i) hg (by simp only [xB,xC]; omega) (fun j h1 h2=>by simp (disch:=first | omega | (simp only [xB,xC] <;> omega) | fail) only [xI]) (by simp (disch:=first | omega | (simp only [xB,xC] <;> omega) | fail) only [xI]; rfl) rfl (by omega) (by omega) (by rw [xU]; simp; omega) (by omega) (by omega) (by simp only [xB,xC]; omega) ?_
       intro v' H' hn' hk' hg'
       have k6:H'.obj H.next=some (.cells [.int .i64 0,.nilSlice] true):=by rw [hk' _ (by omega)]; simp (disch:=first | omega | (simp only [xB,xC] <;> omega) | fail) only [xI,h6]
       have k7:H'.obj (H.next+1)=some (.cells [.int .i64 (1+size % 12),ev] true):=by rw [hk' _ (by omega)]; simp (disch:=first | omega | (simp only [xB,xC] <;> omega) | fail) only [xI,h7]
       have hcell:=hg'.cells
       have kk:Keep Nothing H H':=⟨by have:=hk.next; simp only [xB,xC] at hn'; omega,fun j hj hm=>by
        rw [hk' _ (by omega),← hk.obj j hj hm]
        simp (disch:=first | omega | (simp only [xB,xC] <;> omega) | fail) only [xI]⟩
       have hnn:H1.next≤H'.next:=by simp only [xB,xC] at hn'; omega
       have he:(xG ((xs.take (i+1)).map (zK (1+size % 12) modes)))=xG ((xs.take i).map (zK (1+size % 12) modes))++Edge.cells (zK (1+size % 12) modes x):=by rw [htake]; simp [xG]
       simp (disch:=first | omega | (simp only [xB,xC] <;> omega) | fail) only [vai,xI,xH,k6,k7,hcell,Nat.reduceAdd,Nat.reduceMul,Nat.reduceLeDiff,Nat.reduceEqDiff,↓reduceIte]
       refine ⟨xs.length - (i+1),by omega,i+1,v',rfl,by omega,by omega,rfl,kk.upd (.inl (by omega)) _,by omega,rfl,?_⟩
       rw [he]
       refine Grown.upd ?_ (by omega) _
       simp only [zK,Edge.cells,ha,hb']
       first | rw [if_pos m0] | rw [if_neg m0,if_pos m1] | rw [if_neg m0,if_neg m1]
       first | rw [if_pos c0] | rw [if_neg c0]
       exact hg'
   ·simp (disch:=first | omega | (simp only [xB,xC] <;> omega) | fail) only [vai,xI,xH,hlen,List.replicate,hc1,hc2,decide_true,decide_false,h6,h7,Nat.reduceAdd,Nat.reduceMul,Nat.reduceLeDiff,Nat.reduceEqDiff,↓reduceIte]
    have hi:i=40:=by omega
    rw [hi] at hg
    exact hq ev _ (hk.upd (.inl (by omega)) _) (hg.keep' ⟨by omega,by simp only [xC]; omega⟩ (fun j h1 h2=>by simp (disch:=first | omega | (simp only [xB,xC] <;> omega) | fail) only [xI]))
  ·simp (disch:=first | omega | (simp only [xB,xC] <;> omega) | fail) only [vai,xI,xH,hlen,List.replicate,hc1,decide_true,decide_false,h6,h7,Nat.reduceAdd,Nat.reduceMul,Nat.reduceLeDiff,Nat.reduceEqDiff,↓reduceIte]
   have hi:xs.take 40=xs.take i:=by rw [List.take_of_length_le (by omega),List.take_of_length_le (by omega)]
   rw [← hi] at hg
   exact hq ev _ (hk.upd (.inl (by omega)) _) (hg.keep' ⟨by omega,by simp only [xC]; omega⟩ (fun j h1 h2=>by simp (disch:=first | omega | (simp only [xB,xC] <;> omega) | fail) only [xI]))
end Go.Proofs.YtknhlpmmalcchaaGreat

namespace Go.Proofs.YtknhlpmmalcchaaGreat
open Go Go.VAI
set_option linter.unusedSimpArgs false

theorem edge_drop:∀ (es:List Edge) (i:Nat) (e:Edge),es[i]? = some e→((xG es).drop (i*4)).take 4=e.cells
 | [],i,e,h=>by simp at h
 | a :: es,0,e,h=>by
  simp at h; subst h
  simp [xG,Edge.cells]
 | a :: es,i+1,e,h=>by
  have:=edge_drop es i e (by simpa using h)
  rw [← this]
  have h4:(i+1)*4=i*4+4:=by omega
  rw [h4]
  simp [xG,Edge.cells]
theorem vC {H:AHeap} {v:AVal} {es:List Edge} (h:Row H v 4 (xG es)) {i:Nat} {e:Edge} (he:es[i]? = some e):∃ id off,xO 4 v (.int .i64 (i:Int))=some (.ptr id off)∧id < H.next ∧
  (bnd (cellsOf (H.obj id)) fun c=>c[off]?)=some (.int .i64 e.src)∧(bnd (cellsOf (H.obj id)) fun c=>c[off+1]?)=some (.int .i64 e.dst)∧(bnd (cellsOf (H.obj id)) fun c=>c[off+2]?)=some (.int .i64 e.mode)∧(bnd (cellsOf (H.obj id)) fun c=>c[off+3]?)=some (.int .i64 e.cost) ∧
  (bnd (cellsOf (H.obj id)) fun c=>if off+4≤c.length then some (AVal.agg ((c.drop off).take 4)) else none)=some (AVal.agg e.cells):=by
 have hi:=(List.getElem?_eq_some_iff.1 he).1
 obtain ⟨id,off,c,h1,h2,h3,h4,h5⟩:=h.at (j:=i) (k:=.i64) (by omega) (by omega) (by rw [xU,Int.toNat_natCast]; omega)
 rw [Int.toNat_natCast,edge_drop es i e he] at h5
 rw [cells?_of] at h3
 refine ⟨id,off,h1,h2,?_⟩
 simp only [h3,bnd,if_pos h4,h5,true_and,and_true]
 exact ⟨cell_at (f:=0) h5 rfl,cell_at (f:=1) h5 rfl,cell_at (f:=2) h5 rfl,cell_at (f:=3) h5 rfl⟩

def yH (p:Edge→Bool) (es:List Edge) (n:Nat):List Int:=((List.range n).filter fun i=>(es[i]?).any p).map Int.ofNat
theorem picks_succ {p:Edge→Bool} {es:List Edge} {n:Nat} {e:Edge} (he:es[n]? = some e):yH p es (n+1)=yH p es n++if p e then [(n:Int)] else []:=by
 simp only [yH,List.range_succ,List.filter_append,List.map_append,List.filter_cons,List.filter_nil,he,Option.any_some]
 split <;> rfl
theorem zC {p:Edge→Bool} {es:List Edge} {n:Nat}:(yH p es n).length≤n:=by
 simp only [yH,List.length_map]
 exact Nat.le_trans (List.length_filter_le _ _) (by simp)

theorem out_ret {v N:Int} {ev:AVal} {es:List Edge} {ida:Nat} {rw:Bool} {H:AHeap} {Q:AVal→AHeap→Prop} (ho:H.obj ida=some (.cells [.int .i64 N,ev] rw)) (hid:ida < H.next) (hr:Row H ev 4 (xG es)) (hn:es.length≤1000000)
  (hq:∀ v' H',Keep Nothing H H'→Grown H.next H' v' 1 (xL (yH (fun e=>decide (e.src=v)) es es.length))→Q v' H'):Ret A 44 [.ptr ida 0,.int .i64 v] H Q:=by
 refine Ret.of (fn:=F44) rfl ?_
 simp (disch:=first | omega | (simp only [xB,xC] <;> omega) | fail) only [vai,xI,xH,F44,Nat.reduceAdd,Nat.reduceMul,Nat.reduceLeDiff,Nat.reduceEqDiff,↓reduceIte]
 refine xS (fun m t H'=>∃ (i:Nat) (ov:AVal),m=es.length - i∧i≤es.length ∧
  t=[.ptr ida 0,.int .i64 v,.bot,.bot,.bot,ov,.int .i64 i]++List.replicate 26 .bot∧Keep Nothing H H'∧Grown H.next H' ov 1 (xL (yH (fun e=>decide (e.src=v)) es i))) es.length ?_ ?_
 ·exact ⟨0,.nilSlice,rfl,by omega,rfl,.refl _ _,.nil⟩
 ·rintro m t H1 ⟨i,ov,rfl,hi1,rfl,hk,hg⟩
  have hr1:Row H1 ev 4 (xG es):=hr.kept hk
  have hlen:=hr1.len (by omega) (xU es)
  have ho1:H1.obj ida=some (.cells [.int .i64 N,ev] rw):=by rw [hk.obj _ hid (fun h=>h)]; exact ho
  by_cases hc1:(i:Int) < es.length
  ·have hix:i < es.length:=by omega
   have he:es[i]? = some es[i]:=by simp [hix]
   obtain ⟨id,off,e1,hid2,e2,e3,e4,e5,e6⟩:=vC hr1 he
   have hp:=picks_succ (p:=fun e=>decide (e.src=v)) he
   generalize es[i]=e at *
   by_cases hc2:e.src=v
   ·simp (disch:=first | omega | (simp only [xB,xC] <;> omega) | fail) only [vai,xI,xH,hlen,List.replicate,hc1,decide_true,e1,e2,ho1,hc2,Nat.reduceAdd,Nat.reduceMul,Nat.reduceLeDiff,Nat.reduceEqDiff,↓reduceIte]
    refine wC (n:=(yH (fun e=>decide (e.src=v)) es i).length) hg (by simp only [xB,xC]; omega) (fun j h1 h2=>by simp (disch:=first | omega | (simp only [xB,xC] <;> omega) | fail) only [xI]) (by simp (disch:=first | omega | (simp only [xB,xC] <;> omega) | fail) only [xI]; rfl) rfl (by omega) (by omega) (by rw [xE]; omega) (by have:=zC (p:=fun e=>decide (e.src=v)) (es:=es) (n:=i); omega) (by omega) (by simp only [xB,xC]; have:=hk.next; omega) ?_
    intro v' H' hn' hk' hg'
    have kk:Keep Nothing H H':=⟨by have:=hk.next; simp only [xB,xC] at hn'; omega,fun j hj hm=>by
     rw [hk' _ hj,← hk.obj j hj hm]
     have:=hk.next
     simp (disch:=first | omega | (simp only [xB,xC] <;> omega) | fail) only [xI]⟩
    simp (disch:=first | omega | (simp only [xB,xC] <;> omega) | fail) only [vai,xI,xH,Nat.reduceAdd,Nat.reduceMul,Nat.reduceLeDiff,Nat.reduceEqDiff,↓reduceIte]
    refine ⟨es.length - (i+1),by omega,i+1,v',rfl,by omega,rfl,kk,?_⟩
    rw [hp,if_pos (by simpa using hc2),zF]
    exact hg'
   ·simp (disch:=first | omega | (simp only [xB,xC] <;> omega) | fail) only [vai,xI,xH,hlen,List.replicate,hc1,decide_true,e1,e2,ho1,hc2,decide_false,Nat.reduceAdd,Nat.reduceMul,Nat.reduceLeDiff,Nat.reduceEqDiff,↓reduceIte]
    refine ⟨es.length - (i+1),by omega,i+1,ov,rfl,by omega,rfl,hk,?_⟩
    rw [hp,if_neg (by simpa using hc2),List.append_nil]
    exact hg
  ·simp (disch:=first | omega | (simp only [xB,xC] <;> omega) | fail) only [vai,xI,xH,hlen,List.replicate,hc1,decide_false,ho1,hg.notBot,Nat.reduceAdd,Nat.reduceMul,Nat.reduceLeDiff,Nat.reduceEqDiff,↓reduceIte]
   have hi:i=es.length:=by omega
   subst hi
   exact hq ov _ hk hg
theorem in_ret {v N:Int} {ev:AVal} {es:List Edge} {ida:Nat} {rw:Bool} {H:AHeap} {Q:AVal→AHeap→Prop} (ho:H.obj ida=some (.cells [.int .i64 N,ev] rw)) (hid:ida < H.next) (hr:Row H ev 4 (xG es)) (hn:es.length≤1000000)
  (hq:∀ v' H',Keep Nothing H H'→Grown H.next H' v' 1 (xL (yH (fun e=>decide (e.dst=v)) es es.length))→Q v' H'):Ret A 45 [.ptr ida 0,.int .i64 v] H Q:=by
 refine Ret.of (fn:=F45) rfl ?_
 simp (disch:=first | omega | (simp only [xB,xC] <;> omega) | fail) only [vai,xI,xH,F45,Nat.reduceAdd,Nat.reduceMul,Nat.reduceLeDiff,Nat.reduceEqDiff,↓reduceIte]
 refine xS (fun m t H'=>∃ (i:Nat) (ov:AVal),m=es.length - i∧i≤es.length ∧
  t=[.ptr ida 0,.int .i64 v,.bot,.bot,.bot,ov,.int .i64 i]++List.replicate 26 .bot∧Keep Nothing H H'∧Grown H.next H' ov 1 (xL (yH (fun e=>decide (e.dst=v)) es i))) es.length ?_ ?_
 ·exact ⟨0,.nilSlice,rfl,by omega,rfl,.refl _ _,.nil⟩
 ·rintro m t H1 ⟨i,ov,rfl,hi1,rfl,hk,hg⟩
  have hr1:Row H1 ev 4 (xG es):=hr.kept hk
  have hlen:=hr1.len (by omega) (xU es)
  have ho1:H1.obj ida=some (.cells [.int .i64 N,ev] rw):=by rw [hk.obj _ hid (fun h=>h)]; exact ho
  by_cases hc1:(i:Int) < es.length
  ·have hix:i < es.length:=by omega
   have he:es[i]? = some es[i]:=by simp [hix]
   obtain ⟨id,off,e1,hid2,e2,e3,e4,e5,e6⟩:=vC hr1 he
   have hp:=picks_succ (p:=fun e=>decide (e.dst=v)) he
   generalize es[i]=e at *
   by_cases hc2:e.dst=v
   ·simp (disch:=first | omega | (simp only [xB,xC] <;> omega) | fail) only [vai,xI,xH,hlen,List.replicate,hc1,decide_true,e1,e3,ho1,hc2,Nat.reduceAdd,Nat.reduceMul,Nat.reduceLeDiff,Nat.reduceEqDiff,↓reduceIte]
    refine wC (n:=(yH (fun e=>decide (e.dst=v)) es i).length) hg (by simp only [xB,xC]; omega) (fun j h1 h2=>by simp (disch:=first | omega | (simp only [xB,xC] <;> omega) | fail) only [xI]) (by simp (disch:=first | omega | (simp only [xB,xC] <;> omega) | fail) only [xI]; rfl) rfl (by omega) (by omega) (by rw [xE]; omega) (by have:=zC (p:=fun e=>decide (e.dst=v)) (es:=es) (n:=i); omega) (by omega) (by simp only [xB,xC]; have:=hk.next; omega) ?_
    intro v' H' hn' hk' hg'
    have kk:Keep Nothing H H':=⟨by have:=hk.next; simp only [xB,xC] at hn'; omega,fun j hj hm=>by
     rw [hk' _ hj,← hk.obj j hj hm]
     have:=hk.next
     simp (disch:=first | omega | (simp only [xB,xC] <;> omega) | fail) only [xI]⟩
    simp (disch:=first | omega | (simp only [xB,xC] <;> omega) | fail) only [vai,xI,xH,Nat.reduceAdd,Nat.reduceMul,Nat.reduceLeDiff,Nat.reduceEqDiff,↓reduceIte]
    refine ⟨es.length - (i+1),by omega,i+1,v',rfl,by omega,rfl,kk,?_⟩
    rw [hp,if_pos (by simpa using hc2),zF]
    exact hg'
   ·simp (disch:=first | omega | (simp only [xB,xC] <;> omega) | fail) only [vai,xI,xH,hlen,List.replicate,hc1,decide_true,e1,e3,ho1,hc2,decide_false,Nat.reduceAdd,Nat.reduceMul,Nat.reduceLeDiff,Nat.reduceEqDiff,↓reduceIte]
    refine ⟨es.length - (i+1),by omega,i+1,ov,rfl,by omega,rfl,hk,?_⟩
    rw [hp,if_neg (by simpa using hc2),List.append_nil]
    exact hg
  ·simp (disch:=first | omega | (simp only [xB,xC] <;> omega) | fail) only [vai,xI,xH,hlen,List.replicate,hc1,decide_false,ho1,hg.notBot,Nat.reduceAdd,Nat.reduceMul,Nat.reduceLeDiff,Nat.reduceEqDiff,↓reduceIte]
   have hi:i=es.length:=by omega
   subst hi
   exact hq ov _ hk hg

def uY (v:Int) (es:List Edge):Int:=es.foldl (fun s e=>if e.src=v∨e.dst=v then orI .i64 s (shlI .i64 1 e.mode) else s) 0
theorem modesOf_succ {v:Int} {es:List Edge} {n:Nat} {e:Edge} (he:es[n]? = some e):uY v (es.take (n+1))=if e.src=v∨e.dst=v then orI .i64 (uY v (es.take n)) (shlI .i64 1 e.mode) else uY v (es.take n):=by
 obtain ⟨h,rfl⟩:=List.getElem?_eq_some_iff.1 he
 rw [List.take_succ_eq_append_getElem h]
 simp only [uY,List.foldl_append,List.foldl_cons,List.foldl_nil]
theorem modes_ret {v N:Int} {ev:AVal} {es:List Edge} {ida:Nat} {rw:Bool} {H:AHeap} {Q:AVal→AHeap→Prop} (ho:H.obj ida=some (.cells [.int .i64 N,ev] rw)) (hid:ida < H.next) (hr:Row H ev 4 (xG es)) (hn:es.length≤1000000)
  (hm:∀ e∈es,0≤e.mode∧e.mode < 1000) (hq:Q (.int .i64 (uY v es)) H):Ret A 68 [.ptr ida 0,.int .i64 v] H Q:=by
 refine Ret.of (fn:=F68) rfl ?_
 simp (disch:=first | omega | (simp only [xB,xC] <;> omega) | fail) only [vai,xI,xH,F68,Nat.reduceAdd,Nat.reduceMul,Nat.reduceLeDiff,Nat.reduceEqDiff,↓reduceIte]
 refine xS (fun m t H'=>∃ (i:Nat),m=es.length - i∧i≤es.length ∧
  t=[.ptr ida 0,.int .i64 v,.bot,.bot,.bot,.int .i64 (uY v (es.take i)),.int .i64 i]++List.replicate 48 .bot∧H'=H) es.length ?_ ?_
 ·exact ⟨0,rfl,by omega,rfl,rfl⟩
 ·rintro m t H1 ⟨i,rfl,hi1,rfl,rfl⟩
  have hlen:=hr.len (by omega) (xU es)
  by_cases hc1:(i:Int) < es.length
  ·have hix:i < es.length:=by omega
   have he:es[i]? = some es[i]:=by simp [hix]
   have hme:=hm es[i] (List.getElem_mem hix)
   obtain ⟨id,off,e1,hid2,e2,e3,e4,e5,e6⟩:=vC hr he
   have hp:=modesOf_succ (v:=v) he
   generalize es[i]=e at *
   by_cases hc2:e.src=v
   ·simp (disch:=first | omega | (simp only [xB,xC] <;> omega) | fail) only [vai,xI,xH,hlen,List.replicate,hc1,decide_true,e1,e2,e3,e4,ho,hc2,wrapU64,Nat.reduceAdd,Nat.reduceMul,Nat.reduceLeDiff,Nat.reduceEqDiff,↓reduceIte]
    refine ⟨es.length - (i+1),by omega,i+1,rfl,by omega,?_⟩
    rw [hp,if_pos (.inl hc2)]; rfl
   ·by_cases hc3:e.dst=v
    ·simp (disch:=first | omega | (simp only [xB,xC] <;> omega) | fail) only [vai,xI,xH,hlen,List.replicate,hc1,decide_true,e1,e2,e3,e4,ho,hc2,hc3,decide_false,wrapU64,Nat.reduceAdd,Nat.reduceMul,Nat.reduceLeDiff,Nat.reduceEqDiff,↓reduceIte]
     refine ⟨es.length - (i+1),by omega,i+1,rfl,by omega,?_⟩
     rw [hp,if_pos (.inr hc3)]; rfl
    ·simp (disch:=first | omega | (simp only [xB,xC] <;> omega) | fail) only [vai,xI,xH,hlen,List.replicate,hc1,decide_true,e1,e2,e3,e4,ho,hc2,hc3,decide_false,wrapU64,Nat.reduceAdd,Nat.reduceMul,Nat.reduceLeDiff,Nat.reduceEqDiff,↓reduceIte]
     refine ⟨es.length - (i+1),by omega,i+1,rfl,by omega,?_⟩
     rw [hp,if_neg (by simp [hc2,hc3])]; rfl
  ·simp (disch:=first | omega | (simp only [xB,xC] <;> omega) | fail) only [vai,xI,xH,hlen,List.replicate,hc1,decide_false,ho,Nat.reduceAdd,Nat.reduceMul,Nat.reduceLeDiff,Nat.reduceEqDiff,↓reduceIte]
   have hi:i=es.length:=by omega
   rw [hi,List.take_length]
   exact hq
end Go.Proofs.YtknhlpmmalcchaaGreat

namespace Go.Proofs.YtknhlpmmalcchaaGreat
open Go Go.VAI
set_option linter.unusedSimpArgs false

theorem new_ret {N:Int} {ev:AVal} {H:AHeap} {Q:AVal→AHeap→Prop} (hq:∀ id H',Keep Nothing H H'→H.next≤id→id < H'.next→H'.obj id=some (.cells [.int .i64 N,ev] true)→Q (.ptr id 0) H'):Ret A 42 [.agg [.int .i64 N,ev]] H Q:=by
 refine Ret.of (fn:=F42) rfl ?_
 simp (disch:=first | omega | (simp only [xB,xC] <;> omega) | fail) only [vai,xI,xH,F42,Nat.reduceAdd,Nat.reduceMul,Nat.reduceLeDiff,Nat.reduceEqDiff,↓reduceIte]
 refine hq _ _ (((Keep.refl _ _).new _).new _) (by omega) (by simp only [xB]; omega) (by simp (disch:=first | omega | (simp only [xB,xC] <;> omega) | fail) only [xI])

theorem andI_one (a:Int):0≤andI .i64 a 1∧andI .i64 a 1≤1:=by
 have h:(BitVec.ofInt IntKind.i64.bits a &&& BitVec.ofInt IntKind.i64.bits 1).toNat≤1:=by
  rw [BitVec.toNat_and]
  exact Nat.le_trans Nat.and_le_right (by decide)
 unfold andI
 rw [xH (by omega) (by omega)]
 omega
def modesIn (s:Int):Nat→Int
 | 0=>0
 | n+1=>modesIn s n+andI .i64 (shrI .i64 s n) 1
theorem modesIn_bd (s:Int):∀ n,0≤modesIn s n∧modesIn s n≤n
 | 0=>by simp [modesIn]
 | n+1=>by
  have:=modesIn_bd s n
  have:=andI_one (shrI .i64 s n)
  simp only [modesIn]
  omega
def linkAt (es:List Edge) (v:Int):Bool:=decide (2≤modesIn (uY v es) 5)
def linksOf (N:Nat) (es:List Edge):List Bool:=(List.range N).map fun (v:Nat)=>linkAt es (v:Int)
def xV (l:List Bool):List AVal:=l.map AVal.bool
theorem linksOf_succ (N:Nat) (es:List Edge):xV (linksOf (N+1) es)=xV (linksOf N es)++[.bool (linkAt es N)]:=by
 simp [linksOf,xV,List.range_succ]
theorem links_ret {N:Nat} {ev:AVal} {es:List Edge} {H:AHeap} {Q:AVal→AHeap→Prop} (hr:Row H ev 4 (xG es)) (hn:es.length≤1000000) (hN:N≤1000000)
  (hm:∀ e∈es,0≤e.mode∧e.mode < 1000) (hq:∀ v' H',Keep Nothing H H'→Grown H.next H' v' 1 (xV (linksOf N es))→Q v' H'):Ret A 43 [.agg [.int .i64 N,ev]] H Q:=by
 refine Ret.of (fn:=F43) rfl ?_
 simp (disch:=first | omega | (simp only [xB,xC] <;> omega) | fail) only [vai,xI,xH,F43,Nat.reduceAdd,Nat.reduceMul,Nat.reduceLeDiff,Nat.reduceEqDiff,↓reduceIte]
 refine new_ret fun ida H1 hk1 ha1 ha2 ha3=>?_
 have hb:H1.obj H.next=some (.cells [.int .i64 N,ev] true):=by rw [hk1.obj _ (by simp only [xB]; omega) (fun h=>h)]; simp (disch:=first | omega | (simp only [xB,xC] <;> omega) | fail) only [xI]
 simp only [xB] at ha1
 have hn1:=hk1.next
 simp only [xB] at hn1
 have hk:Keep Nothing H H1:=((Keep.refl _ _).new _).trans hk1
 simp (disch:=first | omega | (simp only [xB,xC] <;> omega) | fail) only [vai,xI,xH,Nat.reduceAdd,Nat.reduceMul,Nat.reduceLeDiff,Nat.reduceEqDiff,↓reduceIte]
 refine xS (fun m t H'=>∃ (i:Nat) (ov:AVal),m=N - i∧i≤N ∧
  t=[.bot,.ptr H.next 0,.bot,.ptr ida 0,ov,.int .i64 i]++List.replicate 28 .bot∧Keep Nothing H1 H'∧Grown H1.next H' ov 1 (xV (linksOf i es))) N ?_ ?_
 ·exact ⟨0,.nilSlice,rfl,by omega,rfl,.refl _ _,.nil⟩
 ·rintro m t H2 ⟨i,ov,rfl,hi1,rfl,hk2,hg⟩
  have ho2:H2.obj ida=some (.cells [.int .i64 N,ev] true):=by rw [hk2.obj _ ha2 (fun h=>h)]; exact ha3
  have hb2:H2.obj H.next=some (.cells [.int .i64 N,ev] true):=by rw [hk2.obj _ (by omega) (fun h=>h)]; exact hb
  have hr2:Row H2 ev 4 (xG es):=(hr.kept hk).kept hk2
  have hn2:=hk2.next
  by_cases hc1:(i:Int) < N
  ·simp (disch:=first | omega | (simp only [xB,xC] <;> omega) | fail) only [vai,xI,xH,List.replicate,hc1,decide_true,hb2,Nat.reduceAdd,Nat.reduceMul,Nat.reduceLeDiff,Nat.reduceEqDiff,↓reduceIte]
   refine xS (fun m t H'=>∃ (j:Nat),m=5 - j∧j≤5 ∧
    t=[.bot,.ptr H.next 0,.bot,.ptr ida 0,ov,.int .i64 i,.int .i64 (modesIn (uY i es) j),.int .u64 j]++List.replicate 26 .bot∧H'=H2) 5 ?_ ?_
   ·exact ⟨0,rfl,by omega,rfl,rfl⟩
   ·rintro m t H3 ⟨j,rfl,hj1,rfl,rfl⟩
    have hbd:=modesIn_bd (uY i es) j
    have hone:=andI_one (shrI .i64 (uY i es) j)
    by_cases hc2:(j:Int) < 5
    ·simp (disch:=first | omega | (simp only [xB,xC] <;> omega) | fail) only [vai,xI,xH,List.replicate,hc2,decide_true,Nat.reduceAdd,Nat.reduceMul,Nat.reduceLeDiff,Nat.reduceEqDiff,↓reduceIte]
     refine modes_ret ho2 (by omega) hr2 hn hm ?_
     simp (disch:=first | omega | (simp only [xB,xC] <;> omega) | fail) only [vai,xI,xH,wrapU64,Nat.reduceAdd,Nat.reduceMul,Nat.reduceLeDiff,Nat.reduceEqDiff,↓reduceIte]
     exact ⟨5 - (j+1),by omega,j+1,rfl,by omega,rfl⟩
    ·have hj:j=5:=by omega
     subst hj
     simp (disch:=first | omega | (simp only [xB,xC] <;> omega) | fail) only [vai,xI,xH,List.replicate,hc2,decide_false,Nat.reduceAdd,Nat.reduceMul,Nat.reduceLeDiff,Nat.reduceEqDiff,↓reduceIte]
     refine wC (n:=(linksOf i es).length) hg (by simp only [xB,xC]; omega) (fun j h1 h2=>by simp (disch:=first | omega | (simp only [xB,xC] <;> omega) | fail) only [xI]) (by simp (disch:=first | omega | (simp only [xB,xC] <;> omega) | fail) only [xI]; rfl) rfl (by omega) (by omega) (by simp [xV]) (by simp [linksOf]; omega) (by omega) (by simp only [xB,xC]; omega) ?_
     intro v' H' hn' hk' hg'
     have kk:Keep Nothing H1 H':=⟨by simp only [xB,xC] at hn'; omega,fun j hj hm=>by
      rw [hk' _ hj,← hk2.obj j hj hm]
      simp (disch:=first | omega | (simp only [xB,xC] <;> omega) | fail) only [xI]⟩
     simp (disch:=first | omega | (simp only [xB,xC] <;> omega) | fail) only [vai,xI,xH,Nat.reduceAdd,Nat.reduceMul,Nat.reduceLeDiff,Nat.reduceEqDiff,↓reduceIte]
     refine ⟨N - (i+1),by omega,i+1,v',rfl,by omega,rfl,kk,?_⟩
     rw [linksOf_succ]
     exact hg'
  ·simp (disch:=first | omega | (simp only [xB,xC] <;> omega) | fail) only [vai,xI,xH,List.replicate,hc1,decide_false,hb2,hg.notBot,Nat.reduceAdd,Nat.reduceMul,Nat.reduceLeDiff,Nat.reduceEqDiff,↓reduceIte]
   have hi:i=N:=by omega
   subst hi
   exact hq ov _ (hk.trans hk2) (hg.keep' ⟨by omega,Nat.le_refl _⟩ (fun _ _ _=>rfl))
end Go.Proofs.YtknhlpmmalcchaaGreat

namespace Go.Proofs.YtknhlpmmalcchaaGreat
open Go Go.VAI
set_option linter.unusedSimpArgs false

def degree (es:List Edge) (v:Int):Nat:=(yH (fun e=>decide (e.src=v)) es es.length).length+(yH (fun e=>decide (e.dst=v)) es es.length).length
def wS (es:List Edge) (d:Int) (n:Nat):List Int:=((List.range n).filter fun (v:Nat) => !linkAt es v && decide ((degree es v:Int)=d)).map Int.ofNat
def wK (N:Nat) (es:List Edge) (k:Nat):List Int:=(List.range k).flatMap fun (d:Nat)=>wS es d N
theorem orderRow_succ (es:List Edge) (d:Int) (n:Nat):wS es d (n+1)=wS es d n++if !linkAt es n && decide ((degree es n:Int)=d) then [(n:Int)] else []:=by
 simp only [wS,List.range_succ,List.filter_append,List.map_append,List.filter_cons,List.filter_nil]
 split <;> rfl
theorem orderOf_succ (N:Nat) (es:List Edge) (k:Nat):wK N es (k+1)=wK N es k++wS es k N:=by
 simp [wK,List.range_succ]
theorem orderRow_length (es:List Edge) (d:Int) (n:Nat):(wS es d n).length≤n:=by
 simp only [wS,List.length_map]
 exact Nat.le_trans (List.length_filter_le _ _) (by simp)
theorem orderOf_length (N:Nat) (es:List Edge):∀ k,(wK N es k).length≤k*N
 | 0=>by simp [wK]
 | k+1=>by
  have:=orderOf_length N es k
  have:=orderRow_length es k N
  rw [orderOf_succ,List.length_append,Nat.succ_mul]
  omega
theorem linksOf_at {N:Nat} {es:List Edge} {v:Nat} (h:v < N):(xV (linksOf N es))[v]? = some (.bool (linkAt es v)):=by
 simp [xV,linksOf,h]

theorem order_ret {N:Nat} {ev:AVal} {es:List Edge} {H:AHeap} {Q:AVal→AHeap→Prop} (hr:Row H ev 4 (xG es)) (hn:es.length≤1000) (hN:N≤1000)
  (hm:∀ e∈es,0≤e.mode∧e.mode < 1000) (hq:∀ v' H',Keep Nothing H H'→Grown H.next H' v' 1 (xL (wK N es (2*es.length+1)))→Q v' H'):Ret A 17 [.agg [.int .i64 N,ev]] H Q:=by
 refine Ret.of (fn:=F17) rfl ?_
 simp (disch:=first | omega | (simp only [xB,xC] <;> omega) | fail) only [vai,xI,xH,F17,Nat.reduceAdd,Nat.reduceMul,Nat.reduceLeDiff,Nat.reduceEqDiff,↓reduceIte]
 refine new_ret fun ida H1 hk1 ha1 ha2 ha3=>?_
 have hb:H1.obj H.next=some (.cells [.int .i64 N,ev] true):=by rw [hk1.obj _ (by simp only [xB]; omega) (fun h=>h)]; simp (disch:=first | omega | (simp only [xB,xC] <;> omega) | fail) only [xI]
 simp only [xB] at ha1
 have hn1:=hk1.next
 simp only [xB] at hn1
 have hk:Keep Nothing H H1:=((Keep.refl _ _).new _).trans hk1
 have hbeq:AVal.beq (.agg [.int .i64 (N:Int),ev]) (.agg [.int .i64 (N:Int),ev])=true:=by simp [AVal.beq,AVal.beqs,hr.beq]
 simp (disch:=first | omega | (simp only [xB,xC] <;> omega) | fail) only [vai,xI,xH,hb,xF hbeq,Nat.reduceAdd,Nat.reduceMul,Nat.reduceLeDiff,Nat.reduceEqDiff,↓reduceIte]
 refine links_ret (hr.kept hk) (by omega) (by omega) hm fun lv H2 hk2 hl=>?_
 have hb2:H2.obj H.next=some (.cells [.int .i64 N,ev] true):=by rw [hk2.obj _ (by omega) (fun h=>h)]; exact hb
 have ha4:H2.obj ida=some (.cells [.int .i64 N,ev] true):=by rw [hk2.obj _ (by omega) (fun h=>h)]; exact ha3
 have hn2:=hk2.next
 simp (disch:=first | omega | (simp only [xB,xC] <;> omega) | fail) only [vai,xI,xH,Nat.reduceAdd,Nat.reduceMul,Nat.reduceLeDiff,Nat.reduceEqDiff,↓reduceIte]
 refine xS (fun m t H'=>∃ (d:Nat) (ov:AVal),m=2*es.length+1 - d∧d≤2*es.length+1 ∧
  t=[.bot,.ptr H.next 0,.bot,.ptr ida 0,lv,ov,.int .i64 d]++List.replicate 42 .bot∧Keep Nothing H2 H'∧Grown H2.next H' ov 1 (xL (wK N es d))) (2*es.length+1) ?_ ?_
 ·exact ⟨0,.nilSlice,rfl,by omega,rfl,.refl _ _,.nil⟩
 ·rintro m t H3 ⟨d,ov,rfl,hd1,rfl,hk3,hg⟩
  have hb3:H3.obj H.next=some (.cells [.int .i64 N,ev] true):=by rw [hk3.obj _ (by omega) (fun h=>h)]; exact hb2
  have hlen:=(((hr.kept hk).kept hk2).kept hk3).len (by omega) (xU es)
  by_cases hc1:(d:Int)≤2*(es.length:Int)
  ·simp (disch:=first | omega | (simp only [xB,xC] <;> omega) | fail) only [vai,xI,xH,List.replicate,hc1,decide_true,hb3,hlen,Nat.reduceAdd,Nat.reduceMul,Nat.reduceLeDiff,Nat.reduceEqDiff,↓reduceIte]
   refine xS (fun m t H'=>∃ (v:Nat) (ov:AVal),m=N - v∧v≤N ∧
    t=[.bot,.ptr H.next 0,.bot,.ptr ida 0,lv,ov,.int .i64 d,.int .i64 v]++List.replicate 41 .bot∧Keep Nothing H2 H'∧Grown H2.next H' ov 1 (xL (wK N es d++wS es d v))) N ?_ ?_
   ·exact ⟨0,ov,rfl,by omega,rfl,hk3,by simpa [wS] using hg⟩
   ·clear hg hb3 hlen hk3
    rintro m t H4 ⟨v,ov,rfl,hv1,rfl,hk4,hg⟩
    have hb4:H4.obj H.next=some (.cells [.int .i64 N,ev] true):=by rw [hk4.obj _ (by omega) (fun h=>h)]; exact hb2
    have ha5:H4.obj ida=some (.cells [.int .i64 N,ev] true):=by rw [hk4.obj _ (by omega) (fun h=>h)]; exact ha4
    have hr4:Row H4 ev 4 (xG es):=((hr.kept hk).kept hk2).kept hk4
    have hl4:=hl.row.kept hk4
    have hn4:=hk4.next
    by_cases hc2:(v:Int) < N
    ·have hvN:v < N:=by omega
     obtain ⟨id,off,e1,hid2,e2⟩:=hl4.at1 (j:=v) (x:=.bool (linkAt es v)) (k:=.i64) (by omega) (by rw [Int.toNat_natCast]; exact linksOf_at hvN)
     have hp:=orderRow_succ es d v
     cases hb:linkAt es v with
     | true =>
      rw [hb] at e2 hp
      simp (disch:=first | omega | (simp only [xB,xC] <;> omega) | fail) only [vai,xI,xH,List.replicate,hc2,decide_true,hb4,e1,e2,Bool.not_true,Nat.reduceAdd,Nat.reduceMul,Nat.reduceLeDiff,Nat.reduceEqDiff,↓reduceIte]
      refine ⟨N - (v+1),by omega,v+1,ov,rfl,by omega,rfl,hk4,?_⟩
      simpa [hp] using hg
     | false =>
      rw [hb] at e2 hp
      simp (disch:=first | omega | (simp only [xB,xC] <;> omega) | fail) only [vai,xI,xH,List.replicate,hc2,decide_true,hb4,e1,e2,Bool.not_false,Nat.reduceAdd,Nat.reduceMul,Nat.reduceLeDiff,Nat.reduceEqDiff,↓reduceIte]
      refine out_ret ha5 (by omega) hr4 (by omega) fun o1 H5 hk5 hg5=>?_
      have ha6:H5.obj ida=some (.cells [.int .i64 N,ev] true):=by rw [hk5.obj _ (by omega) (fun h=>h)]; exact ha5
      simp (disch:=first | omega | (simp only [xB,xC] <;> omega) | fail) only [vai,xI,xH,hg5.alen1,xE,Nat.reduceAdd,Nat.reduceMul,Nat.reduceLeDiff,Nat.reduceEqDiff,↓reduceIte]
      have hn5:=hk5.next
      refine in_ret ha6 (by omega) (hr4.kept hk5) (by omega) fun o2 H6 hk6 hg6=>?_
      have hb6:H6.obj H.next=some (.cells [.int .i64 N,ev] true):=by rw [hk6.obj _ (by omega) (fun h=>h),hk5.obj _ (by omega) (fun h=>h)]; exact hb4
      have hn6:=hk6.next
      have l1:=zC (p:=fun e=>decide (e.src=(v:Int))) (es:=es) (n:=es.length)
      have l2:=zC (p:=fun e=>decide (e.dst=(v:Int))) (es:=es) (n:=es.length)
      have hdeg:((yH (fun e=>decide (e.src=(v:Int))) es es.length).length:Int)+((yH (fun e=>decide (e.dst=(v:Int))) es es.length).length:Int)=(degree es v:Int):=by simp [degree]
      simp (disch:=first | omega | (simp only [xB,xC] <;> omega) | fail) only [vai,xI,xH,hg6.alen1,xE,hdeg,Nat.reduceAdd,Nat.reduceMul,Nat.reduceLeDiff,Nat.reduceEqDiff,↓reduceIte]
      by_cases hc3:(degree es v:Int)=d
      ·simp (disch:=first | omega | (simp only [xB,xC] <;> omega) | fail) only [vai,xI,xH,hc3,decide_true,hb6,Nat.reduceAdd,Nat.reduceMul,Nat.reduceLeDiff,Nat.reduceEqDiff,↓reduceIte]
       have lo1:=orderOf_length N es d
       have lo2:=orderRow_length es d v
       have lo3:d*N≤2001*1000:=Nat.mul_le_mul (by omega) hN
       refine wC (n:=(wK N es d++wS es d v).length) hg (by simp only [xB,xC]; omega) (fun j h1 h2=>by rw [xX (by omega),hk6.obj _ (by omega) (fun h=>h),hk5.obj _ (by omega) (fun h=>h)]) (by simp (disch:=first | omega | (simp only [xB,xC] <;> omega) | fail) only [xI]; rfl) rfl (by omega) (by omega) (by rw [xE]; omega) (by rw [List.length_append]; omega) (by omega) (by simp only [xB,xC]; omega) ?_
       intro v' H' hn' hk' hg'
       have k6:=(hk4.trans hk5).trans hk6
       have kk:Keep Nothing H2 H':=⟨by simp only [xB,xC] at hn'; omega,fun j hj hm=>by
        rw [hk' _ hj,← k6.obj j hj hm]
        simp (disch:=first | omega | (simp only [xB,xC] <;> omega) | fail) only [xI]⟩
       simp (disch:=first | omega | (simp only [xB,xC] <;> omega) | fail) only [vai,xI,xH,Nat.reduceAdd,Nat.reduceMul,Nat.reduceLeDiff,Nat.reduceEqDiff,↓reduceIte]
       refine ⟨N - (v+1),by omega,v+1,v',rfl,by omega,rfl,kk,?_⟩
       rw [hp,if_pos (by simpa using hc3),← List.append_assoc,zF]
       exact hg'
      ·simp (disch:=first | omega | (simp only [xB,xC] <;> omega) | fail) only [vai,xI,xH,hc3,decide_false,hb6,Nat.reduceAdd,Nat.reduceMul,Nat.reduceLeDiff,Nat.reduceEqDiff,↓reduceIte]
       refine ⟨N - (v+1),by omega,v+1,ov,rfl,by omega,rfl,(hk4.trans hk5).trans hk6,?_⟩
       rw [hp,if_neg (by simpa using hc3),List.append_nil]
       exact hg.keep (by omega) (fun j h1 h2=>by rw [hk6.obj _ (by omega) (fun h=>h),hk5.obj _ (by omega) (fun h=>h)])
    ·simp (disch:=first | omega | (simp only [xB,xC] <;> omega) | fail) only [vai,xI,xH,List.replicate,hc2,decide_false,hb4,Nat.reduceAdd,Nat.reduceMul,Nat.reduceLeDiff,Nat.reduceEqDiff,↓reduceIte]
     have hv:v=N:=by omega
     subst hv
     exact ⟨2*es.length+1 - (d+1),by omega,d+1,ov,rfl,by omega,rfl,hk4,by rw [orderOf_succ]; exact hg⟩
  ·simp (disch:=first | omega | (simp only [xB,xC] <;> omega) | fail) only [vai,xI,xH,List.replicate,hc1,decide_false,hb3,hlen,hg.notBot,Nat.reduceAdd,Nat.reduceMul,Nat.reduceLeDiff,Nat.reduceEqDiff,↓reduceIte]
   have hd:d=2*es.length+1:=by omega
   subst hd
   exact hq ov _ ((hk.trans hk2).trans hk3) (hg.keep' ⟨by omega,Nat.le_refl _⟩ (fun _ _ _=>rfl))
end Go.Proofs.YtknhlpmmalcchaaGreat

namespace Go.Proofs.YtknhlpmmalcchaaGreat
open Go Go.VAI
set_option linter.unusedSimpArgs false

def Arc.cells (e:Arc):List AVal:=[.int .i64 e.src,.int .i64 e.dst,.int .i64 e.mode,.int .i64 e.cost,.int .i64 e.edge,.int .i64 e.a,.int .i64 e.b]
def xW (l:List Arc):List AVal:=l.flatMap Arc.cells

theorem at_ret {w:Nat} {N:Nat} {u v m:Int} {rest:List AVal} {rw:Bool} {H:AHeap} {Q:AVal→AHeap→Prop} (ho:H.obj w=some (.cells (.int .i64 N :: rest) rw)) (hN:N≤1000) (hu:0≤u∧u≤1000) (hv:0≤v∧v≤1000) (hm:0≤m∧m≤1000)
  (hq:Q (.int .i64 ((u*N+v)*5+m)) H):Ret A 40 [.ptr w 0,.int .i64 u,.int .i64 v,.int .i64 m] H Q:=by
 refine Ret.of (fn:=F40) rfl ?_
 have p1:0≤u*(N:Int):=Int.mul_nonneg hu.1 (by omega)
 have p2:u*(N:Int)≤1000*1000:=Int.mul_le_mul hu.2 (by omega) (by omega) (by omega)
 simp (disch:=first | omega | (simp only [xB,xC] <;> omega) | fail) only [vai,xI,xH,F40,ho,Nat.reduceAdd,Nat.reduceMul,Nat.reduceLeDiff,Nat.reduceEqDiff,↓reduceIte]
 exact hq

structure Lay (H:AHeap) (w c g:Nat) (N:Nat) (ev rv av uv dv:AVal) (cur:List Int) (gone:List Bool):Prop where
 obj:H.obj w=some (.cells [.int .i64 N,ev,rv,av,uv,dv,.slice c 0 (N*N*5) (.exact (N*N*5)),.slice g 0 N (.exact N)] true)
 curO:H.obj c=some (.cells (xL cur) true)
 goneO:H.obj g=some (.cells (xV gone) true)
 wlt:w < H.next
 clt:c < H.next
 glt:g < H.next
 curLen:cur.length=N*N*5
 goneLen:gone.length=N
theorem Lay.kept {H H':AHeap} {w c g N:Nat} {ev rv av uv dv:AVal} {cur:List Int} {gone:List Bool} (h:Lay H w c g N ev rv av uv dv cur gone) (hk:Keep Nothing H H'):Lay H' w c g N ev rv av uv dv cur gone:=by
 have:=hk.next
 have:=h.wlt
 have:=h.clt
 have:=h.glt
 exact ⟨by rw [hk.obj _ h.wlt (fun h=>h)]; exact h.obj,by rw [hk.obj _ h.clt (fun h=>h)]; exact h.curO,by rw [hk.obj _ h.glt (fun h=>h)]; exact h.goneO,by omega,by omega,by omega,h.curLen,h.goneLen⟩
theorem wout_ret {w c g N v:Nat} {ev rv av uv dv:AVal} {cur:List Int} {gone:List Bool} {H:AHeap} {Q:AVal→AHeap→Prop} (hL:Lay H w c g N ev rv av uv dv cur gone) (hN:N≤1000) (hv:v < N) (hcur:∀ x∈cur,0≤x∧x≤1000000)
  (hq:∀ v' H',Keep Nothing H H'→Grown H.next H' v' 1 (xL (zM N cur gone v N))→Q v' H'):Ret A 18 [.ptr w 0,.int .i64 v] H Q:=by
 refine Ret.of (fn:=F18) rfl ?_
 simp (disch:=first | omega | (simp only [xB,xC] <;> omega) | fail) only [vai,xI,xH,F18,Nat.reduceAdd,Nat.reduceMul,Nat.reduceLeDiff,Nat.reduceEqDiff,↓reduceIte]
 refine xS (fun m t H'=>∃ (u:Nat) (ov:AVal),m=N - u∧u≤N ∧
  t=[.ptr w 0,.int .i64 v,.bot,.bot,.bot,ov,.int .i64 u]++List.replicate 45 .bot∧Keep Nothing H H'∧Grown H.next H' ov 1 (xL (zM N cur gone v u))) N ?_ ?_
 ·exact ⟨0,.nilSlice,rfl,by omega,rfl,.refl _ _,.nil⟩
 ·rintro m t H1 ⟨u,ov,rfl,hu1,rfl,hk,hg⟩
  have hL1:=(hL.kept hk).obj
  by_cases hc1:(u:Int) < N
  ·simp (disch:=first | omega | (simp only [xB,xC] <;> omega) | fail) only [vai,xI,xH,List.replicate,hc1,decide_true,hL1,Nat.reduceAdd,Nat.reduceMul,Nat.reduceLeDiff,Nat.reduceEqDiff,↓reduceIte]
   refine xS (fun m t H'=>∃ (j:Nat) (ov:AVal),m=5 - j∧j≤5 ∧
    t=[.ptr w 0,.int .i64 v,.bot,.bot,.bot,ov,.int .i64 u,.int .i64 j]++List.replicate 44 .bot∧Keep Nothing H H'∧Grown H.next H' ov 1 (xL (zM N cur gone v u++outRow N cur gone v u j))) 5 ?_ ?_
   ·exact ⟨0,ov,rfl,by omega,rfl,hk,by simpa [outRow] using hg⟩
   ·clear hg hL1 hk
    rintro m t H2 ⟨j,ov,rfl,hj1,rfl,hk,hg⟩
    have hL2:=hL.kept hk
    have ho:=hL2.obj
    have hn2:=hk.next
    by_cases hc2:(j:Int) < 5
    ·simp (disch:=first | omega | (simp only [xB,xC] <;> omega) | fail) only [vai,xI,xH,List.replicate,hc2,decide_true,ho,Nat.reduceAdd,Nat.reduceMul,Nat.reduceLeDiff,Nat.reduceEqDiff,↓reduceIte]
     refine at_ret ho hN (by omega) (by omega) (by omega) ?_
     have hpl:((v:Int)*N+u)*5+j=((xR N v u j:Nat):Int):=by simp [xR]
     have hplt:xR N v u j < N*N*5:=vE hv (by omega) (by omega)
     rw [hpl]
     have hck:(xL cur)[xR N v u j]? = some (.int .i64 (cur.getD (xR N v u j) 0)):=by
      have:xR N v u j < cur.length:=by rw [hL.curLen]; exact hplt
      simp [xL,this]
     have hkb:0≤cur.getD (xR N v u j) 0∧cur.getD (xR N v u j) 0≤1000000:=by
      have:xR N v u j < cur.length:=by rw [hL.curLen]; exact hplt
      rw [List.getD_eq_getElem?_getD,List.getElem?_eq_getElem this]
      exact hcur _ (List.getElem_mem this)
     have hgk:(xV gone)[u]? = some (.bool (gone.getD u false)):=by
      have:u < gone.length:=by rw [hL.goneLen]; omega
      simp [xV,this]
     have hp:=outRow_succ N cur gone v u j
     simp only [outStep] at hp
     generalize cur.getD (xR N v u j) 0=k at *
     generalize hgd:gone.getD u false=gd at *
     have hi1:xO 1 (.slice c 0 (N*N*5) (.exact (N*N*5))) (.int .i64 ((xR N v u j:Nat):Int))=some (.ptr c (xR N v u j)):=by
      rw [xM ⟨by omega,by omega⟩]; simp
     have hi2:xO 1 (.slice g 0 N (.exact N)) (.int .i64 (u:Int))=some (.ptr g u):=by
      rw [xM ⟨by omega,by omega⟩]; simp
     by_cases hc3:0 < k
     ·cases gd with
      | true =>
       simp (disch:=first | omega | (simp only [xB,xC] <;> omega) | fail) only [vai,xI,xH,ho,hi1,hi2,hL2.curO,hL2.goneO,hck,hgk,hc3,decide_true,Bool.not_true,Nat.reduceAdd,Nat.reduceMul,Nat.reduceLeDiff,Nat.reduceEqDiff,↓reduceIte]
       refine ⟨5 - (j+1),by omega,j+1,ov,rfl,by omega,rfl,hk,?_⟩
       simpa [hp] using hg
      | false =>
       simp (disch:=first | omega | (simp only [xB,xC] <;> omega) | fail) only [vai,xI,xH,ho,hi1,hi2,hL2.curO,hL2.goneO,hck,hgk,hc3,decide_true,Bool.not_false,Nat.reduceAdd,Nat.reduceMul,Nat.reduceLeDiff,Nat.reduceEqDiff,↓reduceIte]
       have lo1:=uW N cur gone v u
       have lo2:=outRow_length N cur gone v u j
       refine wC (n:=(zM N cur gone v u++outRow N cur gone v u j).length) hg (by simp only [xB,xC]; omega) (fun j h1 h2=>by rw [xX (by omega)]) (by simp (disch:=first | omega | (simp only [xB,xC] <;> omega) | fail) only [xI]; rfl) rfl (by omega) (by omega) (by rw [xE]; omega) (by rw [List.length_append]; omega) (by omega) (by simp only [xB,xC]; omega) ?_
       intro v' H' hn' hk' hg'
       have kk:Keep Nothing H H':=⟨by simp only [xB,xC] at hn'; omega,fun j hj hm=>by
        rw [hk' _ hj,← hk.obj j hj hm]
        simp (disch:=first | omega | (simp only [xB,xC] <;> omega) | fail) only [xI]⟩
       simp (disch:=first | omega | (simp only [xB,xC] <;> omega) | fail) only [vai,xI,xH,Nat.reduceAdd,Nat.reduceMul,Nat.reduceLeDiff,Nat.reduceEqDiff,↓reduceIte]
       refine ⟨5 - (j+1),by omega,j+1,v',rfl,by omega,rfl,kk,?_⟩
       rw [hp,if_pos ⟨hc3,rfl⟩,← List.append_assoc,zF]
       exact hg'
     ·simp (disch:=first | omega | (simp only [xB,xC] <;> omega) | fail) only [vai,xI,xH,ho,hi1,hL2.curO,hck,hc3,decide_false,Nat.reduceAdd,Nat.reduceMul,Nat.reduceLeDiff,Nat.reduceEqDiff,↓reduceIte]
      refine ⟨5 - (j+1),by omega,j+1,ov,rfl,by omega,rfl,hk,?_⟩
      simpa [hp,hc3] using hg
    ·simp (disch:=first | omega | (simp only [xB,xC] <;> omega) | fail) only [vai,xI,xH,List.replicate,hc2,decide_false,ho,Nat.reduceAdd,Nat.reduceMul,Nat.reduceLeDiff,Nat.reduceEqDiff,↓reduceIte]
     have hj:j=5:=by omega
     subst hj
     refine ⟨N - (u+1),by omega,u+1,ov,rfl,by omega,rfl,hk,by rw [outOf_succ]; exact hg⟩
  ·simp (disch:=first | omega | (simp only [xB,xC] <;> omega) | fail) only [vai,xI,xH,List.replicate,hc1,decide_false,hL1,hg.notBot,Nat.reduceAdd,Nat.reduceMul,Nat.reduceLeDiff,Nat.reduceEqDiff,↓reduceIte]
   have hu:u=N:=by omega
   subst hu
   exact hq ov _ hk hg

theorem win_ret {w c g N v:Nat} {ev rv av uv dv:AVal} {cur:List Int} {gone:List Bool} {H:AHeap} {Q:AVal→AHeap→Prop} (hL:Lay H w c g N ev rv av uv dv cur gone) (hN:N≤1000) (hv:v < N) (hcur:∀ x∈cur,0≤x∧x≤1000000)
  (hq:∀ v' H',Keep Nothing H H'→Grown H.next H' v' 1 (xL (vI N cur gone v N))→Q v' H'):Ret A 19 [.ptr w 0,.int .i64 v] H Q:=by
 refine Ret.of (fn:=F19) rfl ?_
 simp (disch:=first | omega | (simp only [xB,xC] <;> omega) | fail) only [vai,xI,xH,F19,Nat.reduceAdd,Nat.reduceMul,Nat.reduceLeDiff,Nat.reduceEqDiff,↓reduceIte]
 refine xS (fun m t H'=>∃ (u:Nat) (ov:AVal),m=N - u∧u≤N ∧
  t=[.ptr w 0,.int .i64 v,.bot,.bot,.bot,ov,.int .i64 u]++List.replicate 50 .bot∧Keep Nothing H H'∧Grown H.next H' ov 1 (xL (vI N cur gone v u))) N ?_ ?_
 ·exact ⟨0,.nilSlice,rfl,by omega,rfl,.refl _ _,.nil⟩
 ·rintro m t H1 ⟨u,ov,rfl,hu1,rfl,hk,hg⟩
  have hL1:=(hL.kept hk).obj
  by_cases hc1:(u:Int) < N
  ·simp (disch:=first | omega | (simp only [xB,xC] <;> omega) | fail) only [vai,xI,xH,List.replicate,hc1,decide_true,hL1,Nat.reduceAdd,Nat.reduceMul,Nat.reduceLeDiff,Nat.reduceEqDiff,↓reduceIte]
   by_cases huv:u=v
   ·refine xS (fun m t H'=>m=0∧t=[.ptr w 0,.int .i64 v,.bot,.bot,.bot,ov,.int .i64 u,.int .i64 0]++List.replicate 49 .bot∧H'=H1) 0 ?_ ?_
    ·exact ⟨rfl,rfl,rfl⟩
    ·rintro m t H2 ⟨rfl,rfl,rfl⟩
     have hd:¬ ((u:Int)≠v):=by omega
     have h05:(0:Int) < 5:=by omega
     simp (disch:=first | omega | (simp only [xB,xC] <;> omega) | fail) only [vai,xI,xH,List.replicate,h05,decide_true,hd,decide_false,Nat.reduceAdd,Nat.reduceMul,Nat.reduceLeDiff,Nat.reduceEqDiff,↓reduceIte]
     refine ⟨N - (u+1),by omega,u+1,ov,rfl,by omega,rfl,hk,by rw [inOf_succ,if_pos huv,List.append_nil]; exact hg⟩
   refine xS (fun m t H'=>∃ (j:Nat) (ov:AVal),m=5 - j∧j≤5 ∧
    t=[.ptr w 0,.int .i64 v,.bot,.bot,.bot,ov,.int .i64 u,.int .i64 j]++List.replicate 49 .bot∧Keep Nothing H H'∧Grown H.next H' ov 1 (xL (vI N cur gone v u++inRow N cur gone v u j))) 5 ?_ ?_
   ·exact ⟨0,ov,rfl,by omega,rfl,hk,by simpa [inRow] using hg⟩
   ·clear hg hL1 hk
    rintro m t H2 ⟨j,ov,rfl,hj1,rfl,hk,hg⟩
    have hL2:=hL.kept hk
    have ho:=hL2.obj
    have hn2:=hk.next
    by_cases hc2:(j:Int) < 5
    ·have hd:((u:Int)≠v):=by omega
     simp (disch:=first | omega | (simp only [xB,xC] <;> omega) | fail) only [vai,xI,xH,List.replicate,hc2,decide_true,ho,hd,ne_eq,not_false_eq_true,Nat.reduceAdd,Nat.reduceMul,Nat.reduceLeDiff,Nat.reduceEqDiff,↓reduceIte]
     refine at_ret ho hN (by omega) (by omega) (by omega) ?_
     have hpl:((u:Int)*N+v)*5+j=((xR N u v j:Nat):Int):=by simp [xR]
     have hplt:xR N u v j < N*N*5:=vE (by omega) hv (by omega)
     rw [hpl]
     have hck:(xL cur)[xR N u v j]? = some (.int .i64 (cur.getD (xR N u v j) 0)):=by
      have:xR N u v j < cur.length:=by rw [hL.curLen]; exact hplt
      simp [xL,this]
     have hkb:0≤cur.getD (xR N u v j) 0∧cur.getD (xR N u v j) 0≤1000000:=by
      have:xR N u v j < cur.length:=by rw [hL.curLen]; exact hplt
      rw [List.getD_eq_getElem?_getD,List.getElem?_eq_getElem this]
      exact hcur _ (List.getElem_mem this)
     have hgk:(xV gone)[u]? = some (.bool (gone.getD u false)):=by
      have:u < gone.length:=by rw [hL.goneLen]; omega
      simp [xV,this]
     have hp:=inRow_succ N cur gone v u j
     simp only [inStep] at hp
     generalize cur.getD (xR N u v j) 0=k at *
     generalize hgd:gone.getD u false=gd at *
     have hi1:xO 1 (.slice c 0 (N*N*5) (.exact (N*N*5))) (.int .i64 ((xR N u v j:Nat):Int))=some (.ptr c (xR N u v j)):=by
      rw [xM ⟨by omega,by omega⟩]; simp
     have hi2:xO 1 (.slice g 0 N (.exact N)) (.int .i64 (u:Int))=some (.ptr g u):=by
      rw [xM ⟨by omega,by omega⟩]; simp
     by_cases hc3:0 < k
     ·cases gd with
      | true =>
       simp (disch:=first | omega | (simp only [xB,xC] <;> omega) | fail) only [vai,xI,xH,ho,hi1,hi2,hL2.curO,hL2.goneO,hck,hgk,hc3,decide_true,Bool.not_true,Nat.reduceAdd,Nat.reduceMul,Nat.reduceLeDiff,Nat.reduceEqDiff,↓reduceIte]
       refine ⟨5 - (j+1),by omega,j+1,ov,rfl,by omega,rfl,hk,?_⟩
       simpa [hp] using hg
      | false =>
       simp (disch:=first | omega | (simp only [xB,xC] <;> omega) | fail) only [vai,xI,xH,ho,hi1,hi2,hL2.curO,hL2.goneO,hck,hgk,hc3,decide_true,Bool.not_false,Nat.reduceAdd,Nat.reduceMul,Nat.reduceLeDiff,Nat.reduceEqDiff,↓reduceIte]
       have lo1:=inOf_length N cur gone v u
       have lo2:=inRow_length N cur gone v u j
       refine wC (n:=(vI N cur gone v u++inRow N cur gone v u j).length) hg (by simp only [xB,xC]; omega) (fun j h1 h2=>by rw [xX (by omega)]) (by simp (disch:=first | omega | (simp only [xB,xC] <;> omega) | fail) only [xI]; rfl) rfl (by omega) (by omega) (by rw [xE]; omega) (by rw [List.length_append]; omega) (by omega) (by simp only [xB,xC]; omega) ?_
       intro v' H' hn' hk' hg'
       have kk:Keep Nothing H H':=⟨by simp only [xB,xC] at hn'; omega,fun j hj hm=>by
        rw [hk' _ hj,← hk.obj j hj hm]
        simp (disch:=first | omega | (simp only [xB,xC] <;> omega) | fail) only [xI]⟩
       simp (disch:=first | omega | (simp only [xB,xC] <;> omega) | fail) only [vai,xI,xH,Nat.reduceAdd,Nat.reduceMul,Nat.reduceLeDiff,Nat.reduceEqDiff,↓reduceIte]
       refine ⟨5 - (j+1),by omega,j+1,v',rfl,by omega,rfl,kk,?_⟩
       rw [hp,if_pos ⟨hc3,rfl⟩,← List.append_assoc,zF]
       exact hg'
     ·simp (disch:=first | omega | (simp only [xB,xC] <;> omega) | fail) only [vai,xI,xH,ho,hi1,hL2.curO,hck,hc3,decide_false,Nat.reduceAdd,Nat.reduceMul,Nat.reduceLeDiff,Nat.reduceEqDiff,↓reduceIte]
      refine ⟨5 - (j+1),by omega,j+1,ov,rfl,by omega,rfl,hk,?_⟩
      simpa [hp,hc3] using hg
    ·simp (disch:=first | omega | (simp only [xB,xC] <;> omega) | fail) only [vai,xI,xH,List.replicate,hc2,decide_false,ho,Nat.reduceAdd,Nat.reduceMul,Nat.reduceLeDiff,Nat.reduceEqDiff,↓reduceIte]
     have hj:j=5:=by omega
     subst hj
     refine ⟨N - (u+1),by omega,u+1,ov,rfl,by omega,rfl,hk,by rw [inOf_succ,if_neg huv]; exact hg⟩
  ·simp (disch:=first | omega | (simp only [xB,xC] <;> omega) | fail) only [vai,xI,xH,List.replicate,hc1,decide_false,hL1,hg.notBot,Nat.reduceAdd,Nat.reduceMul,Nat.reduceLeDiff,Nat.reduceEqDiff,↓reduceIte]
   have hu:u=N:=by omega
   subst hu
   exact hq ov _ hk hg
end Go.Proofs.YtknhlpmmalcchaaGreat

namespace Go.Proofs.YtknhlpmmalcchaaGreat
open Go Go.VAI
set_option linter.unusedSimpArgs false

theorem yJ (l:List Arc):(xW l).length=l.length*7:=by
 induction l with
 | nil=>rfl
 | cons e l ih=>simp only [xW,List.flatMap_cons,List.length_append] at ih ⊢; rw [ih]; simp [Arc.cells]; omega
theorem arcCells_append (l m:List Arc):xW (l++m)=xW l++xW m:=by simp [xW]

theorem splice_set {l:List AVal} {p:Nat} {x:AVal} (h:p < l.length):yV l p [x]=l.set p x:=by
 rw [List.set_eq_take_append_cons_drop,if_pos h]
 simp [yV]

theorem arc_ret {w c g N lo src dst mode:Nat} {ev rv av uv dv:AVal} {cur:List Int} {gone:List Bool} {arcs:List Arc} {a:Arc} {H:AHeap} {Q:AVal→AHeap→Prop} (hL:Lay H w c g N ev rv av uv dv cur gone) (hN:N≤1000)
  (hw:w < lo) (hc:c < lo) (hg0:g < lo) (hwc:w≠c) (hwg:w≠g) (hcg:c≠g) (hg:Grown lo H av 7 (xW arcs)) (harcs:arcs.length≤1000000) (hlo:lo≤H.next)
  (h1:a.src=src) (h2:a.dst=dst) (h3:a.mode=mode) (hs:src < N) (hd:dst < N) (hm:mode < 5)
  (hq:∀ av' H',Keep (fun i=>i=w∨i=c∨sid av=some i) H H'→Lay H' w c g N ev rv av' uv dv (cur.set (xR N src dst mode) (arcs.length+1)) gone→Grown lo H' av' 7 (xW (arcs++[a]))→(∃ y,sid av'=some y∧H.next≤y)→Q (.tuple []) H'):Ret A 41 [.ptr w 0,.agg a.cells] H Q:=by
 refine Ret.of (fn:=F41) rfl ?_
 have ho:=hL.obj
 have hwl:=hL.wlt
 have hcl:=hL.clt
 have hgl:=hL.glt
 simp (disch:=first | omega | (simp only [xB,xC] <;> omega) | fail) only [vai,xI,xH,F41,Arc.cells,ho,Nat.reduceAdd,Nat.reduceMul,Nat.reduceLeDiff,Nat.reduceEqDiff,↓reduceIte]
 refine append_ret' (n:=arcs.length) hg (by simp only [xB,xC]; omega) (fun j h1 h2=>by simp (disch:=first | omega | (simp only [xB,xC] <;> omega) | fail) only [xI]) (by simp (disch:=first | omega | (simp only [xB,xC] <;> omega) | fail) only [xI]; rfl) rfl (by omega) (by omega) (by rw [yJ]) (by omega) (by omega) (by simp only [xB,xC]; omega) ?_
 intro av' H1 hn1 hk1 hg1 hs1
 simp only [xB] at hn1 hs1
 have ne1:∀ j,j < lo→sid av≠some j:=fun j hj e=>by have:=(hg.sid_ge e).1; omega
 have o1:H1.obj w=some (.cells [.int .i64 N,ev,rv,av,uv,dv,.slice c 0 (N*N*5) (.exact (N*N*5)),.slice g 0 N (.exact N)] true):=by
  rw [hk1 w (by simp only [xB]; omega) (ne1 w hw)]; simp (disch:=first | omega | (simp only [xB,xC] <;> omega) | fail) only [xI,ho]
 have o2:H1.obj H.next=some (.cells a.cells true):=by
  rw [hk1 H.next (by simp only [xB]; omega) (fun e=>by have:=(hg.sid_ge e).2; omega)]; simp (disch:=first | omega | (simp only [xB,xC] <;> omega) | fail) only [xI,Arc.cells]
 have hcell:=hg1.cells
 simp only [Arc.cells] at o2
 simp (disch:=first | omega | (simp only [xB,xC] <;> omega) | fail) only [vai,xI,xH,o1,o2,hcell,Nat.reduceAdd,Nat.reduceMul,Nat.reduceLeDiff,Nat.reduceEqDiff,↓reduceIte]
 have hlen:=hg1.row.len (n:=arcs.length+1) (by omega) (by rw [List.length_append,yJ]; simp; omega)
 have hbq:=hg1.row.beq
 have oc:H1.obj c=some (.cells (xL cur) true):=by
  rw [hk1 c (by simp only [xB]; omega) (ne1 c hc)]; simp (disch:=first | omega | (simp only [xB,xC] <;> omega) | fail) only [xI,hL.curO]
 have og:H1.obj g=some (.cells (xV gone) true):=by
  rw [hk1 g (by simp only [xB]; omega) (ne1 g hg0)]; simp (disch:=first | omega | (simp only [xB,xC] <;> omega) | fail) only [xI,hL.goneO]
 simp (disch:=first | omega | (simp only [xB,xC] <;> omega) | fail) only [vai,xI,xH,hlen,Nat.reduceAdd,Nat.reduceMul,Nat.reduceLeDiff,Nat.reduceEqDiff,↓reduceIte]
 refine at_ret (rw:=true) (N:=N) (by simp (disch:=first | omega | (simp only [xB,xC] <;> omega) | fail) only [xI]; rfl) hN (by omega) (by omega) (by omega) ?_
 have hpl:(a.src*N+a.dst)*5+a.mode=((xR N src dst mode:Nat):Int):=by rw [h1,h2,h3]; simp [xR]
 have hplt:xR N src dst mode < N*N*5:=vE hs hd hm
 have hi1:xO 1 (.slice c 0 (N*N*5) (.exact (N*N*5))) (.int .i64 ((xR N src dst mode:Nat):Int))=some (.ptr c (xR N src dst mode)):=by
  rw [xM ⟨by omega,by omega⟩]; simp
 rw [hpl]
 have hcl2:(xL cur).length=N*N*5:=by rw [xE,hL.curLen]
 have hle:xR N src dst mode+1≤N*N*5:=hplt
 simp (disch:=first | omega | (simp only [xB,xC] <;> omega) | fail) only [vai,xI,xH,xF hbq,hi1,oc,hcl2,hle,Nat.reduceAdd,Nat.reduceMul,Nat.reduceLeDiff,Nat.reduceEqDiff,↓reduceIte]
 have hset:yV (xL cur) (xR N src dst mode) [.int .i64 ((arcs.length+1:Nat):Int)]=xL (cur.set (xR N src dst mode) (arcs.length+1)):=by
  rw [splice_set (by rw [hcl2]; exact hplt)]
  simp [xL,List.map_set]
 rw [hset]
 have keep1:∀ j,j < H.next→j≠w→j≠c→sid av≠some j→((H1.upd w (some (.cells [.int .i64 N,ev,rv,av',uv,dv,.slice c 0 (N*N*5) (.exact (N*N*5)),.slice g 0 N (.exact N)] true))).upd c (some (.cells (xL (cur.set (xR N src dst mode) (arcs.length+1))) true))).obj j=H.obj j:=by
  intro j hj hjw hjc hjs
  rw [xQ hjc,xQ hjw,hk1 j (by simp only [xB]; omega) hjs]
  simp (disch:=first | omega | (simp only [xB,xC] <;> omega) | fail) only [xI]
 refine hq av' _ ⟨by simp only [xC]; omega,fun j hj hm=>?_⟩ ⟨?_,?_,?_,?_,?_,?_,?_,hL.goneLen⟩ ?_ ?_
 ·exact keep1 j hj (fun e=>hm (.inl e)) (fun e=>hm (.inr (.inl e))) (fun e=>hm (.inr (.inr e)))
 ·rw [xQ hwc,xN rfl]
 ·rw [xN rfl]
 ·rw [xQ (Ne.symm hcg),xQ (Ne.symm hwg)]; exact og
 ·simp only [xC]; omega
 ·simp only [xC]; omega
 ·simp only [xC]; omega
 ·rw [List.length_set]; exact hL.curLen
 ·rw [arcCells_append]
  refine Grown.upd (Grown.upd ?_ hw _) hc _
  simpa [xW,Arc.cells] using hg1
 ·obtain ⟨y,e1,e2⟩:=hs1
  exact ⟨y,e1,by omega⟩
end Go.Proofs.YtknhlpmmalcchaaGreat

namespace Go.Proofs.YtknhlpmmalcchaaGreat
open Go Go.VAI
set_option linter.unusedSimpArgs false

theorem arc_drop:∀ (es:List Arc) (i:Nat) (e:Arc),es[i]? = some e→((xW es).drop (i*7)).take 7=e.cells
 | [],i,e,h=>by simp at h
 | a :: es,0,e,h=>by
  simp at h; subst h
  simp [xW,Arc.cells]
 | a :: es,i+1,e,h=>by
  have:=arc_drop es i e (by simpa using h)
  rw [← this]
  have h4:(i+1)*7=i*7+7:=by omega
  rw [h4]
  simp [xW,Arc.cells]
theorem vZ {H:AHeap} {v:AVal} {es:List Arc} (h:Row H v 7 (xW es)) {i:Nat} {e:Arc} (he:es[i]? = some e):∃ id off,xO 7 v (.int .i64 (i:Int))=some (.ptr id off)∧id < H.next ∧
  (bnd (cellsOf (H.obj id)) fun c=>c[off+3]?)=some (.int .i64 e.cost) ∧
  (bnd (cellsOf (H.obj id)) fun c=>if off+7≤c.length then some (AVal.agg ((c.drop off).take 7)) else none)=some (AVal.agg e.cells):=by
 have hi:=(List.getElem?_eq_some_iff.1 he).1
 obtain ⟨id,off,c,h1,h2,h3,h4,h5⟩:=h.at (j:=i) (k:=.i64) (by omega) (by omega) (by rw [yJ,Int.toNat_natCast]; omega)
 rw [Int.toNat_natCast,arc_drop es i e he] at h5
 rw [cells?_of] at h3
 refine ⟨id,off,h1,h2,?_⟩
 simp only [h3,bnd,if_pos h4,h5,and_true]
 exact cell_at (f:=3) h5 rfl

theorem short_ret {w c g N lo i j:Nat} {ev rv av uv dv:AVal} {cur:List Int} {gone:List Bool} {arcs:List Arc} {x y:Arc} {H:AHeap} {Q:AVal→AHeap→Prop} (hL:Lay H w c g N ev rv av uv dv cur gone) (hN:N≤1000)
  (hw:w < lo) (hc:c < lo) (hg0:g < lo) (hwc:w≠c) (hwg:w≠g) (hcg:c≠g) (hg:Grown lo H av 7 (xW arcs)) (harcs:arcs.length≤1000000) (hlo:lo≤H.next)
  (hx:arcs[i]? = some x) (hy:arcs[j]? = some y) (fx:x.Fits N) (fy:y.Fits N) (hcur:∀ k∈cur,0≤k∧k≤arcs.length)
  (hq0:wR N cur arcs i j x y=none→∀ H',Keep Nothing H H'→Q (.tuple []) H')
  (hq1:∀ a,wR N cur arcs i j x y=some a→∀ av' H',Keep (fun i=>i=w∨i=c∨sid av=some i) H H'→Lay H' w c g N ev rv av' uv dv (cur.set (xR N a.src.toNat a.dst.toNat a.mode.toNat) (arcs.length+1)) gone→Grown lo H' av' 7 (xW (arcs++[a]))→(∃ y,sid av'=some y∧H.next≤y)→Q (.tuple []) H'):Ret A 20 [.ptr w 0,.int .i64 i,.int .i64 j] H Q:=by
 refine Ret.of (fn:=F20) rfl ?_
 have ho:=hL.obj
 have hwl:=hL.wlt
 have hcl:=hL.clt
 have hgl:=hL.glt
 obtain ⟨id1,off1,a1,a2,a3,a4⟩:=vZ hg.row hx
 obtain ⟨id2,off2,b1,b2,b3,b4⟩:=vZ hg.row hy
 have hbq:=hg.row.beq
 have hby:AVal.beq (.agg y.cells) (.agg y.cells)=true:=by simp [Arc.cells,AVal.beq,AVal.beqs]
 simp only [Arc.cells] at a4 b4 hby
 obtain ⟨⟨s1,s2⟩,⟨d1,d2⟩,⟨m1,m2⟩,⟨c1,c2⟩⟩:=fx
 obtain ⟨⟨t1,t2⟩,⟨e1,e2⟩,⟨n1,n2⟩,⟨f1,f2⟩⟩:=fy
 have hxy:∀ Q:Prop,Q→Q:=fun _ h=>h
 by_cases hm:x.mode=y.mode
 ·have hmd:decide (x.mode≠y.mode)=false:=by simp [hm]
  by_cases hd:y.dst=x.dst
  ·have hdd:decide (y.dst=x.dst)=true:=by simp [hd]
   simp (disch:=first | omega | (simp only [xB,xC] <;> omega) | fail) only [vai,xI,xH,F20,ho,a1,a4,b1,b4,xF hbq,xF hby,hmd,hdd,Nat.reduceAdd,Nat.reduceMul,Nat.reduceLeDiff,Nat.reduceEqDiff,↓reduceIte]
   exact hq0 (by simp [wR,hd]) _ (((((Keep.refl _ _).new _).new _).upd (.inl (Nat.le_refl _)) _).upd (.inl (by omega)) _)
  ·have hdd:decide (y.dst=x.dst)=false:=by simp [hd]
   simp (disch:=first | omega | (simp only [xB,xC] <;> omega) | fail) only [vai,xI,xH,F20,ho,a1,a4,b1,b4,xF hbq,xF hby,hmd,hdd,Nat.reduceAdd,Nat.reduceMul,Nat.reduceLeDiff,Nat.reduceEqDiff,↓reduceIte]
   refine at_ret (rw:=true) (N:=N) (by simp (disch:=first | omega | (simp only [xB,xC] <;> omega) | fail) only [xI,ho]; rfl) hN (by omega) (by omega) (by omega) ?_
   have hpl:(x.src*N+y.dst)*5+x.mode=((xR N x.src.toNat y.dst.toNat x.mode.toNat:Nat):Int):=by
    simp only [xR]
    rw [Int.natCast_add,Int.natCast_mul,Int.natCast_add,Int.natCast_mul,Int.toNat_of_nonneg s1,Int.toNat_of_nonneg e1,Int.toNat_of_nonneg m1]
    rfl
   have hplt:xR N x.src.toNat y.dst.toNat x.mode.toNat < N*N*5:=vE (by omega) (by omega) (by omega)
   have hs:wR N cur arcs i j x y=(let k:=cur.getD (xR N x.src.toNat y.dst.toNat x.mode.toNat) 0
    if k=0∨x.cost+y.cost < (arcs.getD (k.toNat - 1) default).cost then some ⟨x.src,y.dst,x.mode,x.cost+y.cost,-1,i,j⟩ else none):=by
    rw [wR,if_neg (by simp [hm,hd])]
   have hi1:xO 1 (.slice c 0 (N*N*5) (.exact (N*N*5))) (.int .i64 ((xR N x.src.toNat y.dst.toNat x.mode.toNat:Nat):Int))=some (.ptr c (xR N x.src.toNat y.dst.toNat x.mode.toNat)):=by
    rw [xM ⟨by omega,by omega⟩]; simp
   rw [hpl]
   have hck:(xL cur)[xR N x.src.toNat y.dst.toNat x.mode.toNat]? = some (.int .i64 (cur.getD (xR N x.src.toNat y.dst.toNat x.mode.toNat) 0)):=by
    have:xR N x.src.toNat y.dst.toNat x.mode.toNat < cur.length:=by rw [hL.curLen]; exact hplt
    simp [xL,this]
   have hkb:0≤cur.getD (xR N x.src.toNat y.dst.toNat x.mode.toNat) 0∧cur.getD (xR N x.src.toNat y.dst.toNat x.mode.toNat) 0≤arcs.length:=by
    have:xR N x.src.toNat y.dst.toNat x.mode.toNat < cur.length:=by rw [hL.curLen]; exact hplt
    rw [List.getD_eq_getElem?_getD,List.getElem?_eq_getElem this]
    exact hcur _ (List.getElem_mem this)
   simp only at hs
   generalize hp:xR N x.src.toNat y.dst.toNat x.mode.toNat=p at *
   generalize cur.getD p 0=k at *
   simp (disch:=first | omega | (simp only [xB,xC] <;> omega) | fail) only [vai,xI,xH,ho,hi1,hL.curO,hck,Nat.reduceAdd,Nat.reduceMul,Nat.reduceLeDiff,Nat.reduceEqDiff,↓reduceIte]
   have kk:Keep Nothing H ((((H.new (.cells [.int .i64 0,.int .i64 0,.int .i64 0,.int .i64 0,.int .i64 0,.int .i64 0,.int .i64 0] true)).new (.cells [.int .i64 0,.int .i64 0,.int .i64 0,.int .i64 0,.int .i64 0,.int .i64 0,.int .i64 0] true)).upd H.next (some (.cells x.cells true))).upd (H.next+1) (some (.cells y.cells true))):=((((Keep.refl _ _).new _).new _).upd (.inl (Nat.le_refl _)) _).upd (.inl (by omega)) _
   simp only [Arc.cells] at kk
   by_cases hk0:k=0
   ·have hk0d:decide (k=0)=true:=by simp [hk0]
    simp (disch:=first | omega | (simp only [xB,xC] <;> omega) | fail) only [vai,xI,xH,ho,hk0d,Nat.reduceAdd,Nat.reduceMul,Nat.reduceLeDiff,Nat.reduceEqDiff,↓reduceIte]
    have hsa:wR N cur arcs i j x y=some ⟨x.src,y.dst,x.mode,x.cost+y.cost,-1,i,j⟩:=by
     rw [hs,if_pos (by first | exact .inl hk0 | exact .inr hlt)]
    refine arc_ret (a:=⟨x.src,y.dst,x.mode,x.cost+y.cost,-1,i,j⟩) (src:=x.src.toNat) (dst:=y.dst.toNat) (mode:=x.mode.toNat) (hL.kept kk) hN hw hc hg0 hwc hwg hcg (hg.keep kk.next (fun i _ h2=>kk.obj i h2 (fun h=>h))) harcs (by have:=kk.next; omega) (by simp only; omega) (by simp only; omega) (by simp only; omega) (by omega) (by omega) (by omega) ?_
    intro av' H' h1 h2 h3 h4
    refine hq1 _ hsa av' H' ((kk.mono (fun _ _ h=>h.elim)).trans h1) h2 h3 ?_
    obtain ⟨q,q1,q2⟩:=h4
    exact ⟨q,q1,Nat.le_trans kk.next q2⟩
   ·have hk0d:decide (k=0)=false:=by simp [hk0]
    have hz:arcs[k.toNat - 1]? = some (arcs.getD (k.toNat - 1) default):=by
     have:k.toNat - 1 < arcs.length:=by omega
     simp [this]
    generalize arcs.getD (k.toNat - 1) default=z at *
    obtain ⟨id3,off3,z1,z2,z3,z4⟩:=vZ hg.row hz
    have hkk:k - 1=((k.toNat - 1:Nat):Int):=by omega
    by_cases hlt:x.cost+y.cost < z.cost
    ·have hltd:decide (x.cost+y.cost < z.cost)=true:=by simp [hlt]
     simp (disch:=first | omega | (simp only [xB,xC] <;> omega) | fail) only [vai,xI,xH,ho,hk0d,hkk,z1,z3,hltd,Nat.reduceAdd,Nat.reduceMul,Nat.reduceLeDiff,Nat.reduceEqDiff,↓reduceIte]
     have hsa:wR N cur arcs i j x y=some ⟨x.src,y.dst,x.mode,x.cost+y.cost,-1,i,j⟩:=by
      rw [hs,if_pos (by first | exact .inl hk0 | exact .inr hlt)]
     refine arc_ret (a:=⟨x.src,y.dst,x.mode,x.cost+y.cost,-1,i,j⟩) (src:=x.src.toNat) (dst:=y.dst.toNat) (mode:=x.mode.toNat) (hL.kept kk) hN hw hc hg0 hwc hwg hcg (hg.keep kk.next (fun i _ h2=>kk.obj i h2 (fun h=>h))) harcs (by have:=kk.next; omega) (by simp only; omega) (by simp only; omega) (by simp only; omega) (by omega) (by omega) (by omega) ?_
     intro av' H' h1 h2 h3 h4
     refine hq1 _ hsa av' H' ((kk.mono (fun _ _ h=>h.elim)).trans h1) h2 h3 ?_
     obtain ⟨q,q1,q2⟩:=h4
     exact ⟨q,q1,Nat.le_trans kk.next q2⟩
    ·have hltd:decide (x.cost+y.cost < z.cost)=false:=by simp [hlt]
     simp (disch:=first | omega | (simp only [xB,xC] <;> omega) | fail) only [vai,xI,xH,ho,hk0d,hkk,z1,z3,hltd,Nat.reduceAdd,Nat.reduceMul,Nat.reduceLeDiff,Nat.reduceEqDiff,↓reduceIte]
     exact hq0 (by rw [hs,if_neg (by simp [hk0,hlt])]) _ kk
 ·simp (disch:=first | omega | (simp only [xB,xC] <;> omega) | fail) only [vai,xI,xH,F20,ho,a1,a4,b1,b4,xF hbq,xF hby,hm,ne_eq,not_false_eq_true,decide_true,Nat.reduceAdd,Nat.reduceMul,Nat.reduceLeDiff,Nat.reduceEqDiff,↓reduceIte]
  exact hq0 (by simp [wR,hm]) _ (((((Keep.refl _ _).new _).new _).upd (.inl (Nat.le_refl _)) _).upd (.inl (by omega)) _)
end Go.Proofs.YtknhlpmmalcchaaGreat

namespace Go.Proofs.YtknhlpmmalcchaaGreat
open Go Go.VAI
set_option linter.unusedSimpArgs false

theorem zH {zs:List AVal} {b:Nat} {n:Nat} (h:(n:Int)*b≤140737488355328) (h2:(n:Int)≤9223372036854775807):amkSlice zs b (.int .i64 (n:Int)) (.int .i64 (n:Int))=some (.cells (reps zs n) true,fun y=>.slice y 0 n (.exact n)):=by
 simp only [amkSlice,Int.toNat_natCast]
 rw [if_pos ⟨by omega,by omega,h,h2⟩]
theorem reps_zero (n:Nat):reps [.int .i64 0] n=xL (List.replicate n 0):=by
 induction n with
 | zero=>rfl
 | succ n ih=>simp [reps,ih,xL,List.replicate_succ]
theorem _root_.Go.VAI.Row.keepM {H H':AHeap} {M:Nat→Prop} {v:AVal} {sz:Nat} {cs:List AVal} (h:Row H v sz cs) (hk:Keep M H H') (hM:∀ j,sid v=some j→¬ M j):Row H' v sz cs:=by
 cases h with
 | nil=>exact .nil
 | mk hid hc hl hcs=>exact .mk (Nat.lt_of_lt_of_le hid hk.next) (by rw [cells?_of] at hc ⊢; rw [hk.obj _ hid (hM _ rfl)]; exact hc) hl hcs
theorem begin_ret {w c g N lo:Nat} {ev rv uv dv:AVal} {es:List Edge} {cur:List Int} {gone:List Bool} {H:AHeap} {Q:AVal→AHeap→Prop} (hL:Lay H w c g N ev rv .nilSlice uv dv cur gone) (hN:N≤400)
  (hw:w < lo) (hc:c < lo) (hg0:g < lo) (hwc:w≠c) (hwg:w≠g) (hcg:c≠g) (hlo:lo≤H.next) (hr:Row H ev 4 (xG es)) (hev:∀ j,sid ev=some j→j≠w∧j≠c) (hn:es.length≤1000)
  (hf:∀ e∈es,(0≤e.src∧e.src < N)∧(0≤e.dst∧e.dst < N)∧(0≤e.mode∧e.mode < 5)∧(0≤e.cost∧e.cost≤4294967296))
  (hq:∀ av' H',Keep (fun i=>i=w∨i=c) H H'→Lay H' w c g N ev rv av' uv dv (zD N es cur (yO N es es.length)).2 gone→Grown lo H' av' 7 (xW (zD N es cur (yO N es es.length)).1)→Q (.tuple []) H'):Ret A 16 [.ptr w 0] H Q:=by
 refine Ret.of (fn:=F16) rfl ?_
 have ho:=hL.obj
 have hwl:=hL.wlt
 have hcl:=hL.clt
 have hgl:=hL.glt
 have p1:0≤(N:Int)*(N:Int):=Int.mul_nonneg (by omega) (by omega)
 have p2:(N:Int)*(N:Int)≤400*400:=Int.mul_le_mul (by omega) (by omega) (by omega) (by omega)
 have hc5:(N:Int)*(N:Int)*5=((N*N*5:Nat):Int):=by simp
 have hcells:=hr.cells
 have hb5:((N*N*5:Nat):Int)*((8:Nat):Int)≤140737488355328:=by rw [← hc5]; omega
 have hb6:((N*N*5:Nat):Int)≤9223372036854775807:=by rw [← hc5]; omega
 simp (disch:=first | omega | (simp only [xB,xC] <;> omega) | fail) only [vai,xI,xH,F16,ho,hc5,zH hb5 hb6,Nat.reduceAdd,Nat.reduceMul,Nat.reduceLeDiff,Nat.reduceEqDiff,↓reduceIte]
 rw [reps_zero]
 refine xS (fun m t H'=>∃ (i:Nat),m=es.length - i∧i≤es.length ∧
  t=[.ptr w 0,.bot,.ptr H.next 0,.slice (H.next+1) 0 (N*N*5) (.exact (N*N*5)),.int .i64 i]++List.replicate 97 .bot∧Keep Nothing H H'∧H.next+2≤H'.next ∧
  H'.obj H.next=some (.cells [.int .i64 N,ev] true)∧H'.obj (H.next+1)=some (.cells (xL (yO N es i)) true)) es.length ?_ ?_
 ·refine ⟨0,rfl,by omega,rfl,(((Keep.refl _ _).new _).upd (.inl (Nat.le_refl _)) _).new _,?_,?_,?_⟩
  ·simp only [xB,xC]; exact Nat.le_refl _
  ·simp (disch:=first | omega | (simp only [xB,xC] <;> omega) | fail) only [xI]
  ·simp (disch:=first | omega | (simp only [xB,xC] <;> omega) | fail) only [xI]; rfl
 ·rintro m t H1 ⟨i,rfl,hi1,rfl,hk,hn1,o1,o2⟩
  have hr1:Row H1 ev 4 (xG es):=hr.kept hk
  have hlen:=hr1.len (by omega) (xU es)
  have hw1:H1.obj w=some (.cells [.int .i64 N,ev,rv,.nilSlice,uv,dv,.slice c 0 (N*N*5) (.exact (N*N*5)),.slice g 0 N (.exact N)] true):=by rw [hk.obj _ hwl (fun h=>h)]; exact ho
  by_cases hc1:(i:Int) < es.length
  ·have hix:i < es.length:=by omega
   have he:es[i]? = some es[i]:=by simp [hix]
   obtain ⟨⟨s1,s2⟩,⟨d1,d2⟩,⟨m1,m2⟩,⟨c1,c2⟩⟩:=hf es[i] (List.getElem_mem hix)
   obtain ⟨id,off,e1,hid2,e2,e3,e4,e5,e6⟩:=vC hr1 he
   have hbs:yO N es (i+1)=uD N es (yO N es i) i es[i]:=by
    rw [yO]; congr 1; simp [hix]
   have hbl:=wZ N es i
   have hbb:=bestOf_bd N es i hi1
   generalize es[i]=e at *
   generalize yO N es i=bs at *
   simp only [Edge.cells] at e6
   simp (disch:=first | omega | (simp only [xB,xC] <;> omega) | fail) only [vai,xI,xH,List.replicate,hc1,decide_true,hlen,o1,e1,e6,hw1,Nat.reduceAdd,Nat.reduceMul,Nat.reduceLeDiff,Nat.reduceEqDiff,↓reduceIte]
   refine at_ret (rw:=true) (N:=N) (by simp (disch:=first | omega | (simp only [xB,xC] <;> omega) | fail) only [xI,hw1]; rfl) (by omega) (by omega) (by omega) (by omega) ?_
   have hpl:(e.src*N+e.dst)*5+e.mode=((xR N e.src.toNat e.dst.toNat e.mode.toNat:Nat):Int):=by
    simp only [xR]
    rw [Int.natCast_add,Int.natCast_mul,Int.natCast_add,Int.natCast_mul,Int.toNat_of_nonneg s1,Int.toNat_of_nonneg d1,Int.toNat_of_nonneg m1]
    rfl
   have hplt:xR N e.src.toNat e.dst.toNat e.mode.toNat < N*N*5:=vE (by omega) (by omega) (by omega)
   rw [hpl]
   simp only [uD] at hbs
   have hck:(xL bs)[xR N e.src.toNat e.dst.toNat e.mode.toNat]? = some (.int .i64 (bs.getD (xR N e.src.toNat e.dst.toNat e.mode.toNat) 0)):=by
    have:xR N e.src.toNat e.dst.toNat e.mode.toNat < bs.length:=by rw [hbl]; exact hplt
    simp [xL,this]
   have hkb:0≤bs.getD (xR N e.src.toNat e.dst.toNat e.mode.toNat) 0∧bs.getD (xR N e.src.toNat e.dst.toNat e.mode.toNat) 0≤es.length:=by
    have:xR N e.src.toNat e.dst.toNat e.mode.toNat < bs.length:=by rw [hbl]; exact hplt
    rw [List.getD_eq_getElem?_getD,List.getElem?_eq_getElem this]
    exact hbb _ (List.getElem_mem this)
   generalize hp:xR N e.src.toNat e.dst.toNat e.mode.toNat=p at *
   generalize bs.getD p 0=k at *
   have hi1:xO 1 (.slice (H.next+1) 0 (N*N*5) (.exact (N*N*5))) (.int .i64 (p:Int))=some (.ptr (H.next+1) p):=by
    rw [xM ⟨by omega,by omega⟩]; simp
   have hbl2:(xL bs).length=N*N*5:=by rw [xE,hbl]
   have hle:p+1≤N*N*5:=hplt
   have hset:yV (xL bs) p [.int .i64 ((i:Int)+1)]=xL (bs.set p (i+1)):=by
    rw [splice_set (by rw [hbl2]; exact hplt)]
    simp [xL,List.map_set]
   by_cases hk0:k=0
   ·have hk0d:decide (k=0)=true:=by simp [hk0]
    simp (disch:=first | omega | (simp only [xB,xC] <;> omega) | fail) only [vai,xI,xH,o1,o2,hi1,hck,hk0d,hbl2,hle,hset,Nat.reduceAdd,Nat.reduceMul,Nat.reduceLeDiff,Nat.reduceEqDiff,↓reduceIte]
    refine ⟨es.length - (i+1),by omega,i+1,rfl,by omega,rfl,?_⟩
    rw [hbs,if_pos (.inl hk0)]
    exact ⟨((hk.new _).upd (.inl (by omega)) _).upd (.inl (by omega)) _,by omega,rfl⟩
   ·have hk0d:decide (k=0)=false:=by simp [hk0]
    have hz:es[k.toNat - 1]? = some (es.getD (k.toNat - 1) default):=by
     have:k.toNat - 1 < es.length:=by omega
     simp [this]
    generalize es.getD (k.toNat - 1) default=z at *
    obtain ⟨id3,off3,z1,z2,z3,z4,z5,z6,z7⟩:=vC hr1 hz
    have hkk:k - 1=((k.toNat - 1:Nat):Int):=by omega
    by_cases hlt:e.cost < z.cost
    ·have hltd:decide (e.cost < z.cost)=true:=by simp [hlt]
     simp (disch:=first | omega | (simp only [xB,xC] <;> omega) | fail) only [vai,xI,xH,o1,o2,hi1,hck,hk0d,hkk,z1,z6,hltd,hbl2,hle,hset,Nat.reduceAdd,Nat.reduceMul,Nat.reduceLeDiff,Nat.reduceEqDiff,↓reduceIte]
     refine ⟨es.length - (i+1),by omega,i+1,rfl,by omega,rfl,?_⟩
     rw [hbs,if_pos (.inr hlt)]
     exact ⟨((hk.new _).upd (.inl (by omega)) _).upd (.inl (by omega)) _,by omega,rfl⟩
    ·have hltd:decide (e.cost < z.cost)=false:=by simp [hlt]
     simp (disch:=first | omega | (simp only [xB,xC] <;> omega) | fail) only [vai,xI,xH,o1,o2,hi1,hck,hk0d,hkk,z1,z6,hltd,Nat.reduceAdd,Nat.reduceMul,Nat.reduceLeDiff,Nat.reduceEqDiff,↓reduceIte]
     refine ⟨es.length - (i+1),by omega,i+1,rfl,by omega,rfl,?_⟩
     rw [hbs,if_neg (by simp [hk0,hlt])]
     exact ⟨(hk.new _).upd (.inl (by omega)) _,by omega,rfl⟩
  ·simp (disch:=first | omega | (simp only [xB,xC] <;> omega) | fail) only [vai,xI,xH,List.replicate,hc1,decide_false,hlen,o1,Nat.reduceAdd,Nat.reduceMul,Nat.reduceLeDiff,Nat.reduceEqDiff,↓reduceIte]
   have hi:i=es.length:=by omega
   subst hi
   have hL1:=hL.kept hk
   have hkn:=hk.next
   have hbl:=wZ N es es.length
   have hbb:=bestOf_bd N es es.length (Nat.le_refl _)
   generalize yO N es es.length=bs at *
   refine xS (fun m t H'=>∃ (j:Nat) (av:AVal),m=bs.length - j∧j≤bs.length ∧
    t=[.ptr w 0,.bot,.ptr H.next 0,.slice (H.next+1) 0 (N*N*5) (.exact (N*N*5)),.bot,.bot,.bot,.int .i64 j]++List.replicate 94 .bot∧Keep (fun i=>i=w∨i=c) H H'∧H.next+2≤H'.next ∧
    H'.obj H.next=some (.cells [.int .i64 N,ev] true)∧H'.obj (H.next+1)=some (.cells (xL bs) true) ∧
    Lay H' w c g N ev rv av uv dv (zD N es cur (bs.take j)).2 gone∧Grown (H.next+2) H' av 7 (xW (zD N es cur (bs.take j)).1)∧(zD N es cur (bs.take j)).1.length≤j) bs.length ?_ ?_
   ·exact ⟨0,.nilSlice,rfl,by omega,rfl,hk.mono (fun _ _ h=>h.elim),hn1,o1,o2,by simpa [zD] using hL1,by simp only [List.take_zero,zD,List.foldl_nil]; exact .nil,by simp [zD]⟩
   ·clear hL1 hk hn1 o1 o2 hlen hr1 hw1 hkn hc1
    rintro m t H2 ⟨j,av,rfl,hj1,rfl,hk,hn1,o1,o2,hL2,hg,hlj⟩
    have hkn:=hk.next
    have hr2:Row H2 ev 4 (xG es):=by
     exact hr.keepM hk (fun q hq h=>h.elim (hev q hq).1 (hev q hq).2)
    by_cases hc2:(j:Int) < ((N*N*5:Nat):Int)
    ·have hjl:j < bs.length:=by omega
     have hjb:(xL bs)[j]? = some (.int .i64 bs[j]):=by simp [xL,hjl]
     have hbd:=hbb bs[j] (List.getElem_mem hjl)
     have hst:zD N es cur (bs.take (j+1))=beginStep N es (zD N es cur (bs.take j)) bs[j]:=by
      rw [zD,zD,List.take_succ_eq_append_getElem hjl,List.foldl_append]; rfl
     generalize bs[j]=b at *
     have hi1:xO 1 (.slice (H.next+1) 0 (N*N*5) (.exact (N*N*5))) (.int .i64 (j:Int))=some (.ptr (H.next+1) j):=by
      rw [xM ⟨by omega,by omega⟩]; simp
     by_cases hb0:0 < b
     ·have hb0d:decide (0 < b)=true:=by simp [hb0]
      have hzl:b.toNat - 1 < es.length:=by omega
      have hz:es[b.toNat - 1]? = some (es.getD (b.toNat - 1) default):=by simp [hzl]
      have hzf:=hf (es.getD (b.toNat - 1) default) (List.mem_of_getElem? hz)
      obtain ⟨id3,off3,z1,z2,z3,z4,z5,z6,z7⟩:=vC hr2 hz
      have hkk:b - 1=((b.toNat - 1:Nat):Int):=by omega
      simp only [Edge.cells] at z7
      simp (disch:=first | omega | (simp only [xB,xC] <;> omega) | fail) only [vai,xI,xH,List.replicate,hc2,decide_true,alenS_slice,hi1,o1,o2,hjb,hb0d,hkk,z1,z7,Nat.reduceAdd,Nat.reduceMul,Nat.reduceLeDiff,Nat.reduceEqDiff,↓reduceIte]
      rw [← hkk]
      have kk:Keep Nothing H2 ((H2.new (.cells [.int .i64 0,.int .i64 0,.int .i64 0,.int .i64 0] true)).upd H2.next (some (.cells (es.getD (b.toNat - 1) default).cells true))):=((Keep.refl _ _).new _).upd (.inl (Nat.le_refl _)) _
      simp only [Edge.cells] at kk
      obtain ⟨⟨s1,s2⟩,⟨d1,d2⟩,⟨m1,m2⟩,⟨c1,c2⟩⟩:=hzf
      refine arc_ret (a:=vG es b) (lo:=H.next+2) (src:=(vG es b).src.toNat) (dst:=(vG es b).dst.toNat) (mode:=(vG es b).mode.toNat) (hL2.kept kk) (by omega) (by omega) (by omega) (by omega) hwc hwg hcg (hg.keep kk.next (fun i _ h2=>kk.obj i h2 (fun h=>h))) (by omega) (by have:=kk.next; omega) (by simp only [vG]; omega) (by simp only [vG]; omega) (by simp only [vG]; omega) (by simp only [vG]; omega) (by simp only [vG]; omega) (by simp only [vG]; omega) ?_
      intro av' H' k1 k2 k3 k4
      have kall:=(kk.mono (N:=fun i=>i=w∨i=c∨sid av=some i) (fun _ _ h=>h.elim)).trans k1
      have ns:∀ i,i < H.next+2→sid av≠some i:=fun i hi e=>by have:=(hg.sid_ge e).1; omega
      simp (disch:=first | omega | (simp only [xB,xC] <;> omega) | fail) only [vai,xI,xH,Nat.reduceAdd,Nat.reduceMul,Nat.reduceLeDiff,Nat.reduceEqDiff,↓reduceIte]
      refine ⟨bs.length - (j+1),by omega,j+1,av',rfl,by omega,rfl,⟨by have:=kall.next; omega,fun i hi hm=>?_⟩,?_⟩
      ·rw [kall.obj i (by omega) (fun h=>h.elim (fun h=>hm (.inl h)) (fun h=>h.elim (fun h=>hm (.inr h)) (fun h=>ns i (by omega) h))),hk.obj i hi hm]
      ·rw [hst,beginStep,if_pos hb0]
       have kn:=kall.next
       refine ⟨by omega,?_,?_,k2,k3,by simp; omega⟩
       ·rw [kall.obj _ (by omega) (fun h=>h.elim (fun h=>by omega) (fun h=>h.elim (fun h=>by omega) (fun h=>ns _ (by omega) h)))]; exact o1
       ·rw [kall.obj _ (by omega) (fun h=>h.elim (fun h=>by omega) (fun h=>h.elim (fun h=>by omega) (fun h=>ns _ (by omega) h)))]; exact o2
     ·have hb0d:decide (0 < b)=false:=by simp [hb0]
      simp (disch:=first | omega | (simp only [xB,xC] <;> omega) | fail) only [vai,xI,xH,List.replicate,hc2,decide_true,alenS_slice,hi1,o1,o2,hjb,hb0d,Nat.reduceAdd,Nat.reduceMul,Nat.reduceLeDiff,Nat.reduceEqDiff,↓reduceIte]
      refine ⟨bs.length - (j+1),by omega,j+1,av,rfl,by omega,rfl,hk,?_⟩
      rw [hst,beginStep,if_neg hb0]
      exact ⟨hn1,hL2,hg,by omega⟩
    ·simp (disch:=first | omega | (simp only [xB,xC] <;> omega) | fail) only [vai,xI,xH,List.replicate,hc2,decide_false,alenS_slice,Nat.reduceAdd,Nat.reduceMul,Nat.reduceLeDiff,Nat.reduceEqDiff,↓reduceIte]
     have hj:bs.take j=bs:=List.take_of_length_le (by omega)
     rw [hj] at hL2 hg
     exact hq av _ hk hL2 (hg.keep' ⟨by omega,Nat.le_refl _⟩ (fun _ _ _=>rfl))
end Go.Proofs.YtknhlpmmalcchaaGreat
