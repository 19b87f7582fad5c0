/- Steps of the walk. -/
import Derived.Test.YtknhlpmmalcchaaI4Te
import Derived.Test.YtknhlpmmalcchaaI4Vba
import Derived.Test.YtknhlpmmalcchaaRows
import Derived.ProofKit
set_option linter.all false
set_option linter.unusedVariables false
set_option linter.unusedSimpArgs false
namespace Go.Proofs.Ytknhlpmmalcchaa
open Go Go.VAI
set_option linter.unusedSimpArgs false

theorem IdxFrom.finR {q lo : Nat} {Hs H : AHeap} {ew rv av uv dv : AVal} {x : Idx} (hlo : lo ≤ q) (hk : Keep (fun j => j ≤ q) Hs H) (he : Fin' q Hs ew 4 (edgeCells x.es)) (hr : Fin' q Hs rv 1 (ints x.rank)) (ha : Fin' q Hs av 7 (arcCells x.arcs)) (hu : FinRows q Hs uv x.up) (hd : FinRows q Hs dv x.down) : IdxFrom lo H ew rv av uv dv x := by
  have f : ∀ {v : AVal} {sz : Nat} {cs : List AVal}, Fin' q Hs v sz cs → From lo H v sz cs := fun h => ⟨(h.M hk (fun _ h => h)).1, fun j hj => by have := h.2 j hj; omega⟩
  have g : ∀ {v : AVal} {ll : List (List Int)}, FinRows q Hs v ll → FromRows lo H v ll := fun h => by
    obtain ⟨vs, h1, h2, h3⟩ := h
    exact ⟨vs, f h1, h2, fun i r l e1 e2 => f (h3 i r l e1 e2)⟩
  exact ⟨f he, f hr, f ha, g hu, g hd⟩
set_option maxRecDepth 20000 in
set_option maxHeartbeats 8000000 in
theorem refRead_ret {w : Nat} {src : Option Nat} {s : RS} {H : AHeap} {Q : AVal → AHeap → Prop} (h : RdAt H w src s) (hl : s.left.length ≤ 1000000000)
    (hq : ∀ ew rv av uv dv H', Keep (fun j => j = w) H H' → RdAt H' w src (refRead s).2 → IdxFrom H.next H' ew rv av uv dv (refRead s).1 → Q (.agg [.int .i64 (refRead s).1.n, ew, rv, av, uv, dv]) H') : Ret A 75 [.ptr w 0] H Q := by
  refine Ret.of (fn := F75) rfl ?_
  have hwl := h.lt
  have hls : ∀ j, src = some j → j < H.next := fun j hj => h.src_lt hj
  simp (disch := first | omega | (simp only [nx] <;> omega) | fail) only [vaw, F75, Nat.reduceAdd, Nat.reduceMul, Nat.reduceLeDiff, Nat.reduceEqDiff, ↓reduceIte]
  have D0 : RdgAt H (H.next + 1) w src ((H.new (.cells [.int .i64 0, .nilSlice, .nilSlice, .nilSlice, .nilSlice, .nilSlice] true)).new (.cells [.int .i64 0, .nilSlice, .nilSlice, .nilSlice, .nilSlice, .nilSlice] true)) [.int .i64 0, .nilSlice, .nilSlice, .nilSlice, .nilSlice, .nilSlice] s :=
    ⟨((Keep.refl _ _).new _).new _, by simp (disch := first | omega | (simp only [nx] <;> omega) | fail) only [vaim], by simp (disch := first | omega | (simp only [nx] <;> omega) | fail) only [vaim], h.kept (((Keep.refl _ _).new _).new _), hl, by omega, by simp only [next_new]; omega, hwl, hls⟩
  generalize hqq : H.next + 1 = q at *
  generalize (H.new (.cells [.int .i64 0, .nilSlice, .nilSlice, .nilSlice, .nilSlice, .nilSlice] true)).new (.cells [.int .i64 0, .nilSlice, .nilSlice, .nilSlice, .nilSlice, .nilSlice] true) = H4 at *
  refine rnum_ret D0.rd fun H5 k5 h5 n5 => ?_
  have D1 := D0.read k5 h5 (rFour_left _)
  have hn := rFour_bd h.bytes
  obtain ⟨n, hN⟩ : ∃ n : Nat, (rFour s).1 = n := ⟨(rFour s).1.toNat, by omega⟩
  rw [hN] at hn ⊢
  have o1 := D1.ob
  simp (disch := first | omega | (simp only [nx] <;> omega) | fail) only [vaw, o1, Nat.reduceAdd, Nat.reduceMul, Nat.reduceLeDiff, Nat.reduceEqDiff, ↓reduceIte]
  have D2 := D1.put [.int .i64 n, .nilSlice, .nilSlice, .nilSlice, .nilSlice, .nilSlice]
  generalize H5.upd q (some (.cells [.int .i64 n, .nilSlice, .nilSlice, .nilSlice, .nilSlice, .nilSlice] true)) = H6 at *
  refine rcnt_ret (size := 16) D2.rd (by omega) fun H7 k7 h7 n7 => ?_
  have D3 := D2.read k7 h7 (rCount_left _ _)
  have hk := rCount_bd (size := 16) D2.rd.bytes
  have hkl := rCount_le (size := 16) D2.rd.bytes
  have hl0 := D2.len
  clear k5 h5 n5 o1 D1 D0 k7 h7 n7
  obtain ⟨k, hkk⟩ : ∃ k : Nat, (rCount 16 (rFour s).2).1 = k := ⟨(rCount 16 (rFour s).2).1.toNat, by omega⟩
  rw [hkk] at hk hkl ⊢
  have hk9 : k ≤ 1000000000 := by
    have := Nat.div_le_self (rFour s).2.left.length 16
    omega
  generalize hS0 : (rCount 16 (rFour s).2).2 = s0 at *
  have hw7 := D3.lh
  have hqw := D3.lw
  clear D2
  simp (disch := first | omega | (simp only [nx] <;> omega) | fail) only [vaw, Nat.reduceAdd, Nat.reduceMul, Nat.reduceLeDiff, Nat.reduceEqDiff, ↓reduceIte]
  refine wpx_loop (fun m t H' => ∃ (i : Nat) (ev : AVal), m = k - i ∧ i ≤ k ∧ t = (.ptr w 0 :: bots 1 (.ptr H.next 0 :: .ptr q 0 :: .int .i64 k :: .int .i64 i :: bots 124 ([])) : Tmps) ∧ RdgAt H q w src H' [.int .i64 n, ev, .nilSlice, .nilSlice, .nilSlice, .nilSlice] (rep rEdge i s0).2 ∧ Keep (fun j => j = w ∨ j = q) H7 H' ∧ Own H7.next H' ev 4 (edgeCells (rep rEdge i s0).1)) k ?_ ?_
  · exact ⟨0, .nilSlice, rfl, by omega, rfl, D3, Keep.refl _ _, .nil⟩
  · clear D3
    rintro m t Ha ⟨i, ev, rfl, hi, rfl, D, kD, gD⟩
    have nD := kD.next
    by_cases hc : (i : Int) < k
    · have hrep : rep rEdge (i + 1) s0 = ((rep rEdge i s0).1 ++ [⟨(rFour (rep rEdge i s0).2).1, (rFour (rFour (rep rEdge i s0).2).2).1, (rFour (rFour (rFour (rep rEdge i s0).2).2).2).1, (rFour (rFour (rFour (rFour (rep rEdge i s0).2).2).2).2).1⟩], (rFour (rFour (rFour (rFour (rep rEdge i s0).2).2).2).2).2) := rfl
      have rl := rep_length rEdge i s0
      simp (disch := first | omega | (simp only [nx] <;> omega) | fail) only [vaw, hc, Nat.reduceAdd, Nat.reduceMul, Nat.reduceLeDiff, Nat.reduceEqDiff, ↓reduceIte]
      refine rnum_ret D.rd fun Hb kb hb nb => ?_
      have Db := D.read kb hb (rFour_left _)
      generalize (rep rEdge i s0).1 = es0 at *
      generalize (rep rEdge i s0).2 = t0 at *
      simp (disch := first | omega | (simp only [nx] <;> omega) | fail) only [vaw, Nat.reduceAdd, Nat.reduceMul, Nat.reduceLeDiff, Nat.reduceEqDiff, ↓reduceIte]
      have kb1 : Keep (fun j => j = w) Ha ((Hb.new (.cells [.int .i64 0, .int .i64 0, .int .i64 0, .int .i64 0] true)).upd Hb.next (some (.cells [.int .i64 (rFour t0).1, .int .i64 0, .int .i64 0, .int .i64 0] true))) := (kb.new _).upd (.inl (by omega)) _
      have Db1 := (Db.kept ((Keep.refl Nothing Hb).new (.cells [.int .i64 0, .int .i64 0, .int .i64 0, .int .i64 0] true))).upd (y := Hb.next) (by have := Db.lh; omega) (some (.cells [.int .i64 (rFour t0).1, .int .i64 0, .int .i64 0, .int .i64 0] true))
      have ob1 : ((Hb.new (.cells [.int .i64 0, .int .i64 0, .int .i64 0, .int .i64 0] true)).upd Hb.next (some (.cells [.int .i64 (rFour t0).1, .int .i64 0, .int .i64 0, .int .i64 0] true))).obj Hb.next = some (.cells [.int .i64 (rFour t0).1, .int .i64 0, .int .i64 0, .int .i64 0] true) := obj_upd_eq rfl
      have nb1 : ((Hb.new (.cells [.int .i64 0, .int .i64 0, .int .i64 0, .int .i64 0] true)).upd Hb.next (some (.cells [.int .i64 (rFour t0).1, .int .i64 0, .int .i64 0, .int .i64 0] true))).next = Hb.next + 1 := by simp only [next_upd, next_new]
      generalize (Hb.new (.cells [.int .i64 0, .int .i64 0, .int .i64 0, .int .i64 0] true)).upd Hb.next (some (.cells [.int .i64 (rFour t0).1, .int .i64 0, .int .i64 0, .int .i64 0] true)) = Hc at *
      have hy : Ha.next ≤ Hb.next := by omega
      generalize Hb.next = y at *
      have hqa := D.lh
      clear D Db hb kb nb
      refine Db1.num kb1 ob1 (by omega) hqa fun Hd Dd kd od nd => ?_
      simp (disch := first | omega | (simp only [nx] <;> omega) | fail) only [vaw, od, Nat.reduceAdd, Nat.reduceMul, Nat.reduceLeDiff, Nat.reduceEqDiff, ↓reduceIte]
      obtain ⟨De, ke, oe, ne⟩ := Dd.set (y := y) (zs := [.int .i64 (rFour t0).1, .int .i64 (rFour (rFour t0).2).1, .int .i64 0, .int .i64 0]) kd (by omega) hqa
      generalize Hd.upd y (some (.cells [.int .i64 (rFour t0).1, .int .i64 (rFour (rFour t0).2).1, .int .i64 0, .int .i64 0] true)) = He at *
      refine De.num ke oe (by omega) hqa fun Hf Df kf of nf => ?_
      simp (disch := first | omega | (simp only [nx] <;> omega) | fail) only [vaw, of, Nat.reduceAdd, Nat.reduceMul, Nat.reduceLeDiff, Nat.reduceEqDiff, ↓reduceIte]
      obtain ⟨Dg, kg, og, ng⟩ := Df.set (y := y) (zs := [.int .i64 (rFour t0).1, .int .i64 (rFour (rFour t0).2).1, .int .i64 (rFour (rFour (rFour t0).2).2).1, .int .i64 0]) kf (by omega) hqa
      generalize Hf.upd y (some (.cells [.int .i64 (rFour t0).1, .int .i64 (rFour (rFour t0).2).1, .int .i64 (rFour (rFour (rFour t0).2).2).1, .int .i64 0] true)) = Hg at *
      refine Dg.num kg og (by omega) hqa fun Hh Dh kh oh nh => ?_
      have obh := Dh.ob
      have hqh := Dh.lh
      simp (disch := first | omega | (simp only [nx] <;> omega) | fail) only [vaw, oh, obh, Nat.reduceAdd, Nat.reduceMul, Nat.reduceLeDiff, Nat.reduceEqDiff, ↓reduceIte]
      obtain ⟨Di, ki, oi, ni⟩ := Dh.set (y := y) (zs := [.int .i64 (rFour t0).1, .int .i64 (rFour (rFour t0).2).1, .int .i64 (rFour (rFour (rFour t0).2).2).1, .int .i64 (rFour (rFour (rFour (rFour t0).2).2).2).1]) kh (by omega) hqa
      generalize Hh.upd y (some (.cells [.int .i64 (rFour t0).1, .int .i64 (rFour (rFour t0).2).1, .int .i64 (rFour (rFour (rFour t0).2).2).1, .int .i64 (rFour (rFour (rFour (rFour t0).2).2).2).1] true)) = Hi at *
      have obi := Di.ob
      have nqi := Di.lh
      have bev := gD.beq
      have g4 := gD.keepM ki (fun j hj e => by have := (gD.sid_ge hj).1; omega)
      refine app_ret (n := i) g4 (by simp (disch := first | omega | (simp only [nx] <;> omega) | fail) only [vaim]; rfl) rfl (by omega) (by omega) (by rw [edgeCells_length, rl]) (by omega) (by omega) ?_
      intro v5 H10 n10 k10 g10 s10
      simp only [next_new] at n10 s10
      have kk := app_keep n10 k10
      have D5 := (Di.kept ((Keep.refl _ _).new _)).grow kk (fun j hj => by have := (g4.sid_ge hj).1; omega)
      have ob5 := D5.ob
      have c5 := g10.cells
      simp (disch := first | omega | (simp only [nx] <;> omega) | fail) only [vaw, ob5, c5, Nat.reduceAdd, Nat.reduceMul, Nat.reduceLeDiff, Nat.reduceEqDiff, ↓reduceIte]
      refine ⟨k - (i + 1), by omega, i + 1, v5, rfl, by omega, rfl, by rw [hrep]; exact D5.put _, wq_upd (((kD.trans (wq_of ki)).new _).trans' kk (fun j hj e => by have := (g4.sid_ge e).1; omega)) _, ?_⟩
      refine (Grown.upd ?_ (by omega) _).own
      rw [hrep, edgeCells_append]
      exact g10
    · have hik : i = k := by omega
      subst hik
      have hE := own_fin (w := q) gD hw7
      have ob := D.ob
      have oh := D.op
      obtain ⟨lv, r1, r2, r3, r4, r5, r6, r7⟩ := D.rd
      have hlh := D.lh
      have hlq := D.lq
      generalize hS1 : (rep rEdge i s0).2 = s1 at *
      generalize hES : (rep rEdge i s0).1 = es at *
      by_cases c1 : (60 : Int) < n
      · have href : refRead s = (⟨n, es, [], [], [], []⟩, ⟨s1.left, true⟩) := by
          unfold refRead
          simp only [hN, hkk, hS0, hS1, hES, Int.toNat_natCast, if_pos c1]
        rw [href] at hq
        simp (disch := first | omega | (simp only [nx] <;> omega) | fail) only [vaw, hc, ob, oh, r1, c1, Nat.reduceAdd, Nat.reduceMul, Nat.reduceLeDiff, Nat.reduceEqDiff, ↓reduceIte]
        refine hq ev .nilSlice .nilSlice .nilSlice .nilSlice _ ?_ ?_ ?_
        · exact (D.keep.upd (.inr rfl) _).upd (.inl (Nat.le_refl _)) _
        · have kk : Keep (fun j => j = w ∨ j = H.next) Ha ((Ha.upd w (some (.cells [lv, .bool true] true))).upd H.next (some (.cells [.int .i64 n, ev, .nilSlice, .nilSlice, .nilSlice, .nilSlice] true))) := ((Keep.refl (fun j => j = w ∨ j = H.next) _).upd (.inr (.inl rfl)) _).upd (.inr (.inr rfl)) _
          exact ⟨lv, by rw [obj_upd_ne (by omega), obj_upd_eq rfl], r2.M kk (fun j hj e => by have := hls j (by rw [← r3]; exact hj); rcases e with e | e; exact r5 (by rw [← r3, hj, e]); omega), r3, by simp only [next_upd]; omega, r5, r6, r7⟩
        · have kk : Keep (fun j => j ≤ q) Ha ((Ha.upd w (some (.cells [lv, .bool true] true))).upd H.next (some (.cells [.int .i64 n, ev, .nilSlice, .nilSlice, .nilSlice, .nilSlice] true))) := ((Keep.refl (fun j => j ≤ q) _).upd (.inr (by omega)) _).upd (.inr (by omega)) _
          exact ⟨⟨(hE.M kk (fun _ h => h)).1, fun j hj => by have := hE.2 j hj; omega⟩, ⟨.nil, fun j hj => by cases hj⟩, ⟨.nil, fun j hj => by cases hj⟩, ⟨[], ⟨.nil, fun j hj => by cases hj⟩, rfl, fun i r l h => by simp at h⟩, ⟨[], ⟨.nil, fun j hj => by cases hj⟩, rfl, fun i r l h => by simp at h⟩⟩
      · have href : refRead s = (⟨n, es, (rep rRank n s1).1, (rep refArc (rCount 32 (rep rRank n s1).2).1.toNat (rCount 32 (rep rRank n s1).2).2).1, (rep rList n (rep refArc (rCount 32 (rep rRank n s1).2).1.toNat (rCount 32 (rep rRank n s1).2).2).2).1, (rep rList n (rep rList n (rep refArc (rCount 32 (rep rRank n s1).2).1.toNat (rCount 32 (rep rRank n s1).2).2).2).2).1⟩, (rep rList n (rep rList n (rep refArc (rCount 32 (rep rRank n s1).2).1.toNat (rCount 32 (rep rRank n s1).2).2).2).2).2) := by
          unfold refRead
          simp only [hN, hkk, hS0, hS1, hES, Int.toNat_natCast, if_neg c1]
        rw [href] at hq
        simp (disch := first | omega | (simp only [nx] <;> omega) | fail) only [vaw, hc, ob, c1, Nat.reduceAdd, Nat.reduceMul, Nat.reduceLeDiff, Nat.reduceEqDiff, ↓reduceIte]
        clear r1 r2 r3 r4 r5 r6 r7 gD kD hk hkl hk9 hS0 hS1 hES href ob oh hl0
        refine wpx_loop (fun m t H' => ∃ (i : Nat) (rv : AVal), m = n - i ∧ i ≤ n ∧ t = (.ptr w 0 :: bots 1 (.ptr H.next 0 :: .ptr q 0 :: bots 3 (.int .i64 i :: bots 122 ([]))) : Tmps) ∧ RdgAt H q w src H' [.int .i64 n, ev, rv, .nilSlice, .nilSlice, .nilSlice] (rep rRank i s1).2 ∧ Keep (fun j => j = w ∨ j = q) Ha H' ∧ Own Ha.next H' rv 1 (ints (rep rRank i s1).1)) n ?_ ?_
        · exact ⟨0, .nilSlice, rfl, by omega, rfl, D, Keep.refl _ _, .nil⟩
        · clear D
          rintro m t Hr ⟨i, rv, rfl, hi, rfl, D, kD, gD⟩
          have ob := D.ob
          have nD := kD.next
          by_cases hc : (i : Int) < n
          · have hbd := rFour_bd D.rd.bytes
            simp (disch := first | omega | (simp only [nx] <;> omega) | fail) only [vaw, hc, ob, Nat.reduceAdd, Nat.reduceMul, Nat.reduceLeDiff, Nat.reduceEqDiff, ↓reduceIte]
            refine rnum_ret D.rd fun Hb kb hb nb => ?_
            have D4 := D.read kb hb (rFour_left _)
            have g4 := gD.keepM kb (fun j hj e => by have := (gD.sid_ge hj).1; omega)
            have ob4 := D4.ob
            have bev := gD.beq
            simp (disch := first | omega | (simp only [nx] <;> omega) | fail) only [vaw, ob4, reK_same bev, Nat.reduceAdd, Nat.reduceMul, Nat.reduceLeDiff, Nat.reduceEqDiff, ↓reduceIte]
            have rl := rep_length rRank i s1
            refine app_ret (n := i) g4 (by simp (disch := first | omega | (simp only [nx] <;> omega) | fail) only [vaim]; rfl) rfl (by omega) (by omega) (by rw [ints_length, rl]; omega) (by omega) (by omega) ?_
            intro v5 H10 n10 k10 g10 s10
            simp only [next_new] at n10 s10
            have kk := app_keep n10 k10
            have D5 := (D4.kept ((Keep.refl _ _).new _)).grow kk (fun j hj => by have := (g4.sid_ge hj).1; omega)
            have ob5 := D5.ob
            have c5 := g10.cells
            simp (disch := first | omega | (simp only [nx] <;> omega) | fail) only [vaw, ob5, c5, Nat.reduceAdd, Nat.reduceMul, Nat.reduceLeDiff, Nat.reduceEqDiff, ↓reduceIte]
            refine ⟨n - (i + 1), by omega, i + 1, v5, rfl, by omega, rfl, D5.put _, wq_upd (((kD.trans (wq_of kb)).new _).trans' kk (fun j hj e => by have := (g4.sid_ge e).1; omega)) _, ?_⟩
            refine (Grown.upd ?_ (by omega) _).own
            simp only [rep]
            rw [ints_append]
            exact g10
          · have hik : i = n := by omega
            subst hik
            have hE := hE.M kD (by omega)
            have hR := own_fin (w := q) gD hlh
            clear gD kD hi
            generalize (rep rRank i s1).2 = s2 at *
            generalize (rep rRank i s1).1 = rank at *
            simp (disch := first | omega | (simp only [nx] <;> omega) | fail) only [vaw, hc, ob, Nat.reduceAdd, Nat.reduceMul, Nat.reduceLeDiff, Nat.reduceEqDiff, ↓reduceIte]
            refine rcnt_ret (size := 32) D.rd (by omega) fun Hb kb hb nb => ?_
            have D1 := D.read kb hb (rCount_left _ _)
            have hk := rCount_bd (size := 32) D.rd.bytes
            have hkl := rCount_le (size := 32) D.rd.bytes
            have hl0 := D.len
            have hE := hE.M kb (by omega)
            have hR := hR.M kb (by omega)
            clear D ob
            obtain ⟨k, hkk⟩ : ∃ k : Nat, (rCount 32 s2).1 = k := ⟨(rCount 32 s2).1.toNat, by omega⟩
            rw [hkk] at hk hkl hq ⊢
            rw [Int.toNat_natCast] at hq
            have hk9 : k ≤ 1000000000 := by
              have := Nat.div_le_self s2.left.length 32
              omega
            generalize (rCount 32 s2).2 = s3 at *
            have hwb := D1.lh
            simp (disch := first | omega | (simp only [nx] <;> omega) | fail) only [vaw, Nat.reduceAdd, Nat.reduceMul, Nat.reduceLeDiff, Nat.reduceEqDiff, ↓reduceIte]
            refine wpx_loop (fun m t H' => ∃ (j : Nat) (av : AVal), m = k - j ∧ j ≤ k ∧ t = (.ptr w 0 :: bots 1 (.ptr H.next 0 :: .ptr q 0 :: .int .i64 k :: bots 3 (.int .i64 j :: bots 121 ([]))) : Tmps) ∧ RdgAt H q w src H' [.int .i64 i, ev, rv, av, .nilSlice, .nilSlice] (rep refArc j s3).2 ∧ Keep (fun j => j = w ∨ j = q) Hb H' ∧ Own Hb.next H' av 7 (arcCells (rep refArc j s3).1)) k ?_ ?_
            · exact ⟨0, .nilSlice, rfl, by omega, rfl, D1, Keep.refl _ _, .nil⟩
            · clear D1
              rintro m t Ha ⟨j, av, rfl, hj, rfl, D, kD, gD⟩
              have nD := kD.next
              by_cases hc : (j : Int) < k
              · skip
                have hrep : rep refArc (j + 1) s3 = ((rep refArc j s3).1 ++ [(refArc (rep refArc j s3).2).1], (refArc (rep refArc j s3).2).2) := rfl
                rw [refArc_eq] at hrep
                have rl := rep_length refArc j s3
                simp (disch := first | omega | (simp only [nx] <;> omega) | fail) only [vaw, hc, Nat.reduceAdd, Nat.reduceMul, Nat.reduceLeDiff, Nat.reduceEqDiff, ↓reduceIte]
                refine rnum_ret D.rd fun Hb kb hb nb => ?_
                have Db := D.read kb hb (rFour_left _)
                generalize (rep refArc j s3).1 = as0 at *
                generalize (rep refArc j s3).2 = t0 at *
                simp (disch := first | omega | (simp only [nx] <;> omega) | fail) only [vaw, Nat.reduceAdd, Nat.reduceMul, Nat.reduceLeDiff, Nat.reduceEqDiff, ↓reduceIte]
                have kb1 : Keep (fun j => j = w) Ha ((Hb.new (.cells [.int .i64 0, .int .i64 0, .int .i64 0, .int .i64 0, .int .i64 0, .int .i64 0, .int .i64 0] true)).upd Hb.next (some (.cells [.int .i64 (rFour t0).1, .int .i64 0, .int .i64 0, .int .i64 0, .int .i64 0, .int .i64 0, .int .i64 0] true))) := (kb.new _).upd (.inl (by omega)) _
                have Db1 := (Db.kept ((Keep.refl Nothing Hb).new (.cells [.int .i64 0, .int .i64 0, .int .i64 0, .int .i64 0, .int .i64 0, .int .i64 0, .int .i64 0] true))).upd (y := Hb.next) (by have := Db.lh; omega) (some (.cells [.int .i64 (rFour t0).1, .int .i64 0, .int .i64 0, .int .i64 0, .int .i64 0, .int .i64 0, .int .i64 0] true))
                have ob1 : ((Hb.new (.cells [.int .i64 0, .int .i64 0, .int .i64 0, .int .i64 0, .int .i64 0, .int .i64 0, .int .i64 0] true)).upd Hb.next (some (.cells [.int .i64 (rFour t0).1, .int .i64 0, .int .i64 0, .int .i64 0, .int .i64 0, .int .i64 0, .int .i64 0] true))).obj Hb.next = some (.cells [.int .i64 (rFour t0).1, .int .i64 0, .int .i64 0, .int .i64 0, .int .i64 0, .int .i64 0, .int .i64 0] true) := obj_upd_eq rfl
                have nb1 : ((Hb.new (.cells [.int .i64 0, .int .i64 0, .int .i64 0, .int .i64 0, .int .i64 0, .int .i64 0, .int .i64 0] true)).upd Hb.next (some (.cells [.int .i64 (rFour t0).1, .int .i64 0, .int .i64 0, .int .i64 0, .int .i64 0, .int .i64 0, .int .i64 0] true))).next = Hb.next + 1 := by simp only [next_upd, next_new]
                generalize (Hb.new (.cells [.int .i64 0, .int .i64 0, .int .i64 0, .int .i64 0, .int .i64 0, .int .i64 0, .int .i64 0] true)).upd Hb.next (some (.cells [.int .i64 (rFour t0).1, .int .i64 0, .int .i64 0, .int .i64 0, .int .i64 0, .int .i64 0, .int .i64 0] true)) = Hc at *
                have hy : Ha.next ≤ Hb.next := by omega
                generalize Hb.next = y at *
                have hqa := D.lh
                clear D Db hb kb nb
                refine Db1.num kb1 ob1 (by omega) hqa fun Hx1 Dx1 kx1 ox1 nx1 => ?_
                simp (disch := first | omega | (simp only [nx] <;> omega) | fail) only [vaw, ox1, Nat.reduceAdd, Nat.reduceMul, Nat.reduceLeDiff, Nat.reduceEqDiff, ↓reduceIte]
                obtain ⟨Dy1, ky1, oy1, ny1⟩ := Dx1.set (y := y) (zs := [.int .i64 (rFour t0).1, .int .i64 (rFour (rFour t0).2).1, .int .i64 0, .int .i64 0, .int .i64 0, .int .i64 0, .int .i64 0]) kx1 (by omega) hqa
                generalize Hx1.upd y (some (.cells [.int .i64 (rFour t0).1, .int .i64 (rFour (rFour t0).2).1, .int .i64 0, .int .i64 0, .int .i64 0, .int .i64 0, .int .i64 0] true)) = Hy1 at *
                refine Dy1.num ky1 oy1 (by omega) hqa fun Hx2 Dx2 kx2 ox2 nx2 => ?_
                simp (disch := first | omega | (simp only [nx] <;> omega) | fail) only [vaw, ox2, Nat.reduceAdd, Nat.reduceMul, Nat.reduceLeDiff, Nat.reduceEqDiff, ↓reduceIte]
                obtain ⟨Dy2, ky2, oy2, ny2⟩ := Dx2.set (y := y) (zs := [.int .i64 (rFour t0).1, .int .i64 (rFour (rFour t0).2).1, .int .i64 (rFour (rFour (rFour t0).2).2).1, .int .i64 0, .int .i64 0, .int .i64 0, .int .i64 0]) kx2 (by omega) hqa
                generalize Hx2.upd y (some (.cells [.int .i64 (rFour t0).1, .int .i64 (rFour (rFour t0).2).1, .int .i64 (rFour (rFour (rFour t0).2).2).1, .int .i64 0, .int .i64 0, .int .i64 0, .int .i64 0] true)) = Hy2 at *
                refine Dy2.cst ky2 oy2 (by omega) hqa fun Hx3 Dx3 kx3 ox3 nx3 => ?_
                simp (disch := first | omega | (simp only [nx] <;> omega) | fail) only [vaw, ox3, Nat.reduceAdd, Nat.reduceMul, Nat.reduceLeDiff, Nat.reduceEqDiff, ↓reduceIte]
                obtain ⟨Dy3, ky3, oy3, ny3⟩ := Dx3.set (y := y) (zs := [.int .i64 (rFour t0).1, .int .i64 (rFour (rFour t0).2).1, .int .i64 (rFour (rFour (rFour t0).2).2).1, .int .i64 (rCost (rFour (rFour (rFour t0).2).2).2).1, .int .i64 0, .int .i64 0, .int .i64 0]) kx3 (by omega) hqa
                generalize Hx3.upd y (some (.cells [.int .i64 (rFour t0).1, .int .i64 (rFour (rFour t0).2).1, .int .i64 (rFour (rFour (rFour t0).2).2).1, .int .i64 (rCost (rFour (rFour (rFour t0).2).2).2).1, .int .i64 0, .int .i64 0, .int .i64 0] true)) = Hy3 at *
                refine Dy3.num ky3 oy3 (by omega) hqa fun Hx4 Dx4 kx4 ox4 nx4 => ?_
                have hbx := rFour_bd Dy3.rd.bytes
                simp (disch := first | omega | (simp only [nx] <;> omega) | fail) only [vaw, ox4, Nat.reduceAdd, Nat.reduceMul, Nat.reduceLeDiff, Nat.reduceEqDiff, ↓reduceIte]
                obtain ⟨Dy4, ky4, oy4, ny4⟩ := Dx4.set (y := y) (zs := [.int .i64 (rFour t0).1, .int .i64 (rFour (rFour t0).2).1, .int .i64 (rFour (rFour (rFour t0).2).2).1, .int .i64 (rCost (rFour (rFour (rFour t0).2).2).2).1, .int .i64 ((rFour (rCost (rFour (rFour (rFour t0).2).2).2).2).1 - 1), .int .i64 0, .int .i64 0]) kx4 (by omega) hqa
                generalize Hx4.upd y (some (.cells [.int .i64 (rFour t0).1, .int .i64 (rFour (rFour t0).2).1, .int .i64 (rFour (rFour (rFour t0).2).2).1, .int .i64 (rCost (rFour (rFour (rFour t0).2).2).2).1, .int .i64 ((rFour (rCost (rFour (rFour (rFour t0).2).2).2).2).1 - 1), .int .i64 0, .int .i64 0] true)) = Hy4 at *
                refine Dy4.num ky4 oy4 (by omega) hqa fun Hx5 Dx5 kx5 ox5 nx5 => ?_
                simp (disch := first | omega | (simp only [nx] <;> omega) | fail) only [vaw, ox5, Nat.reduceAdd, Nat.reduceMul, Nat.reduceLeDiff, Nat.reduceEqDiff, ↓reduceIte]
                obtain ⟨Dy5, ky5, oy5, ny5⟩ := Dx5.set (y := y) (zs := [.int .i64 (rFour t0).1, .int .i64 (rFour (rFour t0).2).1, .int .i64 (rFour (rFour (rFour t0).2).2).1, .int .i64 (rCost (rFour (rFour (rFour t0).2).2).2).1, .int .i64 ((rFour (rCost (rFour (rFour (rFour t0).2).2).2).2).1 - 1), .int .i64 (rFour (rFour (rCost (rFour (rFour (rFour t0).2).2).2).2).2).1, .int .i64 0]) kx5 (by omega) hqa
                generalize Hx5.upd y (some (.cells [.int .i64 (rFour t0).1, .int .i64 (rFour (rFour t0).2).1, .int .i64 (rFour (rFour (rFour t0).2).2).1, .int .i64 (rCost (rFour (rFour (rFour t0).2).2).2).1, .int .i64 ((rFour (rCost (rFour (rFour (rFour t0).2).2).2).2).1 - 1), .int .i64 (rFour (rFour (rCost (rFour (rFour (rFour t0).2).2).2).2).2).1, .int .i64 0] true)) = Hy5 at *
                refine Dy5.num ky5 oy5 (by omega) hqa fun Hx6 Dx6 kx6 ox6 nx6 => ?_
                have obh := Dx6.ob
                have hqh := Dx6.lh
                simp (disch := first | omega | (simp only [nx] <;> omega) | fail) only [vaw, ox6, obh, Nat.reduceAdd, Nat.reduceMul, Nat.reduceLeDiff, Nat.reduceEqDiff, ↓reduceIte]
                obtain ⟨Dy6, ky6, oy6, ny6⟩ := Dx6.set (y := y) (zs := [.int .i64 (rFour t0).1, .int .i64 (rFour (rFour t0).2).1, .int .i64 (rFour (rFour (rFour t0).2).2).1, .int .i64 (rCost (rFour (rFour (rFour t0).2).2).2).1, .int .i64 ((rFour (rCost (rFour (rFour (rFour t0).2).2).2).2).1 - 1), .int .i64 (rFour (rFour (rCost (rFour (rFour (rFour t0).2).2).2).2).2).1, .int .i64 (rFour (rFour (rFour (rCost (rFour (rFour (rFour t0).2).2).2).2).2).2).1]) kx6 (by omega) hqa
                generalize Hx6.upd y (some (.cells [.int .i64 (rFour t0).1, .int .i64 (rFour (rFour t0).2).1, .int .i64 (rFour (rFour (rFour t0).2).2).1, .int .i64 (rCost (rFour (rFour (rFour t0).2).2).2).1, .int .i64 ((rFour (rCost (rFour (rFour (rFour t0).2).2).2).2).1 - 1), .int .i64 (rFour (rFour (rCost (rFour (rFour (rFour t0).2).2).2).2).2).1, .int .i64 (rFour (rFour (rFour (rCost (rFour (rFour (rFour t0).2).2).2).2).2).2).1] true)) = Hy6 at *
                have nqi := Dy6.lh
                have g4 := gD.keepM ky6 (fun j hj e => by have := (gD.sid_ge hj).1; omega)
                refine app_ret (n := j) g4 (by simp (disch := first | omega | (simp only [nx] <;> omega) | fail) only [vaim]; rfl) rfl (by omega) (by omega) (by rw [arcCells_length, rl]) (by omega) (by omega) ?_
                intro v5 H10 n10 k10 g10 s10
                simp only [next_new] at n10 s10
                have kk := app_keep n10 k10
                have D5 := (Dy6.kept ((Keep.refl _ _).new _)).grow kk (fun j hj => by have := (g4.sid_ge hj).1; omega)
                have ob5 := D5.ob
                have c5 := g10.cells
                simp (disch := first | omega | (simp only [nx] <;> omega) | fail) only [vaw, ob5, c5, Nat.reduceAdd, Nat.reduceMul, Nat.reduceLeDiff, Nat.reduceEqDiff, ↓reduceIte]
                refine ⟨k - (j + 1), by omega, j + 1, v5, rfl, by omega, rfl, by rw [hrep]; exact D5.put _, wq_upd (((kD.trans (wq_of ky6)).new _).trans' kk (fun j hj e => by have := (g4.sid_ge e).1; omega)) _, ?_⟩
                refine (Grown.upd ?_ (by omega) _).own
                rw [hrep, arcCells_append]
                exact g10
              · have hjk : k = j := by omega
                subst hjk
                have hE := hE.M kD (by omega)
                have hR := hR.M kD (by omega)
                have hA := own_fin (w := q) gD hwb
                clear gD kD hj hwb hk hkl
                have ob := D.ob
                simp (disch := first | omega | (simp only [nx] <;> omega) | fail) only [vaw, hc, ob, Nat.reduceAdd, Nat.reduceMul, Nat.reduceLeDiff, Nat.reduceEqDiff, ↓reduceIte]
                generalize (rep refArc k s3).2 = s4 at *
                generalize (rep refArc k s3).1 = arcs at *
                have hlen4 := D.len
                refine wpx_loop (fun m t H' => ∃ (j : Nat) (uv : AVal) (us : List AVal), m = i - j ∧ j ≤ i ∧ t = (.ptr w 0 :: bots 1 (.ptr H.next 0 :: .ptr q 0 :: bots 6 (.int .i64 j :: bots 119 ([]))) : Tmps) ∧ RdgAt H q w src H' [.int .i64 i, ev, rv, av, uv, .nilSlice] (rep rList j s4).2 ∧ Keep (fun j => j = w ∨ j = q) Ha H' ∧ Own Ha.next H' uv 1 us ∧ us.length = j ∧ RowsAt Ha.next H' uv us (rep rList j s4).1) i ?_ ?_
                · exact ⟨0, .nilSlice, [], rfl, by omega, rfl, D, Keep.refl _ _, .nil, rfl, fun v r l h1 => by simp at h1⟩
                · have hwc := D.lh
                  clear D ob
                  rintro m t Hu ⟨j, uv, us, rfl, hj, rfl, D, kD, gD, hus, rD⟩
                  have ob := D.ob
                  have nD := kD.next
                  have hwu := D.lh
                  by_cases hc : (j : Int) < i
                  · simp (disch := first | omega | (simp only [nx] <;> omega) | fail) only [vaw, ob, hc, Nat.reduceAdd, Nat.reduceMul, Nat.reduceLeDiff, Nat.reduceEqDiff, ↓reduceIte]
                    refine rrow_ret D.rd D.len fun r9 H9 k9 h9 o9 => ?_
                    have D4 := D.read k9 h9 (rList_left _)
                    have g4 := gD.keepM k9 (fun j hj e => by have := (gD.sid_ge hj).1; omega)
                    have R4 := rD.M k9 (fun j e => .inl (by omega)) (.inl rfl)
                    have ob4 := D4.ob
                    have bev := gD.beq
                    have n9 := k9.next
                    have c9 := o9.cells
                    simp (disch := first | omega | (simp only [nx] <;> omega) | fail) only [vaw, ob4, reK_same bev, c9, Nat.reduceAdd, Nat.reduceMul, Nat.reduceLeDiff, Nat.reduceEqDiff, ↓reduceIte]
                    have rl := rep_length rList j s4
                    have D4n := D4.kept ((Keep.refl Nothing H9).new (.cells [r9] true))
                    have R4n := R4.M ((Keep.refl Nothing H9).new (.cells [r9] true)) (fun j h => h.elim) (.inl rfl)
                    have o9n := o9.row.kept ((Keep.refl Nothing H9).new (.cells [r9] true))
                    have s9 : ∀ y, sid r9 = some y → Hu.next ≤ y ∧ y < H9.next := fun y hy => o9.sid_ge hy
                    have s4' : ∀ y, sid uv = some y → y < Hu.next := fun y hy => (gD.sid_ge hy).2
                    refine app_ret (n := j) g4 (by simp (disch := first | omega | (simp only [nx] <;> omega) | fail) only [vaim]; rfl) rfl (by omega) (by omega) (by omega) (by omega) (by omega) ?_
                    intro v5 H10 n10 k10 g10 s10
                    simp only [next_new] at n10 s10
                    have kk := app_keep n10 k10
                    have D5 := D4n.grow kk (fun j hj => by have := (g4.sid_ge hj).1; omega)
                    have R5 := R4n.M kk (fun j e => .inr e) (.inr s10)
                    have R6 := R5.snoc (l := (rList (rep rList j s4).2).1) (o9n.M kk (fun y hy e => by have := s9 y hy; have := s4' y e; omega)) (fun y hy => ⟨by have := s9 y hy; omega, fun e => by
                      obtain ⟨z, z1, z2⟩ := s10
                      rw [z1] at e; injection e with e
                      have := s9 y hy
                      omega⟩) (by rw [rl]; exact hus)
                    have ob5 := D5.ob
                    have c5 := g10.cells
                    simp (disch := first | omega | (simp only [nx] <;> omega) | fail) only [vaw, ob5, c5, Nat.reduceAdd, Nat.reduceMul, Nat.reduceLeDiff, Nat.reduceEqDiff, ↓reduceIte]
                    refine ⟨i - (j + 1), by omega, j + 1, v5, us ++ [r9], rfl, by omega, rfl, D5.put _, wq_upd (((kD.trans (wq_of k9)).new _).trans' kk (fun j hj e => by have := (g4.sid_ge e).1; omega)) _, (Grown.upd g10 (by omega) _).own, by simp [hus], ?_⟩
                    simp only [rep]
                    exact R6.M (M := fun j => j = q) ((Keep.refl (fun j => j = q) _).upd (.inr rfl) _) (fun j e => .inl (by omega)) (.inl rfl)
                  · have hjk : i = j := by omega
                    have hE := hE.M kD (by omega)
                    have hR := hR.M kD (by omega)
                    have hA := hA.M kD (by omega)
                    have hU := rD.fin (w := q) gD (by rw [rep_length]; exact hus) hwc
                    subst hjk
                    clear gD kD rD hj hwc
                    simp (disch := first | omega | (simp only [nx] <;> omega) | fail) only [vaw, ob, hc, Nat.reduceAdd, Nat.reduceMul, Nat.reduceLeDiff, Nat.reduceEqDiff, ↓reduceIte]
                    generalize (rep rList i s4).2 = s5 at *
                    generalize (rep rList i s4).1 = up at *
                    have hlen5 := D.len
                    refine wpx_loop (fun m t H' => ∃ (j : Nat) (dv : AVal) (us : List AVal), m = i - j ∧ j ≤ i ∧ t = (.ptr w 0 :: bots 1 (.ptr H.next 0 :: .ptr q 0 :: bots 7 (.int .i64 j :: bots 118 ([]))) : Tmps) ∧ RdgAt H q w src H' [.int .i64 i, ev, rv, av, uv, dv] (rep rList j s5).2 ∧ Keep (fun j => j = w ∨ j = q) Hu H' ∧ Own Hu.next H' dv 1 us ∧ us.length = j ∧ RowsAt Hu.next H' dv us (rep rList j s5).1) i ?_ ?_
                    · exact ⟨0, .nilSlice, [], rfl, by omega, rfl, D, Keep.refl _ _, .nil, rfl, fun v r l h1 => by simp at h1⟩
                    · have hwd := D.lh
                      clear D ob
                      rintro m t Hd ⟨j, dv, us, rfl, hj, rfl, D, kD, gD, hus, rD⟩
                      have ob := D.ob
                      have nD := kD.next
                      have hwu2 := D.lh
                      by_cases hc : (j : Int) < i
                      · simp (disch := first | omega | (simp only [nx] <;> omega) | fail) only [vaw, ob, hc, Nat.reduceAdd, Nat.reduceMul, Nat.reduceLeDiff, Nat.reduceEqDiff, ↓reduceIte]
                        refine rrow_ret D.rd D.len fun r9 H9 k9 h9 o9 => ?_
                        have D4 := D.read k9 h9 (rList_left _)
                        have g4 := gD.keepM k9 (fun j hj e => by have := (gD.sid_ge hj).1; omega)
                        have R4 := rD.M k9 (fun j e => .inl (by omega)) (.inl rfl)
                        have ob4 := D4.ob
                        have bev := gD.beq
                        have n9 := k9.next
                        have c9 := o9.cells
                        simp (disch := first | omega | (simp only [nx] <;> omega) | fail) only [vaw, ob4, reK_same bev, c9, Nat.reduceAdd, Nat.reduceMul, Nat.reduceLeDiff, Nat.reduceEqDiff, ↓reduceIte]
                        have rl := rep_length rList j s5
                        have D4n := D4.kept ((Keep.refl Nothing H9).new (.cells [r9] true))
                        have R4n := R4.M ((Keep.refl Nothing H9).new (.cells [r9] true)) (fun j h => h.elim) (.inl rfl)
                        have o9n := o9.row.kept ((Keep.refl Nothing H9).new (.cells [r9] true))
                        have s9 : ∀ y, sid r9 = some y → Hd.next ≤ y ∧ y < H9.next := fun y hy => o9.sid_ge hy
                        have s4' : ∀ y, sid dv = some y → y < Hd.next := fun y hy => (gD.sid_ge hy).2
                        refine app_ret (n := j) g4 (by simp (disch := first | omega | (simp only [nx] <;> omega) | fail) only [vaim]; rfl) rfl (by omega) (by omega) (by omega) (by omega) (by omega) ?_
                        intro v5 H10 n10 k10 g10 s10
                        simp only [next_new] at n10 s10
                        have kk := app_keep n10 k10
                        have D5 := D4n.grow kk (fun j hj => by have := (g4.sid_ge hj).1; omega)
                        have R5 := R4n.M kk (fun j e => .inr e) (.inr s10)
                        have R6 := R5.snoc (l := (rList (rep rList j s5).2).1) (o9n.M kk (fun y hy e => by have := s9 y hy; have := s4' y e; omega)) (fun y hy => ⟨by have := s9 y hy; omega, fun e => by
                          obtain ⟨z, z1, z2⟩ := s10
                          rw [z1] at e; injection e with e
                          have := s9 y hy
                          omega⟩) (by rw [rl]; exact hus)
                        have ob5 := D5.ob
                        have c5 := g10.cells
                        simp (disch := first | omega | (simp only [nx] <;> omega) | fail) only [vaw, ob5, c5, Nat.reduceAdd, Nat.reduceMul, Nat.reduceLeDiff, Nat.reduceEqDiff, ↓reduceIte]
                        refine ⟨i - (j + 1), by omega, j + 1, v5, us ++ [r9], rfl, by omega, rfl, D5.put _, wq_upd (((kD.trans (wq_of k9)).new _).trans' kk (fun j hj e => by have := (g4.sid_ge e).1; omega)) _, (Grown.upd g10 (by omega) _).own, by simp [hus], ?_⟩
                        simp only [rep]
                        exact R6.M (M := fun j => j = q) ((Keep.refl (fun j => j = q) _).upd (.inr rfl) _) (fun j e => .inl (by omega)) (.inl rfl)
                      · have hjk : i = j := by omega
                        have hE := hE.M kD (by omega)
                        have hR := hR.M kD (by omega)
                        have hA := hA.M kD (by omega)
                        have hU := hU.M kD (by omega)
                        have hD := rD.fin (w := q) gD (by rw [rep_length]; exact hus) hwd
                        subst hjk
                        clear gD kD rD hj hwd
                        simp (disch := first | omega | (simp only [nx] <;> omega) | fail) only [vaw, ob, hc, Nat.reduceAdd, Nat.reduceMul, Nat.reduceLeDiff, Nat.reduceEqDiff, ↓reduceIte]
                        generalize (rep rList i s5).2 = s6 at *
                        generalize (rep rList i s5).1 = down at *
                        have oh := D.op
                        have hqp := D.lq
                        have hqw2 := D.lw
                        simp (disch := first | omega | (simp only [nx] <;> omega) | fail) only [vaw, oh, Nat.reduceAdd, Nat.reduceMul, Nat.reduceLeDiff, Nat.reduceEqDiff, ↓reduceIte]
                        refine hq ev rv av uv dv _ ?_ ?_ ?_
                        · exact D.keep.upd (.inl (Nat.le_refl _)) _
                        · exact D.rd.M (M := fun j => j = H.next) ((Keep.refl (fun j => j = H.next) _).upd (.inr rfl) _) (by omega) (fun j hj e => by have := hls j hj; omega)
                        · exact IdxFrom.finR (by omega) ((Keep.refl (fun j => j ≤ q) _).upd (.inr (by omega)) _) hE hR hA hU hD
end Go.Proofs.Ytknhlpmmalcchaa

namespace Go.Proofs.Ytknhlpmmalcchaa
open Go Go.VAI
set_option linter.unusedSimpArgs false

end Go.Proofs.Ytknhlpmmalcchaa

namespace Go.Proofs.Ytknhlpmmalcchaa
open Go Go.VAI
set_option linter.unusedSimpArgs false

theorem notTrue {b : Bool} (h : ¬ b = true) : b = false := by cases b with | false => rfl | true => exact (h rfl).elim
theorem rCost_bad (s : RS) (h : s.bad = true) : (rCost s).2.bad = true := by
  have h1 := reads_four.bad s h
  have h2 := reads_four.bad _ h1
  show ((rFour (rFour s).2).2.bad || decide (1048576 ≤ (rFour s).1)) = true
  rw [h2, Bool.true_or]
theorem refArc_bad (s : RS) (h : s.bad = true) : (refArc s).2.bad = true := by
  rw [refArc_eq]
  exact reads_four.bad _ (reads_four.bad _ (reads_four.bad _ (rCost_bad _ (reads_four.bad _ (reads_four.bad _ (reads_four.bad _ h))))))
theorem rep_bad {α : Type} {f : RS → α × RS} (hf : ∀ s, s.bad = true → (f s).2.bad = true) : ∀ n s, s.bad = true → (rep f n s).2.bad = true
  | 0, s, h => h
  | n + 1, s, h => hf _ (rep_bad hf n s h)
theorem nbad' {α : Type} {f : RS → α × RS} (hf : ∀ s, s.bad = true → (f s).2.bad = true) {s : RS} (h : (f s).2.bad = false) : s.bad = false := by
  cases hx : s.bad with
  | false => rfl
  | true => have := hf s hx; rw [h] at this; cases this
theorem rCost_low {s : RS} (h : ¬ 1048576 ≤ (rFour s).1) : rCost s = (orI .i64 (shlI .i64 (rFour s).1 32) (rFour (rFour s).2).1, (rFour (rFour s).2).2) := by
  unfold rCost
  simp only [decide_eq_false h, Bool.or_false]
theorem refArc_low {s : RS} (h : ¬ 1048576 ≤ (rFour (rFour (rFour (rFour s).2).2).2).1) : refArc s = rArc s := by
  rw [refArc_eq, rCost_low h]
  rfl
theorem refArc_rArc {s : RS} (h : (refArc s).2.bad = false) : refArc s = rArc s := by
  refine refArc_low (fun hc => ?_)
  rw [refArc_eq] at h
  have h1 := nbad reads_four (nbad reads_four (nbad reads_four h))
  have : ((rFour (rFour (rFour (rFour (rFour s).2).2).2).2).2.bad || decide (1048576 ≤ (rFour (rFour (rFour (rFour s).2).2).2).1)) = false := h1
  rw [decide_eq_true hc, Bool.or_true] at this
  cases this
theorem rArc_low {s : RS} (hb : Bytes s.left) (hn : (rArc s).2.bad = false) (hc : 0 ≤ (rArc s).1.cost ∧ (rArc s).1.cost ≤ 4398046511104) : refArc s = rArc s := by
  refine refArc_low (fun hh => ?_)
  have n8 : (rFour (rFour (rFour (rFour (rFour (rFour (rFour (rFour s).2).2).2).2).2).2).2).2.bad = false := hn
  have n5 := nbad reads_four (nbad reads_four (nbad reads_four n8))
  have n4 := nbad reads_four n5
  have n3 := nbad reads_four n4
  have n2 := nbad reads_four n3
  have n1 := nbad reads_four n2
  have b1 := writes_four.bytes hb n1
  have b2 := writes_four.bytes b1 n2
  have b3 := writes_four.bytes b2 n3
  have b4 := writes_four.bytes b3 n4
  have q1 := rFour_bd b3
  have q2 := rFour_bd b4
  have e : (rArc s).1.cost = orI .i64 (shlI .i64 (rFour (rFour (rFour (rFour s).2).2).2).1 32) (rFour (rFour (rFour (rFour (rFour s).2).2).2).2).1 := rfl
  rw [e, hiLo q1 q2] at hc
  have e64 : (2 : Int) ^ 64 = 18446744073709551616 := by decide
  have e63 : (2 : Int) ^ (64 - 1) = 9223372036854775808 := by decide
  simp only [IntKind.wrap, IntKind.bits, IntKind.signed, Bool.true_and, e64, e63, decide_eq_true_eq] at hc
  split at hc <;> omega
theorem rep_refArc : ∀ (n : Nat) (s : RS), Bytes s.left → (rep refArc n s).2.bad = false → rep refArc n s = rep rArc n s
  | 0, _, _, _ => rfl
  | n + 1, s, hb, h => by
    have h1 : (refArc (rep refArc n s).2).2.bad = false := h
    have h2 := nbad' refArc_bad h1
    have ih := rep_refArc n s hb h2
    rw [ih] at h1
    have e := refArc_rArc h1
    simp only [rep]
    rw [ih, e]
theorem rep_rArc : ∀ (n : Nat) (s : RS), Bytes s.left → (rep rArc n s).2.bad = false → (∀ a ∈ (rep rArc n s).1, 0 ≤ a.cost ∧ a.cost ≤ 4398046511104) → rep refArc n s = rep rArc n s
  | 0, _, _, _, _ => rfl
  | n + 1, s, hb, h, hc => by
    have h1 : (rArc (rep rArc n s).2).2.bad = false := h
    have h2 := nbad reads_arc h1
    simp only [rep, List.mem_append, List.mem_singleton] at hc
    have ih := rep_rArc n s hb h2 (fun a ha => hc a (.inl ha))
    have b2 := (writes_rep writes_arc reads_arc n).bytes hb h2
    have e := rArc_low b2 h1 (hc _ (.inr rfl))
    simp only [rep]
    rw [ih, e]
def refRaw (b : List Int) : Option Idx :=
  if b.take 4 = [77, 73, 88, 49] then
    if (refRead ⟨b.drop 4, false⟩).2.bad = true ∨ 0 < (refRead ⟨b.drop 4, false⟩).2.left.length then none else some (refRead ⟨b.drop 4, false⟩).1
  else none
theorem ref_raw {b : List Int} (hb : Bytes b) {x : Idx} (hx : Allowed x) : refRaw b = some x ↔ rawOf b = some x := by
  unfold refRaw rawOf
  by_cases h4 : b.take 4 = [77, 73, 88, 49]
  · rw [if_pos h4, if_pos h4]
    have hb0 : Bytes (b.drop 4) := fun y hy => hb y (List.mem_of_mem_drop hy)
    generalize hs0 : (⟨b.drop 4, false⟩ : RS) = s0
    have hb0' : Bytes s0.left := by rw [← hs0]; exact hb0
    unfold refRead
    simp only
    have bd1 := rFour_bd hb0'
    generalize h1 : rFour s0 = r1 at *
    generalize h2 : rCount 16 r1.2 = r2 at *
    generalize h3 : rep rEdge r2.1.toNat r2.2 = r3 at *
    generalize h5 : rep rRank r1.1.toNat r3.2 = r5 at *
    generalize h6 : rCount 32 r5.2 = r6 at *
    have bytes6 : r5.2.bad = false → r6.2.bad = false → Bytes r6.2.left := fun n5 n6 => by
      have n3 : r3.2.bad = false := nbad (reads_rep reads_rank _) (by rw [h5]; exact n5)
      have n2 : r2.2.bad = false := nbad (reads_rep reads_edge _) (by rw [h3]; exact n3)
      have n1 : r1.2.bad = false := nbad (reads_count 16) (by rw [h2]; exact n2)
      have b1 := writes_four.bytes hb0' (by rw [h1]; exact n1)
      rw [h1] at b1
      have b2 := (writes_count 16).bytes b1 (by rw [h2]; exact n2)
      rw [h2] at b2
      have b3 := (writes_rep writes_edge reads_edge _).bytes b2 (by rw [h3]; exact n3)
      rw [h3] at b3
      have b5 := (writes_rep writes_rank reads_rank _).bytes b3 (by rw [h5]; exact n5)
      rw [h5] at b5
      have b6 := (writes_count 32).bytes b5 (by rw [h6]; exact n6)
      rw [h6] at b6
      exact b6
    have bytes3 : r3.2.bad = false → Bytes r3.2.left := fun n3 => by
      have n2 : r2.2.bad = false := nbad (reads_rep reads_edge _) (by rw [h3]; exact n3)
      have n1 : r1.2.bad = false := nbad (reads_count 16) (by rw [h2]; exact n2)
      have b1 := writes_four.bytes hb0' (by rw [h1]; exact n1)
      rw [h1] at b1
      have b2 := (writes_count 16).bytes b1 (by rw [h2]; exact n2)
      rw [h2] at b2
      have b3 := (writes_rep writes_edge reads_edge _).bytes b2 (by rw [h3]; exact n3)
      rw [h3] at b3
      exact b3
    constructor
    · intro h
      by_cases hn : 60 < r1.1
      · rw [if_pos hn, if_pos (.inl rfl)] at h; cases h
      · rw [if_neg hn] at h
        generalize h7 : rep refArc r6.1.toNat r6.2 = r7 at *
        generalize h8 : rep rList r1.1.toNat r7.2 = r8 at *
        generalize h9 : rep rList r1.1.toNat r8.2 = r9 at *
        by_cases c2 : r9.2.bad = true ∨ 0 < r9.2.left.length
        · simp only at h; rw [if_pos c2] at h; cases h
        · simp only at h; rw [if_neg c2] at h
          have n9 : r9.2.bad = false := notTrue fun e => c2 (.inl e)
          have n8 : r8.2.bad = false := nbad (reads_rep reads_list _) (by rw [h9]; exact n9)
          have n7 : r7.2.bad = false := nbad (reads_rep reads_list _) (by rw [h8]; exact n8)
          have n6 : r6.2.bad = false := nbad' (rep_bad refArc_bad _) (by rw [h7]; exact n7)
          have n5 : r5.2.bad = false := nbad (reads_count 32) (by rw [h6]; exact n6)
          have n3 : r3.2.bad = false := nbad (reads_rep reads_rank _) (by rw [h5]; exact n5)
          have e5 := writes_rep writes_rank reads_rank _ r3.2 (bytes3 n3) (by rw [h5]; exact n5)
          rw [h5] at e5
          have l5 : r5.1.length = r1.1.toNat := by rw [← h5]; exact rep_length _ _ _
          have ll : 4 * r1.1.toNat ≤ r3.2.left.length := by
            rw [e5, List.length_append, flat_len rankB_len, l5]; omega
          have e7 := rep_refArc r6.1.toNat r6.2 (bytes6 n5 n6) (by rw [h7]; exact n7)
          rw [h7] at e7
          rw [if_neg (by
            intro hh
            rcases hh with hh | hh
            · omega
            · rw [n3] at hh; cases hh), ← e7, h8, h9, if_neg c2]
          exact h
    · intro h
      by_cases c1 : (((r3.2.left.length / 4 : Nat) : Int)) < r1.1 ∨ r3.2.bad = true
      · rw [if_pos c1] at h; cases h
      · rw [if_neg c1] at h
        generalize h7 : rep rArc r6.1.toNat r6.2 = r7 at *
        generalize h8 : rep rList r1.1.toNat r7.2 = r8 at *
        generalize h9 : rep rList r1.1.toNat r8.2 = r9 at *
        by_cases c2 : r9.2.bad = true ∨ 0 < r9.2.left.length
        · rw [if_pos c2] at h; cases h
        · rw [if_neg c2] at h
          injection h with h
          have n9 : r9.2.bad = false := notTrue fun e => c2 (.inl e)
          have n8 : r8.2.bad = false := nbad (reads_rep reads_list _) (by rw [h9]; exact n9)
          have n7 : r7.2.bad = false := nbad (reads_rep reads_list _) (by rw [h8]; exact n8)
          have n6 : r6.2.bad = false := nbad (reads_rep reads_arc _) (by rw [h7]; exact n7)
          have n5 : r5.2.bad = false := nbad (reads_count 32) (by rw [h6]; exact n6)
          have hn : ¬ 60 < r1.1 := by
            have := hx.net.2.1
            rw [← h] at this
            simp only at this
            omega
          have hcost : ∀ a ∈ r7.1, 0 ≤ a.cost ∧ a.cost ≤ 4398046511104 := fun a ha => by
            obtain ⟨i, hi⟩ := mem_at ha
            have := hx.arcs i a (by rw [← h]; exact hi)
            exact this.1
          have e7 := rep_rArc r6.1.toNat r6.2 (bytes6 n5 n6) (by rw [h7]; exact n7) (by rw [h7]; exact hcost)
          rw [h7] at e7
          rw [if_neg hn, e7, h8, h9, if_neg c2, h]
  · rw [if_neg h4, if_neg h4]
end Go.Proofs.Ytknhlpmmalcchaa

namespace Go.Proofs.Ytknhlpmmalcchaa
open Go Go.VAI
set_option linter.unusedSimpArgs false

theorem mk_ret {size modes : Int} {ns : AVal} {xs : List Int} {H : AHeap} {Q : AVal → AHeap → Prop} (hr : Row H ns 1 (ints xs)) (hx : ∀ x ∈ xs, I64 x) (hx2 : xs.length ≤ 9223372036854775807)
    (hq : ∀ ev H', Keep Nothing H H' → Grown H.next H' ev 4 (edgeCells (mkEs size modes xs)) → Q (.agg [.int .i64 (mkN size), ev]) H') : Ret A 28 [.int .i64 size, ns, .int .i64 modes] H Q := by
  refine make_ret hr hx hx2 fun ev H' k g => ?_
  have h := hq ev H' k g
  rw [mkN_eq] at h
  exact h
theorem IdxAt.beq {H : AHeap} {ew rv av uv dv : AVal} {x : Idx} (h : IdxAt H ew rv av uv dv x) {n : Int} : AVal.beq (.agg [.int .i64 n, ew, rv, av, uv, dv]) (.agg [.int .i64 n, ew, rv, av, uv, dv]) = true := by
  simp [AVal.beq, AVal.beqs, h.es.beq, h.rank.beq, h.arcs.beq, h.up.beq, h.down.beq]
theorem allowed_short {x : Idx} (h : Allowed x) : Short62 x ∧ x.up.length = x.down.length := by
  obtain ⟨n1, n2, n3, n4⟩ := h.net
  have hrl := h.rankLen
  have hul := h.upLen
  have hdl := h.downLen
  have hac := h.count
  have hu : ∀ l ∈ x.up, l.length ≤ 300000 := fun l hl => by
    obtain ⟨v, hv, e⟩ := List.getElem_of_mem hl
    obtain ⟨h1, h2⟩ := h.up v l (by rw [List.getElem?_eq_getElem hv, e])
    have := few_below x.arcs.length l h1 (fun y hy => by
      obtain ⟨h3, a, h4, _⟩ := h2 y hy
      have := (List.getElem?_eq_some_iff.1 h4).1
      omega)
    omega
  have hd : ∀ l ∈ x.down, l.length ≤ 300000 := fun l hl => by
    obtain ⟨v, hv, e⟩ := List.getElem_of_mem hl
    obtain ⟨h1, h2⟩ := h.down v l (by rw [List.getElem?_eq_getElem hv, e])
    have := few_below x.arcs.length l h1 (fun y hy => by
      obtain ⟨h3, a, h4, _⟩ := h2 y hy
      have := (List.getElem?_eq_some_iff.1 h4).1
      omega)
    omega
  exact ⟨⟨by omega, by omega, by omega, by omega, fun l hl => by have := hu l hl; omega, fun l hl => by have := hd l hl; omega⟩, by omega⟩
end Go.Proofs.Ytknhlpmmalcchaa

namespace Go.Proofs.Ytknhlpmmalcchaa
open Go Go.VAI
set_option linter.unusedSimpArgs false

theorem rowOk_up {rank : List Int} {arcs : List Arc} {v : Int} {l : List Int} : RowOk true rank arcs v l ↔ UpOk rank arcs v l := Iff.rfl
theorem rowOk_down {rank : List Int} {arcs : List Arc} {v : Int} {l : List Int} : RowOk false rank arcs v l ↔ DownOk rank arcs v l := Iff.rfl
set_option maxRecDepth 20000 in
set_option maxHeartbeats 8000000 in
theorem refcheck_ret {ew rv av uv dv : AVal} {x : Idx} {H : AHeap} {Q : AVal → AHeap → Prop} (hx : IdxAt H ew rv av uv dv x) (hrk : x.rank.length ≤ 1000000000) (hnu : ∀ l ∈ x.up, l.length ≤ 4611686018427387904) (hnd : ∀ l ∈ x.down, l.length ≤ 4611686018427387904)
    (hq : ∀ b H', Keep Nothing H H' → Says b (Allowed x) → Q (.bool b) H') : Ret A 35 [.agg [.int .i64 x.n, ew, rv, av, uv, dv]] H Q := by
  refine Ret.of (fn := F35) rfl ?_
  have la := hx.arcs.len (by omega) (arcCells_length x.arcs)
  have bx := hx.beq (n := x.n)
  simp (disch := first | omega | (simp only [nx] <;> omega) | fail) only [vaw, F35, Nat.reduceAdd, Nat.reduceMul, Nat.reduceLeDiff, Nat.reduceEqDiff, ↓reduceIte]
  have k0 : Keep Nothing H (H.new (.cells [.int .i64 x.n, ew, rv, av, uv, dv] true)) := (Keep.refl _ _).new _
  have q0 : (H.new (.cells [.int .i64 x.n, ew, rv, av, uv, dv] true)).obj H.next = some (.cells [.int .i64 x.n, ew, rv, av, uv, dv] true) := obj_new_eq rfl
  refine refnet_ret (hx.es.kept k0) fun b H1 k1 s1 => ?_
  have n1 := k1.next
  simp only [next_new] at n1
  have q1 := (k1.old (i := H.next) (by simp only [next_new]; omega)).trans q0
  have kA := k0.trans k1
  cases b with
  | false =>
    simp (disch := first | omega | (simp only [nx] <;> omega) | fail) only [vaw, q1, Nat.reduceAdd, Nat.reduceMul, Nat.reduceLeDiff, Nat.reduceEqDiff, ↓reduceIte]
    exact hq _ _ kA (says_no fun h => by have := s1.2 h.net; cases this)
  | true =>
    have hnet := s1.1 rfl
    have hn60 := hnet.2.1
    simp (disch := first | omega | (simp only [nx] <;> omega) | fail) only [vaw, q1, Nat.reduceAdd, Nat.reduceMul, Nat.reduceLeDiff, Nat.reduceEqDiff, ↓reduceIte]
    refine refranks_ret (hx.kept kA) hrk fun b H2 k2 s2 => ?_
    have n2 := k2.next
    have q2 := (k2.old (i := H.next) (by omega)).trans q1
    have kB := kA.trans k2
    cases b with
    | false =>
      simp (disch := first | omega | (simp only [nx] <;> omega) | fail) only [vaw, q2, Nat.reduceAdd, Nat.reduceMul, Nat.reduceLeDiff, Nat.reduceEqDiff, ↓reduceIte]
      exact hq _ _ kB (says_no fun h => by have := s2.2 ⟨h.rankLen, h.upLen, h.downLen, h.ranks⟩; cases this)
    | true =>
      obtain ⟨c1, c2, c3, hrnk⟩ := s2.1 rfl
      by_cases c4 : (300000 : Int) < x.arcs.length
      · simp (disch := first | omega | (simp only [nx] <;> omega) | fail) only [vaw, q2, la, c4, Nat.reduceAdd, Nat.reduceMul, Nat.reduceLeDiff, Nat.reduceEqDiff, ↓reduceIte]
        exact hq _ _ kB (says_no fun h => by have := h.count; omega)
      by_cases c5 : x.arcs = []
      · have c5' : ¬ (0 : Int) < x.arcs.length := by rw [c5]; simp
        have harc : ArcsOk x.es x.arcs := by rw [c5]; exact ⟨fun i a h => by simp at h, fun s h => by simp [sizesOf] at h⟩
        have hends := fun i a h => arc_ends hnet harc.1 (i + 1) i a (by omega) h
        simp (disch := first | omega | (simp only [nx] <;> omega) | fail) only [vaw, q2, la, c4, c5', Nat.reduceAdd, Nat.reduceMul, Nat.reduceLeDiff, Nat.reduceEqDiff, ↓reduceIte]
        have kk := kB
        have qq := q2
        have nn : H.next < H2.next := by omega
        refine wpx_loop (fun m t H' => ∃ (i : Nat), m = x.rank.length - i ∧ i ≤ x.rank.length ∧ t = (bots 1 (.ptr H.next 0 :: bots 1 (.int .i64 i :: bots 53 ([]))) : Tmps) ∧ Keep Nothing H H' ∧ H.next < H'.next ∧ H'.obj H.next = some (.cells [.int .i64 x.n, ew, rv, av, uv, dv] true) ∧ (∀ (v : Nat) l, v < i → x.up[v]? = some l → UpOk x.rank x.arcs v l) ∧ ∀ (v : Nat) l, v < i → x.down[v]? = some l → DownOk x.rank x.arcs v l) x.rank.length ?_ ?_
        · exact ⟨0, rfl, by omega, rfl, kk, nn, qq, fun v l h => by omega, fun v l h => by omega⟩
        · rintro m t H5 ⟨i, rfl, hi, rfl, k5, n5, q5, hU, hD⟩
          by_cases hc : (i : Int) < x.n
          · have hil : i < x.rank.length := by omega
            obtain ⟨lup, hlu, mlu⟩ := at_some (l := x.up) (i := i) (by omega)
            obtain ⟨ldn, hld, mld⟩ := at_some (l := x.down) (i := i) (by omega)
            obtain ⟨iu, ou, ru, u1, u2, u3, u4⟩ := (hx.up.kept k5).at (k := .i64) hlu
            simp (disch := first | omega | (simp only [nx] <;> omega) | fail) only [vaw, hc, q5, u1, u3, Nat.reduceAdd, Nat.reduceMul, Nat.reduceLeDiff, Nat.reduceEqDiff, ↓reduceIte]
            refine refrow_ret (up := true) (hx.es.kept k5) (hx.rank.kept k5) (hx.arcs.kept k5) hx.up.beq hx.down.beq u4 hil (hnu _ mlu) (by omega) (fun j a h => by rw [c1]; exact hends j a h) fun b H6 k6 s6 => ?_
            have n6 := k6.next
            have q6 := (k6.old n5).trans q5
            cases b with
            | false =>
              simp (disch := first | omega | (simp only [nx] <;> omega) | fail) only [vaw, q6, Nat.reduceAdd, Nat.reduceMul, Nat.reduceLeDiff, Nat.reduceEqDiff, ↓reduceIte]
              exact hq _ _ (k5.trans k6) (says_no fun h => by have := s6.2 (rowOk_up.2 (h.up i _ hlu)); cases this)
            | true =>
              have hb := rowOk_up.1 (s6.1 rfl)
              obtain ⟨id, od, rd, d1, d2, d3, d4⟩ := ((hx.down.kept k5).kept k6).at (k := .i64) hld
              simp (disch := first | omega | (simp only [nx] <;> omega) | fail) only [vaw, q6, d1, d3, Nat.reduceAdd, Nat.reduceMul, Nat.reduceLeDiff, Nat.reduceEqDiff, ↓reduceIte]
              refine refrow_ret (up := false) ((hx.es.kept k5).kept k6) ((hx.rank.kept k5).kept k6) ((hx.arcs.kept k5).kept k6) hx.up.beq hx.down.beq d4 hil (hnd _ mld) (by omega) (fun j a h => by rw [c1]; exact hends j a h) fun b H7 k7 s7 => ?_
              have n7 := k7.next
              have q7 := (k7.old (i := H.next) (by omega)).trans q6
              cases b with
              | false =>
                simp (disch := first | omega | (simp only [nx] <;> omega) | fail) only [vaw, q7, Nat.reduceAdd, Nat.reduceMul, Nat.reduceLeDiff, Nat.reduceEqDiff, ↓reduceIte]
                exact hq _ _ ((k5.trans k6).trans k7) (says_no fun h => by have := s7.2 (rowOk_down.2 (h.down i _ hld)); cases this)
              | true =>
                have hb2 := rowOk_down.1 (s7.1 rfl)
                simp (disch := first | omega | (simp only [nx] <;> omega) | fail) only [vaw, q7, Nat.reduceAdd, Nat.reduceMul, Nat.reduceLeDiff, Nat.reduceEqDiff, ↓reduceIte]
                refine ⟨x.rank.length - (i + 1), by omega, i + 1, rfl, by omega, rfl, (k5.trans k6).trans k7, by omega, fun v l hv hl => ?_, fun v l hv hl => ?_⟩
                · by_cases hvi : v = i
                  · subst hvi; rw [hlu] at hl; injection hl with hl; subst hl; exact hb
                  · exact hU v l (by omega) hl
                · by_cases hvi : v = i
                  · subst hvi; rw [hld] at hl; injection hl with hl; subst hl; exact hb2
                  · exact hD v l (by omega) hl
          · simp (disch := first | omega | (simp only [nx] <;> omega) | fail) only [vaw, hc, q5, Nat.reduceAdd, Nat.reduceMul, Nat.reduceLeDiff, Nat.reduceEqDiff, ↓reduceIte]
            refine hq _ _ k5 (says_yes ⟨hnet, c1, c2, c3, hrnk, by omega, harc.1, harc.2, fun v l hl => hU v l ?_ hl, fun v l hl => hD v l ?_ hl⟩)
            · have := (List.getElem?_eq_some_iff.1 hl).1; omega
            · have := (List.getElem?_eq_some_iff.1 hl).1; omega
      · have c5' : (0 : Int) < x.arcs.length := by
          have := List.length_pos_iff.2 c5
          omega
        simp (disch := first | omega | (simp only [nx] <;> omega) | fail) only [vaw, q2, la, c4, c5', Nat.reduceAdd, Nat.reduceMul, Nat.reduceLeDiff, Nat.reduceEqDiff, ↓reduceIte]
        refine reflong_ret hnet (hx.es.kept kB) (hx.arcs.kept kB) (by omega) (fun hno H3 k3 => ?_) (fun hok v' H3 k3 g3 => ?_) bx
        · simp (disch := first | omega | (simp only [nx] <;> omega) | fail) only [vaw, Nat.reduceAdd, Nat.reduceMul, Nat.reduceLeDiff, Nat.reduceEqDiff, ↓reduceIte]
          exact hq _ _ (kB.trans k3) (says_no fun h => hno ⟨h.arcs, h.sizes⟩)
        · have hnn := own_notNil g3 (by
            intro e
            have := congrArg List.length e
            rw [ints_length, sizesOf_length _ _ rfl] at this
            simp at this
            exact c5 this)
          have q3 := (k3.old (i := H.next) (by omega)).trans q2
          have n3 := k3.next
          have harc := hok
          have hends := fun i a h => arc_ends hnet harc.1 (i + 1) i a (by omega) h
          simp (disch := first | omega | (simp only [nx] <;> omega) | fail) only [vaw, hnn, Nat.reduceAdd, Nat.reduceMul, Nat.reduceLeDiff, Nat.reduceEqDiff, ↓reduceIte]
          have kk := kB.trans k3
          have qq := q3
          have nn : H.next < H3.next := by omega
          refine wpx_loop (fun m t H' => ∃ (i : Nat), m = x.rank.length - i ∧ i ≤ x.rank.length ∧ t = (bots 1 (.ptr H.next 0 :: bots 1 (.int .i64 i :: bots 53 ([]))) : Tmps) ∧ Keep Nothing H H' ∧ H.next < H'.next ∧ H'.obj H.next = some (.cells [.int .i64 x.n, ew, rv, av, uv, dv] true) ∧ (∀ (v : Nat) l, v < i → x.up[v]? = some l → UpOk x.rank x.arcs v l) ∧ ∀ (v : Nat) l, v < i → x.down[v]? = some l → DownOk x.rank x.arcs v l) x.rank.length ?_ ?_
          · exact ⟨0, rfl, by omega, rfl, kk, nn, qq, fun v l h => by omega, fun v l h => by omega⟩
          · rintro m t H5 ⟨i, rfl, hi, rfl, k5, n5, q5, hU, hD⟩
            by_cases hc : (i : Int) < x.n
            · have hil : i < x.rank.length := by omega
              obtain ⟨lup, hlu, mlu⟩ := at_some (l := x.up) (i := i) (by omega)
              obtain ⟨ldn, hld, mld⟩ := at_some (l := x.down) (i := i) (by omega)
              obtain ⟨iu, ou, ru, u1, u2, u3, u4⟩ := (hx.up.kept k5).at (k := .i64) hlu
              simp (disch := first | omega | (simp only [nx] <;> omega) | fail) only [vaw, hc, q5, u1, u3, Nat.reduceAdd, Nat.reduceMul, Nat.reduceLeDiff, Nat.reduceEqDiff, ↓reduceIte]
              refine refrow_ret (up := true) (hx.es.kept k5) (hx.rank.kept k5) (hx.arcs.kept k5) hx.up.beq hx.down.beq u4 hil (hnu _ mlu) (by omega) (fun j a h => by rw [c1]; exact hends j a h) fun b H6 k6 s6 => ?_
              have n6 := k6.next
              have q6 := (k6.old n5).trans q5
              cases b with
              | false =>
                simp (disch := first | omega | (simp only [nx] <;> omega) | fail) only [vaw, q6, Nat.reduceAdd, Nat.reduceMul, Nat.reduceLeDiff, Nat.reduceEqDiff, ↓reduceIte]
                exact hq _ _ (k5.trans k6) (says_no fun h => by have := s6.2 (rowOk_up.2 (h.up i _ hlu)); cases this)
              | true =>
                have hb := rowOk_up.1 (s6.1 rfl)
                obtain ⟨id, od, rd, d1, d2, d3, d4⟩ := ((hx.down.kept k5).kept k6).at (k := .i64) hld
                simp (disch := first | omega | (simp only [nx] <;> omega) | fail) only [vaw, q6, d1, d3, Nat.reduceAdd, Nat.reduceMul, Nat.reduceLeDiff, Nat.reduceEqDiff, ↓reduceIte]
                refine refrow_ret (up := false) ((hx.es.kept k5).kept k6) ((hx.rank.kept k5).kept k6) ((hx.arcs.kept k5).kept k6) hx.up.beq hx.down.beq d4 hil (hnd _ mld) (by omega) (fun j a h => by rw [c1]; exact hends j a h) fun b H7 k7 s7 => ?_
                have n7 := k7.next
                have q7 := (k7.old (i := H.next) (by omega)).trans q6
                cases b with
                | false =>
                  simp (disch := first | omega | (simp only [nx] <;> omega) | fail) only [vaw, q7, Nat.reduceAdd, Nat.reduceMul, Nat.reduceLeDiff, Nat.reduceEqDiff, ↓reduceIte]
                  exact hq _ _ ((k5.trans k6).trans k7) (says_no fun h => by have := s7.2 (rowOk_down.2 (h.down i _ hld)); cases this)
                | true =>
                  have hb2 := rowOk_down.1 (s7.1 rfl)
                  simp (disch := first | omega | (simp only [nx] <;> omega) | fail) only [vaw, q7, Nat.reduceAdd, Nat.reduceMul, Nat.reduceLeDiff, Nat.reduceEqDiff, ↓reduceIte]
                  refine ⟨x.rank.length - (i + 1), by omega, i + 1, rfl, by omega, rfl, (k5.trans k6).trans k7, by omega, fun v l hv hl => ?_, fun v l hv hl => ?_⟩
                  · by_cases hvi : v = i
                    · subst hvi; rw [hlu] at hl; injection hl with hl; subst hl; exact hb
                    · exact hU v l (by omega) hl
                  · by_cases hvi : v = i
                    · subst hvi; rw [hld] at hl; injection hl with hl; subst hl; exact hb2
                    · exact hD v l (by omega) hl
            · simp (disch := first | omega | (simp only [nx] <;> omega) | fail) only [vaw, hc, q5, Nat.reduceAdd, Nat.reduceMul, Nat.reduceLeDiff, Nat.reduceEqDiff, ↓reduceIte]
              refine hq _ _ k5 (says_yes ⟨hnet, c1, c2, c3, hrnk, by omega, harc.1, harc.2, fun v l hl => hU v l ?_ hl, fun v l hl => hD v l ?_ hl⟩)
              · have := (List.getElem?_eq_some_iff.1 hl).1; omega
              · have := (List.getElem?_eq_some_iff.1 hl).1; omega
theorem refRead_len {s : RS} (hb : Bytes s.left) (hl : s.left.length ≤ 1000000000) : (refRead s).1.rank.length ≤ 1000000000 ∧ (∀ l ∈ (refRead s).1.up, l.length ≤ 4611686018427387904) ∧ ∀ l ∈ (refRead s).1.down, l.length ≤ 4611686018427387904 := by
  unfold refRead
  simp only
  split
  · exact ⟨by simp, by simp, by simp⟩
  · rename_i hn
    have h1 := rFour_left s
    have h2 := rCount_left 16 (rFour s).2
    have h3 := rep_left rEdge_left (rCount 16 (rFour s).2).1.toNat (rCount 16 (rFour s).2).2
    have h5 := rep_left rRank_left (rFour s).1.toNat (rep rEdge (rCount 16 (rFour s).2).1.toNat (rCount 16 (rFour s).2).2).2
    generalize (rep rEdge (rCount 16 (rFour s).2).1.toNat (rCount 16 (rFour s).2).2) = r3 at *
    have l5 := rep_length rRank (rFour s).1.toNat r3.2
    generalize (rep rRank (rFour s).1.toNat r3.2) = r5 at *
    have h6 := rCount_left 32 r5.2
    have h7 := rep_left refArc_left (rCount 32 r5.2).1.toNat (rCount 32 r5.2).2
    generalize (rep refArc (rCount 32 r5.2).1.toNat (rCount 32 r5.2).2) = r7 at *
    have h8 := rep_left rList_left (rFour s).1.toNat r7.2
    refine ⟨?_, fun l hl' => ?_, fun l hl' => ?_⟩
    · rw [l5]; omega
    · have := rep_mem _ _ l hl'; omega
    · have := rep_mem _ _ l hl'; omega
set_option maxRecDepth 20000 in
set_option maxHeartbeats 8000000 in
theorem refdecode_ret {bv : AVal} {b : List Int} {H : AHeap} {Q : AVal → AHeap → Prop} (hb : RowC H bv 1 (u8s b)) (hbb : Bytes b) (hlen : b.length ≤ 1000000000)
    (hq0 : (∀ x, refRaw b = some x → ¬ Allowed x) → ∀ H', Keep Nothing H H' → Q (.tuple [.agg [.int .i64 0, .nilSlice, .nilSlice, .nilSlice, .nilSlice, .nilSlice], .int .i64 9]) H')
    (hq1 : ∀ x, refRaw b = some x → Allowed x → ∀ ew rv av uv dv H', Keep Nothing H H' → IdxAt H' ew rv av uv dv x → Q (.tuple [.agg [.int .i64 x.n, ew, rv, av, uv, dv], .int .i64 0]) H') : Ret A 34 [bv] H Q := by
  refine Ret.of (fn := F34) rfl ?_
  have hl := hb.1.len1
  rw [u8s_length] at hl
  by_cases h4 : (b.length : Int) < 4
  · simp (disch := first | omega | (simp only [nx] <;> omega) | fail) only [vaw, F34, hl, h4, Nat.reduceAdd, Nat.reduceMul, Nat.reduceLeDiff, Nat.reduceEqDiff, ↓reduceIte]
    refine hq0 (fun x hx => ?_) _ (((Keep.refl _ _).new _).upd (.inl (by omega)) _)
    unfold refRaw at hx
    rw [if_neg (fun e => by have := congrArg List.length e; simp at this; omega)] at hx
    cases hx
  have k0 : Keep Nothing H (H.new (.cells [.int .i64 0, .nilSlice, .nilSlice, .nilSlice, .nilSlice, .nilSlice] true)) := (Keep.refl _ _).new _
  obtain ⟨v4, s1, s2, s3⟩ := hb.upto (n := b.length) (k := 4) (kd := .i64) (by omega) (by rw [u8s_length]; omega) (by omega)
  rw [Nat.mul_one, u8s_take] at s2
  have hst := row_str (s2.1.kept k0)
  have hm4 : Bytes [77, 73, 88, 49] := by intro b hb; simp at hb; omega
  have ht4 : Bytes (b.take 4) := fun y hy => hbb y (List.mem_of_mem_take hy)
  have hstr : abin .neq .prim (.str (strOf (b.take 4))) (.str ⟨#[77, 73, 88, 49]⟩) = some (.bool (decide (b.take 4 ≠ [77, 73, 88, 49]))) := abin_neq_str ht4 hm4
  have s1' : aslice 1 bv none (some (.int .i64 4)) none = some v4 := s1
  by_cases hmk : b.take 4 = [77, 73, 88, 49]
  · have hstr' : abin .neq .prim (.str (strOf (b.take 4))) (.str ⟨#[77, 73, 88, 49]⟩) = some (.bool false) := by
      rw [hstr, decide_eq_false (fun h => h hmk)]
    obtain ⟨v2, e4, e5, e6⟩ := hb.from (n := b.length) (k := 4) (kd := .i64) (by omega) (by rw [u8s_length]; omega) (by omega)
    have e4' : aslice 1 bv (some (.int .i64 4)) none none = some v2 := e4
    rw [Nat.mul_one, u8s_drop] at e5
    have c2 := e5.1.cells
    simp (disch := first | omega | (simp only [nx] <;> omega) | fail) only [vaw, F34, hl, h4, s1', hst, hstr', e4', c2, Nat.reduceAdd, Nat.reduceMul, Nat.reduceLeDiff, Nat.reduceEqDiff, ↓reduceIte]
    have k1 : Keep Nothing H ((H.new (.cells [.int .i64 0, .nilSlice, .nilSlice, .nilSlice, .nilSlice, .nilSlice] true)).new (.cells [v2, .bool false] true)) := k0.new _
    have hsrc : ∀ j, sid v2 = some j → j < H.next := fun j hj => hb.1.sid_lt (by rw [← e6]; exact hj)
    have rd0 : RdAt ((H.new (.cells [.int .i64 0, .nilSlice, .nilSlice, .nilSlice, .nilSlice, .nilSlice] true)).new (.cells [v2, .bool false] true)) (H.next + 1) (sid v2) ⟨b.drop 4, false⟩ :=
      ⟨v2, by simp (disch := first | omega | (simp only [nx] <;> omega) | fail) only [vaim], e5.kept k1, rfl, by simp only [next_new]; omega, fun e => by have := hsrc _ e; omega, fun x hx => hbb x (List.mem_of_mem_drop hx), by simp; omega⟩
    have q1 : ((H.new (.cells [.int .i64 0, .nilSlice, .nilSlice, .nilSlice, .nilSlice, .nilSlice] true)).new (.cells [v2, .bool false] true)).obj H.next = some (.cells [.int .i64 0, .nilSlice, .nilSlice, .nilSlice, .nilSlice, .nilSlice] true) := by simp (disch := first | omega | (simp only [nx] <;> omega) | fail) only [vaim]
    have n1 : ((H.new (.cells [.int .i64 0, .nilSlice, .nilSlice, .nilSlice, .nilSlice, .nilSlice] true)).new (.cells [v2, .bool false] true)).next = H.next + 1 + 1 := by simp only [next_new]
    generalize (H.new (.cells [.int .i64 0, .nilSlice, .nilSlice, .nilSlice, .nilSlice, .nilSlice] true)).new (.cells [v2, .bool false] true) = H1 at *
    refine refRead_ret rd0 (by simp; omega) fun ew rv av uv dv H2 k2 rd2 h2 => ?_
    have hrl := refRead_len (s := ⟨b.drop 4, false⟩) (fun x hx => hbb x (List.mem_of_mem_drop hx)) (by simp; omega)
    have n2 := k2.next
    have q2 : H2.obj H.next = some (.cells [.int .i64 0, .nilSlice, .nilSlice, .nilSlice, .nilSlice, .nilSlice] true) := by rw [k2.obj _ (by omega) (by omega)]; exact q1
    have hraw : refRaw b = if (refRead ⟨b.drop 4, false⟩).2.bad = true ∨ 0 < (refRead ⟨b.drop 4, false⟩).2.left.length then none else some (refRead ⟨b.drop 4, false⟩).1 := by
      unfold refRaw; rw [if_pos hmk]
    generalize refRead ⟨b.drop 4, false⟩ = r at *
    obtain ⟨x, left, bad⟩ := r
    simp only at rd2 h2 hrl hraw ⊢
    obtain ⟨lv, g1, g2, g3, g4, g5, g6, g7⟩ := rd2
    simp only at g1 g2
    have hll := g2.1.len1
    rw [u8s_length] at hll
    have kH : Keep Nothing H H2 := ⟨by have := k1.next; omega, fun j hj _ => by rw [k2.obj j (by omega) (by omega), k1.old hj]⟩
    have kP : Keep Nothing H2 ((H2.new (.cells [.int .i64 0, .nilSlice, .nilSlice, .nilSlice, .nilSlice, .nilSlice] true)).upd H2.next (some (.cells [.int .i64 x.n, ew, rv, av, uv, dv] true))) := ((Keep.refl _ _).new _).upd (.inl (by omega)) _
    cases bad with
    | true =>
      simp (disch := first | omega | (simp only [nx] <;> omega) | fail) only [vaw, g1, q2, Nat.reduceAdd, Nat.reduceMul, Nat.reduceLeDiff, Nat.reduceEqDiff, ↓reduceIte]
      refine hq0 (fun y hy => ?_) _ ((kH.trans kP).upd (.inl (by omega)) _)
      rw [hraw, if_pos (.inl rfl)] at hy; cases hy
    | false =>
      by_cases hleft : (0 : Int) < left.length
      · simp (disch := first | omega | (simp only [nx] <;> omega) | fail) only [vaw, g1, q2, hll, hleft, Nat.reduceAdd, Nat.reduceMul, Nat.reduceLeDiff, Nat.reduceEqDiff, ↓reduceIte]
        refine hq0 (fun y hy => ?_) _ ((kH.trans kP).upd (.inl (by omega)) _)
        rw [hraw, if_pos (.inr (by omega))] at hy; cases hy
      · have hraw' : refRaw b = some x := by
          rw [hraw, if_neg]
          intro h
          rcases h with h | h
          · cases h
          · omega
        simp (disch := first | omega | (simp only [nx] <;> omega) | fail) only [vaw, g1, q2, hll, hleft, Nat.reduceAdd, Nat.reduceMul, Nat.reduceLeDiff, Nat.reduceEqDiff, ↓reduceIte]
        refine refcheck_ret (h2.kept kP).idx hrl.1 hrl.2.1 hrl.2.2 fun b2 H3 k3 s3 => ?_
        have q3 : H3.obj H.next = some (.cells [.int .i64 0, .nilSlice, .nilSlice, .nilSlice, .nilSlice, .nilSlice] true) := by rw [k3.old (by simp only [next_upd, next_new]; omega)]; simp (disch := first | omega | (simp only [nx] <;> omega) | fail) only [vaim]; rw [q2]
        have p3 : H3.obj H2.next = some (.cells [.int .i64 x.n, ew, rv, av, uv, dv] true) := by rw [k3.old (by simp only [next_upd, next_new]; omega)]; exact obj_upd_eq rfl
        have n3 := k3.next
        simp only [next_upd, next_new] at n3
        cases b2 with
        | false =>
          simp (disch := first | omega | (simp only [nx] <;> omega) | fail) only [vaw, q3, p3, Nat.reduceAdd, Nat.reduceMul, Nat.reduceLeDiff, Nat.reduceEqDiff, ↓reduceIte]
          refine hq0 (fun y hy hal => ?_) _ (((kH.trans kP).trans k3).upd (.inl (by omega)) _)
          rw [hraw'] at hy; injection hy with hy; subst hy
          have := s3.2 hal; cases this
        | true =>
          simp (disch := first | omega | (simp only [nx] <;> omega) | fail) only [vaw, q3, p3, Nat.reduceAdd, Nat.reduceMul, Nat.reduceLeDiff, Nat.reduceEqDiff, ↓reduceIte]
          have kF : Keep (fun j => j = H.next) H3 (H3.upd H.next (some (.cells [.int .i64 x.n, ew, rv, av, uv, dv] true))) := (Keep.refl (fun j => j = H.next) _).upd (.inr rfl) _
          exact hq1 x hraw' (s3.1 rfl) ew rv av uv dv _ (((kH.trans kP).trans k3).upd (.inl (by omega)) _) (((h2.kept kP).kept k3).M kF (fun j e => by omega)).idx
  · have hstr' : abin .neq .prim (.str (strOf (b.take 4))) (.str ⟨#[77, 73, 88, 49]⟩) = some (.bool true) := by
      rw [hstr, decide_eq_true hmk]
    simp (disch := first | omega | (simp only [nx] <;> omega) | fail) only [vaw, F34, hl, h4, s1', hst, hstr', Nat.reduceAdd, Nat.reduceMul, Nat.reduceLeDiff, Nat.reduceEqDiff, ↓reduceIte]
    refine hq0 (fun x hx => ?_) _ (k0.upd (.inl (by omega)) _)
    unfold refRaw at hx
    rw [if_neg hmk] at hx
    cases hx
end Go.Proofs.Ytknhlpmmalcchaa

namespace Go.Proofs.Ytknhlpmmalcchaa
open Go Go.VAI
set_option linter.unusedSimpArgs false

theorem set_byte {l : List Int} (h : Bytes l) {j : Nat} {b : Int} (hb : 0 ≤ b ∧ b < 256) : Bytes (l.set j b) := fun x hx => by
  rcases List.mem_or_eq_of_mem_set hx with h1 | h1
  · exact h x h1
  · subst h1; exact hb
end Go.Proofs.Ytknhlpmmalcchaa

namespace Go.Proofs.Ytknhlpmmalcchaa
open Go Go.VAI
set_option linter.unusedSimpArgs false

def zeroIdx : Idx := ⟨0, [], [], [], [], []⟩
theorem zero_at (H : AHeap) : IdxAt H .nilSlice .nilSlice .nilSlice .nilSlice .nilSlice zeroIdx := ⟨.nil, .nil, .nil, ⟨[], .nil, rfl, fun i r l h => by simp at h⟩, ⟨[], .nil, rfl, fun i r l h => by simp at h⟩⟩
theorem zero_short : Short62 zeroIdx ∧ zeroIdx.up.length = zeroIdx.down.length := ⟨⟨by decide, by decide, by decide, by decide, by simp [zeroIdx], by simp [zeroIdx]⟩, rfl⟩
end Go.Proofs.Ytknhlpmmalcchaa

namespace Go.Proofs.Ytknhlpmmalcchaa
open Go Go.VAI
set_option linter.unusedSimpArgs false

structure BRow (H : AHeap) (v : AVal) (b : List Int) : Prop where
  row : RowC H v 1 (u8s b)
  bytes : Bytes b
  len : b.length ≤ 1000000000
theorem BRow.kept {H H' : AHeap} {v : AVal} {b : List Int} (h : BRow H v b) (hk : Keep Nothing H H') : BRow H' v b := ⟨h.row.kept hk, h.bytes, h.len⟩
theorem copyNew_ret {sz bytes n y : Nat} {H : AHeap} {x : AVal} {vs : List AVal} {W : AVal → AHeap → Prop} (hy : H.obj y = some (.cells [] true))
    (hx : Row H x sz vs) (hvs : vs.length = n * sz) (hsz : 0 < sz) (hn : 0 < n) (hb : n * bytes ≤ 70368744177664) (hb0 : 0 < bytes)
    (hW : ∀ v' H', Keep Nothing H H' → Own H.next H' v' sz vs → W v' H') : atResult (aappend H sz bytes (.slice y 0 0 (.exact 0)) x) W := by
  have ht := hx.taken hsz hvs
  have h0 : taken H sz (.slice y 0 0 (.exact 0)) = some (0, []) := by simp [VAI.taken, cells?_of, hy, cellsOf, bnd]
  have : aappend H sz bytes (.slice y 0 0 (.exact 0)) x = some (.slice H.next 0 n (.room sz), H.new (.cells vs true)) := by
    simp only [aappend, ht, bnd, if_neg (show n ≠ 0 by omega)]
    rw [if_pos ⟨by simpa using hb, hb0⟩, if_neg (by omega), h0]
    simp
  rw [this]
  exact hW _ _ ((Keep.refl _ _).new _) (.room (by omega) (by rw [next_new]; omega) (obj_new_eq rfl) hvs)
set_option maxRecDepth 20000 in
set_option maxHeartbeats 8000000 in
theorem indexReads_ret {size cut : Int} {ns ats bys mo ra : AVal} {xs al bs ms rs : List Int} {f : Nat → Option AObj} (_ : I64 size) (hr : Row ⟨f, 5⟩ ns 1 (ints xs)) (hx : ∀ x ∈ xs, I64 x) (hx2 : xs.length ≤ 9223372036854775807)
    (ha : Row ⟨f, 5⟩ ats 1 (ints al)) (hax : ∀ x ∈ al, I64 x) (ha2 : al.length ≤ 9223372036854775807) (hb : Row ⟨f, 5⟩ bys 1 (u8s bs)) (hbx : ∀ y ∈ bs, 0 ≤ y ∧ y < 256) (hb2 : bs.length ≤ 9223372036854775807) (hcut : I64 cut)
    (hm : RowC ⟨f, 5⟩ mo 1 (u8s ms)) (hmx : ∀ y ∈ ms, 0 ≤ y ∧ y < 256) (hm2 : ms.length ≤ 9223372036854775807) (hw : RowC ⟨f, 5⟩ ra 1 (u8s rs)) (hwx : ∀ y ∈ rs, 0 ≤ y ∧ y < 256) (hw2 : rs.length ≤ 9223372036854775807) :
    Ret A 4 [.int .i64 size, ns, ats, bys, .int .i64 cut, mo, ra] ⟨f, 5⟩ (fun v _ => v = .bool true) := by
  refine Ret.of (fn := F4) rfl ?_
  have lml := hm.1.len1
  rw [u8s_length] at lml
  have lrl := hw.1.len1
  rw [u8s_length] at lrl
  have lal := ha.len1
  rw [ints_length] at lal
  have lbl := hb.len1
  rw [u8s_length] at lbl
  simp (disch := first | omega | (simp only [nx] <;> omega) | fail) only [vaw, F4, Nat.reduceAdd, Nat.reduceMul, Nat.reduceLeDiff, Nat.reduceEqDiff, ↓reduceIte]
  refine known26x5_ret fun H1 k1 => ?_
  by_cases t1 : (100 : Int) < ms.length
  · simp (disch := first | omega | (simp only [nx] <;> omega) | fail) only [vaw, Bool.not_true, lml, t1, Nat.reduceAdd, Nat.reduceMul, Nat.reduceLeDiff, Nat.reduceEqDiff, ↓reduceIte]
  by_cases t2 : (400 : Int) < rs.length
  · simp (disch := first | omega | (simp only [nx] <;> omega) | fail) only [vaw, Bool.not_true, lml, lrl, t1, t2, Nat.reduceAdd, Nat.reduceMul, Nat.reduceLeDiff, Nat.reduceEqDiff, ↓reduceIte]
  simp (disch := first | omega | (simp only [nx] <;> omega) | fail) only [vaw, Bool.not_true, lml, lrl, t1, t2, Nat.reduceAdd, Nat.reduceMul, Nat.reduceLeDiff, Nat.reduceEqDiff, ↓reduceIte]
  refine mk_ret (hr.kept k1) hx hx2 fun ev H2 k2 g2 => ?_
  have hnet := mk_net size 0 xs
  have hsm := mk_small size
  generalize mkEs size 0 xs = es at *
  generalize mkN size = N at *
  simp (disch := first | omega | (simp only [nx] <;> omega) | fail) only [vaw, Nat.reduceAdd, Nat.reduceMul, Nat.reduceLeDiff, Nat.reduceEqDiff, ↓reduceIte]
  refine build_ret g2.row hnet hsm fun ew rv av uv dv H3 k3 h3 => ?_
  have hal := idx_allowed hnet hsm
  obtain ⟨p1, p2, p3⟩ := allowed_enc hal
  have p4 := allowed_small hal
  have hn : (idxOf N es).n = N := rfl
  have hbytes := encode_bytes (idxOf N es)
  generalize hid : idxOf N es = x at *
  rw [← hn]
  simp (disch := first | omega | (simp only [nx] <;> omega) | fail) only [vaw, Nat.reduceAdd, Nat.reduceMul, Nat.reduceLeDiff, Nat.reduceEqDiff, ↓reduceIte]
  refine refEncode_ret h3 p1 p2 (by omega) fun bv H4 k4 g4 => ?_
  have hl28 : 28 ≤ (encodeOf x).length := by
    have h1 := encodeOf_len x
    have := hal.net.1
    have h2 := hal.rankLen
    have h3 := hal.upLen
    have h4 := hal.downLen
    have h5 := flat_ge (f := rowB) (n := 4) (l := x.up) (fun a => by rw [rowB_len]; omega)
    have h6 := flat_ge (f := rowB) (n := 4) (l := x.down) (fun a => by rw [rowB_len]; omega)
    omega
  clear hid hal p1 p2 p3 h3
  generalize encodeOf x = b0 at *
  have hlen : (u8s b0).length = b0.length := u8s_length _
  have hll := g4.row.len1
  rw [hlen] at hll
  have k14 := (k1.trans k2).trans (k3.trans k4)
  have ha4 := ha.kept k14
  have hb4 := hb.kept k14
  have hm4 := hm.kept k14
  have hw4 := hw.kept k14
  clear k14 k1 k2 k3 k4 g2 hr hb ha hm hw
  simp (disch := first | omega | (simp only [nx] <;> omega) | fail) only [vaw, Nat.reduceAdd, Nat.reduceMul, Nat.reduceLeDiff, Nat.reduceEqDiff, ↓reduceIte]
  have kA : Keep Nothing H4 (H4.new (.cells [] true)) := (Keep.refl _ _).new _
  refine copy_ret (n := b0.length) (obj_new_eq rfl) (by first | omega | (simp only [next_new, next_upd]; omega)) (g4.kept kA).row (by omega) (by omega) (by omega) (by omega) ?_
  intro zv H5 k5 g5 s5
  have k45 := kA.trans k5
  simp (disch := first | omega | (simp only [nx] <;> omega) | fail) only [vaw, Nat.reduceAdd, Nat.reduceMul, Nat.reduceLeDiff, Nat.reduceEqDiff, ↓reduceIte]
  refine wpx_cutB (fun t H' => ∃ (zv : AVal) (zs : List Int), t = bots 4 (.int .i64 cut :: mo :: ra :: bots 8 (bv :: zv :: bots 131 [])) ∧ Keep Nothing H4 H' ∧ Own H4.next H' zv 1 (u8s zs) ∧ Bytes zs ∧ zs.length = b0.length) ?_ ?_
  · refine wpx_loop (fun m t H' => ∃ (i : Nat) (zs : List Int), m = 3 - i ∧ i ≤ 3 ∧ t = (bots 2 (ats :: bys :: .int .i64 cut :: mo :: ra :: bots 8 (bv :: zv :: .int .i64 i :: bots 130 ([]))) : Tmps) ∧ Keep Nothing H4 H' ∧ Own H4.next H' zv 1 (u8s zs) ∧ Bytes zs ∧ zs.length = b0.length) 3 ?_ ?_
    · exact ⟨0, b0, rfl, by omega, rfl, k45, g5, hbytes, rfl⟩
    · rintro m t H6 ⟨i, zs, rfl, hi, rfl, k6, g6, hz, hzl⟩
      have zll := g6.row.len1
      rw [u8s_length] at zll
      have zlen : (u8s zs).length = zs.length := u8s_length _
      by_cases c1 : (i : Int) < al.length
      · by_cases c2 : (i : Int) < bs.length
        · by_cases c3 : (i : Int) < 3
          · have hia : i < al.length := by omega
            have hib : i < bs.length := by omega
            obtain ⟨ia, oa, a1, a2, a3⟩ := (ha4.kept k6).int_at (k := .i64) (show al[i]? = some al[i] by simp [hia])
            obtain ⟨ib, ob, b1, b2, b3, _⟩ := u8_at (k := .i64) (hb4.kept k6) (show bs[i]? = some bs[i] by simp [hib])
            have hbb := hbx _ (List.getElem_mem hib)
            generalize al[i] = aa at *
            generalize bs[i] = bb at *
            simp (disch := first | omega | (simp only [nx] <;> omega) | fail) only [vaw, lal, lbl, c1, c2, c3, a1, a3, b1, b3, zll, Nat.reduceAdd, Nat.reduceMul, Nat.reduceLeDiff, Nat.reduceEqDiff, ↓reduceIte]
            refine within_ret (n := zs.length) rfl (by omega) (by omega) ?_
            have e1 := Int.emod_nonneg aa (show (zs.length : Int) ≠ 0 by omega)
            have e2 := Int.emod_lt_of_pos aa (show 0 < (zs.length : Int) by omega)
            obtain ⟨j, hj⟩ : ∃ j : Nat, aa % (zs.length : Int) = j := ⟨(aa % (zs.length : Int)).toNat, by omega⟩
            rw [hj] at e2 ⊢
            have hjl : j < zs.length := by omega
            obtain ⟨id, q1, q2, q3, q4, q5, q6⟩ := g6.slot (j := j) (k := .i64) (by rw [zlen]; exact hjl)
            have hgu : (u8s zs)[j]? = some (.int .u8 zs[j]) := by simp [u8s, hjl]
            have hzb := hz _ (List.getElem_mem hjl)
            have hset : splice (u8s zs) j [.int .u8 ((zs[j] + bb) % 256)] = u8s (zs.set j ((zs[j] + bb) % 256)) := by
              rw [splice_one (by rw [zlen]; exact hjl)]
              simp [u8s, List.map_set]
            generalize zs[j] = zj at *
            have hle : j + 1 ≤ zs.length := hjl
            simp (disch := first | omega | (simp only [nx] <;> omega) | fail) only [vaw, b3, q4, q5, hgu, wrap8, zlen, hle, hset, Nat.reduceAdd, Nat.reduceMul, Nat.reduceLeDiff, Nat.reduceEqDiff, ↓reduceIte]
            have g7 := q6 (H6.upd id (some (.cells (u8s (zs.set j ((zj + bb) % 256))) true))) (u8s (zs.set j ((zj + bb) % 256))) (by simp only [next_upd]; omega) (obj_upd_eq rfl) (by rw [u8s_length, List.length_set, u8s_length])
            exact ⟨3 - (i + 1), by omega, i + 1, zs.set j ((zj + bb) % 256), rfl, by omega, rfl, k6.upd (.inl (by omega)) _, g7, set_byte hz (by omega), by rw [List.length_set]; exact hzl⟩
          · simp (disch := first | omega | (simp only [nx] <;> omega) | fail) only [vaw, lal, lbl, c1, c2, c3, vaij, Nat.reduceAdd, Nat.reduceMul, Nat.reduceLeDiff, Nat.reduceEqDiff, ↓reduceIte]
            exact ⟨zv, zs, rfl, k6, g6, hz, hzl⟩
        · simp (disch := first | omega | (simp only [nx] <;> omega) | fail) only [vaw, lal, lbl, c1, c2, vaij, Nat.reduceAdd, Nat.reduceMul, Nat.reduceLeDiff, Nat.reduceEqDiff, ↓reduceIte]
          exact ⟨zv, zs, rfl, k6, g6, hz, hzl⟩
      · simp (disch := first | omega | (simp only [nx] <;> omega) | fail) only [vaw, lal, c1, vaij, Nat.reduceAdd, Nat.reduceMul, Nat.reduceLeDiff, Nat.reduceEqDiff, ↓reduceIte]
        exact ⟨zv, zs, rfl, k6, g6, hz, hzl⟩
  · clear kA k5 g5 s5 k45
    rintro t H6 ⟨zv, zs, rfl, k6, g6, hz, hzl⟩
    have g46 := g4.kept k6
    have hll6 := g46.row.len1
    rw [hlen] at hll6
    simp (disch := first | omega | (simp only [nx] <;> omega) | fail) only [vaw, hll6, Nat.reduceAdd, Nat.reduceMul, Nat.reduceLeDiff, Nat.reduceEqDiff, ↓reduceIte]
    refine within_ret (n := (b0.length : Int) + 1) rfl (by omega) (by omega) ?_
    have e1 := Int.emod_nonneg cut (show (b0.length : Int) + 1 ≠ 0 by omega)
    have e2 := Int.emod_lt_of_pos cut (show 0 < (b0.length : Int) + 1 by omega)
    obtain ⟨k, hk⟩ : ∃ k : Nat, cut % ((b0.length : Int) + 1) = k := ⟨(cut % ((b0.length : Int) + 1)).toNat, by omega⟩
    rw [hk] at e2 ⊢
    have hkl : k ≤ b0.length := by omega
    obtain ⟨v1, s1, s2, s3⟩ := g46.rowC.upto (n := b0.length) (k := k) (kd := .i64) (by omega) (by rw [hlen]; omega) hkl
    obtain ⟨v2, u1, u2, u3⟩ := g46.rowC.from (n := b0.length) (k := k) (kd := .i64) (by omega) (by rw [hlen]; omega) hkl
    rw [Nat.mul_one, u8s_take] at s2
    rw [Nat.mul_one, u8s_drop] at u2
    simp (disch := first | omega | (simp only [nx] <;> omega) | fail) only [vaw, s1, u1, Nat.reduceAdd, Nat.reduceMul, Nat.reduceLeDiff, Nat.reduceEqDiff, ↓reduceIte]
    have kB : Keep Nothing H6 (H6.new (.cells [] true)) := (Keep.refl _ _).new _
    refine copy_ret (n := (b0.take k).length) (obj_new_eq rfl) (by first | omega | (simp only [next_new, next_upd]; omega)) (s2.kept kB).1 (by rw [u8s_length]; omega) (by omega) (by rw [List.length_take]; omega) (by omega) ?_
    intro w1 H7 k7 g7 s7
    have kC := kB.trans k7
    have n7 := k7.next
    simp only [next_new] at n7
    simp (disch := first | omega | (simp only [nx] <;> omega) | fail) only [vaw, Nat.reduceAdd, Nat.reduceMul, Nat.reduceLeDiff, Nat.reduceEqDiff, ↓reduceIte]
    have hm7 := (hm4.kept k6).kept kC
    refine appRow_ret (n := (b0.take k).length) (k := ms.length) g7 hm7.1 (by rw [u8s_length]; omega) (by omega) (by rw [u8s_length]; omega) (by rw [List.length_take]; omega) (by omega) ?_ (by omega) (Nat.le_refl _) (fun _ _ _ => rfl)
    intro w2 H8 n8 k8 g8 s8
    rw [← u8s_append] at g8
    have kD : Keep Nothing H6 H8 := ⟨by have := kC.next; omega, fun j hj _ => by rw [k8 j (by have := kC.next; omega) (fun e => by have := (g7.sid_ge e).1; omega), kC.old hj]⟩
    have u8' := u2.kept kD
    simp (disch := first | omega | (simp only [nx] <;> omega) | fail) only [vaw, Nat.reduceAdd, Nat.reduceMul, Nat.reduceLeDiff, Nat.reduceEqDiff, ↓reduceIte]
    refine appRow_ret (n := (b0.take k ++ ms).length) (k := (b0.drop k).length) g8 u8'.1 (by rw [u8s_length]; omega) (by omega) (by rw [u8s_length]; omega) (by simp only [List.length_append, List.length_take, List.length_drop]; omega) (by omega) ?_ (by omega) (Nat.le_refl _) (fun _ _ _ => rfl)
    intro w3 H9 n9 k9 g9 s9
    rw [← u8s_append] at g9
    have kE : Keep Nothing H6 H9 := ⟨by have := kD.next; omega, fun j hj _ => by rw [k9 j (by have := kD.next; omega) (fun e => by have := (g8.sid_ge e).1; omega), kD.old hj]⟩
    have s29 := s2.kept kE
    have g49 := g46.kept kE
    have g69 := g6.kept kE
    have hw9 := (hw4.kept k6).kept kE
    clear k7 g7 s7 kC n7 hm7 n8 k8 g8 s8 kD u8' n9 k9 s9 kB u2 u3 g46 hm4 hw4 ha4 hb4
    have c0 := g69.cells
    have c1 := s29.1.cells
    have c2 := g9.cells
    have c3 := hw9.1.cells
    simp (disch := first | omega | (simp only [nx] <;> omega) | fail) only [vaw, s1, Nat.reduceAdd, Nat.reduceMul, Nat.reduceLeDiff, Nat.reduceEqDiff, ↓reduceIte]
    have kN : Keep Nothing H9 (((H9.new (.cells [.int .u8 77, .int .u8 73, .int .u8 88, .int .u8 49] true)).new (.cells [] true)).new (.cells [.int .u8 0] true)) := (((Keep.refl _ _).new _).new _).new _
    have oP2 : (((H9.new (.cells [.int .u8 77, .int .u8 73, .int .u8 88, .int .u8 49] true)).new (.cells [] true)).new (.cells [.int .u8 0] true)).obj H9.next = some (.cells [.int .u8 77, .int .u8 73, .int .u8 88, .int .u8 49] true) := by simp (disch := first | omega | (simp only [nx] <;> omega) | fail) only [vaim]
    have oP3 : (((H9.new (.cells [.int .u8 77, .int .u8 73, .int .u8 88, .int .u8 49] true)).new (.cells [] true)).new (.cells [.int .u8 0] true)).obj (H9.next + 1) = some (.cells [] true) := by simp (disch := first | omega | (simp only [nx] <;> omega) | fail) only [vaim]
    have oP4 : (((H9.new (.cells [.int .u8 77, .int .u8 73, .int .u8 88, .int .u8 49] true)).new (.cells [] true)).new (.cells [.int .u8 0] true)).obj (H9.next + 2) = some (.cells [.int .u8 0] true) := by simp (disch := first | omega | (simp only [nx] <;> omega) | fail) only [vaim]
    have nN : (((H9.new (.cells [.int .u8 77, .int .u8 73, .int .u8 88, .int .u8 49] true)).new (.cells [] true)).new (.cells [.int .u8 0] true)).next = H9.next + 3 := rfl
    generalize ((H9.new (.cells [.int .u8 77, .int .u8 73, .int .u8 88, .int .u8 49] true)).new (.cells [] true)).new (.cells [.int .u8 0] true) = HN at *
    have gM : Own H9.next HN (.slice H9.next 0 4 (.exact 4)) 1 (u8s [77, 73, 88, 49]) := .full (Nat.le_refl _) (by omega) oP2 rfl
    have hwN := hw9.kept kN
    refine appRow_ret (n := 4) (k := rs.length) gM hwN.1 (by rw [u8s_length]; omega) (by omega) rfl (by omega) (by omega) ?_ (by omega) (Nat.le_refl _) (fun _ _ _ => rfl)
    intro w4 H10 n10 k10 g10 s10
    rw [← u8s_append] at g10
    have hsP : ∀ j, j ≠ H9.next → sid (.slice H9.next 0 4 (.exact 4)) ≠ some j := fun j hj e => by injection e with e; omega
    have kX : Keep Nothing H9 H10 := ⟨by have := kN.next; omega, fun j hj _ => by rw [k10 j (by omega) (hsP j (by omega)), kN.old hj]⟩
    have oQ3 : H10.obj (H9.next + 1) = some (.cells [] true) := by rw [k10 _ (by omega) (hsP _ (by omega))]; exact oP3
    have oQ4 : H10.obj (H9.next + 2) = some (.cells [.int .u8 0] true) := by rw [k10 _ (by omega) (hsP _ (by omega))]; exact oP4
    simp (disch := first | omega | (simp only [nx] <;> omega) | fail) only [vaw, Nat.reduceAdd, Nat.reduceMul, Nat.reduceLeDiff, Nat.reduceEqDiff, ↓reduceIte]
    refine copyNew_ret (n := b0.length) oQ3 (g49.kept kX).row (by omega) (by omega) (by omega) (by omega) (by omega) ?_
    intro e5 H11 k11 g11
    have n11 := k11.next
    have oR4 : H11.obj (H9.next + 2) = some (.cells [.int .u8 0] true) := by rw [k11.old (by omega)]; exact oQ4
    have g10' := g10.kept k11
    simp (disch := first | omega | (simp only [nx] <;> omega) | fail) only [vaw, Nat.reduceAdd, Nat.reduceMul, Nat.reduceLeDiff, Nat.reduceEqDiff, ↓reduceIte]
    refine app_ret (n := b0.length) (k := 1) g11 (y := H9.next + 2) (by rw [oR4]; rfl) rfl (by omega) (by omega) (by omega) (by omega) (by omega) ?_ (by omega) (Nat.le_refl _) (fun _ _ _ => rfl)
    intro e6 H12 n12 k12 g12 s12
    have hg12 : Grown H10.next H12 e6 1 (u8s (b0 ++ [0])) := by rw [u8s_append]; exact g12
    have hs5 : ∀ j, sid e5 = some j → j ≠ H9.next ∧ H9.next < j ∧ H10.next ≤ j := fun j hj => by have := (g11.sid_ge hj).1; omega
    have kY : Keep Nothing H9 H12 := ⟨by have := kX.next; omega, fun j hj _ => by rw [k12 j (by have := kX.next; omega) (fun e => by have := hs5 j e; omega), k11.old (by have := kX.next; omega), kX.old hj]⟩
    have g4' : RowC H12 w4 1 (u8s ([77, 73, 88, 49] ++ rs)) := ⟨(g10'.row).M (M := fun j => sid e5 = some j) ⟨n12, k12⟩ (fun j hj e => by have := hs5 j e; have := (g10.sid_ge hj).2; omega), g10'.rowC.2⟩
    have c4 := g10.cells
    have c5 := g12.cells
    have kZ : Keep Nothing H12 (H12.new (.cells [zv, v1, w3, ra, w4, e6] true)) := (Keep.refl _ _).new _
    have oL : (H12.new (.cells [zv, v1, w3, ra, w4, e6] true)).obj H12.next = some (.cells [zv, v1, w3, ra, w4, e6] true) := obj_new_eq rfl
    have nL : H12.next < (H12.new (.cells [zv, v1, w3, ra, w4, e6] true)).next := (by first | omega | (simp only [next_new, next_upd]; omega))
    have kW := kY.trans kZ
    have hbt : Bytes (b0.take k) := fun y hy => hbytes y (List.mem_of_mem_take hy)
    have hbd : Bytes (b0.drop k) := fun y hy => hbytes y (List.mem_of_mem_drop hy)
    have B0 : BRow (H12.new (.cells [zv, v1, w3, ra, w4, e6] true)) zv zs := ⟨(g69.kept kW).rowC, hz, by omega⟩
    have B1 : BRow (H12.new (.cells [zv, v1, w3, ra, w4, e6] true)) v1 (b0.take k) := ⟨s29.kept kW, hbt, by rw [List.length_take]; omega⟩
    have B2 : BRow (H12.new (.cells [zv, v1, w3, ra, w4, e6] true)) w3 (b0.take k ++ ms ++ b0.drop k) := ⟨(g9.kept kW).rowC, (hbt.app hmx).app hbd, by simp only [List.length_append, List.length_take, List.length_drop]; omega⟩
    have B3 : BRow (H12.new (.cells [zv, v1, w3, ra, w4, e6] true)) ra rs := ⟨hw9.kept kW, hwx, by omega⟩
    have B4 : BRow (H12.new (.cells [zv, v1, w3, ra, w4, e6] true)) w4 ([77, 73, 88, 49] ++ rs) := ⟨g4'.kept kZ, Bytes.app (by intro b hb; simp at hb; omega) hwx, by simp only [List.length_append, List.length_cons, List.length_nil]; omega⟩
    have B5 : BRow (H12.new (.cells [zv, v1, w3, ra, w4, e6] true)) e6 (b0 ++ [0]) := ⟨(hg12.own.kept kZ).rowC, hbytes.app (by intro b hb; simp at hb; omega), by simp only [List.length_append, List.length_cons, List.length_nil]; omega⟩
    have hall : ∀ i : Nat, i < 6 → ∃ v b, [zv, v1, w3, ra, w4, e6][i]? = some v ∧ BRow (H12.new (.cells [zv, v1, w3, ra, w4, e6] true)) v b := by
      intro i hi
      match i, hi with
      | 0, _ => exact ⟨_, _, rfl, B0⟩
      | 1, _ => exact ⟨_, _, rfl, B1⟩
      | 2, _ => exact ⟨_, _, rfl, B2⟩
      | 3, _ => exact ⟨_, _, rfl, B3⟩
      | 4, _ => exact ⟨_, _, rfl, B4⟩
      | 5, _ => exact ⟨_, _, rfl, B5⟩
    simp (disch := first | omega | (simp only [nx] <;> omega) | fail) only [vaw, c0, c1, c2, c3, c4, c5, Nat.reduceAdd, Nat.reduceMul, Nat.reduceLeDiff, Nat.reduceEqDiff, ↓reduceIte]
    generalize [zv, v1, w3, ra, w4, e6] = cs at *
    clear B0 B1 B2 B3 B4 B5 g4' hg12 g12 g11 g10 g10' kY kX kZ kW g9 g69 s29 g49 hw9 c0 c1 c2 c3 c4 c5 n12 k12 n10 k10 n11 k11 oR4 oQ3 oQ4 gM hwN oP2 oP3 oP4 hsP kN s1 u1 s12 s10
    generalize H12.new (.cells cs true) = HL at *
    generalize H12.next = L at *
    refine wpx_loop (fun m t H' => ∃ (i : Nat), m = 6 - i ∧ i ≤ 6 ∧ t = (bots 20 (.slice L 0 6 (.exact 6) :: .int .i64 i :: bots 126 ([])) : Tmps) ∧ Keep Nothing HL H') 6 ?_ ?_
    · exact ⟨0, rfl, by omega, rfl, .refl _ _⟩
    · rintro m t H13 ⟨i, rfl, hi, rfl, k13⟩
      have c6 : ((6 : Nat) : Int) = 6 := rfl
      by_cases hc : (i : Int) < 6
      · obtain ⟨v, b, hv, hB⟩ := hall i (by omega)
        have oL2 := (k13.old nL).trans oL
        have n13 := k13.next
        have hix : aindexAddrS 1 (.slice L 0 6 (.exact 6)) (.int .i64 (i : Int)) = some (.ptr L i) := by rw [aindexAddrS_slice ⟨by omega, by omega⟩]; simp
        have hB3 := hB.kept k13
        simp (disch := first | omega | (simp only [nx] <;> omega) | fail) only [vaw, c6, hc, hix, oL2, hv, Nat.reduceAdd, Nat.reduceMul, Nat.reduceLeDiff, Nat.reduceEqDiff, ↓reduceIte]
        refine decode_ret hB3.row hB.bytes hB.len (fun hno H14 k14 => ?_) (fun x1 hx1 hal1 e1 r1 a1 u1 d1 H14 k14 h14 => ?_)
        · have n14 := k14.next
          have kP : Keep Nothing H14 ((H14.new (.cells [.int .i64 0, .nilSlice, .nilSlice, .nilSlice, .nilSlice, .nilSlice] true)).upd H14.next (some (.cells [.int .i64 0, .nilSlice, .nilSlice, .nilSlice, .nilSlice, .nilSlice] true))) := ((Keep.refl _ _).new _).upd (.inl (by omega)) _
          have oP : ((H14.new (.cells [.int .i64 0, .nilSlice, .nilSlice, .nilSlice, .nilSlice, .nilSlice] true)).upd H14.next (some (.cells [.int .i64 0, .nilSlice, .nilSlice, .nilSlice, .nilSlice, .nilSlice] true))).obj H14.next = some (.cells [.int .i64 0, .nilSlice, .nilSlice, .nilSlice, .nilSlice, .nilSlice] true) := obj_upd_eq rfl
          have nP : H14.next < ((H14.new (.cells [.int .i64 0, .nilSlice, .nilSlice, .nilSlice, .nilSlice, .nilSlice] true)).upd H14.next (some (.cells [.int .i64 0, .nilSlice, .nilSlice, .nilSlice, .nilSlice, .nilSlice] true))).next := (by first | omega | (simp only [next_new, next_upd]; omega))
          have oL3 := (k14.old (i := L) (by omega)).trans oL2
          have nyL : L ≠ H14.next := by omega
          simp (disch := first | omega | (simp only [nx] <;> omega) | fail) only [vaw, hix, oL3, hv, nyL, Nat.reduceAdd, Nat.reduceMul, Nat.reduceLeDiff, Nat.reduceEqDiff, ↓reduceIte]
          generalize (H14.new (.cells [.int .i64 0, .nilSlice, .nilSlice, .nilSlice, .nilSlice, .nilSlice] true)).upd H14.next (some (.cells [.int .i64 0, .nilSlice, .nilSlice, .nilSlice, .nilSlice, .nilSlice] true)) = H15 at *
          generalize H14.next = y at *
          refine refdecode_ret ((hB3.kept k14).kept kP).row hB.bytes hB.len (fun hno2 H16 k16 => ?_) (fun x2 hx2 hal2 e2 r2 a2 u2 d2 H16 k16 h16 => ?_)
          · have o16 := (k16.old nP).trans oP
            have n16 := k16.next
            have n90 : ¬ ((9 : Int) = 0) := by omega
            simp (disch := first | omega | (simp only [nx] <;> omega) | fail) only [vaw, o16, ne_eq, not_true_eq_false, Nat.reduceAdd, Nat.reduceMul, Nat.reduceLeDiff, Nat.reduceEqDiff, ↓reduceIte]
            refine same_ret (zero_at _) (zero_at _) zero_short.1 zero_short.2 fun b H17 k17 c17 => ?_
            have hb : b = true := c17.2 rfl
            subst hb
            simp (disch := first | omega | (simp only [nx] <;> omega) | fail) only [vaw, n90, Nat.reduceAdd, Nat.reduceMul, Nat.reduceLeDiff, Nat.reduceEqDiff, ↓reduceIte]
            exact ⟨6 - (i + 1), by omega, i + 1, rfl, by omega, rfl, ((((((k13.trans k14).trans kP).trans k16).new _).upd (.inl (by omega)) _).trans k17)⟩
          · exact (hno x2 ((ref_raw hB.bytes hal2).1 hx2) hal2).elim
        · have n14 := k14.next
          have d0 := h14.es.cells
          have kP : Keep Nothing H14 ((H14.new (.cells [.int .i64 0, .nilSlice, .nilSlice, .nilSlice, .nilSlice, .nilSlice] true)).upd H14.next (some (.cells [.int .i64 x1.n, e1, r1, a1, u1, d1] true))) := ((Keep.refl _ _).new _).upd (.inl (by omega)) _
          have oP : ((H14.new (.cells [.int .i64 0, .nilSlice, .nilSlice, .nilSlice, .nilSlice, .nilSlice] true)).upd H14.next (some (.cells [.int .i64 x1.n, e1, r1, a1, u1, d1] true))).obj H14.next = some (.cells [.int .i64 x1.n, e1, r1, a1, u1, d1] true) := obj_upd_eq rfl
          have nP : H14.next < ((H14.new (.cells [.int .i64 0, .nilSlice, .nilSlice, .nilSlice, .nilSlice, .nilSlice] true)).upd H14.next (some (.cells [.int .i64 x1.n, e1, r1, a1, u1, d1] true))).next := (by first | omega | (simp only [next_new, next_upd]; omega))
          have oL3 := (k14.old (i := L) (by omega)).trans oL2
          have nyL : L ≠ H14.next := by omega
          simp (disch := first | omega | (simp only [nx] <;> omega) | fail) only [vaw, hix, oL3, hv, nyL, Nat.reduceAdd, Nat.reduceMul, Nat.reduceLeDiff, Nat.reduceEqDiff, ↓reduceIte]
          generalize (H14.new (.cells [.int .i64 0, .nilSlice, .nilSlice, .nilSlice, .nilSlice, .nilSlice] true)).upd H14.next (some (.cells [.int .i64 x1.n, e1, r1, a1, u1, d1] true)) = H15 at *
          generalize H14.next = y at *
          have hw := (ref_raw hB.bytes hal1).2 hx1
          refine refdecode_ret ((hB3.kept k14).kept kP).row hB.bytes hB.len (fun hno2 H16 k16 => (hno2 x1 hw hal1).elim) (fun x2 hx2 hal2 e2 r2 a2 u2 d2 H16 k16 h16 => ?_)
          have : x2 = x1 := by rw [hw] at hx2; injection hx2 with hx2; exact hx2.symm
          subst this
          have o16 := (k16.old nP).trans oP
          have n16 := k16.next
          have kQ : Keep Nothing H16 ((H16.new (.cells [.int .i64 0, .nilSlice, .nilSlice, .nilSlice, .nilSlice, .nilSlice] true)).upd H16.next (some (.cells [.int .i64 x2.n, e2, r2, a2, u2, d2] true))) := ((Keep.refl _ _).new _).upd (.inl (by omega)) _
          obtain ⟨hs1, hs2⟩ := allowed_short hal2
          simp (disch := first | omega | (simp only [nx] <;> omega) | fail) only [vaw, o16, ne_eq, not_true_eq_false, Nat.reduceAdd, Nat.reduceMul, Nat.reduceLeDiff, Nat.reduceEqDiff, ↓reduceIte]
          refine same_ret (((h14.kept kP).kept k16).kept kQ) (h16.kept kQ) hs1 hs2 fun b H17 k17 c17 => ?_
          have hb : b = true := c17.2 rfl
          subst hb
          have o17 : H17.obj y = some (.cells [.int .i64 x2.n, e1, r1, a1, u1, d1] true) := by rw [k17.old (by simp only [next_upd, next_new]; omega), kQ.old (by omega)]; exact o16
          simp (disch := first | omega | (simp only [nx] <;> omega) | fail) only [vaw, o17, Nat.reduceAdd, Nat.reduceMul, Nat.reduceLeDiff, Nat.reduceEqDiff, ↓reduceIte]
          refine refcheck_ret ((((h14.kept kP).kept k16).kept kQ).kept k17) (by have := hs1.2.1; have := hal2.rankLen; have := hal2.net.2.1; omega) hs1.2.2.2.2.1 hs1.2.2.2.2.2 fun b H18 k18 c18 => ?_
          have hb : b = true := c18.2 hal2
          subst hb
          simp (disch := first | omega | (simp only [nx] <;> omega) | fail) only [vaw, Nat.reduceAdd, Nat.reduceMul, Nat.reduceLeDiff, Nat.reduceEqDiff, ↓reduceIte]
          exact ⟨6 - (i + 1), by omega, i + 1, rfl, by omega, rfl, (((((k13.trans k14).trans kP).trans k16).trans kQ).trans k17).trans k18⟩
      · simp (disch := first | omega | (simp only [nx] <;> omega) | fail) only [vaw, c6, hc, Nat.reduceAdd, Nat.reduceMul, Nat.reduceLeDiff, Nat.reduceEqDiff, ↓reduceIte]
end Go.Proofs.Ytknhlpmmalcchaa

/- Closed facts of the program: what its head says, read as a list of signs (the kernel is slow at a long text's own signs). -/
namespace Go.Proofs.Ytknhlpmmalcchaa
open Go Go.ChangeShapes Go.WideShapes Go.ChangeAt Go.RowKit
set_option maxRecDepth 100000
def headSigns : List Char := List.map Char.ofNat [104, 97, 114, 110, 101, 115, 115, 32, 55, 99, 56, 99, 100, 51, 98, 49, 52, 101, 49, 49, 99, 55, 53, 54, 51, 54, 100, 97, 101, 56, 55, 98, 55, 54, 100, 50, 48, 98, 53, 57, 56, 97, 56, 56, 56, 55, 99, 98, 51, 49, 48, 98, 100, 53, 97, 55, 54, 53, 102, 100, 48, 102, 49, 102, 50, 57, 53, 50, 52, 102, 57, 50, 32, 99, 117, 116, 32, 97, 116, 32, 109, 105, 108, 101, 115, 116, 111, 110, 101, 47, 109, 105, 108, 101, 115, 116, 111, 110, 101, 108, 97, 119, 49, 50, 46, 73, 110, 100, 101, 120, 66, 97, 99, 107, 32, 109, 105, 108, 101, 115, 116, 111, 110, 101, 47, 109, 105, 108, 101, 115, 116, 111, 110, 101, 108, 97, 119, 49, 50, 46, 73, 110, 100, 101, 120, 82, 101, 97, 100, 115, 32, 109, 105, 108, 101, 115, 116, 111, 110, 101, 47, 109, 105, 108, 101, 115, 116, 111, 110, 101, 108, 97, 119, 49, 50, 46, 73, 110, 100, 101, 120, 83, 112, 111, 105, 108, 116, 32, 109, 105, 108, 101, 115, 116, 111, 110, 101, 47, 109, 105, 108, 101, 115, 116, 111, 110, 101, 108, 97, 119, 49, 50, 46, 73, 110, 100, 101, 120, 79, 110, 108, 121, 32, 109, 105, 108, 101, 115, 116, 111, 110, 101, 47, 109, 105, 108, 101, 115, 116, 111, 110, 101, 108, 97, 119, 49, 50, 46, 73, 110, 100, 101, 120, 83, 105, 122, 101, 32, 109, 105, 108, 101, 115, 116, 111, 110, 101, 47, 109, 105, 108, 101, 115, 116, 111, 110, 101, 108, 97, 119, 49, 50, 46, 73, 110, 100, 101, 120, 65, 112, 97, 114, 116, 32, 109, 105, 108, 101, 115, 116, 111, 110, 101, 47, 109, 105, 108, 101, 115, 116, 111, 110, 101, 108, 97, 119, 49, 50, 46, 73, 110, 100, 101, 120, 67, 117, 116, 32, 109, 105, 108, 101, 115, 116, 111, 110, 101, 47, 109, 105, 108, 101, 115, 116, 111, 110, 101, 108, 97, 119, 49, 50, 46, 73, 110, 100, 101, 120, 67, 111, 117, 110, 116, 115, 32, 109, 105, 108, 101, 115, 116, 111, 110, 101, 47, 109, 105, 108, 101, 115, 116, 111, 110, 101, 108, 97, 119, 49, 50, 46, 73, 110, 100, 101, 120, 72, 101, 97, 100, 32, 109, 105, 108, 101, 115, 116, 111, 110, 101, 47, 109, 105, 108, 101, 115, 116, 111, 110, 101, 108, 97, 119, 49, 48, 46, 79, 114, 100, 101, 114, 65, 108, 108, 32, 109, 105, 108, 101, 115, 116, 111, 110, 101, 47, 109, 105, 108, 101, 115, 116, 111, 110, 101, 108, 97, 119, 49, 48, 46, 79, 114, 100, 101, 114, 69, 97, 99, 104, 32, 109, 105, 108, 101, 115, 116, 111, 110, 101, 47, 109, 105, 108, 101, 115, 116, 111, 110, 101, 108, 97, 119, 49, 48, 46, 79, 114, 100, 101, 114, 67, 111, 115, 116, 115, 32, 109, 105, 108, 101, 115, 116, 111, 110, 101, 47, 109, 105, 108, 101, 115, 116, 111, 110, 101, 108, 97, 119, 49, 48, 46, 79, 114, 100, 101, 114, 75, 110, 111, 119, 110, 32, 109, 105, 108, 101, 115, 116, 111, 110, 101, 47, 109, 105, 108, 101, 115, 116, 111, 110, 101, 108, 97, 119, 49, 48, 46, 79, 114, 100, 101, 114, 77, 111, 100, 101, 32, 109, 105, 108, 101, 115, 116, 111, 110, 101, 47, 109, 105, 108, 101, 115, 116, 111, 110, 101, 108, 97, 119, 49, 49, 46, 72, 105, 101, 114, 66, 117, 105, 108, 100, 115, 32, 109, 105, 108, 101, 115, 116, 111, 110, 101, 47, 109, 105, 108, 101, 115, 116, 111, 110, 101, 108, 97, 119, 49, 49, 46, 72, 105, 101, 114, 82, 97, 110, 107, 115, 32, 109, 105, 108, 101, 115, 116, 111, 110, 101, 47, 109, 105, 108, 101, 115, 116, 111, 110, 101, 108, 97, 119, 49, 49, 46, 72, 105, 101, 114, 75, 101, 101, 112, 115, 32, 109, 105, 108, 101, 115, 116, 111, 110, 101, 47, 109, 105, 108, 101, 115, 116, 111, 110, 101, 108, 97, 119, 49, 49, 46, 72, 105, 101, 114, 67, 111, 114, 101, 32, 109, 105, 108, 101, 115, 116, 111, 110, 101, 47, 109, 105, 108, 101, 115, 116, 111, 110, 101, 108, 97, 119, 49, 49, 46, 72, 105, 101, 114, 67, 111, 115, 116, 115, 32, 109, 105, 108, 101, 115, 116, 111, 110, 101, 47, 109, 105, 108, 101, 115, 116, 111, 110, 101, 108, 97, 119, 49, 49, 46, 72, 105, 101, 114, 65, 114, 99, 115, 32, 109, 105, 108, 101, 115, 116, 111, 110, 101, 47, 109, 105, 108, 101, 115, 116, 111, 110, 101, 108, 97, 119, 49, 49, 46, 72, 105, 101, 114, 83, 104, 111, 114, 116, 32, 109, 105, 108, 101, 115, 116, 111, 110, 101, 47, 109, 105, 108, 101, 115, 116, 111, 110, 101, 108, 97, 119, 49, 49, 46, 72, 105, 101, 114, 79, 119, 110, 32, 109, 105, 108, 101, 115, 116, 111, 110, 101, 47, 109, 105, 108, 101, 115, 116, 111, 110, 101, 108, 97, 119, 49, 49, 46, 72, 105, 101, 114, 76, 111, 110, 103]
theorem head_eq : Try.prog.initOrder = String.ofList headSigns := by kernel_rfl
theorem head_list : Try.prog.initOrder.toList = headSigns := by rw [head_eq, String.toList_ofList]
theorem head_words : ∃ rest, behindMainWord (wordsSigns headSigns) = "cut".toList :: rest := ⟨(behindMainWord (wordsSigns headSigns)).tail, by kernel_rfl⟩
theorem strip_cut (rest : List (List Char)) : stripLifts liftWords ("cut".toList :: rest) = ([], "cut".toList :: rest) := by kernel_rfl
theorem ne1 : ("cut".toList == "gc".toList) = false := by kernel_rfl
theorem ne2 : ("cut".toList == "spec".toList) = false := by kernel_rfl
theorem ne3 : ("cut".toList == "carried".toList) = false := by kernel_rfl
theorem words_of : ∃ rest, behindMainWord (wordsSigns Try.prog.initOrder.toList) = "cut".toList :: rest := by
  obtain ⟨rest, h⟩ := head_words
  exact ⟨rest, (congrArg (fun l => behindMainWord (wordsSigns l)) head_list).trans h⟩
theorem make_of (P : Program) (rest : List (List Char)) (h : behindMainWord (wordsSigns P.initOrder.toList) = "cut".toList :: rest) : P.make = some .cut := by
  unfold Program.make
  rw [h]
  simp only [ne1, ne2, beq_self_eq_true, Bool.false_or, Bool.true_or, Bool.or_self, Bool.false_eq_true, if_true, if_false]
theorem lifts_of (P : Program) (rest : List (List Char)) (h : behindMainWord (wordsSigns P.initOrder.toList) = "cut".toList :: rest) : P.liftsFinal = false := by
  unfold Program.liftsFinal Program.headLifts
  rw [h]
  have e : ((some "cut".toList : Option (List Char)) == some "carried".toList) = false := by kernel_rfl
  simp only [strip_cut, List.head?_cons, beq_self_eq_true, if_true, e, Bool.false_and, Bool.false_or]
  rfl
theorem enter_of (P : Program) (rest : List (List Char)) (h : behindMainWord (wordsSigns P.initOrder.toList) = "cut".toList :: rest) (h1 : P.laysLater = false) (h2 : P.bearsReflect = false) (h3 : P.doorFits [] = true) : P.mayEnter = true := by
  unfold Program.mayEnter
  rw [h]
  simp only [strip_cut, ne1, ne2, ne3, h1, h2, h3, List.head?_cons, beq_self_eq_true, Bool.false_or, Bool.or_false, Bool.false_and, Bool.true_and, Bool.and_true, Bool.not_false, Bool.or_true, List.contains_nil]
theorem fact_make : Try.prog.make = some .cut := by
  obtain ⟨rest, h⟩ := words_of
  exact make_of _ _ h
theorem fact_lifts : Try.prog.liftsFinal = false := by
  obtain ⟨rest, h⟩ := words_of
  exact lifts_of _ _ h
theorem fact_later : Try.prog.laysLater = false := by kernel_rfl
theorem fact_reflect : Try.prog.bearsReflect = false := by kernel_rfl
theorem fact_door : Try.prog.doorFits [] = true := by kernel_rfl
theorem fact_enter : Try.prog.mayEnter = true := by
  obtain ⟨rest, h⟩ := words_of
  exact enter_of _ _ h fact_later fact_reflect fact_door
theorem fact_laid : laidOutB Try.prog = true := by kernel_rfl
theorem fact_maps : mapsRowed Try.prog = true := by kernel_rfl
theorem fact_heard : Try.prog.stopsHeard = true := by kernel_rfl
theorem own : ownKnob Try.prog.godebug = none := by kernel_rfl
theorem follows : Try.prog.follows .mixedOrders = true := by kernel_rfl
end Go.Proofs.Ytknhlpmmalcchaa
