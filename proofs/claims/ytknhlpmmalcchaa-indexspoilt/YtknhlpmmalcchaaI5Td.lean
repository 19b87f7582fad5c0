/- Steps of the walk. -/
import Derived.Test.YtknhlpmmalcchaaI5Tc
import Derived.Test.YtknhlpmmalcchaaI5Vba
set_option linter.all false
set_option linter.unusedVariables false
set_option linter.unusedSimpArgs false
namespace Go.Proofs.Ytknhlpmmalcchaa
open Go Go.VAI
set_option linter.unusedSimpArgs false

theorem edgeCells_append (l m : List Edge) : edgeCells (l ++ m) = edgeCells l ++ edgeCells m := by simp [edgeCells]
def rRank (s : RS) : Int × RS := ((rFour s).1 - 1, (rFour s).2)
def rawOf (b : List Int) : Option Idx :=
  if b.take 4 = [77, 73, 88, 49] then
    let n := rFour ⟨b.drop 4, false⟩
    let k := rCount 16 n.2
    let es := rep rEdge k.1.toNat k.2
    if ((es.2.left.length / 4 : Nat) : Int) < n.1 ∨ es.2.bad = true then none else
    let rk := rep rRank n.1.toNat es.2
    let m := rCount 32 rk.2
    let arcs := rep rArc m.1.toNat m.2
    let up := rep rList n.1.toNat arcs.2
    let down := rep rList n.1.toNat up.2
    if down.2.bad = true ∨ 0 < down.2.left.length then none else some ⟨n.1, es.1, rk.1, arcs.1, up.1, down.1⟩
  else none
theorem rCount_left (size : Nat) (s : RS) : (rCount size s).2.left.length ≤ s.left.length := by
  unfold rCount
  simp only
  split
  · exact rFour_left s
  · exact rFour_left s
theorem rep_left {α : Type} {f : RS → α × RS} (h : ∀ s, (f s).2.left.length ≤ s.left.length) : ∀ n s, (rep f n s).2.left.length ≤ s.left.length
  | 0, s => Nat.le_refl _
  | n + 1, s => Nat.le_trans (h _) (rep_left h n s)
theorem rEdge_left (s : RS) : (rEdge s).2.left.length ≤ s.left.length := Nat.le_trans (rFour_left _) (Nat.le_trans (rFour_left _) (Nat.le_trans (rFour_left _) (rFour_left s)))
theorem rList_left (s : RS) : (rList s).2.left.length ≤ s.left.length := Nat.le_trans (rep_left rFour_left _ _) (rCount_left _ _)
def Fin' (w : Nat) (H : AHeap) (v : AVal) (sz : Nat) (cs : List AVal) : Prop := Row H v sz cs ∧ ∀ j, sid v = some j → w < j
theorem Fin'.M {w : Nat} {M : Nat → Prop} {H H' : AHeap} {v : AVal} {sz : Nat} {cs : List AVal} (h : Fin' w H v sz cs) (hk : Keep M H H') (hM : ∀ j, M j → j ≤ w) : Fin' w H' v sz cs := ⟨h.1.M hk (fun j hj e => by have := h.2 j hj; have := hM j e; omega), h.2⟩
theorem own_fin {w lo : Nat} {H : AHeap} {v : AVal} {sz : Nat} {cs : List AVal} (h : Own lo H v sz cs) (hw : w < lo) : Fin' w H v sz cs := ⟨h.row, fun j hj => by have := (h.sid_ge hj).1; omega⟩
def FinRows (w : Nat) (H : AHeap) (v : AVal) (ll : List (List Int)) : Prop := ∃ vs, Fin' w H v 1 vs ∧ vs.length = ll.length ∧ ∀ (i : Nat) r l, vs[i]? = some r → ll[i]? = some l → Fin' w H r 1 (ints l)
theorem FinRows.M {w : Nat} {M : Nat → Prop} {H H' : AHeap} {v : AVal} {ll : List (List Int)} (h : FinRows w H v ll) (hk : Keep M H H') (hM : ∀ j, M j → j ≤ w) : FinRows w H' v ll := by
  obtain ⟨vs, h1, h2, h3⟩ := h
  exact ⟨vs, h1.M hk hM, h2, fun i r l e1 e2 => (h3 i r l e1 e2).M hk hM⟩
theorem FinRows.rows {w : Nat} {H : AHeap} {v : AVal} {ll : List (List Int)} (h : FinRows w H v ll) : RowsOf H v ll := by
  obtain ⟨vs, h1, h2, h3⟩ := h
  exact ⟨vs, h1.1, h2, fun i r l e1 e2 => (h3 i r l e1 e2).1⟩
theorem RowsAt.snoc {lo : Nat} {H : AHeap} {av r : AVal} {us : List AVal} {ul : List (List Int)} {l : List Int} (h : RowsAt lo H av us ul) (hr : Row H r 1 (ints l)) (hs : ∀ j, sid r = some j → lo ≤ j ∧ sid av ≠ some j) (hlen : us.length = ul.length) : RowsAt lo H av (us ++ [r]) (ul ++ [l]) := by
  intro w q m h1 h2
  by_cases hw : w < us.length
  · rw [List.getElem?_append_left hw] at h1
    rw [List.getElem?_append_left (by omega)] at h2
    exact h w q m h1 h2
  · have e : w = us.length := by
      have := (List.getElem?_eq_some_iff.1 h1).1
      simp at this; omega
    subst e
    rw [List.getElem?_append_right (by omega), Nat.sub_self] at h1
    rw [List.getElem?_append_right (by omega), hlen, Nat.sub_self] at h2
    simp at h1 h2
    subst h1; subst h2
    exact ⟨hr, hs⟩
theorem RowsAt.fin {lo w : Nat} {H : AHeap} {av : AVal} {us : List AVal} {ul : List (List Int)} (h : RowsAt lo H av us ul) (ha : Own lo H av 1 us) (hlen : us.length = ul.length) (hw : w < lo) : FinRows w H av ul :=
  ⟨us, own_fin ha hw, hlen, fun i r l e1 e2 => ⟨(h i r l e1 e2).1, fun j hj => by have := ((h i r l e1 e2).2 j hj).1; omega⟩⟩
theorem rCount_le' (size : Nat) (s : RS) : (rCount size s).1 ≤ ((s.left.length / size : Nat) : Int) := by
  unfold rCount
  simp only
  split
  · exact Int.natCast_nonneg _
  · rename_i hc
    exact Int.le_trans (Int.not_lt.1 hc) (Int.ofNat_le.2 (Nat.div_le_div_right (rFour_left s)))
theorem rList_len (s : RS) : (rList s).1.length ≤ s.left.length := by
  unfold rList
  simp only
  rw [rep_length]
  have := rCount_le' 4 s
  have := Nat.div_le_self s.left.length 4
  omega
theorem rep_mem : ∀ n s, ∀ l ∈ (rep rList n s).1, l.length ≤ s.left.length
  | 0, s, l, h => by simp [rep] at h
  | n + 1, s, l, h => by
    simp only [rep] at h
    rcases List.mem_append.1 h with h | h
    · exact rep_mem n s l h
    · simp at h; subst h
      exact Nat.le_trans (rList_len _) (rep_left rList_left n s)
theorem rArc_left (s : RS) : (rArc s).2.left.length ≤ s.left.length := Nat.le_trans (rFour_left _) (Nat.le_trans (rFour_left _) (Nat.le_trans (rFour_left _) (Nat.le_trans (rFour_left _) (Nat.le_trans (rFour_left _) (Nat.le_trans (rFour_left _) (Nat.le_trans (rFour_left _) (rFour_left s)))))))
structure DecAt (H0 : AHeap) (q w : Nat) (src : Option Nat) (H : AHeap) (cs : List AVal) (s : RS) : Prop where
  keep : Keep Nothing H0 H
  op : H.obj H0.next = some (.cells [.int .i64 0, .nilSlice, .nilSlice, .nilSlice, .nilSlice, .nilSlice] true)
  ob : H.obj q = some (.cells cs true)
  rd : RdAt H w src s
  len : s.left.length ≤ 1000000000
  lq : H0.next < q
  lw : q < w
  ls : ∀ j, src = some j → j < H0.next
theorem DecAt.lt {H0 : AHeap} {q w : Nat} {src : Option Nat} {H : AHeap} {cs : List AVal} {s : RS} (h : DecAt H0 q w src H cs s) : w < H.next := h.rd.lt
theorem DecAt.read {H0 : AHeap} {q w : Nat} {src : Option Nat} {H H' : AHeap} {cs : List AVal} {s s' : RS} (h : DecAt H0 q w src H cs s) (hk : Keep (fun j => j = w) H H') (hr : RdAt H' w src s') (hl : s'.left.length ≤ s.left.length) : DecAt H0 q w src H' cs s' := by
  have h1 := h.lt
  have h2 := h.lq
  have h3 := h.lw
  have h4 := h.len
  have h5 := h.keep.next
  exact ⟨⟨by have := hk.next; omega, fun j hj _ => by rw [hk.obj j (by omega) (by omega), h.keep.old hj]⟩, by rw [hk.obj _ (by omega) (by omega)]; exact h.op, by rw [hk.obj _ (by omega) (by omega)]; exact h.ob, hr, by omega, h2, h3, h.ls⟩
theorem DecAt.put {H0 : AHeap} {q w : Nat} {src : Option Nat} {H : AHeap} {cs : List AVal} {s : RS} (h : DecAt H0 q w src H cs s) (cs' : List AVal) : DecAt H0 q w src (H.upd q (some (.cells cs' true))) cs' s := by
  have h1 := h.lt
  have h2 := h.lq
  have h3 := h.lw
  have h5 := h.keep.next
  have kk : Keep (fun j => j = q) H (H.upd q (some (.cells cs' true))) := (Keep.refl (fun j => j = q) _).upd (.inr rfl) _
  exact ⟨h.keep.upd (.inl (by omega)) _, by rw [obj_upd_ne (by omega)]; exact h.op, obj_upd_eq rfl, h.rd.M kk (by omega) (fun j hj => by have := h.ls j hj; omega), h.len, h2, h3, h.ls⟩
theorem DecAt.grow {H0 : AHeap} {q w lo : Nat} {src : Option Nat} {H H' : AHeap} {cs : List AVal} {s : RS} {M : Nat → Prop} (h : DecAt H0 q w src H cs s) (hk : Keep M H H') (hM : ∀ j, M j → lo ≤ j) (hlo : w < lo) : DecAt H0 q w src H' cs s := by
  have h1 := h.lt
  have h2 := h.lq
  have h3 := h.lw
  have h5 := h.keep.next
  have hm : ∀ j, j ≤ w → ¬ M j := fun j hj hm => by have := hM j hm; omega
  exact ⟨⟨by have := hk.next; omega, fun j hj _ => by rw [hk.obj j (by omega) (hm j (by omega)), h.keep.old hj]⟩, by rw [hk.obj _ (by omega) (hm _ (by omega))]; exact h.op, by rw [hk.obj _ (by omega) (hm _ (by omega))]; exact h.ob, h.rd.M hk (hm w (by omega)) (fun j hj => hm j (by have := h.ls j hj; omega)), h.len, h2, h3, h.ls⟩
theorem DecAt.kept {H0 : AHeap} {q w : Nat} {src : Option Nat} {H H' : AHeap} {cs : List AVal} {s : RS} (h : DecAt H0 q w src H cs s) (hk : Keep Nothing H H') : DecAt H0 q w src H' cs s := h.grow (lo := w + 1) hk (fun _ h => h.elim) (by omega)
theorem wq_of {q w : Nat} {H H' : AHeap} (hk : Keep (fun j => j = w) H H') : Keep (fun j => j = w ∨ j = q) H H' := hk.mono (fun _ _ h => .inl h)
theorem wq_upd {q w : Nat} {Hs H : AHeap} (hk : Keep (fun j => j = w ∨ j = q) Hs H) (o : Option AObj) : Keep (fun j => j = w ∨ j = q) Hs (H.upd q o) := hk.upd (.inr (.inr rfl)) o
theorem app_keep {v : AVal} {H H' : AHeap} (h1 : H.next ≤ H'.next) (h2 : ∀ j, j < H.next → sid v ≠ some j → H'.obj j = H.obj j) : Keep (fun j => sid v = some j) H H' := ⟨h1, h2⟩
theorem IdxAt.fin {w : Nat} {Hs H : AHeap} {ew rv av uv dv : AVal} {x : Idx} (hk : Keep (fun j => j ≤ w) Hs H) (he : Fin' w Hs ew 4 (edgeCells x.es)) (hr : Fin' w Hs rv 1 (ints x.rank)) (ha : Fin' w Hs av 7 (arcCells x.arcs)) (hu : FinRows w Hs uv x.up) (hd : FinRows w Hs dv x.down) : IdxAt H ew rv av uv dv x :=
  ⟨(he.M hk (fun _ h => h)).1, (hr.M hk (fun _ h => h)).1, (ha.M hk (fun _ h => h)).1, (hu.M hk (fun _ h => h)).rows, (hd.M hk (fun _ h => h)).rows⟩
section
variable {K : CallW} {t : Tmps} {H : AHeap} {Q : PostT}
def noGo (Q : PostT) (e : AExit) (t : Tmps) (H : AHeap) : Prop :=
  match e with
  | .goto _ => False
  | e => Q e t H
def thenG (K : CallW) (l : Nat) (rest : ACode) (Q : PostT) (e : AExit) (t : Tmps) (H : AHeap) : Prop :=
  match e with
  | .goto i => i = l ∧ wpx K rest t H (noGo Q)
  | e => Q e t H
theorem wpx_scope {a rest : ACode} {l : Nat} : wpx K (.scope a l rest) t H Q = wpx K a t H (thenG K l rest Q) := rfl
theorem thenG_goto {rest : ACode} {l : Nat} : thenG K l rest Q (.goto l) t H = wpx K rest t H (noGo Q) := by simp [thenG]
theorem thenG_ret {rest : ACode} {l : Nat} : thenG K l rest Q .ret t H = Q .ret t H := rfl
theorem noGo_ret : noGo Q .ret t H = Q .ret t H := rfl
set_option linter.defProp false in
def vaig := And.intro @wpx_scope (And.intro @thenG_goto (And.intro @thenG_ret @noGo_ret))
end
set_option maxRecDepth 20000 in
set_option maxHeartbeats 8000000 in
theorem decode_ret {bv : AVal} {b : List Int} {H : AHeap} {Q : AVal → AHeap → Prop} (hb : RowC H bv 1 (u8s b)) (hbb : Bytes b) (hlen : b.length ≤ 1000000000)
    (hq0 : (∀ x, rawOf b = some x → ¬ Allowed x) → ∀ H', Keep Nothing H H' → Q (.tuple [.agg [.int .i64 0, .nilSlice, .nilSlice, .nilSlice, .nilSlice, .nilSlice], .int .i64 9]) H')
    (hq1 : ∀ x, rawOf b = some x → Allowed x → ∀ ew rv av uv dv H', Keep Nothing H H' → IdxAt H' ew rv av uv dv x → Q (.tuple [.agg [.int .i64 x.n, ew, rv, av, uv, dv], .int .i64 0]) H') : Ret A 30 [bv] H Q := by
  refine Ret.of (fn := F30) rfl ?_
  simp (disch := first | omega | (simp only [nx] <;> omega) | fail) only [vaw, F30, vaig, Nat.reduceAdd, Nat.reduceMul, Nat.reduceLeDiff, Nat.reduceEqDiff, ↓reduceIte]
  have k0 : Keep Nothing H (((H.new (.cells [.int .i64 0, .nilSlice, .nilSlice, .nilSlice, .nilSlice, .nilSlice] true)).new (.cells [.int .i64 0, .nilSlice, .nilSlice, .nilSlice, .nilSlice, .nilSlice] true)).new (.cells [.int .u8 77, .int .u8 73, .int .u8 88, .int .u8 49] true)) := (((Keep.refl _ _).new _).new _).new _
  have hpre : Bytes [77, 73, 88, 49] := by intro x hx; simp at hx; omega
  refine cutPrefix_ret (hb.kept k0) (.mk (c := u8s [77, 73, 88, 49]) (by simp only [next_new]; omega) (by simp (disch := first | omega | (simp only [nx] <;> omega) | fail) only [vaim]; rfl) (by decide) rfl) hbb hpre ?_ ?_
  · intro hpx v1 hv1 hs1
    have hpx' : b.take 4 = [77, 73, 88, 49] := hpx
    have hdr : b.drop [(77 : Int), 73, 88, 49].length = b.drop 4 := rfl
    rw [hdr] at hv1
    have q0 : ((((H.new (.cells [.int .i64 0, .nilSlice, .nilSlice, .nilSlice, .nilSlice, .nilSlice] true)).new (.cells [.int .i64 0, .nilSlice, .nilSlice, .nilSlice, .nilSlice, .nilSlice] true)).new (.cells [.int .u8 77, .int .u8 73, .int .u8 88, .int .u8 49] true)).new (.cells [v1, .bool false] true)).obj H.next = some (.cells [.int .i64 0, .nilSlice, .nilSlice, .nilSlice, .nilSlice, .nilSlice] true) := by simp (disch := first | omega | (simp only [nx] <;> omega) | fail) only [vaim]
    have q1 : ((((H.new (.cells [.int .i64 0, .nilSlice, .nilSlice, .nilSlice, .nilSlice, .nilSlice] true)).new (.cells [.int .i64 0, .nilSlice, .nilSlice, .nilSlice, .nilSlice, .nilSlice] true)).new (.cells [.int .u8 77, .int .u8 73, .int .u8 88, .int .u8 49] true)).new (.cells [v1, .bool false] true)).obj (H.next + 1) = some (.cells [.int .i64 0, .nilSlice, .nilSlice, .nilSlice, .nilSlice, .nilSlice] true) := by simp (disch := first | omega | (simp only [nx] <;> omega) | fail) only [vaim]
    have kv : Keep Nothing H ((((H.new (.cells [.int .i64 0, .nilSlice, .nilSlice, .nilSlice, .nilSlice, .nilSlice] true)).new (.cells [.int .i64 0, .nilSlice, .nilSlice, .nilSlice, .nilSlice, .nilSlice] true)).new (.cells [.int .u8 77, .int .u8 73, .int .u8 88, .int .u8 49] true)).new (.cells [v1, .bool false] true)) := k0.new _
    have nv : ((((H.new (.cells [.int .i64 0, .nilSlice, .nilSlice, .nilSlice, .nilSlice, .nilSlice] true)).new (.cells [.int .i64 0, .nilSlice, .nilSlice, .nilSlice, .nilSlice, .nilSlice] true)).new (.cells [.int .u8 77, .int .u8 73, .int .u8 88, .int .u8 49] true)).new (.cells [v1, .bool false] true)).next = H.next + 1 + 1 + 1 + 1 := by simp only [next_new]
    have hsrc : ∀ j, sid v1 = some j → j < H.next := fun j hj => hb.1.sid_lt (by rw [← hs1]; exact hj)
    have rd0 : RdAt ((((H.new (.cells [.int .i64 0, .nilSlice, .nilSlice, .nilSlice, .nilSlice, .nilSlice] true)).new (.cells [.int .i64 0, .nilSlice, .nilSlice, .nilSlice, .nilSlice, .nilSlice] true)).new (.cells [.int .u8 77, .int .u8 73, .int .u8 88, .int .u8 49] true)).new (.cells [v1, .bool false] true)) (H.next + 1 + 1 + 1) (sid v1) ⟨b.drop 4, false⟩ :=
      ⟨v1, obj_new_eq (by simp only [next_new]), hv1.kept ((Keep.refl _ _).new _), rfl, by rw [nv]; omega, fun e => by have := hsrc _ e; omega, fun x hx => hbb x (List.mem_of_mem_drop hx), by simp; omega⟩
    have cv : v1.cells = some [v1] := hv1.1.cells
    simp (disch := first | omega | (simp only [nx] <;> omega) | fail) only [vaw, vaig, cv, Nat.reduceAdd, Nat.reduceMul, Nat.reduceLeDiff, Nat.reduceEqDiff, ↓reduceIte]
    generalize hH4 : (((H.new (.cells [.int .i64 0, .nilSlice, .nilSlice, .nilSlice, .nilSlice, .nilSlice] true)).new (.cells [.int .i64 0, .nilSlice, .nilSlice, .nilSlice, .nilSlice, .nilSlice] true)).new (.cells [.int .u8 77, .int .u8 73, .int .u8 88, .int .u8 49] true)).new (.cells [v1, .bool false] true) = H4 at *
    generalize hqq : H.next + 1 = q at *
    generalize hww : q + 1 + 1 = w at *
    have D0 : DecAt H q w (sid v1) H4 [.int .i64 0, .nilSlice, .nilSlice, .nilSlice, .nilSlice, .nilSlice] ⟨b.drop 4, false⟩ := ⟨kv, q0, q1, rd0, by simp; omega, by omega, by omega, hsrc⟩
    clear kv q0 q1 hH4 k0
    refine rfour_ret rd0 fun H5 k5 h5 n5 => ?_
    have D1 := D0.read k5 h5 (rFour_left _)
    have hn := rFour_bd rd0.bytes
    obtain ⟨n, hN⟩ : ∃ n : Nat, (rFour ⟨b.drop 4, false⟩).1 = n := ⟨(rFour ⟨b.drop 4, false⟩).1.toNat, by omega⟩
    rw [hN] at hn ⊢
    have o1 := D1.ob
    simp (disch := first | omega | (simp only [nx] <;> omega) | fail) only [vaw, o1, Nat.reduceAdd, Nat.reduceMul, Nat.reduceLeDiff, Nat.reduceEqDiff, ↓reduceIte]
    have D2 := D1.put [.int .i64 n, .nilSlice, .nilSlice, .nilSlice, .nilSlice, .nilSlice]
    generalize H5.upd q (some (.cells [.int .i64 n, .nilSlice, .nilSlice, .nilSlice, .nilSlice, .nilSlice] true)) = H6 at *
    refine rcount_ret (size := 16) D2.rd (by omega) fun H7 k7 h7 n7 => ?_
    have D3 := D2.read k7 h7 (rCount_left _ _)
    have hk := rCount_bd (size := 16) D2.rd.bytes
    have hkl := rCount_le (size := 16) D2.rd.bytes
    have hl0 := D2.len
    clear k5 h5 n5 o1 D1 D0 rd0 k7 h7 n7 nv
    obtain ⟨k, hkk⟩ : ∃ k : Nat, (rCount 16 (rFour ⟨b.drop 4, false⟩).2).1 = k := ⟨(rCount 16 (rFour ⟨b.drop 4, false⟩).2).1.toNat, by omega⟩
    rw [hkk] at hk hkl ⊢
    have hk9 : k ≤ 1000000000 := by
      have := Nat.div_le_self (rFour ⟨b.drop 4, false⟩).2.left.length 16
      omega
    generalize hS0 : (rCount 16 (rFour ⟨b.drop 4, false⟩).2).2 = s0 at *
    have hw7 := D3.lt
    have hqw := D3.lw
    simp (disch := first | omega | (simp only [nx] <;> omega) | fail) only [vaw, Nat.reduceAdd, Nat.reduceMul, Nat.reduceLeDiff, Nat.reduceEqDiff, ↓reduceIte]
    refine wpx_loop (fun m t H' => ∃ (i : Nat) (ev : AVal), m = k - i ∧ i ≤ k ∧ t = (bots 2 (.ptr H.next 0 :: bots 1 (.ptr q 0 :: bots 2 (.ptr w 0 :: .func (.func 64) [.ptr w 0] [] :: bots 21 (.int .i64 k :: .int .i64 i :: bots 120 ([]))))) : Tmps) ∧ DecAt H q w (sid v1) H' [.int .i64 n, ev, .nilSlice, .nilSlice, .nilSlice, .nilSlice] (rep rEdge i s0).2 ∧ Keep (fun j => j = w ∨ j = q) H7 H' ∧ Own H7.next H' ev 4 (edgeCells (rep rEdge i s0).1)) k ?_ ?_
    · exact ⟨0, .nilSlice, rfl, by omega, rfl, D3, Keep.refl _ _, .nil⟩
    · clear D2 D3
      rintro m t H8 ⟨i, ev, rfl, hi, rfl, D, kD, gD⟩
      by_cases hc : (i : Int) < k
      · have ob := D.ob
        have nD := kD.next
        simp (disch := first | omega | (simp only [nx] <;> omega) | fail) only [vaw, hc, ob, Nat.reduceAdd, Nat.reduceMul, Nat.reduceLeDiff, Nat.reduceEqDiff, ↓reduceIte]
        refine redge_ret D.rd fun H9 k9 h9 => ?_
        have D4 := D.read k9 h9 (rEdge_left _)
        have g4 := gD.keepM k9 (fun j hj e => by have := (gD.sid_ge hj).1; omega)
        have ob4 := D4.ob
        have bev := gD.beq
        have n9 := k9.next
        simp (disch := first | omega | (simp only [nx] <;> omega) | fail) only [vaw, ob4, reK_same bev, Edge.cells, Nat.reduceAdd, Nat.reduceMul, Nat.reduceLeDiff, Nat.reduceEqDiff, ↓reduceIte]
        have rl := rep_length rEdge i s0
        refine app_ret (n := i) g4 (by simp (disch := first | omega | (simp only [nx] <;> omega) | fail) only [vaim]; rfl) rfl (by omega) (by omega) (by rw [edgeCells_length, rl]) (by omega) (by omega) ?_
        intro v5 H10 n10 k10 g10 s10
        simp only [next_new] at n10 s10
        have kk := app_keep n10 k10
        have D5 := (D4.kept ((Keep.refl _ _).new _)).grow (lo := H7.next) kk (fun j hj => (g4.sid_ge hj).1) (by omega)
        have ob5 := D5.ob
        have c5 := g10.cells
        simp (disch := first | omega | (simp only [nx] <;> omega) | fail) only [vaw, ob5, c5, Nat.reduceAdd, Nat.reduceMul, Nat.reduceLeDiff, Nat.reduceEqDiff, ↓reduceIte]
        refine ⟨k - (i + 1), by omega, i + 1, v5, rfl, by omega, rfl, D5.put _, wq_upd (((kD.trans (wq_of k9)).new _).trans' kk (fun j hj e => by have := (g4.sid_ge e).1; omega)) _, ?_⟩
        refine (Grown.upd ?_ (by omega) _).own
        simp only [rep]
        rw [edgeCells_append]
        exact g10
      · have hik : i = k := by omega
        subst hik
        have hE := own_fin gD hw7
        have hlE := rep_length rEdge i s0
        clear gD kD hi hw7
        generalize hS1 : (rep rEdge i s0).2 = s1 at *
        generalize hES : (rep rEdge i s0).1 = es at *
        have D1 := D
        obtain ⟨lv, r1, r2, r3, r4, r5, r6, r7⟩ := D.rd
        have hl1 := D.len
        have hll := r2.1.len1
        rw [u8s_length] at hll
        have hquo : ((s1.left.length : Int)).tdiv 4 = ((s1.left.length / 4 : Nat) : Int) := by rw [show (4 : Int) = ((4 : Nat) : Int) from rfl, Int.ofNat_tdiv]
        have hdl : s1.left.length / 4 ≤ s1.left.length := Nat.div_le_self _ _
        have z4 : (4 : Int) ≠ 0 := by omega
        have ob := D.ob
        have op := D.op
        have hraw : rawOf b = if ((s1.left.length / 4 : Nat) : Int) < (n : Int) ∨ s1.bad = true then none else
            (if (rep rList n (rep rList n (rep rArc (rCount 32 (rep rRank n s1).2).1.toNat (rCount 32 (rep rRank n s1).2).2).2).2).2.bad = true ∨ 0 < (rep rList n (rep rList n (rep rArc (rCount 32 (rep rRank n s1).2).1.toNat (rCount 32 (rep rRank n s1).2).2).2).2).2.left.length then none
              else some ⟨n, es, (rep rRank n s1).1, (rep rArc (rCount 32 (rep rRank n s1).2).1.toNat (rCount 32 (rep rRank n s1).2).2).1, (rep rList n (rep rArc (rCount 32 (rep rRank n s1).2).1.toNat (rCount 32 (rep rRank n s1).2).2).2).1, (rep rList n (rep rList n (rep rArc (rCount 32 (rep rRank n s1).2).1.toNat (rCount 32 (rep rRank n s1).2).2).2).2).1⟩) := by
          unfold rawOf
          simp only [if_pos hpx', hN, hkk, hS0, hS1, hES, Int.toNat_natCast]
        generalize hdq : s1.left.length / 4 = dq at *
        obtain ⟨left, bad⟩ := s1
        simp only at *
        by_cases c1 : ((dq : Nat) : Int) < n
        · simp (disch := first | omega | (simp only [nx] <;> omega) | fail) only [vaw, hc, ob, op, r1, hll, abin_quo, hquo, c1, vaig, Nat.reduceAdd, Nat.reduceMul, Nat.reduceLeDiff, Nat.reduceEqDiff, ↓reduceIte]
          refine hq0 (fun x hx => ?_) _ (D.keep.upd (id := H.next) (.inl (Nat.le_refl _)) _)
          rw [hraw, if_pos (.inl c1)] at hx
          cases hx
        · cases bad with
          | true =>
            simp (disch := first | omega | (simp only [nx] <;> omega) | fail) only [vaw, hc, ob, op, r1, hll, abin_quo, hquo, c1, vaig, Nat.reduceAdd, Nat.reduceMul, Nat.reduceLeDiff, Nat.reduceEqDiff, ↓reduceIte]
            refine hq0 (fun x hx => ?_) _ (D.keep.upd (id := H.next) (.inl (Nat.le_refl _)) _)
            rw [hraw, if_pos (.inr rfl)] at hx
            cases hx
          | false =>
            rw [if_neg (by intro h; rcases h with h | h; exact c1 h; cases h)] at hraw
            simp (disch := first | omega | (simp only [nx] <;> omega) | fail) only [vaw, hc, ob, op, r1, hll, abin_quo, hquo, c1, vaig, Nat.reduceAdd, Nat.reduceMul, Nat.reduceLeDiff, Nat.reduceEqDiff, ↓reduceIte]
            clear r1 r2 r3 r4 r5 r6 r7 hll hquo ob op D hl1 hbb hb hpre hpx hpx' hN hn hkk hk hkl hk9 hS0 hS1 hES
            have hn9 : n ≤ 1000000000 := by
              have := D1.len
              simp only at this
              omega
            clear hdl c1 hdq
            generalize (⟨left, false⟩ : RS) = s1 at *
            have hw8 := D1.lt
            refine wpx_loop (fun m t H' => ∃ (i : Nat) (rv : AVal), m = n - i ∧ i ≤ n ∧ t = (bots 2 (.ptr H.next 0 :: bots 1 (.ptr q 0 :: bots 2 (.ptr w 0 :: .func (.func 64) [.ptr w 0] [] :: bots 52 (.int .i64 n :: .int .i64 i :: bots 89 ([]))))) : Tmps) ∧ DecAt H q w (sid v1) H' [.int .i64 n, ev, rv, .nilSlice, .nilSlice, .nilSlice] (rep rRank i s1).2 ∧ Keep (fun j => j = w ∨ j = q) H8 H' ∧ Own H8.next H' rv 1 (ints (rep rRank i s1).1)) n ?_ ?_
            · exact ⟨0, .nilSlice, rfl, by omega, rfl, D1, Keep.refl _ _, .nil⟩
            · clear D1
              rintro m t Ha ⟨i, rv, rfl, hi, rfl, D, kD, gD⟩
              by_cases hc : (i : Int) < n
              · have ob := D.ob
                have nD := kD.next
                have hbd := rFour_bd D.rd.bytes
                simp (disch := first | omega | (simp only [nx] <;> omega) | fail) only [vaw, hc, ob, Nat.reduceAdd, Nat.reduceMul, Nat.reduceLeDiff, Nat.reduceEqDiff, ↓reduceIte]
                refine rfour_ret D.rd fun Hb kb hb nb => ?_
                have D4 := D.read kb hb (rFour_left _)
                have g4 := gD.keepM kb (fun j hj e => by have := (gD.sid_ge hj).1; omega)
                have ob4 := D4.ob
                have bev := gD.beq
                simp (disch := first | omega | (simp only [nx] <;> omega) | fail) only [vaw, ob4, reK_same bev, Nat.reduceAdd, Nat.reduceMul, Nat.reduceLeDiff, Nat.reduceEqDiff, ↓reduceIte]
                have rl := rep_length rRank i s1
                refine app_ret (n := i) g4 (by simp (disch := first | omega | (simp only [nx] <;> omega) | fail) only [vaim]; rfl) rfl (by omega) (by omega) (by rw [ints_length, rl]; omega) (by omega) (by omega) ?_
                intro v5 H10 n10 k10 g10 s10
                simp only [next_new] at n10 s10
                have kk := app_keep n10 k10
                have D5 := (D4.kept ((Keep.refl _ _).new _)).grow (lo := H8.next) kk (fun j hj => (g4.sid_ge hj).1) (by omega)
                have ob5 := D5.ob
                have c5 := g10.cells
                simp (disch := first | omega | (simp only [nx] <;> omega) | fail) only [vaw, ob5, c5, Nat.reduceAdd, Nat.reduceMul, Nat.reduceLeDiff, Nat.reduceEqDiff, ↓reduceIte]
                refine ⟨n - (i + 1), by omega, i + 1, v5, rfl, by omega, rfl, D5.put _, wq_upd (((kD.trans (wq_of kb)).new _).trans' kk (fun j hj e => by have := (g4.sid_ge e).1; omega)) _, ?_⟩
                refine (Grown.upd ?_ (by omega) _).own
                simp only [rep]
                rw [ints_append]
                exact g10
              · have hik : i = n := by omega
                subst hik
                have hE := hE.M kD (by omega)
                have hR := own_fin gD hw8
                have hlR := rep_length rRank i s1
                clear gD kD hi
                generalize (rep rRank i s1).2 = s2 at *
                generalize (rep rRank i s1).1 = rank at *
                simp (disch := first | omega | (simp only [nx] <;> omega) | fail) only [vaw, hc, Nat.reduceAdd, Nat.reduceMul, Nat.reduceLeDiff, Nat.reduceEqDiff, ↓reduceIte]
                refine rcount_ret (size := 32) D.rd (by omega) fun Hb kb hb nb => ?_
                have D1 := D.read kb hb (rCount_left _ _)
                have hk := rCount_bd (size := 32) D.rd.bytes
                have hkl := rCount_le (size := 32) D.rd.bytes
                have hl0 := D.len
                have hE := hE.M kb (by omega)
                have hR := hR.M kb (by omega)
                clear D
                obtain ⟨k, hkk⟩ : ∃ k : Nat, (rCount 32 s2).1 = k := ⟨(rCount 32 s2).1.toNat, by omega⟩
                rw [hkk] at hk hkl hraw ⊢
                rw [Int.toNat_natCast] at hraw
                have hk9 : k ≤ 1000000000 := by
                  have := Nat.div_le_self s2.left.length 32
                  omega
                generalize (rCount 32 s2).2 = s3 at *
                have hwb := D1.lt
                simp (disch := first | omega | (simp only [nx] <;> omega) | fail) only [vaw, Nat.reduceAdd, Nat.reduceMul, Nat.reduceLeDiff, Nat.reduceEqDiff, ↓reduceIte]
                refine wpx_loop (fun m t H' => ∃ (j : Nat) (av : AVal), m = k - j ∧ j ≤ k ∧ t = (bots 2 (.ptr H.next 0 :: bots 1 (.ptr q 0 :: bots 2 (.ptr w 0 :: bots 66 (.int .i64 k :: .int .i64 j :: bots 76 ([]))))) : Tmps) ∧ DecAt H q w (sid v1) H' [.int .i64 i, ev, rv, av, .nilSlice, .nilSlice] (rep rArc j s3).2 ∧ Keep (fun j => j = w ∨ j = q) Hb H' ∧ Own Hb.next H' av 7 (arcCells (rep rArc j s3).1)) k ?_ ?_
                · exact ⟨0, .nilSlice, rfl, by omega, rfl, D1, Keep.refl _ _, .nil⟩
                · clear D1
                  rintro m t Ha ⟨j, av, rfl, hj, rfl, D, kD, gD⟩
                  by_cases hc : (j : Int) < k
                  · have ob := D.ob
                    have nD := kD.next
                    simp (disch := first | omega | (simp only [nx] <;> omega) | fail) only [vaw, hc, ob, Nat.reduceAdd, Nat.reduceMul, Nat.reduceLeDiff, Nat.reduceEqDiff, ↓reduceIte]
                    refine rarc_ret D.rd fun H9 k9 h9 => ?_
                    have D4 := D.read k9 h9 (rArc_left _)
                    have g4 := gD.keepM k9 (fun j hj e => by have := (gD.sid_ge hj).1; omega)
                    have ob4 := D4.ob
                    have bev := gD.beq
                    have n9 := k9.next
                    simp (disch := first | omega | (simp only [nx] <;> omega) | fail) only [vaw, ob4, reK_same bev, Arc.cells, Nat.reduceAdd, Nat.reduceMul, Nat.reduceLeDiff, Nat.reduceEqDiff, ↓reduceIte]
                    have rl := rep_length rArc j s3
                    refine app_ret (n := j) g4 (by simp (disch := first | omega | (simp only [nx] <;> omega) | fail) only [vaim]; rfl) rfl (by omega) (by omega) (by rw [arcCells_length, rl]) (by omega) (by omega) ?_
                    intro v5 H10 n10 k10 g10 s10
                    simp only [next_new] at n10 s10
                    have kk := app_keep n10 k10
                    have D5 := (D4.kept ((Keep.refl _ _).new _)).grow (lo := Hb.next) kk (fun j hj => (g4.sid_ge hj).1) (by omega)
                    have ob5 := D5.ob
                    have c5 := g10.cells
                    simp (disch := first | omega | (simp only [nx] <;> omega) | fail) only [vaw, ob5, c5, Nat.reduceAdd, Nat.reduceMul, Nat.reduceLeDiff, Nat.reduceEqDiff, ↓reduceIte]
                    refine ⟨k - (j + 1), by omega, j + 1, v5, rfl, by omega, rfl, D5.put _, wq_upd (((kD.trans (wq_of k9)).new _).trans' kk (fun j hj e => by have := (g4.sid_ge e).1; omega)) _, ?_⟩
                    refine (Grown.upd ?_ (by omega) _).own
                    simp only [rep]
                    rw [arcCells_append]
                    exact g10
                  · have hjk : j = k := by omega
                    subst hjk
                    have hE := hE.M kD (by omega)
                    have hR := hR.M kD (by omega)
                    have hA := own_fin gD hwb
                    have hlA := rep_length rArc j s3
                    clear gD kD hj hwb hk hkl
                    have ob := D.ob
                    simp (disch := first | omega | (simp only [nx] <;> omega) | fail) only [vaw, hc, ob, Nat.reduceAdd, Nat.reduceMul, Nat.reduceLeDiff, Nat.reduceEqDiff, ↓reduceIte]
                    generalize (rep rArc j s3).2 = s4 at *
                    generalize (rep rArc j s3).1 = arcs at *
                    have hlen4 := D.len
                    have hwc := D.lt
                    have hra := hraw
                    refine wpx_loop (fun m t H' => ∃ (j : Nat) (uv : AVal) (us : List AVal), m = i - j ∧ j ≤ i ∧ t = (bots 2 (.ptr H.next 0 :: bots 1 (.ptr q 0 :: bots 2 (.ptr w 0 :: bots 79 (.int .i64 i :: .int .i64 j :: bots 63 ([]))))) : Tmps) ∧ DecAt H q w (sid v1) H' [.int .i64 i, ev, rv, av, uv, .nilSlice] (rep rList j s4).2 ∧ Keep (fun j => j = w ∨ j = q) Ha H' ∧ Own Ha.next H' uv 1 us ∧ us.length = j ∧ RowsAt Ha.next H' uv us (rep rList j s4).1) i ?_ ?_
                    · exact ⟨0, .nilSlice, [], rfl, by omega, rfl, D, Keep.refl _ _, .nil, rfl, fun v r l h1 => by simp at h1⟩
                    · clear D ob
                      rintro m t Hu ⟨j, uv, us, rfl, hj, rfl, D, kD, gD, hus, rD⟩
                      by_cases hc : (j : Int) < i
                      · have ob := D.ob
                        have nD := kD.next
                        have hwu := D.lt
                        simp (disch := first | omega | (simp only [nx] <;> omega) | fail) only [vaw, hc, ob, Nat.reduceAdd, Nat.reduceMul, Nat.reduceLeDiff, Nat.reduceEqDiff, ↓reduceIte]
                        refine rlist_ret D.rd D.len fun r9 H9 k9 h9 o9 => ?_
                        have D4 := D.read k9 h9 (rList_left _)
                        have g4 := gD.keepM k9 (fun j hj e => by have := (gD.sid_ge hj).1; omega)
                        have R4 := rD.M k9 (fun j e => .inl (by omega)) (.inl rfl)
                        have ob4 := D4.ob
                        have bev := gD.beq
                        have n9 := k9.next
                        have c9 := o9.cells
                        simp (disch := first | omega | (simp only [nx] <;> omega) | fail) only [vaw, ob4, reK_same bev, c9, Nat.reduceAdd, Nat.reduceMul, Nat.reduceLeDiff, Nat.reduceEqDiff, ↓reduceIte]
                        have rl := rep_length rList j s4
                        have D4n := D4.kept ((Keep.refl Nothing H9).new (.cells [r9] true))
                        have R4n := R4.M ((Keep.refl Nothing H9).new (.cells [r9] true)) (fun j h => h.elim) (.inl rfl)
                        have o9n := o9.row.kept ((Keep.refl Nothing H9).new (.cells [r9] true))
                        have s9 : ∀ y, sid r9 = some y → Hu.next ≤ y ∧ y < H9.next := fun y hy => o9.sid_ge hy
                        have s4' : ∀ y, sid uv = some y → y < Hu.next := fun y hy => (gD.sid_ge hy).2
                        refine app_ret (n := j) g4 (by simp (disch := first | omega | (simp only [nx] <;> omega) | fail) only [vaim]; rfl) rfl (by omega) (by omega) (by omega) (by omega) (by omega) ?_
                        intro v5 H10 n10 k10 g10 s10
                        simp only [next_new] at n10 s10
                        have kk := app_keep n10 k10
                        have D5 := D4n.grow (lo := Ha.next) kk (fun j hj => (g4.sid_ge hj).1) (by omega)
                        have R5 := R4n.M kk (fun j e => .inr e) (.inr s10)
                        have R6 := R5.snoc (l := (rList (rep rList j s4).2).1) (o9n.M kk (fun y hy e => by have := s9 y hy; have := s4' y e; omega)) (fun y hy => ⟨by have := s9 y hy; omega, fun e => by
                          obtain ⟨z, z1, z2⟩ := s10
                          rw [z1] at e; injection e with e
                          have := s9 y hy
                          omega⟩) (by rw [rl]; exact hus)
                        have ob5 := D5.ob
                        have c5 := g10.cells
                        simp (disch := first | omega | (simp only [nx] <;> omega) | fail) only [vaw, ob5, c5, Nat.reduceAdd, Nat.reduceMul, Nat.reduceLeDiff, Nat.reduceEqDiff, ↓reduceIte]
                        refine ⟨i - (j + 1), by omega, j + 1, v5, us ++ [r9], rfl, by omega, rfl, D5.put _, wq_upd (((kD.trans (wq_of k9)).new _).trans' kk (fun j hj e => by have := (g4.sid_ge e).1; omega)) _, (Grown.upd g10 (by omega) _).own, by simp [hus], ?_⟩
                        simp only [rep]
                        exact R6.M (M := fun j => j = q) ((Keep.refl (fun j => j = q) _).upd (.inr rfl) _) (fun j e => .inl (by omega)) (.inl rfl)
                      · have hjk : i = j := by omega
                        have hE := hE.M kD (by omega)
                        have hR := hR.M kD (by omega)
                        have hA := hA.M kD (by omega)
                        have hU := rD.fin gD (by rw [rep_length]; exact hus) hwc
                        have hlU := rep_mem j s4
                        have hlU2 := rep_length rList j s4
                        have h4len := hlen4
                        subst hjk
                        clear gD kD rD hj hwc
                        have ob := D.ob
                        simp (disch := first | omega | (simp only [nx] <;> omega) | fail) only [vaw, hc, ob, Nat.reduceAdd, Nat.reduceMul, Nat.reduceLeDiff, Nat.reduceEqDiff, ↓reduceIte]
                        generalize (rep rList i s4).2 = s5 at *
                        generalize (rep rList i s4).1 = up at *
                        have hlen5 := D.len
                        have hwd := D.lt
                        refine wpx_loop (fun m t H' => ∃ (j : Nat) (dv : AVal) (us : List AVal), m = i - j ∧ j ≤ i ∧ t = (bots 2 (.ptr H.next 0 :: bots 1 (.ptr q 0 :: bots 2 (.ptr w 0 :: bots 92 (.int .i64 i :: .int .i64 j :: bots 50 ([]))))) : Tmps) ∧ DecAt H q w (sid v1) H' [.int .i64 i, ev, rv, av, uv, dv] (rep rList j s5).2 ∧ Keep (fun j => j = w ∨ j = q) Hu H' ∧ Own Hu.next H' dv 1 us ∧ us.length = j ∧ RowsAt Hu.next H' dv us (rep rList j s5).1) i ?_ ?_
                        · exact ⟨0, .nilSlice, [], rfl, by omega, rfl, D, Keep.refl _ _, .nil, rfl, fun v r l h1 => by simp at h1⟩
                        · clear D ob
                          rintro m t Hd ⟨j, dv, us, rfl, hj, rfl, D, kD, gD, hus, rD⟩
                          by_cases hc : (j : Int) < i
                          · have ob := D.ob
                            have nD := kD.next
                            have hwu := D.lt
                            simp (disch := first | omega | (simp only [nx] <;> omega) | fail) only [vaw, hc, ob, Nat.reduceAdd, Nat.reduceMul, Nat.reduceLeDiff, Nat.reduceEqDiff, ↓reduceIte]
                            refine rlist_ret D.rd D.len fun r9 H9 k9 h9 o9 => ?_
                            have D4 := D.read k9 h9 (rList_left _)
                            have g4 := gD.keepM k9 (fun j hj e => by have := (gD.sid_ge hj).1; omega)
                            have R4 := rD.M k9 (fun j e => .inl (by omega)) (.inl rfl)
                            have ob4 := D4.ob
                            have bev := gD.beq
                            have n9 := k9.next
                            have c9 := o9.cells
                            simp (disch := first | omega | (simp only [nx] <;> omega) | fail) only [vaw, ob4, reK_same bev, c9, Nat.reduceAdd, Nat.reduceMul, Nat.reduceLeDiff, Nat.reduceEqDiff, ↓reduceIte]
                            have rl := rep_length rList j s5
                            have D4n := D4.kept ((Keep.refl Nothing H9).new (.cells [r9] true))
                            have R4n := R4.M ((Keep.refl Nothing H9).new (.cells [r9] true)) (fun j h => h.elim) (.inl rfl)
                            have o9n := o9.row.kept ((Keep.refl Nothing H9).new (.cells [r9] true))
                            have s9 : ∀ y, sid r9 = some y → Hd.next ≤ y ∧ y < H9.next := fun y hy => o9.sid_ge hy
                            have s5' : ∀ y, sid dv = some y → y < Hd.next := fun y hy => (gD.sid_ge hy).2
                            refine app_ret (n := j) g4 (by simp (disch := first | omega | (simp only [nx] <;> omega) | fail) only [vaim]; rfl) rfl (by omega) (by omega) (by omega) (by omega) (by omega) ?_
                            intro v5 H10 n10 k10 g10 s10
                            simp only [next_new] at n10 s10
                            have kk := app_keep n10 k10
                            have D5 := D4n.grow (lo := Hu.next) kk (fun j hj => (g4.sid_ge hj).1) (by omega)
                            have R5 := R4n.M kk (fun j e => .inr e) (.inr s10)
                            have R6 := R5.snoc (l := (rList (rep rList j s5).2).1) (o9n.M kk (fun y hy e => by have := s9 y hy; have := s5' y e; omega)) (fun y hy => ⟨by have := s9 y hy; omega, fun e => by
                              obtain ⟨z, z1, z2⟩ := s10
                              rw [z1] at e; injection e with e
                              have := s9 y hy
                              omega⟩) (by rw [rl]; exact hus)
                            have ob5 := D5.ob
                            have c5 := g10.cells
                            simp (disch := first | omega | (simp only [nx] <;> omega) | fail) only [vaw, ob5, c5, Nat.reduceAdd, Nat.reduceMul, Nat.reduceLeDiff, Nat.reduceEqDiff, ↓reduceIte]
                            refine ⟨i - (j + 1), by omega, j + 1, v5, us ++ [r9], rfl, by omega, rfl, D5.put _, wq_upd (((kD.trans (wq_of k9)).new _).trans' kk (fun j hj e => by have := (g4.sid_ge e).1; omega)) _, (Grown.upd g10 (by omega) _).own, by simp [hus], ?_⟩
                            simp only [rep]
                            exact R6.M (M := fun j => j = q) ((Keep.refl (fun j => j = q) _).upd (.inr rfl) _) (fun j e => .inl (by omega)) (.inl rfl)
                          · have hjk : i = j := by omega
                            have hE := hE.M kD (by omega)
                            have hR := hR.M kD (by omega)
                            have hA := hA.M kD (by omega)
                            have hU := hU.M kD (by omega)
                            have hD := rD.fin gD (by rw [rep_length]; exact hus) hwd
                            have hlD := rep_mem j s5
                            have hlD2 := rep_length rList j s5
                            have h5len := hlen5
                            subst hjk
                            clear gD kD rD hj hwd
                            have ob := D.ob
                            simp (disch := first | omega | (simp only [nx] <;> omega) | fail) only [vaw, hc, ob, Nat.reduceAdd, Nat.reduceMul, Nat.reduceLeDiff, Nat.reduceEqDiff, ↓reduceIte]
                            generalize (rep rList i s5).2 = s6 at *
                            generalize (rep rList i s5).1 = down at *
                            have oh := D.op
                            have obd := D.ob
                            obtain ⟨lv, r1, r2, r3, r4, r5, r6, r7⟩ := D.rd
                            have hll := r2.1.len1
                            rw [u8s_length] at hll
                            obtain ⟨left, bad⟩ := s6
                            simp only at *
                            cases bad with
                            | true =>
                              simp (disch := first | omega | (simp only [nx] <;> omega) | fail) only [vaw, r1, oh, vaig, Nat.reduceAdd, Nat.reduceMul, Nat.reduceLeDiff, Nat.reduceEqDiff, ↓reduceIte]
                              refine hq0 (fun x hx => ?_) _ (D.keep.upd (id := H.next) (.inl (Nat.le_refl _)) _)
                              rw [hraw, if_pos (.inl rfl)] at hx
                              cases hx
                            | false =>
                              by_cases c2 : (0 : Int) < left.length
                              · simp (disch := first | omega | (simp only [nx] <;> omega) | fail) only [vaw, r1, oh, hll, c2, vaig, Nat.reduceAdd, Nat.reduceMul, Nat.reduceLeDiff, Nat.reduceEqDiff, ↓reduceIte]
                                refine hq0 (fun x hx => ?_) _ (D.keep.upd (id := H.next) (.inl (Nat.le_refl _)) _)
                                rw [hraw, if_pos (.inr (by omega))] at hx
                                cases hx
                              · rw [if_neg (by intro h; rcases h with h | h; cases h; omega)] at hraw
                                simp (disch := first | omega | (simp only [nx] <;> omega) | fail) only [vaw, r1, obd, hll, c2, vaig, Nat.reduceAdd, Nat.reduceMul, Nat.reduceLeDiff, Nat.reduceEqDiff, ↓reduceIte]
                                refine check_ret (x := ⟨i, es, rank, arcs, up, down⟩) ⟨hE.1, hR.1, hA.1, hU.rows, hD.rows⟩ (fun l hl => by have := hlU l hl; omega) (fun l hl => by have := hlD l hl; omega) fun bb Hc kc sc => ?_
                                have Dc := D.kept kc
                                have hE := hE.M kc (fun j h => h.elim)
                                have hR := hR.M kc (fun j h => h.elim)
                                have hA := hA.M kc (fun j h => h.elim)
                                have hU := hU.M kc (fun j h => h.elim)
                                have hD := hD.M kc (fun j h => h.elim)
                                have obc := Dc.ob
                                have ohc := Dc.op
                                cases bb with
                                | false =>
                                  simp (disch := first | omega | (simp only [nx] <;> omega) | fail) only [vaw, obc, ohc, vaig, Nat.reduceAdd, Nat.reduceMul, Nat.reduceLeDiff, Nat.reduceEqDiff, ↓reduceIte]
                                  refine hq0 (fun x hx ha => ?_) _ (Dc.keep.upd (id := H.next) (.inl (Nat.le_refl _)) _)
                                  rw [hraw] at hx
                                  injection hx with hx
                                  subst hx
                                  have := sc.2 ha
                                  cases this
                                | true =>
                                  have hal := sc.1 rfl
                                  clear sc D r1 r2 r3 r4 r5 r6 r7 hll ob oh obd
                                  simp (disch := first | omega | (simp only [nx] <;> omega) | fail) only [vaw, obc, vaig, Nat.reduceAdd, Nat.reduceMul, Nat.reduceLeDiff, Nat.reduceEqDiff, ↓reduceIte]
                                  have br := hR.1.beq
                                  have ba := hA.1.beq
                                  have bu := hU.rows.beq
                                  have bd := hD.rows.beq
                                  have hn60 := hal.net.2.1
                                  have he400 := hal.net.2.2.1
                                  have ha3 := hal.count
                                  have hrl := hal.rankLen
                                  have hul := hal.upLen
                                  have hdl2 := hal.downLen
                                  simp only at hn60 he400 ha3 hrl hul hdl2
                                  obtain ⟨us, hU1, hU2, hU3⟩ := hU
                                  obtain ⟨ds, hD1, hD2, hD3⟩ := hD
                                  refine cloneE_ret hE.1 (by omega) fun e1 Hf kf of => ?_
                                  have De := Dc.kept kf
                                  have obe := De.ob
                                  simp (disch := first | omega | (simp only [nx] <;> omega) | fail) only [vaw, obe, reK_same br, reK_same ba, reK_same bu, reK_same bd, Nat.reduceAdd, Nat.reduceMul, Nat.reduceLeDiff, Nat.reduceEqDiff, ↓reduceIte]
                                  refine cloneI_ret (hR.1.kept kf) (by omega) fun x1 Hg kg og => ?_
                                  have Df := De.kept kg
                                  have obf := Df.ob
                                  have kfg := kf.trans kg
                                  simp (disch := first | omega | (simp only [nx] <;> omega) | fail) only [vaw, obf, reK_same br, reK_same ba, reK_same bu, reK_same bd, Nat.reduceAdd, Nat.reduceMul, Nat.reduceLeDiff, Nat.reduceEqDiff, ↓reduceIte]
                                  refine cloneA_ret (hA.1.kept kfg) (by omega) fun a1 Hh kh oh => ?_
                                  have Dg := Df.kept kh
                                  have obg := Dg.ob
                                  have kfh := kfg.trans kh
                                  simp (disch := first | omega | (simp only [nx] <;> omega) | fail) only [vaw, obg, reK_same br, reK_same ba, reK_same bu, reK_same bd, Nat.reduceAdd, Nat.reduceMul, Nat.reduceLeDiff, Nat.reduceEqDiff, ↓reduceIte]
                                  refine cloneR_ret (hU1.1.kept kfh) (by omega) fun u1 Hi ki oi => ?_
                                  have Dh := Dg.kept ki
                                  have obh := Dh.ob
                                  have kfi := kfh.trans ki
                                  simp (disch := first | omega | (simp only [nx] <;> omega) | fail) only [vaw, obh, reK_same br, reK_same ba, reK_same bu, reK_same bd, Nat.reduceAdd, Nat.reduceMul, Nat.reduceLeDiff, Nat.reduceEqDiff, ↓reduceIte]
                                  refine cloneR_ret (hD1.1.kept kfi) (by omega) fun d1 Hj kj oj => ?_
                                  have Di := Dh.kept kj
                                  have obi := Di.ob
                                  have opi := Di.op
                                  have kfj := kfi.trans kj
                                  have ce := of.cells
                                  have cx := og.cells
                                  have ca := oh.cells
                                  have cu := oi.cells
                                  have cd := oj.cells
                                  have nHc := Dc.lt
                                  have nf := kf.next
                                  have ng := kg.next
                                  have nh := kh.next
                                  have ni := ki.next
                                  have fe := (own_fin (w := w) of (by omega)).M ((kg.trans kh).trans (ki.trans kj)) (fun j h => h.elim)
                                  have fx := (own_fin (w := w) og (by omega)).M (kh.trans (ki.trans kj)) (fun j h => h.elim)
                                  have fa := (own_fin (w := w) oh (by omega)).M (ki.trans kj) (fun j h => h.elim)
                                  have fu := (own_fin (w := w) oi (by omega)).M kj (fun j h => h.elim)
                                  have fd := own_fin (w := w) oj (by omega)
                                  have hqp := Di.lq
                                  simp (disch := first | omega | (simp only [nx] <;> omega) | fail) only [vaw, obi, opi, ce, cx, ca, cu, cd, vaig, Nat.reduceAdd, Nat.reduceMul, Nat.reduceLeDiff, Nat.reduceEqDiff, ↓reduceIte]
                                  refine hq1 _ hraw hal e1 x1 a1 u1 d1 _ ?_ ?_
                                  · repeat (first | exact Di.keep | refine Keep.upd ?_ (.inl (by omega)) _)
                                  · refine IdxAt.fin (w := w) (Hs := Hj) ?_ fe fx fa ⟨us, fu, hU2, fun a r l z1 z2 => (hU3 a r l z1 z2).M kfj (fun j h => h.elim)⟩ ⟨ds, fd, hD2, fun a r l z1 z2 => (hD3 a r l z1 z2).M kfj (fun j h => h.elim)⟩
                                    repeat (first | exact Keep.refl _ _ | refine Keep.upd ?_ (.inr (by omega)) _)
  · intro hpx
    have hpx' : ¬ b.take 4 = [77, 73, 88, 49] := hpx
    have cv := hb.1.cells
    simp (disch := first | omega | (simp only [nx] <;> omega) | fail) only [vaw, vaig, cv, Nat.reduceAdd, Nat.reduceMul, Nat.reduceLeDiff, Nat.reduceEqDiff, ↓reduceIte]
    refine hq0 (fun x hx => ?_) _ ((k0.new _).upd (id := H.next) (.inl (Nat.le_refl _)) _)
    unfold rawOf at hx
    rw [if_neg hpx'] at hx
    cases hx
end Go.Proofs.Ytknhlpmmalcchaa

namespace Go.Proofs.Ytknhlpmmalcchaa
open Go Go.VAI
set_option linter.unusedSimpArgs false

set_option maxRecDepth 20000 in
theorem right_ret {n : Int} {e : Edge} {H : AHeap} {Q : AVal → AHeap → Prop} (hq : ∀ b H', Keep Nothing H H' → Says b (EdgeOk n e) → Q (.bool b) H') : Ret A 106 [.agg e.cells, .int .i64 n] H Q := by
  refine Ret.of (fn := F106) rfl ?_
  by_cases h1 : 0 ≤ e.src
  · by_cases h2 : e.src < n
    · by_cases h3 : 0 ≤ e.dst
      · by_cases h4 : e.dst < n
        · by_cases h5 : 0 ≤ e.mode
          · by_cases h6 : e.mode < 5
            · by_cases h7 : 0 ≤ e.cost
              · by_cases h8 : e.cost ≤ 2147483647
                · simp (disch := first | omega | (simp only [nx] <;> omega) | fail) only [vaw, F106, Edge.cells, h1, h2, h3, h4, h5, h6, h7, h8, Nat.reduceAdd, Nat.reduceMul, Nat.reduceLeDiff, Nat.reduceEqDiff, ↓reduceIte]
                  exact hq _ _ ((Keep.refl _ _).new _) (says_yes ⟨⟨h1, h2⟩, ⟨h3, h4⟩, ⟨h5, h6⟩, h7, h8⟩)
                · simp (disch := first | omega | (simp only [nx] <;> omega) | fail) only [vaw, F106, Edge.cells, h1, h2, h3, h4, h5, h6, h7, h8, Nat.reduceAdd, Nat.reduceMul, Nat.reduceLeDiff, Nat.reduceEqDiff, ↓reduceIte]
                  exact hq _ _ ((Keep.refl _ _).new _) (says_no fun h => h8 h.2.2.2.2)
              · simp (disch := first | omega | (simp only [nx] <;> omega) | fail) only [vaw, F106, Edge.cells, h1, h2, h3, h4, h5, h6, h7, Nat.reduceAdd, Nat.reduceMul, Nat.reduceLeDiff, Nat.reduceEqDiff, ↓reduceIte]
                exact hq _ _ ((Keep.refl _ _).new _) (says_no fun h => h7 h.2.2.2.1)
            · simp (disch := first | omega | (simp only [nx] <;> omega) | fail) only [vaw, F106, Edge.cells, h1, h2, h3, h4, h5, h6, Nat.reduceAdd, Nat.reduceMul, Nat.reduceLeDiff, Nat.reduceEqDiff, ↓reduceIte]
              exact hq _ _ ((Keep.refl _ _).new _) (says_no fun h => h6 h.2.2.1.2)
          · simp (disch := first | omega | (simp only [nx] <;> omega) | fail) only [vaw, F106, Edge.cells, h1, h2, h3, h4, h5, Nat.reduceAdd, Nat.reduceMul, Nat.reduceLeDiff, Nat.reduceEqDiff, ↓reduceIte]
            exact hq _ _ ((Keep.refl _ _).new _) (says_no fun h => h5 h.2.2.1.1)
        · simp (disch := first | omega | (simp only [nx] <;> omega) | fail) only [vaw, F106, Edge.cells, h1, h2, h3, h4, Nat.reduceAdd, Nat.reduceMul, Nat.reduceLeDiff, Nat.reduceEqDiff, ↓reduceIte]
          exact hq _ _ ((Keep.refl _ _).new _) (says_no fun h => h4 h.2.1.2)
      · simp (disch := first | omega | (simp only [nx] <;> omega) | fail) only [vaw, F106, Edge.cells, h1, h2, h3, Nat.reduceAdd, Nat.reduceMul, Nat.reduceLeDiff, Nat.reduceEqDiff, ↓reduceIte]
        exact hq _ _ ((Keep.refl _ _).new _) (says_no fun h => h3 h.2.1.1)
    · simp (disch := first | omega | (simp only [nx] <;> omega) | fail) only [vaw, F106, Edge.cells, h1, h2, Nat.reduceAdd, Nat.reduceMul, Nat.reduceLeDiff, Nat.reduceEqDiff, ↓reduceIte]
      exact hq _ _ ((Keep.refl _ _).new _) (says_no fun h => h2 h.1.2)
  · simp (disch := first | omega | (simp only [nx] <;> omega) | fail) only [vaw, F106, Edge.cells, h1, Nat.reduceAdd, Nat.reduceMul, Nat.reduceLeDiff, Nat.reduceEqDiff, ↓reduceIte]
    exact hq _ _ ((Keep.refl _ _).new _) (says_no fun h => h1 h.1.1)
set_option maxRecDepth 20000 in
theorem refnet_ret {n : Int} {ev : AVal} {es : List Edge} {H : AHeap} {Q : AVal → AHeap → Prop} (hr : Row H ev 4 (edgeCells es)) (hq : ∀ b H', Keep Nothing H H' → Says b (NetOk n es) → Q (.bool b) H') : Ret A 76 [.agg [.int .i64 n, ev]] H Q := by
  refine Ret.of (fn := F76) rfl ?_
  have hl := hr.len (by omega) (edgeCells_length es)
  have hbe := hr.beq
  have k0 : Keep Nothing H (H.new (.cells [.int .i64 n, ev] true)) := (Keep.refl _ _).new _
  by_cases h1 : n < 1
  · simp (disch := first | omega | (simp only [nx] <;> omega) | fail) only [vaw, F76, h1, Nat.reduceAdd, Nat.reduceMul, Nat.reduceLeDiff, Nat.reduceEqDiff, ↓reduceIte]
    exact hq _ _ k0 (says_no fun h => by have := h.1; omega)
  by_cases h2 : 60 < n
  · simp (disch := first | omega | (simp only [nx] <;> omega) | fail) only [vaw, F76, h1, h2, Nat.reduceAdd, Nat.reduceMul, Nat.reduceLeDiff, Nat.reduceEqDiff, ↓reduceIte]
    exact hq _ _ k0 (says_no fun h => by have := h.2.1; omega)
  by_cases h3 : 400 < (es.length : Int)
  · simp (disch := first | omega | (simp only [nx] <;> omega) | fail) only [vaw, F76, hl, h1, h2, h3, Nat.reduceAdd, Nat.reduceMul, Nat.reduceLeDiff, Nat.reduceEqDiff, ↓reduceIte]
    exact hq _ _ k0 (says_no fun h => by have := h.2.2.1; omega)
  simp (disch := first | omega | (simp only [nx] <;> omega) | fail) only [vaw, F76, hl, h1, h2, h3, Nat.reduceAdd, Nat.reduceMul, Nat.reduceLeDiff, Nat.reduceEqDiff, ↓reduceIte]
  refine wpx_loop (fun m t H' => ∃ (i : Nat), m = es.length - i ∧ i ≤ es.length ∧ t = (bots 1 (.ptr H.next 0 :: bots 1 (.int .i64 i :: bots 30 ([]))) : Tmps) ∧ Keep Nothing H H' ∧ H.next < H'.next ∧ H'.obj H.next = some (.cells [.int .i64 n, ev] true) ∧ ∀ e ∈ es.take i, EdgeOk n e) es.length ?_ ?_
  · exact ⟨0, rfl, by omega, rfl, k0, (by first | omega | (simp only [next_new, next_upd]; omega)), obj_new_eq rfl, by simp⟩
  · rintro m t H1 ⟨i, rfl, hi, rfl, k1, n1, o1, ha⟩
    by_cases hc : (i : Int) < es.length
    · have hil : i < es.length := by omega
      have he : es[i]? = some es[i] := by simp [hil]
      obtain ⟨id, off, e1, hid2, e2, e3, e4, e5, e6⟩ := edge_at (hr.kept k1) he
      have htk := List.take_succ_eq_append_getElem hil
      have hmem := List.getElem_mem hil
      generalize es[i] = e at *
      simp (disch := first | omega | (simp only [nx] <;> omega) | fail) only [vaw, o1, hl, hc, e1, e6, reK_same hbe, Nat.reduceAdd, Nat.reduceMul, Nat.reduceLeDiff, Nat.reduceEqDiff, ↓reduceIte]
      refine right_ret fun b H2 k2 s => ?_
      have kk := k1.trans k2
      have n2 := k2.next
      have o2 := (k2.old n1).trans o1
      cases b with
      | false =>
        simp (disch := first | omega | (simp only [nx] <;> omega) | fail) only [vaw, o2, reK_same hbe, Nat.reduceAdd, Nat.reduceMul, Nat.reduceLeDiff, Nat.reduceEqDiff, ↓reduceIte]
        refine hq _ _ kk (says_no fun h => ?_)
        have := s.2 (h.2.2.2 e hmem)
        cases this
      | true =>
        simp (disch := first | omega | (simp only [nx] <;> omega) | fail) only [vaw, o2, reK_same hbe, Nat.reduceAdd, Nat.reduceMul, Nat.reduceLeDiff, Nat.reduceEqDiff, ↓reduceIte]
        refine ⟨es.length - (i + 1), by omega, i + 1, rfl, by omega, rfl, kk, by omega, ?_⟩
        intro x hx
        rw [htk] at hx
        rcases List.mem_append.1 hx with hx | hx
        · exact ha x hx
        · simp at hx; subst hx; exact s.1 rfl
    · have hi : i = es.length := by omega
      rw [hi, List.take_length] at ha
      simp (disch := first | omega | (simp only [nx] <;> omega) | fail) only [vaw, o1, hl, hc, Nat.reduceAdd, Nat.reduceMul, Nat.reduceLeDiff, Nat.reduceEqDiff, ↓reduceIte]
      exact hq _ _ k1 (says_yes ⟨by omega, by omega, by omega, ha⟩)
theorem nonneg_nodup : ∀ {l : List Int}, (∀ (i j : Nat) r, 0 ≤ r → l[i]? = some r → l[j]? = some r → i = j) → (l.filter fun x => decide (0 ≤ x)).Nodup
  | [], _ => by simp
  | x :: l, h => by
    have ih := nonneg_nodup (l := l) (fun i j r h0 h1 h2 => by have := h (i + 1) (j + 1) r h0 (by simpa using h1) (by simpa using h2); omega)
    by_cases hx : 0 ≤ x
    · rw [List.filter_cons_of_pos (by simpa using hx)]
      refine List.nodup_cons.2 ⟨fun hm => ?_, ih⟩
      obtain ⟨j, hj⟩ := mem_at' (List.mem_filter.1 hm).1
      have := h 0 (j + 1) x hx rfl (by simpa using hj)
      omega
    · rw [List.filter_cons_of_neg (by simpa using hx)]
      exact ih
where
  mem_at' {a : Int} {l : List Int} (h : a ∈ l) : ∃ i : Nat, l[i]? = some a := by
    obtain ⟨i, hi, e⟩ := List.getElem_of_mem h
    exact ⟨i, by simp [hi, e]⟩
def placed (l : List Int) : Nat := (l.filter fun x => decide (0 ≤ x)).length
theorem placed_snoc (l : List Int) (r : Int) : placed (l ++ [r]) = placed l + (if 0 ≤ r then 1 else 0) := by
  unfold placed
  rw [List.filter_append, List.length_append]
  by_cases h : 0 ≤ r <;> simp [h]
theorem placed_yes {l : List Int} {S : List Bool} {most : Int} (h : SeenAt l l.length S most) (ha : ∀ j : Nat, j < placed l → S[j]? = some true) : RanksOk l := by
  have hb := h.bd
  have hs := h.seen
  rw [List.take_length] at hb hs
  have hown : ∀ (i j : Nat) r, 0 ≤ r → l[i]? = some r → l[j]? = some r → i = j := fun i j r h0 h1 h2 => h.own i j r (List.getElem?_eq_some_iff.1 h1).1 (List.getElem?_eq_some_iff.1 h2).1 h0 h1 h2
  have hnd := nonneg_nodup hown
  have hle : placed l ≤ l.length := List.length_filter_le _ _
  refine ⟨⟨placed l, fun r hr => ?_, fun j hj => (hs j (by omega)).1 (ha j hj)⟩, hown⟩
  rcases hb r hr with h1 | ⟨h1, h2⟩
  · exact .inl h1
  · by_cases hk : r < placed l
    · exact .inr ⟨h1, hk⟩
    · exfalso
      have hrm : r ∈ l.filter fun x => decide (0 ≤ x) := List.mem_filter.2 ⟨hr, by simpa using h1⟩
      have := run_le (rank := (l.filter fun x => decide (0 ≤ x)).erase r) (k := placed l) (fun j hj => by
        rw [hnd.mem_erase_iff]
        refine ⟨by omega, List.mem_filter.2 ⟨(hs j (by omega)).1 (ha j hj), by simp⟩⟩)
      rw [List.length_erase_of_mem hrm] at this
      have hp : 0 < (l.filter fun x => decide (0 ≤ x)).length := List.length_pos_of_mem hrm
      unfold placed at this
      omega
theorem placed_no {l : List Int} {S : List Bool} {most : Int} (h : SeenAt l l.length S most) {j : Nat} (hj : j < placed l) (hs : S[j]? ≠ some true) : ¬ RanksOk l := by
  intro hr
  obtain ⟨k, k1, k2⟩ := hr.run
  have hnd := nonneg_nodup hr.own
  have := few_below k _ hnd (fun x hx => by
    obtain ⟨h1, h2⟩ := List.mem_filter.1 hx
    have h2 : 0 ≤ x := by simpa using h2
    rcases k1 x h1 with h3 | h3
    · omega
    · exact h3)
  have hk := run_le k2
  have hle : placed l ≤ l.length := List.length_filter_le _ _
  refine hs ((h.seen j (by omega)).2 ?_)
  rw [List.take_length]
  exact k2 j (by unfold placed at hj; omega)
def RankPart (n : Int) (rank : List Int) (up down : List (List Int)) : Prop := (rank.length : Int) = n ∧ up.length = rank.length ∧ down.length = rank.length ∧ RanksOk rank
set_option maxRecDepth 20000 in
set_option maxHeartbeats 4000000 in
theorem refranks_ret {ew rv av uv dv : AVal} {x : Idx} {H : AHeap} {Q : AVal → AHeap → Prop} (hx : IdxAt H ew rv av uv dv x) (hlen : x.rank.length ≤ 1000000000)
    (hq : ∀ b H', Keep Nothing H H' → Says b (RankPart x.n x.rank x.up x.down) → Q (.bool b) H') : Ret A 77 [.agg [.int .i64 x.n, ew, rv, av, uv, dv]] H Q := by
  refine Ret.of (fn := F77) rfl ?_
  have lr := hx.rank.len1
  rw [ints_length] at lr
  have lu := hx.up.len
  have ld := hx.down.len
  have k0 : Keep Nothing H (H.new (.cells [.int .i64 x.n, ew, rv, av, uv, dv] true)) := (Keep.refl _ _).new _
  have hm1 : ((x.rank.length : Nat) : Int) * ((1 : Nat) : Int) ≤ 140737488355328 := by omega
  by_cases c1 : (x.rank.length : Int) = x.n
  · have c1' : x.n = x.rank.length := c1.symm
    by_cases c2 : (x.up.length : Int) = x.rank.length
    · by_cases c3 : (x.down.length : Int) = x.rank.length
      · simp (disch := first | omega | (simp only [nx] <;> omega) | fail) only [vaw, F77, lr, lu, ld, c1', c2, c3, ne_eq, not_true_eq_false, amkSlice_int hm1 (by omega), Nat.reduceAdd, Nat.reduceMul, Nat.reduceLeDiff, Nat.reduceEqDiff, ↓reduceIte]
        rw [reps_false]
        have kB : Keep Nothing H ((H.new (.cells [.int .i64 x.rank.length, ew, rv, av, uv, dv] true)).new (.cells (bools (List.replicate x.rank.length false)) true)) := ((Keep.refl _ _).new _).new _
        generalize hl : x.rank = l at *
        refine wpx_loop (fun m t H' => ∃ (i : Nat) (S : List Bool) (most : Int), m = l.length - i ∧ i ≤ l.length ∧ t = (bots 1 (.ptr H.next 0 :: bots 1 (.int .i64 l.length :: .slice (H.next + 1) 0 l.length (.exact l.length) :: .int .i64 (placed (l.take i)) :: .int .i64 i :: bots 80 ([]))) : Tmps) ∧ Keep Nothing H H' ∧ H.next + 1 < H'.next ∧ H'.obj H.next = some (.cells [.int .i64 l.length, ew, rv, av, uv, dv] true) ∧ H'.obj (H.next + 1) = some (.cells (bools S) true) ∧ SeenAt l i S most) l.length ?_ ?_
        · refine ⟨0, List.replicate l.length false, -1, rfl, by omega, by simp [placed]; rfl, kB, by simp only [next_new]; omega, by simp (disch := first | omega | (simp only [nx] <;> omega) | fail) only [vaim], obj_new_eq rfl, ⟨by simp, fun j hj => ?_, .inl rfl, by simp, by simp, fun a b r ha => by omega⟩⟩
          simp [hj]
        · rintro m t H1 ⟨i, S, most, rfl, hi, rfl, k1, n1, q1, o1, hS⟩
          by_cases hc : (i : Int) < l.length
          · have hil : i < l.length := by omega
            have he : l[i]? = some l[i] := by simp [hil]
            have hrow := hx.rank
            rw [hl] at hrow
            obtain ⟨id, off, e1, e2, e3⟩ := (hrow.kept k1).int_at (k := .i64) he
            have hmem := List.getElem_mem hil
            have htk := List.take_succ_eq_append_getElem hil
            generalize l[i] = r at *
            by_cases h1 : r = -1
            · subst h1
              simp (disch := first | omega | (simp only [nx] <;> omega) | fail) only [vaw, hc, q1, e1, e3, Nat.reduceAdd, Nat.reduceMul, Nat.reduceLeDiff, Nat.reduceEqDiff, ↓reduceIte]
              refine ⟨l.length - (i + 1), by omega, i + 1, S, most, rfl, by omega, ?_, k1, n1, o1, hS.minus he⟩
              rw [htk, placed_snoc]
              rfl
            by_cases h2 : r < 0
            · simp (disch := first | omega | (simp only [nx] <;> omega) | fail) only [vaw, hc, q1, e1, e3, h1, h2, Nat.reduceAdd, Nat.reduceMul, Nat.reduceLeDiff, Nat.reduceEqDiff, ↓reduceIte]
              exact hq _ _ k1 (says_no fun h => by have := ranks_lt (hl ▸ h.2.2.2) hmem; omega)
            by_cases h3 : (l.length : Int) ≤ r
            · simp (disch := first | omega | (simp only [nx] <;> omega) | fail) only [vaw, hc, q1, e1, e3, h1, h2, h3, Nat.reduceAdd, Nat.reduceMul, Nat.reduceLeDiff, Nat.reduceEqDiff, ↓reduceIte]
              exact hq _ _ k1 (says_no fun h => by have := ranks_lt (hl ▸ h.2.2.2) hmem; omega)
            obtain ⟨rn, rfl⟩ : ∃ n : Nat, r = n := ⟨r.toNat, by omega⟩
            have hrn : rn < l.length := by omega
            have hsl : rn < S.length := by rw [hS.len]; exact hrn
            have hix : aindexAddrS 1 (.slice (H.next + 1) 0 l.length (.exact l.length)) (.int .i64 (rn : Int)) = some (.ptr (H.next + 1) rn) := by rw [aindexAddrS_slice ⟨by omega, by omega⟩]; simp
            have hat : (bools S)[rn]? = some (.bool S[rn]) := by simp [bools, hsl]
            cases hb : S[rn] with
            | true =>
              rw [hb] at hat
              simp (disch := first | omega | (simp only [nx] <;> omega) | fail) only [vaw, hc, q1, e1, e3, h1, h2, h3, hix, o1, hat, Nat.reduceAdd, Nat.reduceMul, Nat.reduceLeDiff, Nat.reduceEqDiff, ↓reduceIte]
              refine hq _ _ k1 (says_no fun h => ?_)
              have hin := (hS.seen rn hrn).1 (by rw [List.getElem?_eq_getElem hsl, hb])
              obtain ⟨c, hcl, hce⟩ := List.getElem_of_mem hin
              simp at hcl
              have hR : RanksOk l := hl ▸ h.2.2.2
              have := hR.own i c rn (by omega) he (by rw [List.getElem?_eq_getElem (by omega)]; rw [← hce]; simp)
              omega
            | false =>
              rw [hb] at hat
              have hbl : (bools S).length = l.length := by simp [bools, hS.len]
              have hle : rn + 1 ≤ l.length := hrn
              have hset : splice (bools S) rn [.bool true] = bools (S.set rn true) := by
                rw [splice_one (by rw [hbl]; exact hrn)]
                simp [bools, List.map_set]
              have hpl : placed (l.take i) ≤ i := Nat.le_trans (List.length_filter_le _ _) (by simp; omega)
              simp (disch := first | omega | (simp only [nx] <;> omega) | fail) only [vaw, hc, q1, e1, e3, h1, h2, h3, hix, o1, hat, hbl, hle, hset, Nat.reduceAdd, Nat.reduceMul, Nat.reduceLeDiff, Nat.reduceEqDiff, ↓reduceIte]
              refine ⟨l.length - (i + 1), by omega, i + 1, S.set rn true, _, rfl, by omega, ?_, k1.upd (.inl (by omega)) _, n1, rfl, hS.more he hrn (by rw [List.getElem?_eq_getElem hsl, hb]; simp)⟩
              rw [htk, placed_snoc, if_pos (by omega)]
              rfl
          · have hi : i = l.length := by omega
            subst hi
            rw [List.take_length]
            have hpl : placed l ≤ l.length := List.length_filter_le _ _
            have hP : ∀ {p : Prop}, (RanksOk l → p) → RankPart x.n l x.up x.down → p := fun h g => h g.2.2.2
            simp (disch := first | omega | (simp only [nx] <;> omega) | fail) only [vaw, hc, q1, Nat.reduceAdd, Nat.reduceMul, Nat.reduceLeDiff, Nat.reduceEqDiff, ↓reduceIte]
            refine wpx_loop (fun m t H' => ∃ (j : Nat), m = placed l - j ∧ j ≤ placed l ∧ t = (bots 4 (.slice (H.next + 1) 0 l.length (.exact l.length) :: .int .i64 (placed l) :: bots 1 (.int .i64 j :: bots 79 ([]))) : Tmps) ∧ H' = H1 ∧ ∀ c : Nat, c < j → S[c]? = some true) (placed l) ?_ ?_
            · exact ⟨0, rfl, by omega, rfl, rfl, fun c hc => by omega⟩
            · rintro m t H2 ⟨j, rfl, hj, rfl, rfl, hall⟩
              by_cases hc2 : (j : Int) < placed l
              · have hjs : j < S.length := by rw [hS.len]; omega
                have hix : aindexAddrS 1 (.slice (H.next + 1) 0 l.length (.exact l.length)) (.int .i64 (j : Int)) = some (.ptr (H.next + 1) j) := by rw [aindexAddrS_slice ⟨by omega, by omega⟩]; simp
                have hat : (bools S)[j]? = some (.bool S[j]) := by simp [bools, hjs]
                cases hb : S[j] with
                | true =>
                  rw [hb] at hat
                  simp (disch := first | omega | (simp only [nx] <;> omega) | fail) only [vaw, hc2, hix, o1, hat, Nat.reduceAdd, Nat.reduceMul, Nat.reduceLeDiff, Nat.reduceEqDiff, ↓reduceIte]
                  refine ⟨placed l - (j + 1), by omega, j + 1, rfl, by omega, rfl, ?_⟩
                  intro c hcj
                  by_cases hcj2 : c = j
                  · subst hcj2; rw [List.getElem?_eq_getElem hjs, hb]
                  · exact hall c (by omega)
                | false =>
                  rw [hb] at hat
                  simp (disch := first | omega | (simp only [nx] <;> omega) | fail) only [vaw, hc2, hix, o1, hat, Nat.reduceAdd, Nat.reduceMul, Nat.reduceLeDiff, Nat.reduceEqDiff, ↓reduceIte]
                  exact hq _ _ k1 (says_no (hP (placed_no hS (j := j) (by omega) (by rw [List.getElem?_eq_getElem hjs, hb]; simp))))
              · simp (disch := first | omega | (simp only [nx] <;> omega) | fail) only [vaw, hc2, Nat.reduceAdd, Nat.reduceMul, Nat.reduceLeDiff, Nat.reduceEqDiff, ↓reduceIte]
                exact hq _ _ k1 (says_yes ⟨c1, by omega, by omega, placed_yes hS (fun c hc => hall c (by omega))⟩)
      · simp (disch := first | omega | (simp only [nx] <;> omega) | fail) only [vaw, F77, lr, lu, ld, c1', c2, c3, ne_eq, not_true_eq_false, not_false_eq_true, Nat.reduceAdd, Nat.reduceMul, Nat.reduceLeDiff, Nat.reduceEqDiff, ↓reduceIte]
        rw [← c1']
        exact hq _ _ k0 (says_no fun h => c3 (by have := h.2.2.1; omega))
    · simp (disch := first | omega | (simp only [nx] <;> omega) | fail) only [vaw, F77, lr, lu, c1', c2, ne_eq, not_true_eq_false, not_false_eq_true, Nat.reduceAdd, Nat.reduceMul, Nat.reduceLeDiff, Nat.reduceEqDiff, ↓reduceIte]
      rw [← c1']
      exact hq _ _ k0 (says_no fun h => c2 (by have := h.2.1; omega))
  · simp (disch := first | omega | (simp only [nx] <;> omega) | fail) only [vaw, F77, lr, c1, ne_eq, not_true_eq_false, not_false_eq_true, Nat.reduceAdd, Nat.reduceMul, Nat.reduceLeDiff, Nat.reduceEqDiff, ↓reduceIte]
    exact hq _ _ k0 (says_no fun h => c1 h.1)
end Go.Proofs.Ytknhlpmmalcchaa

namespace Go.Proofs.Ytknhlpmmalcchaa
open Go Go.VAI
set_option linter.unusedSimpArgs false

set_option maxRecDepth 20000 in
set_option maxHeartbeats 2000000 in
theorem refedge_ret {n : Int} {ew rv av uv dv : AVal} {es : List Edge} {a : Arc} {H : AHeap} {Q : AVal → AHeap → Prop} (hr : Row H ew 4 (edgeCells es)) (hq : ∀ b H', Keep Nothing H H' → Says b (IsEdge es a) → Q (.bool b) H') : Ret A 107 [.agg [.int .i64 n, ew, rv, av, uv, dv], .agg a.cells] H Q := by
  refine Ret.of (fn := F107) rfl ?_
  have hl := hr.len (by omega) (edgeCells_length es)
  have k0 : Keep Nothing H ((H.new (.cells [.int .i64 n, ew, rv, av, uv, dv] true)).new (.cells [.int .i64 a.src, .int .i64 a.dst, .int .i64 a.mode, .int .i64 a.cost, .int .i64 a.edge, .int .i64 a.a, .int .i64 a.b] true)) := ((Keep.refl _ _).new _).new _
  have lenE : IsEdge es a → a.edge < es.length := fun h => by
    have := (List.getElem?_eq_some_iff.1 h.2.2.2).1
    have := h.1
    omega
  by_cases h1 : a.edge < 0
  · simp (disch := first | omega | (simp only [nx] <;> omega) | fail) only [vaw, F107, Arc.cells, h1, Nat.reduceAdd, Nat.reduceMul, Nat.reduceLeDiff, Nat.reduceEqDiff, ↓reduceIte]
    exact hq _ _ k0 (says_no fun h => by have := h.1; omega)
  by_cases h2 : (es.length : Int) ≤ a.edge
  · simp (disch := first | omega | (simp only [nx] <;> omega) | fail) only [vaw, F107, Arc.cells, h1, hl, h2, Nat.reduceAdd, Nat.reduceMul, Nat.reduceLeDiff, Nat.reduceEqDiff, ↓reduceIte]
    exact hq _ _ k0 (says_no fun h => by have := lenE h; omega)
  by_cases h3 : a.a = 0
  · by_cases h4 : a.b = 0
    · have hil : a.edge.toNat < es.length := by omega
      have he : es[a.edge.toNat]? = some es[a.edge.toNat] := by simp [hil]
      obtain ⟨id, off, e1, hid2, e2, e3, e4, e5, e6⟩ := edge_at hr he
      rw [Int.toNat_of_nonneg (by omega)] at e1
      have key : IsEdge es a ↔ es[a.edge.toNat] = ⟨a.src, a.dst, a.mode, a.cost⟩ := by
        unfold IsEdge
        rw [he]
        constructor
        · rintro ⟨_, _, _, h⟩; injection h
        · intro h; exact ⟨by omega, h3, h4, by rw [h]⟩
      generalize es[a.edge.toNat] = e at *
      obtain ⟨p, q, r, s⟩ := e
      simp only [Edge.cells] at e6
      have kk : Keep Nothing H ((((H.new (.cells [.int .i64 n, ew, rv, av, uv, dv] true)).new (.cells [.int .i64 a.src, .int .i64 a.dst, .int .i64 a.mode, .int .i64 a.cost, .int .i64 a.edge, .int .i64 0, .int .i64 0] true)).new (.cells [.int .i64 0, .int .i64 0, .int .i64 0, .int .i64 0] true)).upd (H.next + 1 + 1) (some (.cells [.int .i64 p, .int .i64 q, .int .i64 r, .int .i64 s] true))) := ((((Keep.refl _ _).new _).new _).new _).upd (.inl (by omega)) _
      by_cases c1 : p = a.src
      · by_cases c2 : q = a.dst
        · by_cases c3 : r = a.mode
          · by_cases c4 : s = a.cost
            · simp (disch := first | omega | (simp only [nx] <;> omega) | fail) only [vaw, F107, Arc.cells, h1, hl, h2, h3, h4, e1, e6, ne_eq, not_true_eq_false, c1, c2, c3, c4, Nat.reduceAdd, Nat.reduceMul, Nat.reduceLeDiff, Nat.reduceEqDiff, ↓reduceIte]
              subst c1; subst c2; subst c3; subst c4
              exact hq _ _ kk (says_yes (key.2 rfl))
            · simp (disch := first | omega | (simp only [nx] <;> omega) | fail) only [vaw, F107, Arc.cells, h1, hl, h2, h3, h4, e1, e6, ne_eq, not_true_eq_false, c1, c2, c3, c4, Nat.reduceAdd, Nat.reduceMul, Nat.reduceLeDiff, Nat.reduceEqDiff, ↓reduceIte]
              subst c1; subst c2; subst c3
              exact hq _ _ kk (says_no fun h => c4 (by have := key.1 h; injection this))
          · simp (disch := first | omega | (simp only [nx] <;> omega) | fail) only [vaw, F107, Arc.cells, h1, hl, h2, h3, h4, e1, e6, ne_eq, not_true_eq_false, c1, c2, c3, Nat.reduceAdd, Nat.reduceMul, Nat.reduceLeDiff, Nat.reduceEqDiff, ↓reduceIte]
            subst c1; subst c2
            exact hq _ _ kk (says_no fun h => c3 (by have := key.1 h; injection this))
        · simp (disch := first | omega | (simp only [nx] <;> omega) | fail) only [vaw, F107, Arc.cells, h1, hl, h2, h3, h4, e1, e6, ne_eq, not_true_eq_false, c1, c2, Nat.reduceAdd, Nat.reduceMul, Nat.reduceLeDiff, Nat.reduceEqDiff, ↓reduceIte]
          subst c1
          exact hq _ _ kk (says_no fun h => c2 (by have := key.1 h; injection this))
      · simp (disch := first | omega | (simp only [nx] <;> omega) | fail) only [vaw, F107, Arc.cells, h1, hl, h2, h3, h4, e1, e6, ne_eq, not_true_eq_false, c1, Nat.reduceAdd, Nat.reduceMul, Nat.reduceLeDiff, Nat.reduceEqDiff, ↓reduceIte]
        exact hq _ _ kk (says_no fun h => c1 (by have := key.1 h; injection this))
    · simp (disch := first | omega | (simp only [nx] <;> omega) | fail) only [vaw, F107, Arc.cells, h1, hl, h2, h3, h4, ne_eq, not_true_eq_false, not_false_eq_true, Nat.reduceAdd, Nat.reduceMul, Nat.reduceLeDiff, Nat.reduceEqDiff, ↓reduceIte]
      exact hq _ _ (((Keep.refl _ _).new _).new _) (says_no fun h => h4 h.2.2.1)
  · simp (disch := first | omega | (simp only [nx] <;> omega) | fail) only [vaw, F107, Arc.cells, h1, hl, h2, h3, ne_eq, not_false_eq_true, Nat.reduceAdd, Nat.reduceMul, Nat.reduceLeDiff, Nat.reduceEqDiff, ↓reduceIte]
    exact hq _ _ (((Keep.refl _ _).new _).new _) (says_no fun h => h3 h.2.1)
theorem refabove_ret {n : Int} {ew rv av uv dv : AVal} {rank : List Int} {u v : Nat} {H : AHeap} {Q : AVal → AHeap → Prop} (hr : Row H rv 1 (ints rank)) (hu : u < rank.length) (hv : v < rank.length)
    (hq : ∀ b H', Keep Nothing H H' → Says b (Above rank u v) → Q (.bool b) H') : Ret A 108 [.agg [.int .i64 n, ew, rv, av, uv, dv], .int .i64 u, .int .i64 v] H Q := by
  refine Ret.of (fn := F108) rfl ?_
  have gu : rank[u]? = some rank[u] := by simp [hu]
  have gv : rank[v]? = some rank[v] := by simp [hv]
  have du : rank.getD u 0 = rank[u] := getD_of gu
  have dv' : rank.getD v 0 = rank[v] := getD_of gv
  obtain ⟨iu, ou, u1, u2, u3⟩ := hr.int_at (k := .i64) gu
  obtain ⟨iv, ov, v1, v2, v3⟩ := hr.int_at (k := .i64) gv
  have hbq : AVal.beq rv rv = true := hr.beq
  have key : Above rank u v ↔ (rank[u] < 0 ∨ (0 ≤ rank[v] ∧ rank[v] < rank[u])) := by
    unfold Above; rw [Int.toNat_natCast, Int.toNat_natCast, du, dv']
  generalize rank[u] = x at *
  generalize rank[v] = y at *
  have kk : Keep Nothing H (H.new (.cells [.int .i64 n, ew, rv, av, uv, dv] true)) := (Keep.refl _ _).new _
  by_cases h1 : x < 0
  · simp (disch := first | omega | (simp only [nx] <;> omega) | fail) only [vaw, F108, u1, u3, h1, reK_same hbq, vaij, Nat.reduceAdd, Nat.reduceMul, Nat.reduceLeDiff, Nat.reduceEqDiff, ↓reduceIte]
    exact hq _ _ kk (says_yes (key.2 (.inl h1)))
  by_cases h2 : 0 ≤ y
  · by_cases h3 : y < x
    · simp (disch := first | omega | (simp only [nx] <;> omega) | fail) only [vaw, F108, u1, u3, v1, v3, h1, h2, h3, reK_same hbq, vaij, Nat.reduceAdd, Nat.reduceMul, Nat.reduceLeDiff, Nat.reduceEqDiff, ↓reduceIte]
      exact hq _ _ kk (says_yes (key.2 (.inr ⟨h2, h3⟩)))
    · simp (disch := first | omega | (simp only [nx] <;> omega) | fail) only [vaw, F108, u1, u3, v1, v3, h1, h2, h3, reK_same hbq, vaij, Nat.reduceAdd, Nat.reduceMul, Nat.reduceLeDiff, Nat.reduceEqDiff, ↓reduceIte]
      exact hq _ _ kk (says_no fun h => by have := key.1 h; omega)
  · simp (disch := first | omega | (simp only [nx] <;> omega) | fail) only [vaw, F108, u1, u3, v1, v3, h1, h2, reK_same hbq, vaij, Nat.reduceAdd, Nat.reduceMul, Nat.reduceLeDiff, Nat.reduceEqDiff, ↓reduceIte]
    exact hq _ _ kk (says_no fun h => by have := key.1 h; omega)
theorem refabove_int {n : Int} {ew rv av uv dv : AVal} {rank : List Int} {u : Int} {v : Nat} {H : AHeap} {Q : AVal → AHeap → Prop} (hr : Row H rv 1 (ints rank)) (hu : 0 ≤ u ∧ u < rank.length) (hv : v < rank.length)
    (hq : ∀ b H', Keep Nothing H H' → Says b (Above rank u v) → Q (.bool b) H') : Ret A 108 [.agg [.int .i64 n, ew, rv, av, uv, dv], .int .i64 u, .int .i64 v] H Q := by
  obtain ⟨u', rfl⟩ := Int.eq_ofNat_of_zero_le hu.1
  exact refabove_ret hr (by omega) hv hq
end Go.Proofs.Ytknhlpmmalcchaa

namespace Go.Proofs.Ytknhlpmmalcchaa
open Go Go.VAI
set_option linter.unusedSimpArgs false

def AtOk (up : Bool) (rank : List Int) (arcs : List Arc) (v : Int) (x : Int) : Prop := if up then UpAt rank arcs v x else DownAt rank arcs v x
def RowOk (up : Bool) (rank : List Int) (arcs : List Arc) (v : Int) (l : List Int) : Prop := l.Nodup ∧ ∀ x ∈ l, AtOk up rank arcs v x
structure MarkAt (n : Nat) (l : List Int) (i : Nat) (S : List Bool) : Prop where
  len : S.length = n
  seen : ∀ j : Nat, j < n → (S[j]? = some true ↔ (j : Int) ∈ l.take i)
  nd : (l.take i).Nodup
theorem MarkAt.more {n : Nat} {l : List Int} {i : Nat} {S : List Bool} (h : MarkAt n l i S) {r : Nat} (hr : l[i]? = some (r : Int)) (hrl : r < n) (hs : S[r]? ≠ some true) : MarkAt n l (i + 1) (S.set r true) := by
  have hil := (List.getElem?_eq_some_iff.1 hr).1
  have htk : l.take (i + 1) = l.take i ++ [(r : Int)] := by
    rw [List.take_succ_eq_append_getElem hil]
    rw [(List.getElem?_eq_some_iff.1 hr).2]
  have hnot : (r : Int) ∉ l.take i := fun hm => hs ((h.seen r hrl).2 hm)
  refine ⟨by simp [h.len], fun j hj => ?_, ?_⟩
  · rw [htk, List.getElem?_set]
    by_cases hjr : r = j
    · subst hjr
      rw [if_pos rfl, if_pos (by rw [h.len]; exact hj)]
      simp
    · rw [if_neg hjr, h.seen j hj]; simp; omega
  · rw [htk]
    exact List.nodup_append.2 ⟨h.nd, by simp, fun a ha b hb => by simp at hb; subst hb; intro e; subst e; exact hnot ha⟩
theorem twice_not {l : List Int} {i : Nat} {x : Int} (hx : l[i]? = some x) (hm : x ∈ l.take i) : ¬ l.Nodup := fun hN => by
  obtain ⟨hil, e0⟩ := List.getElem?_eq_some_iff.1 hx
  obtain ⟨j, hj, e⟩ := List.getElem_of_mem hm
  rw [List.length_take] at hj
  rw [List.getElem_take] at e
  exact List.pairwise_iff_getElem.1 hN j i (by omega) hil (by omega) (e.trans e0.symm)
set_option maxRecDepth 20000 in
set_option maxHeartbeats 8000000 in
theorem refrow_ret {up : Bool} {n : Int} {ew rv av uv dv lv : AVal} {es : List Edge} {rank : List Int} {arcs : List Arc} {l : List Int} {v : Nat} {H : AHeap} {Q : AVal → AHeap → Prop}
    (he : Row H ew 4 (edgeCells es)) (hr : Row H rv 1 (ints rank)) (ha : Row H av 7 (arcCells arcs)) (hu : AVal.beq uv uv = true) (hd : AVal.beq dv dv = true) (hlv : Row H lv 1 (ints l)) (hv : v < rank.length) (hnl : l.length ≤ 4611686018427387904) (harcs : arcs.length ≤ 1000000)
    (hends : ∀ (i : Nat) a, arcs[i]? = some a → (0 ≤ a.src ∧ a.src < rank.length) ∧ (0 ≤ a.dst ∧ a.dst < rank.length))
    (hq : ∀ b H', Keep Nothing H H' → Says b (RowOk up rank arcs v l) → Q (.bool b) H') : Ret A 79 [.agg [.int .i64 n, ew, rv, av, uv, dv], .int .i64 v, lv, .bool up] H Q := by
  refine Ret.of (fn := F79) rfl ?_
  have be := he.beq
  have br : AVal.beq rv rv = true := hr.beq
  have ba : AVal.beq av av = true := ha.beq
  have bx : AVal.beq (.agg [.int .i64 n, ew, rv, av, uv, dv]) (.agg [.int .i64 n, ew, rv, av, uv, dv]) = true := by simp [AVal.beq, AVal.beqs, be, br, ba, hu, hd]
  have la := ha.len (by omega) (arcCells_length arcs)
  have ll := hlv.len1
  rw [ints_length] at ll
  have hm1 : ((arcs.length : Nat) : Int) * ((1 : Nat) : Int) ≤ 140737488355328 := by omega
  have gv : rank[v]? = some rank[v] := by simp [hv]
  obtain ⟨ir, or, r1, r2, r3⟩ := hr.int_at (k := .i64) gv
  have dv' : rank.getD v 0 = rank[v] := getD_of gv
  generalize rank[v] = rk at *
  simp (disch := first | omega | (simp only [nx] <;> omega) | fail) only [vaw, F79, la, amkSlice_int hm1 (by omega), Nat.reduceAdd, Nat.reduceMul, Nat.reduceLeDiff, Nat.reduceEqDiff, ↓reduceIte]
  rw [reps_false]
  have kB : Keep Nothing H ((H.new (.cells [.int .i64 n, ew, rv, av, uv, dv] true)).new (.cells (bools (List.replicate arcs.length false)) true)) := ((Keep.refl _ _).new _).new _
  refine wpx_loop (fun m t H' => ∃ (i : Nat) (S : List Bool), m = l.length - i ∧ i ≤ l.length ∧ t = (bots 1 (.int .i64 v :: lv :: .bool up :: .ptr H.next 0 :: bots 4 (.slice (H.next + 1) 0 arcs.length (.exact arcs.length) :: .int .i64 i :: bots 100 ([]))) : Tmps) ∧ Keep Nothing H H' ∧ H.next + 1 < H'.next ∧ H'.obj H.next = some (.cells [.int .i64 n, ew, rv, av, uv, dv] true) ∧ H'.obj (H.next + 1) = some (.cells (bools S) true) ∧ MarkAt arcs.length l i S ∧ ∀ x ∈ l.take i, AtOk up rank arcs v x) l.length ?_ ?_
  · refine ⟨0, List.replicate arcs.length false, rfl, by omega, rfl, kB, by simp only [next_new]; omega, by simp (disch := first | omega | (simp only [nx] <;> omega) | fail) only [vaim], obj_new_eq rfl, ⟨by simp, fun j hj => ?_, by simp⟩, by simp⟩
    simp [hj]
  · rintro m t H1 ⟨i, S, rfl, hi, rfl, k1, n1, q1, o1, hS, hin⟩
    by_cases hc : (i : Int) < l.length
    · have hil : i < l.length := by omega
      have hx : l[i]? = some l[i] := by simp [hil]
      obtain ⟨ia, oa, a1, a2, a3⟩ := hlv.int_at (k := .i64) hx
      rw [← k1.old a2] at a3
      have hia : ia ≠ H.next + 1 := by omega
      have hmem := List.getElem_mem hil
      have htw := fun h => twice_not hx h
      have hta : AtOk up rank arcs v l[i] → ∀ y ∈ l.take (i + 1), AtOk up rank arcs v y := fun h => take_all hx hin h
      generalize l[i] = x at *
      have inr : RowOk up rank arcs v l → 0 ≤ x ∧ x < arcs.length := fun h => by
        have h1 := h.2 x hmem
        unfold AtOk at h1
        cases up with
        | true => obtain ⟨h2, a, h3, _⟩ := h1; have := (List.getElem?_eq_some_iff.1 h3).1; omega
        | false => obtain ⟨h2, a, h3, _⟩ := h1; have := (List.getElem?_eq_some_iff.1 h3).1; omega
      by_cases h1 : x < 0
      · simp (disch := first | omega | (simp only [nx] <;> omega) | fail) only [vaw, ll, hc, a1, a3, q1, h1, vaij, reK_same br, reK_same ba, Nat.reduceAdd, Nat.reduceMul, Nat.reduceLeDiff, Nat.reduceEqDiff, ↓reduceIte]
        exact hq _ _ k1 (says_no fun h => by have := inr h; omega)
      by_cases h2 : (arcs.length : Int) ≤ x
      · simp (disch := first | omega | (simp only [nx] <;> omega) | fail) only [vaw, ll, la, hc, a1, a3, q1, h1, h2, vaij, reK_same br, reK_same ba, Nat.reduceAdd, Nat.reduceMul, Nat.reduceLeDiff, Nat.reduceEqDiff, ↓reduceIte]
        exact hq _ _ k1 (says_no fun h => by have := inr h; omega)
      obtain ⟨rn, rfl⟩ : ∃ n : Nat, x = n := ⟨x.toNat, by omega⟩
      have hrn : rn < arcs.length := by omega
      have hsl : rn < S.length := by rw [hS.len]; exact hrn
      have hix : aindexAddrS 1 (.slice (H.next + 1) 0 arcs.length (.exact arcs.length)) (.int .i64 (rn : Int)) = some (.ptr (H.next + 1) rn) := by rw [aindexAddrS_slice ⟨by omega, by omega⟩]; simp
      have hat : (bools S)[rn]? = some (.bool S[rn]) := by simp [bools, hsl]
      cases hb : S[rn] with
      | true =>
        rw [hb] at hat
        simp (disch := first | omega | (simp only [nx] <;> omega) | fail) only [vaw, ll, la, hc, a1, a3, q1, o1, h1, h2, hix, hat, vaij, reK_same br, reK_same ba, Nat.reduceAdd, Nat.reduceMul, Nat.reduceLeDiff, Nat.reduceEqDiff, ↓reduceIte]
        exact hq _ _ k1 (says_no fun h => htw ((hS.seen rn hrn).1 (by rw [List.getElem?_eq_getElem hsl, hb])) h.1)
      | false =>
        rw [hb] at hat
        have hbl : (bools S).length = arcs.length := by simp [bools, hS.len]
        have hle : rn + 1 ≤ arcs.length := hrn
        have hset : splice (bools S) rn [.bool true] = bools (S.set rn true) := by
          rw [splice_one (by rw [hbl]; exact hrn)]
          simp [bools, List.map_set]
        have hga : arcs[rn]? = some arcs[rn] := by simp [hrn]
        have hend := hends _ _ hga
        obtain ⟨ib, ob, b1, b2, b3, b4⟩ := arc_at ha hga
        rw [← k1.old b2] at b4
        have hib : ib ≠ H.next + 1 := by omega
        have hup : UpAt rank arcs v rn ↔ (arcs[rn].src = v ∧ (arcs[rn].dst = v ∨ Above rank arcs[rn].dst v)) := by
          unfold UpAt
          rw [Int.toNat_natCast, hga]
          constructor
          · rintro ⟨_, a, e, h⟩; injection e with e; subst e; exact h
          · intro h; exact ⟨by omega, _, rfl, h⟩
        have hdn : DownAt rank arcs v rn ↔ (arcs[rn].dst = v ∧ arcs[rn].src ≠ v ∧ 0 ≤ rk ∧ Above rank arcs[rn].src v) := by
          unfold DownAt
          rw [Int.toNat_natCast, hga, Int.toNat_natCast, dv']
          constructor
          · rintro ⟨_, a, e, h1, h2, h3, h4⟩; injection e with e; subst e; exact ⟨h1, h2, h3, h4⟩
          · intro h; exact ⟨by omega, _, rfl, h.1, h.2.1, h.2.2⟩
        have hM := hS.more hx hrn (by rw [List.getElem?_eq_getElem hsl, hb]; simp)
        generalize arcs[rn] = a at *
        simp only [Arc.cells] at b4
        have row_no : ¬ AtOk up rank arcs v rn → ¬ RowOk up rank arcs v l := fun h g => h (g.2 _ hmem)
        have kU : Keep Nothing H (H1.upd (H.next + 1) (some (.cells (bools (S.set rn true)) true))) := k1.upd (.inl (by omega)) _
        have kP : Keep Nothing H (((H1.upd (H.next + 1) (some (.cells (bools (S.set rn true)) true))).new (.cells [.int .i64 0, .int .i64 0, .int .i64 0, .int .i64 0, .int .i64 0, .int .i64 0, .int .i64 0] true)).upd H1.next (some (.cells [.int .i64 a.src, .int .i64 a.dst, .int .i64 a.mode, .int .i64 a.cost, .int .i64 a.edge, .int .i64 a.a, .int .i64 a.b] true))) := (kU.new _).upd (.inl (by omega)) _
        have qP : (((H1.upd (H.next + 1) (some (.cells (bools (S.set rn true)) true))).new (.cells [.int .i64 0, .int .i64 0, .int .i64 0, .int .i64 0, .int .i64 0, .int .i64 0, .int .i64 0] true)).upd H1.next (some (.cells [.int .i64 a.src, .int .i64 a.dst, .int .i64 a.mode, .int .i64 a.cost, .int .i64 a.edge, .int .i64 a.a, .int .i64 a.b] true))).obj H.next = some (.cells [.int .i64 n, ew, rv, av, uv, dv] true) := by simp (disch := first | omega | (simp only [nx] <;> omega) | fail) only [vaim]; exact q1
        have oP : (((H1.upd (H.next + 1) (some (.cells (bools (S.set rn true)) true))).new (.cells [.int .i64 0, .int .i64 0, .int .i64 0, .int .i64 0, .int .i64 0, .int .i64 0, .int .i64 0] true)).upd H1.next (some (.cells [.int .i64 a.src, .int .i64 a.dst, .int .i64 a.mode, .int .i64 a.cost, .int .i64 a.edge, .int .i64 a.a, .int .i64 a.b] true))).obj (H.next + 1) = some (.cells (bools (S.set rn true)) true) := by simp (disch := first | omega | (simp only [nx] <;> omega) | fail) only [vaim]
        have aP : (((H1.upd (H.next + 1) (some (.cells (bools (S.set rn true)) true))).new (.cells [.int .i64 0, .int .i64 0, .int .i64 0, .int .i64 0, .int .i64 0, .int .i64 0, .int .i64 0] true)).upd H1.next (some (.cells [.int .i64 a.src, .int .i64 a.dst, .int .i64 a.mode, .int .i64 a.cost, .int .i64 a.edge, .int .i64 a.a, .int .i64 a.b] true))).obj H1.next = some (.cells [.int .i64 a.src, .int .i64 a.dst, .int .i64 a.mode, .int .i64 a.cost, .int .i64 a.edge, .int .i64 a.a, .int .i64 a.b] true) := obj_upd_eq rfl
        have nP : (((H1.upd (H.next + 1) (some (.cells (bools (S.set rn true)) true))).new (.cells [.int .i64 0, .int .i64 0, .int .i64 0, .int .i64 0, .int .i64 0, .int .i64 0, .int .i64 0] true)).upd H1.next (some (.cells [.int .i64 a.src, .int .i64 a.dst, .int .i64 a.mode, .int .i64 a.cost, .int .i64 a.edge, .int .i64 a.a, .int .i64 a.b] true))).next = H1.next + 1 := rfl
        have hixn : ia ≠ H1.next := by have := k1.next; omega
        simp (disch := first | omega | (simp only [nx] <;> omega) | fail) only [vaw, ll, la, hc, a1, a3, q1, o1, h1, h2, hix, hat, vaij, reK_same br, reK_same ba, hbl, hle, hset, b1, b4, hib, hia, Nat.reduceAdd, Nat.reduceMul, Nat.reduceLeDiff, Nat.reduceEqDiff, ↓reduceIte]
        generalize (((H1.upd (H.next + 1) (some (.cells (bools (S.set rn true)) true))).new (.cells [.int .i64 0, .int .i64 0, .int .i64 0, .int .i64 0, .int .i64 0, .int .i64 0, .int .i64 0] true)).upd H1.next (some (.cells [.int .i64 a.src, .int .i64 a.dst, .int .i64 a.mode, .int .i64 a.cost, .int .i64 a.edge, .int .i64 a.a, .int .i64 a.b] true))) = H2 at *
        generalize hy : H1.next = y at *
        have r3' : (bnd (cellsOf (H2.obj ir)) fun c => c[or]?) = some (.int .i64 rk) := by rw [kP.old r2]; exact r3
        have dn : (a.dst = v ∧ a.src = v) ∨ (a.dst = v ∧ ¬ a.src = v ∧ rk < 0) ∨ (a.dst = v ∧ ¬ a.src = v ∧ ¬ rk < 0) ∨ ¬ a.dst = v := by
          by_cases c1 : a.dst = v <;> by_cases c2 : a.src = v <;> by_cases c3 : rk < 0 <;> simp [c1, c2, c3]
        cases up with
        | true =>
          have hua : AtOk true rank arcs v rn ↔ (a.src = v ∧ (a.dst = v ∨ Above rank a.dst v)) := hup
          by_cases c1 : a.src = v
          · by_cases c2 : a.dst = v
            · simp (disch := first | omega | (simp only [nx] <;> omega) | fail) only [vaw, aP, c1, c2, ne_eq, not_true_eq_false, not_false_eq_true, vaij, Nat.reduceAdd, Nat.reduceMul, Nat.reduceLeDiff, Nat.reduceEqDiff, ↓reduceIte]
              exact ⟨l.length - (i + 1), by omega, i + 1, S.set rn true, rfl, by omega, rfl, kP, by omega, qP, oP, hM, hta (hua.2 ⟨c1, .inl c2⟩)⟩
            · simp (disch := first | omega | (simp only [nx] <;> omega) | fail) only [vaw, aP, qP, c1, c2, ne_eq, not_true_eq_false, not_false_eq_true, vaij, Nat.reduceAdd, Nat.reduceMul, Nat.reduceLeDiff, Nat.reduceEqDiff, ↓reduceIte]
              refine refabove_int (hr.kept kP) hend.2 hv fun b H3 k3 s3 => ?_
              have q3 := (k3.old (i := H.next) (by omega)).trans qP
              have o3 := (k3.old (i := H.next + 1) (by omega)).trans oP
              have n3 := k3.next
              cases b with
              | true =>
                simp (disch := first | omega | (simp only [nx] <;> omega) | fail) only [vaw, Nat.reduceAdd, Nat.reduceMul, Nat.reduceLeDiff, Nat.reduceEqDiff, ↓reduceIte]
                exact ⟨l.length - (i + 1), by omega, i + 1, S.set rn true, rfl, by omega, rfl, kP.trans k3, by omega, q3, o3, hM, hta (hua.2 ⟨c1, .inr (s3.1 rfl)⟩)⟩
              | false =>
                simp (disch := first | omega | (simp only [nx] <;> omega) | fail) only [vaw, Nat.reduceAdd, Nat.reduceMul, Nat.reduceLeDiff, Nat.reduceEqDiff, ↓reduceIte]
                exact hq _ _ (kP.trans k3) (says_no (row_no fun h => by
                  rcases (hua.1 h).2 with h | h
                  · exact c2 h
                  · have := s3.2 h; cases this))
          · simp (disch := first | omega | (simp only [nx] <;> omega) | fail) only [vaw, aP, c1, ne_eq, not_true_eq_false, not_false_eq_true, vaij, Nat.reduceAdd, Nat.reduceMul, Nat.reduceLeDiff, Nat.reduceEqDiff, ↓reduceIte]
            exact hq _ _ kP (says_no (row_no fun h => c1 (hua.1 h).1))
        | false =>
          have hua : AtOk false rank arcs v rn ↔ (a.dst = v ∧ a.src ≠ v ∧ 0 ≤ rk ∧ Above rank a.src v) := hdn
          simp (disch := first | omega | (simp only [nx] <;> omega) | fail) only [vaw, aP, ne_eq, vaij, Nat.reduceAdd, Nat.reduceMul, Nat.reduceLeDiff, Nat.reduceEqDiff, ↓reduceIte]
          rcases dn with ⟨c1, c2⟩ | ⟨c1, c2, c3⟩ | ⟨c1, c2, c3⟩ | c1
          · simp (disch := first | omega | (simp only [nx] <;> omega) | fail) only [vaw, aP, c1, c2, ne_eq, not_true_eq_false, not_false_eq_true, vaij, Nat.reduceAdd, Nat.reduceMul, Nat.reduceLeDiff, Nat.reduceEqDiff, ↓reduceIte]
            exact hq _ _ kP (says_no (row_no fun h => (hua.1 h).2.1 c2))
          · simp (disch := first | omega | (simp only [nx] <;> omega) | fail) only [vaw, aP, qP, c1, c2, c3, r1, r3', ne_eq, not_true_eq_false, not_false_eq_true, vaij, Nat.reduceAdd, Nat.reduceMul, Nat.reduceLeDiff, Nat.reduceEqDiff, ↓reduceIte]
            exact hq _ _ kP (says_no (row_no fun h => by have := (hua.1 h).2.2.1; omega))
          · simp (disch := first | omega | (simp only [nx] <;> omega) | fail) only [vaw, aP, qP, c1, c2, c3, r1, r3', ne_eq, not_true_eq_false, not_false_eq_true, vaij, Nat.reduceAdd, Nat.reduceMul, Nat.reduceLeDiff, Nat.reduceEqDiff, ↓reduceIte]
            refine refabove_int (hr.kept kP) hend.1 hv fun b H3 k3 s3 => ?_
            have q3 := (k3.old (i := H.next) (by omega)).trans qP
            have o3 := (k3.old (i := H.next + 1) (by omega)).trans oP
            have n3 := k3.next
            cases b with
            | true =>
              simp (disch := first | omega | (simp only [nx] <;> omega) | fail) only [vaw, Nat.reduceAdd, Nat.reduceMul, Nat.reduceLeDiff, Nat.reduceEqDiff, ↓reduceIte]
              exact ⟨l.length - (i + 1), by omega, i + 1, S.set rn true, rfl, by omega, rfl, kP.trans k3, by omega, q3, o3, hM, hta (hua.2 ⟨c1, c2, by omega, s3.1 rfl⟩)⟩
            | false =>
              simp (disch := first | omega | (simp only [nx] <;> omega) | fail) only [vaw, Nat.reduceAdd, Nat.reduceMul, Nat.reduceLeDiff, Nat.reduceEqDiff, ↓reduceIte]
              exact hq _ _ (kP.trans k3) (says_no (row_no fun h => by have := s3.2 (hua.1 h).2.2.2; cases this))
          · simp (disch := first | omega | (simp only [nx] <;> omega) | fail) only [vaw, aP, c1, ne_eq, not_true_eq_false, not_false_eq_true, vaij, Nat.reduceAdd, Nat.reduceMul, Nat.reduceLeDiff, Nat.reduceEqDiff, ↓reduceIte]
            exact hq _ _ kP (says_no (row_no fun h => c1 (hua.1 h).1))
    · have hi : i = l.length := by omega
      subst hi
      have h2 := hS.nd
      rw [List.take_length] at hin h2
      simp (disch := first | omega | (simp only [nx] <;> omega) | fail) only [vaw, ll, hc, Nat.reduceAdd, Nat.reduceMul, Nat.reduceLeDiff, Nat.reduceEqDiff, ↓reduceIte]
      exact hq _ _ k1 (says_yes ⟨h2, hin⟩)
end Go.Proofs.Ytknhlpmmalcchaa

namespace Go.Proofs.Ytknhlpmmalcchaa
open Go Go.VAI
set_option linter.unusedSimpArgs false

theorem wrap8 (n : Int) : IntKind.u8.wrap n = n % 256 := rfl
theorem rFour_four (v : Int) (l : List Int) (bad : Bool) : rFour ⟨fourOf v ++ l, bad⟩ = (v % 4294967296, ⟨l, bad⟩) := by
  have s24 : shrI .i64 v 24 = v / 16777216 := by
    show v.fdiv (2 ^ (Nat.min (24 : Int).toNat 64)) = _
    rw [show (2 ^ (Nat.min (24 : Int).toNat 64) : Int) = 16777216 from by decide, Int.fdiv_eq_ediv_of_nonneg _ (by omega)]
  have s16 : shrI .i64 v 16 = v / 65536 := by
    show v.fdiv (2 ^ (Nat.min (16 : Int).toNat 64)) = _
    rw [show (2 ^ (Nat.min (16 : Int).toNat 64) : Int) = 65536 from by decide, Int.fdiv_eq_ediv_of_nonneg _ (by omega)]
  have s8 : shrI .i64 v 8 = v / 256 := by
    show v.fdiv (2 ^ (Nat.min (8 : Int).toNat 64)) = _
    rw [show (2 ^ (Nat.min (8 : Int).toNat 64) : Int) = 256 from by decide, Int.fdiv_eq_ediv_of_nonneg _ (by omega)]
  show (numOf _ _ _ _, _) = _
  rw [wrap8, wrap8, wrap8, wrap8, s24, s16, s8, numOf_eq (by omega) (by omega) (by omega) (by omega)]
  congr 1
  omega
theorem foursOf_cons (v : Int) (vs l : List Int) : foursOf (v :: vs) ++ l = fourOf v ++ (foursOf vs ++ l) := by simp [foursOf]
theorem foursOf_nil (l : List Int) : foursOf [] ++ l = l := rfl
theorem rEdge_edge {e : Edge} (h : (0 ≤ e.src ∧ e.src < 4294967296) ∧ (0 ≤ e.dst ∧ e.dst < 4294967296) ∧ (0 ≤ e.mode ∧ e.mode < 4294967296) ∧ (0 ≤ e.cost ∧ e.cost < 4294967296)) (l : List Int) (bad : Bool) : rEdge ⟨edgeB e ++ l, bad⟩ = (e, ⟨l, bad⟩) := by
  obtain ⟨a, b, c, d⟩ := e
  simp only at h
  simp only [edgeB, foursOf_cons, foursOf_nil, rEdge, rFour_four]
  simp only [Prod.mk.injEq, Edge.mk.injEq, and_true]
  omega
theorem rRank_rank {r : Int} (h : -1 ≤ r ∧ r < 4294967295) (l : List Int) (bad : Bool) : rRank ⟨rankB r ++ l, bad⟩ = (r, ⟨l, bad⟩) := by
  simp only [rankB, foursOf_cons, foursOf_nil, rRank, rFour_four]
  simp only [Prod.mk.injEq, and_true]
  omega
theorem rArc_arc {a : Arc} (h1 : 0 ≤ a.src ∧ a.src < 4294967296) (h2 : 0 ≤ a.dst ∧ a.dst < 4294967296) (h3 : 0 ≤ a.mode ∧ a.mode < 4294967296) (h4 : 0 ≤ a.cost ∧ a.cost ≤ 4398046511104) (h5 : -1 ≤ a.edge ∧ a.edge < 4294967295) (h6 : 0 ≤ a.a ∧ a.a < 4294967296) (h7 : 0 ≤ a.b ∧ a.b < 4294967296) (l : List Int) (bad : Bool) : rArc ⟨arcB a ++ l, bad⟩ = (a, ⟨l, bad⟩) := by
  obtain ⟨s, d, m, c, e, p, q⟩ := a
  simp only at h1 h2 h3 h4 h5 h6 h7
  have s32 : shrI .i64 c 32 = c / 4294967296 := by
    show c.fdiv (2 ^ (Nat.min (32 : Int).toNat 64)) = _
    rw [show (2 ^ (Nat.min (32 : Int).toNat 64) : Int) = 4294967296 from by decide, Int.fdiv_eq_ediv_of_nonneg _ (by omega)]
  have e32 : (2 : Int) ^ 32 = 4294967296 := by decide
  have hs : shlI .i64 (c / 4294967296 % 4294967296) 32 = (c / 4294967296 % 4294967296) * 2 ^ 32 := shlI_small (k := 32) (by omega) (by omega) (by rw [e32]; omega)
  have ho : orI .i64 ((c / 4294967296 % 4294967296) * 2 ^ 32) (c % 4294967296) = (c / 4294967296 % 4294967296) * 2 ^ 32 + c % 4294967296 := orI_add (k := 32) (by omega) (by omega) (by rw [e32]; omega) (by rw [e32]; omega)
  simp only [arcB, List.append_assoc, foursOf_cons, foursOf_nil, rArc, rFour_four, s32, hs, ho]
  rw [e32]
  simp only [Prod.mk.injEq, Arc.mk.injEq, and_true]
  omega
theorem rCount_four {size n : Nat} {l : List Int} {bad : Bool} (h : n ≤ l.length / size) (hn : n < 4294967296) : rCount size ⟨fourOf n ++ l, bad⟩ = ((n : Int), ⟨l, bad⟩) := by
  have e : ((n : Int) % 4294967296) = n := by omega
  simp only [rCount, rFour_four, e]
  rw [if_neg (by omega)]
theorem rep_flat {α : Type} {f : RS → α × RS} {B : α → List Int} {bad : Bool} : ∀ (n : Nat) (l : List α), l.length = n → (∀ a ∈ l, ∀ r, f ⟨B a ++ r, bad⟩ = (a, ⟨r, bad⟩)) → ∀ r, rep f n ⟨l.flatMap B ++ r, bad⟩ = (l, ⟨r, bad⟩)
  | 0, l, h, _, r => by
    have := List.eq_nil_of_length_eq_zero h
    subst this; rfl
  | n + 1, l, h, hf, r => by
    obtain ⟨l', a, rfl⟩ : ∃ l' a, l = l' ++ [a] := by
      have hne : l ≠ [] := fun e => by simp [e] at h
      exact ⟨l.dropLast, l.getLast hne, (List.dropLast_concat_getLast hne).symm⟩
    simp at h
    have ih := rep_flat (f := f) (B := B) n l' h (fun b hb => hf b (by simp [hb])) (B a ++ r)
    have e : (l' ++ [a]).flatMap B ++ r = l'.flatMap B ++ (B a ++ r) := by simp
    rw [e, rep, ih, hf a (by simp)]
theorem rList_row {l : List Int} (h : ∀ x ∈ l, 0 ≤ x ∧ x < 4294967296) (hl : l.length < 4294967296) (r : List Int) (bad : Bool) : rList ⟨rowB l ++ r, bad⟩ = (l, ⟨r, bad⟩) := by
  have e : rowB l ++ r = fourOf (l.length : Int) ++ (foursOf l ++ r) := by simp [rowB, foursOf]
  have hc : rCount 4 ⟨fourOf (l.length : Int) ++ (foursOf l ++ r), bad⟩ = ((l.length : Int), ⟨foursOf l ++ r, bad⟩) := rCount_four (by rw [List.length_append, foursOf_length]; omega) hl
  simp only [rList, e, hc, Int.toNat_natCast]
  exact rep_flat l.length l rfl (fun a ha r => by
    have := h a ha
    rw [rFour_four]
    rw [show a % 4294967296 = a by omega]) r

structure Reads {α : Type} (f : RS → α × RS) : Prop where
  bad : ∀ s, s.bad = true → (f s).2.bad = true
  ext : ∀ s, (f s).2.bad = false → ∀ r, f ⟨s.left ++ r, s.bad⟩ = ((f s).1, ⟨(f s).2.left ++ r, (f s).2.bad⟩)
def andThen {α β : Type} (f : RS → α × RS) (g : α → RS → β × RS) (s : RS) : β × RS := g (f s).1 (f s).2
theorem Reads.bind {α β : Type} {f : RS → α × RS} {g : α → RS → β × RS} (hf : Reads f) (hg : ∀ a, Reads (g a)) : Reads (andThen f g) := by
  refine ⟨fun s h => (hg _).bad _ (hf.bad s h), fun s h r => ?_⟩
  have hb : (f s).2.bad = false := by
    cases hx : (f s).2.bad with
    | false => rfl
    | true =>
      have := (hg (f s).1).bad _ hx
      unfold andThen at h
      rw [h] at this; cases this
  unfold andThen at h ⊢
  rw [hf.ext s hb r]
  exact (hg _).ext _ h r
theorem Reads.done {α : Type} (a : α) : Reads (fun s : RS => (a, s)) := ⟨fun s h => h, fun s h r => rfl⟩
def partA : RS → (Int × List Edge) × RS := andThen rFour fun n => andThen (rCount 16) fun k => andThen (rep rEdge k.toNat) fun es s => ((n, es), s)
def partB (n : Int) : RS → (List Int × List Arc × List (List Int) × List (List Int)) × RS := andThen (rep rRank n.toNat) fun rank => andThen (rCount 32) fun m => andThen (rep rArc m.toNat) fun arcs => andThen (rep rList n.toNat) fun up => andThen (rep rList n.toNat) fun down s => ((rank, arcs, up, down), s)
def rawAB (b : List Int) : Option Idx :=
  if b.take 4 = [77, 73, 88, 49] then
    if (((partA ⟨b.drop 4, false⟩).2.left.length / 4 : Nat) : Int) < (partA ⟨b.drop 4, false⟩).1.1 ∨ (partA ⟨b.drop 4, false⟩).2.bad = true then none else
    if (partB (partA ⟨b.drop 4, false⟩).1.1 (partA ⟨b.drop 4, false⟩).2).2.bad = true ∨ 0 < (partB (partA ⟨b.drop 4, false⟩).1.1 (partA ⟨b.drop 4, false⟩).2).2.left.length then none
    else some ⟨(partA ⟨b.drop 4, false⟩).1.1, (partA ⟨b.drop 4, false⟩).1.2, (partB (partA ⟨b.drop 4, false⟩).1.1 (partA ⟨b.drop 4, false⟩).2).1.1, (partB (partA ⟨b.drop 4, false⟩).1.1 (partA ⟨b.drop 4, false⟩).2).1.2.1, (partB (partA ⟨b.drop 4, false⟩).1.1 (partA ⟨b.drop 4, false⟩).2).1.2.2.1, (partB (partA ⟨b.drop 4, false⟩).1.1 (partA ⟨b.drop 4, false⟩).2).1.2.2.2⟩
  else none
theorem raw_eq (b : List Int) : rawOf b = rawAB b := rfl
end Go.Proofs.Ytknhlpmmalcchaa

namespace Go.Proofs.Ytknhlpmmalcchaa
open Go Go.VAI
set_option linter.unusedSimpArgs false

theorem arc_mode {n : Int} {es : List Edge} {arcs : List Arc} (hn : NetOk n es) (h : ∀ (i : Nat) a, arcs[i]? = some a → ArcOk es arcs i a) : ∀ m, ∀ (i : Nat) a, i < m → arcs[i]? = some a → 0 ≤ a.mode ∧ a.mode < 5 := by
  intro m
  induction m with
  | zero => intro i a hi; omega
  | succ m ih =>
    intro i a hi ha
    rcases (h i a ha).2 with ⟨h1, h2, h3, h4⟩ | ⟨h1, h2, h3, h4, h5, p, q, h6, h7, h8, h9⟩
    · exact (hn.2.2.2 _ (List.mem_of_getElem? h4)).2.2.1
    · have e1 := ih _ p (by omega) h6
      rw [h8] at e1
      exact e1
theorem rank_lt {x : Idx} (h : Allowed x) : ∀ r ∈ x.rank, -1 ≤ r ∧ r < 4294967295 := by
  intro r hr
  have h1 := (allowed_enc h).1 r hr
  omega
theorem row_lt {arcs : List Arc} {l : List Int} (h : ∀ y ∈ l, 0 ≤ y ∧ ∃ a, arcs[y.toNat]? = some a) (hn : l.Nodup) (hc : arcs.length ≤ 300000) : (∀ y ∈ l, 0 ≤ y ∧ y < 4294967296) ∧ l.length < 4294967296 := by
  have h1 : ∀ y ∈ l, 0 ≤ y ∧ y < arcs.length := fun y hy => by
    obtain ⟨h1, a, h2⟩ := h y hy
    have := (List.getElem?_eq_some_iff.1 h2).1
    exact ⟨h1, by omega⟩
  have h2 := few_below arcs.length l hn h1
  exact ⟨fun y hy => by have := h1 y hy; omega, by omega⟩
theorem mem_at {α : Type} {l : List α} {a : α} (h : a ∈ l) : ∃ i : Nat, l[i]? = some a := by
  obtain ⟨i, hi, e⟩ := List.getElem_of_mem h
  exact ⟨i, by simp [hi, e]⟩
theorem reads_up {x : Idx} (h : Allowed x) : ∀ l ∈ x.up, ∀ r, rList ⟨rowB l ++ r, false⟩ = (l, ⟨r, false⟩) := by
  intro l hl r
  obtain ⟨i, hi⟩ := mem_at hl
  have hu := h.up i l hi
  have := row_lt (arcs := x.arcs) (fun y hy => by obtain ⟨h1, a, h2, _⟩ := hu.2 y hy; exact ⟨h1, a, h2⟩) hu.1 h.count
  exact rList_row this.1 this.2 r false
theorem reads_down {x : Idx} (h : Allowed x) : ∀ l ∈ x.down, ∀ r, rList ⟨rowB l ++ r, false⟩ = (l, ⟨r, false⟩) := by
  intro l hl r
  obtain ⟨i, hi⟩ := mem_at hl
  have hu := h.down i l hi
  have := row_lt (arcs := x.arcs) (fun y hy => by obtain ⟨h1, a, h2, _⟩ := hu.2 y hy; exact ⟨h1, a, h2⟩) hu.1 h.count
  exact rList_row this.1 this.2 r false
theorem reads_arcs {x : Idx} (h : Allowed x) : ∀ a ∈ x.arcs, ∀ r, rArc ⟨arcB a ++ r, false⟩ = (a, ⟨r, false⟩) := by
  intro a ha r
  obtain ⟨i, hi⟩ := mem_at ha
  have hil := (List.getElem?_eq_some_iff.1 hi).1
  have hc := h.count
  have he := arc_ends h.net h.arcs (i + 1) i a (by omega) hi
  have hm := arc_mode h.net h.arcs (i + 1) i a (by omega) hi
  have hn := h.net.2.1
  have hel := h.net.2.2.1
  obtain ⟨h1, h2⟩ := h.arcs i a hi
  rcases h2 with ⟨q1, q2, q3, q4⟩ | ⟨q1, q2, q3, q4, q5, _⟩
  · have := (List.getElem?_eq_some_iff.1 q4).1
    exact rArc_arc (by omega) (by omega) (by omega) h1 (by omega) (by omega) (by omega) r false
  · exact rArc_arc (by omega) (by omega) (by omega) h1 (by omega) (by omega) (by omega) r false
theorem raw_encode {x : Idx} (h : Allowed x) : rawOf (encodeOf x) = some x := by
  obtain ⟨n1, n2, n3, n4⟩ := h.net
  have hr := h.rankLen
  have hu := h.upLen
  have hd := h.downLen
  have hc := h.count
  obtain ⟨n, hn⟩ : ∃ n : Nat, x.n = n := ⟨x.n.toNat, by omega⟩
  have hul : x.up.length = n := by omega
  have hdl : x.down.length = n := by omega
  have hrl : x.rank.length = n := by omega
  have hE := rep_flat (f := rEdge) (B := edgeB) (bad := false) x.es.length x.es rfl (fun e he r => rEdge_edge (by
    obtain ⟨a1, a2, a3, a4⟩ := n4 e he
    refine ⟨?_, ?_, ?_, ?_⟩ <;> omega) r false)
  have hR := rep_flat (f := rRank) (B := rankB) (bad := false) n x.rank hrl (fun e he r => rRank_rank (rank_lt h e he) r false)
  have hA := rep_flat (f := rArc) (B := arcB) (bad := false) x.arcs.length x.arcs rfl (reads_arcs h)
  have hU := rep_flat (f := rList) (B := rowB) (bad := false) n x.up hul (reads_up h)
  have hD := rep_flat (f := rList) (B := rowB) (bad := false) n x.down hdl (reads_down h)
  have e0 : encodeOf x = [77, 73, 88, 49] ++ (fourOf n ++ (fourOf (x.es.length : Int) ++ (x.es.flatMap edgeB ++ (x.rank.flatMap rankB ++ (fourOf (x.arcs.length : Int) ++ (x.arcs.flatMap arcB ++ (x.up.flatMap rowB ++ (x.down.flatMap rowB ++ [])))))))) := by
    simp [encodeOf, foursOf, hn]
  have hn32 : (n : Int) % 4294967296 = n := by omega
  rw [raw_eq, e0]
  generalize hT : x.down.flatMap rowB ++ [] = tD at *
  have hD' : rep rList n ⟨tD, false⟩ = (x.down, ⟨[], false⟩) := by rw [← hT]; exact hD []
  generalize hT2 : x.up.flatMap rowB ++ tD = tU at *
  have hU' : rep rList n ⟨tU, false⟩ = (x.up, ⟨tD, false⟩) := by rw [← hT2]; exact hU tD
  have cA : rCount 32 ⟨fourOf (x.arcs.length : Int) ++ (x.arcs.flatMap arcB ++ tU), false⟩ = ((x.arcs.length : Int), ⟨x.arcs.flatMap arcB ++ tU, false⟩) := rCount_four (by rw [List.length_append, flat_len arcB_len]; omega) (by omega)
  generalize hT3 : x.arcs.flatMap arcB ++ tU = tA at *
  have hA' : rep rArc x.arcs.length ⟨tA, false⟩ = (x.arcs, ⟨tU, false⟩) := by rw [← hT3]; exact hA tU
  generalize hT4 : fourOf (x.arcs.length : Int) ++ tA = tM at *
  have hR' := hR tM
  have lR : (x.rank.flatMap rankB ++ tM).length / 4 ≥ n := by rw [List.length_append, flat_len rankB_len]; omega
  generalize hT5 : x.rank.flatMap rankB ++ tM = tR at *
  have cE : rCount 16 ⟨fourOf (x.es.length : Int) ++ (x.es.flatMap edgeB ++ tR), false⟩ = ((x.es.length : Int), ⟨x.es.flatMap edgeB ++ tR, false⟩) := rCount_four (by rw [List.length_append, flat_len edgeB_len]; omega) (by omega)
  have hE' := hE tR
  have pA : partA ⟨fourOf (n : Int) ++ (fourOf (x.es.length : Int) ++ (x.es.flatMap edgeB ++ tR)), false⟩ = (((n : Int), x.es), ⟨tR, false⟩) := by
    simp only [partA, andThen, rFour_four, hn32, cE, Int.toNat_natCast, hE']
  have pB : partB n ⟨tR, false⟩ = ((x.rank, x.arcs, x.up, x.down), ⟨[], false⟩) := by
    simp only [partB, andThen, Int.toNat_natCast, hR', cA, hA', hU', hD']
  generalize hT6 : fourOf (n : Int) ++ (fourOf (x.es.length : Int) ++ (x.es.flatMap edgeB ++ tR)) = tN at *
  have t4 : ([77, 73, 88, 49] ++ tN).take 4 = [(77 : Int), 73, 88, 49] := rfl
  have d4 : ([77, 73, 88, 49] ++ tN).drop 4 = tN := rfl
  unfold rawAB
  rw [if_pos t4, d4, pA]
  simp only
  rw [if_neg (by intro hh; rcases hh with hh | hh; omega; cases hh), pB]
  simp only
  rw [if_neg (by intro hh; rcases hh with hh | hh; cases hh; simp at hh)]
  obtain ⟨xn, _, _, _, _, _⟩ := x
  simp only at hn
  rw [hn]
end Go.Proofs.Ytknhlpmmalcchaa
