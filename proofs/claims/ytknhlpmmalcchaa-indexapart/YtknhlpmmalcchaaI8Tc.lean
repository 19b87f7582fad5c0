/- Steps of the walk. -/
import Derived.Test.YtknhlpmmalcchaaI8Tb
import Derived.KernelRfl
import Derived.Test.YtknhlpmmalcchaaI8Vba
import Derived.Test.YtknhlpmmalcchaaRows
import Derived.ProofKit
set_option linter.all false
set_option linter.unusedVariables false
set_option linter.unusedSimpArgs false
namespace Go.Proofs.Ytknhlpmmalcchaa
open Go Go.VAI
set_option linter.unusedSimpArgs false

/-! ### what is written is read -/
theorem wrap8 (n : Int) : IntKind.u8.wrap n = n % 256 := rfl
theorem rFour_four (v : Int) (l : List Int) (bad : Bool) : rFour ⟨fourOf v ++ l, bad⟩ = (v % 4294967296, ⟨l, bad⟩) := by
  have s24 : shrI .i64 v 24 = v / 16777216 := by
    show v.fdiv (2 ^ (Nat.min (24 : Int).toNat 64)) = _
    rw [show (2 ^ (Nat.min (24 : Int).toNat 64) : Int) = 16777216 from by decide, Int.fdiv_eq_ediv_of_nonneg _ (by omega)]
  have s16 : shrI .i64 v 16 = v / 65536 := by
    show v.fdiv (2 ^ (Nat.min (16 : Int).toNat 64)) = _
    rw [show (2 ^ (Nat.min (16 : Int).toNat 64) : Int) = 65536 from by decide, Int.fdiv_eq_ediv_of_nonneg _ (by omega)]
  have s8 : shrI .i64 v 8 = v / 256 := by
    show v.fdiv (2 ^ (Nat.min (8 : Int).toNat 64)) = _
    rw [show (2 ^ (Nat.min (8 : Int).toNat 64) : Int) = 256 from by decide, Int.fdiv_eq_ediv_of_nonneg _ (by omega)]
  show (numOf _ _ _ _, _) = _
  rw [wrap8, wrap8, wrap8, wrap8, s24, s16, s8, numOf_eq (by omega) (by omega) (by omega) (by omega)]
  congr 1
  omega
theorem foursOf_cons (v : Int) (vs l : List Int) : foursOf (v :: vs) ++ l = fourOf v ++ (foursOf vs ++ l) := by simp [foursOf]
theorem foursOf_nil (l : List Int) : foursOf [] ++ l = l := rfl
theorem rEdge_edge {e : Edge} (h : (0 ≤ e.src ∧ e.src < 4294967296) ∧ (0 ≤ e.dst ∧ e.dst < 4294967296) ∧ (0 ≤ e.mode ∧ e.mode < 4294967296) ∧ (0 ≤ e.cost ∧ e.cost < 4294967296)) (l : List Int) (bad : Bool) : rEdge ⟨edgeB e ++ l, bad⟩ = (e, ⟨l, bad⟩) := by
  obtain ⟨a, b, c, d⟩ := e
  simp only at h
  simp only [edgeB, foursOf_cons, foursOf_nil, rEdge, rFour_four]
  simp only [Prod.mk.injEq, Edge.mk.injEq, and_true]
  omega
theorem rRank_rank {r : Int} (h : -1 ≤ r ∧ r < 4294967295) (l : List Int) (bad : Bool) : rRank ⟨rankB r ++ l, bad⟩ = (r, ⟨l, bad⟩) := by
  simp only [rankB, foursOf_cons, foursOf_nil, rRank, rFour_four]
  simp only [Prod.mk.injEq, and_true]
  omega
theorem rArc_arc {a : Arc} (h1 : 0 ≤ a.src ∧ a.src < 4294967296) (h2 : 0 ≤ a.dst ∧ a.dst < 4294967296) (h3 : 0 ≤ a.mode ∧ a.mode < 4294967296) (h4 : 0 ≤ a.cost ∧ a.cost ≤ 4398046511104) (h5 : -1 ≤ a.edge ∧ a.edge < 4294967295) (h6 : 0 ≤ a.a ∧ a.a < 4294967296) (h7 : 0 ≤ a.b ∧ a.b < 4294967296) (l : List Int) (bad : Bool) : rArc ⟨arcB a ++ l, bad⟩ = (a, ⟨l, bad⟩) := by
  obtain ⟨s, d, m, c, e, p, q⟩ := a
  simp only at h1 h2 h3 h4 h5 h6 h7
  have s32 : shrI .i64 c 32 = c / 4294967296 := by
    show c.fdiv (2 ^ (Nat.min (32 : Int).toNat 64)) = _
    rw [show (2 ^ (Nat.min (32 : Int).toNat 64) : Int) = 4294967296 from by decide, Int.fdiv_eq_ediv_of_nonneg _ (by omega)]
  have e32 : (2 : Int) ^ 32 = 4294967296 := by decide
  have hs : shlI .i64 (c / 4294967296 % 4294967296) 32 = (c / 4294967296 % 4294967296) * 2 ^ 32 := shlI_small (k := 32) (by omega) (by omega) (by rw [e32]; omega)
  have ho : orI .i64 ((c / 4294967296 % 4294967296) * 2 ^ 32) (c % 4294967296) = (c / 4294967296 % 4294967296) * 2 ^ 32 + c % 4294967296 := orI_add (k := 32) (by omega) (by omega) (by rw [e32]; omega) (by rw [e32]; omega)
  simp only [arcB, List.append_assoc, foursOf_cons, foursOf_nil, rArc, rFour_four, s32, hs, ho]
  rw [e32]
  simp only [Prod.mk.injEq, Arc.mk.injEq, and_true]
  omega
theorem rCount_four {size n : Nat} {l : List Int} {bad : Bool} (h : n ≤ l.length / size) (hn : n < 4294967296) : rCount size ⟨fourOf n ++ l, bad⟩ = ((n : Int), ⟨l, bad⟩) := by
  have e : ((n : Int) % 4294967296) = n := by omega
  simp only [rCount, rFour_four, e]
  rw [if_neg (by omega)]
theorem rep_flat {α : Type} {f : RS → α × RS} {B : α → List Int} {bad : Bool} : ∀ (n : Nat) (l : List α), l.length = n → (∀ a ∈ l, ∀ r, f ⟨B a ++ r, bad⟩ = (a, ⟨r, bad⟩)) → ∀ r, rep f n ⟨l.flatMap B ++ r, bad⟩ = (l, ⟨r, bad⟩)
  | 0, l, h, _, r => by
    have := List.eq_nil_of_length_eq_zero h
    subst this; rfl
  | n + 1, l, h, hf, r => by
    obtain ⟨l', a, rfl⟩ : ∃ l' a, l = l' ++ [a] := by
      have hne : l ≠ [] := fun e => by simp [e] at h
      exact ⟨l.dropLast, l.getLast hne, (List.dropLast_concat_getLast hne).symm⟩
    simp at h
    have ih := rep_flat (f := f) (B := B) n l' h (fun b hb => hf b (by simp [hb])) (B a ++ r)
    have e : (l' ++ [a]).flatMap B ++ r = l'.flatMap B ++ (B a ++ r) := by simp
    rw [e, rep, ih, hf a (by simp)]
theorem rList_row {l : List Int} (h : ∀ x ∈ l, 0 ≤ x ∧ x < 4294967296) (hl : l.length < 4294967296) (r : List Int) (bad : Bool) : rList ⟨rowB l ++ r, bad⟩ = (l, ⟨r, bad⟩) := by
  have e : rowB l ++ r = fourOf (l.length : Int) ++ (foursOf l ++ r) := by simp [rowB, foursOf]
  have hc : rCount 4 ⟨fourOf (l.length : Int) ++ (foursOf l ++ r), bad⟩ = ((l.length : Int), ⟨foursOf l ++ r, bad⟩) := rCount_four (by rw [List.length_append, foursOf_length]; omega) hl
  simp only [rList, e, hc, Int.toNat_natCast]
  exact rep_flat l.length l rfl (fun a ha r => by
    have := h a ha
    rw [rFour_four]
    rw [show a % 4294967296 = a by omega]) r

/-! ### reading on -/
structure Reads {α : Type} (f : RS → α × RS) : Prop where
  bad : ∀ s, s.bad = true → (f s).2.bad = true
  ext : ∀ s, (f s).2.bad = false → ∀ r, f ⟨s.left ++ r, s.bad⟩ = ((f s).1, ⟨(f s).2.left ++ r, (f s).2.bad⟩)
def andThen {α β : Type} (f : RS → α × RS) (g : α → RS → β × RS) (s : RS) : β × RS := g (f s).1 (f s).2
theorem Reads.bind {α β : Type} {f : RS → α × RS} {g : α → RS → β × RS} (hf : Reads f) (hg : ∀ a, Reads (g a)) : Reads (andThen f g) := by
  refine ⟨fun s h => (hg _).bad _ (hf.bad s h), fun s h r => ?_⟩
  have hb : (f s).2.bad = false := by
    cases hx : (f s).2.bad with
    | false => rfl
    | true =>
      have := (hg (f s).1).bad _ hx
      unfold andThen at h
      rw [h] at this; cases this
  unfold andThen at h ⊢
  rw [hf.ext s hb r]
  exact (hg _).ext _ h r
theorem Reads.done {α : Type} (a : α) : Reads (fun s : RS => (a, s)) := ⟨fun s h => h, fun s h r => rfl⟩
/-- The first part, up to the edges; then the rest. -/
def partA : RS → (Int × List Edge) × RS := andThen rFour fun n => andThen (rCount 16) fun k => andThen (rep rEdge k.toNat) fun es s => ((n, es), s)
def partB (n : Int) : RS → (List Int × List Arc × List (List Int) × List (List Int)) × RS := andThen (rep rRank n.toNat) fun rank => andThen (rCount 32) fun m => andThen (rep rArc m.toNat) fun arcs => andThen (rep rList n.toNat) fun up => andThen (rep rList n.toNat) fun down s => ((rank, arcs, up, down), s)
def rawAB (b : List Int) : Option Idx :=
  if b.take 4 = [77, 73, 88, 49] then
    if (((partA ⟨b.drop 4, false⟩).2.left.length / 4 : Nat) : Int) < (partA ⟨b.drop 4, false⟩).1.1 ∨ (partA ⟨b.drop 4, false⟩).2.bad = true then none else
    if (partB (partA ⟨b.drop 4, false⟩).1.1 (partA ⟨b.drop 4, false⟩).2).2.bad = true ∨ 0 < (partB (partA ⟨b.drop 4, false⟩).1.1 (partA ⟨b.drop 4, false⟩).2).2.left.length then none
    else some ⟨(partA ⟨b.drop 4, false⟩).1.1, (partA ⟨b.drop 4, false⟩).1.2, (partB (partA ⟨b.drop 4, false⟩).1.1 (partA ⟨b.drop 4, false⟩).2).1.1, (partB (partA ⟨b.drop 4, false⟩).1.1 (partA ⟨b.drop 4, false⟩).2).1.2.1, (partB (partA ⟨b.drop 4, false⟩).1.1 (partA ⟨b.drop 4, false⟩).2).1.2.2.1, (partB (partA ⟨b.drop 4, false⟩).1.1 (partA ⟨b.drop 4, false⟩).2).1.2.2.2⟩
  else none
theorem raw_eq (b : List Int) : rawOf b = rawAB b := rfl
end Go.Proofs.Ytknhlpmmalcchaa

namespace Go.Proofs.Ytknhlpmmalcchaa
open Go Go.VAI
set_option linter.unusedSimpArgs false

theorem arc_mode {n : Int} {es : List Edge} {arcs : List Arc} (hn : NetOk n es) (h : ∀ (i : Nat) a, arcs[i]? = some a → ArcOk es arcs i a) : ∀ m, ∀ (i : Nat) a, i < m → arcs[i]? = some a → 0 ≤ a.mode ∧ a.mode < 5 := by
  intro m
  induction m with
  | zero => intro i a hi; omega
  | succ m ih =>
    intro i a hi ha
    rcases (h i a ha).2 with ⟨h1, h2, h3, h4⟩ | ⟨h1, h2, h3, h4, h5, p, q, h6, h7, h8, h9⟩
    · exact (hn.2.2.2 _ (List.mem_of_getElem? h4)).2.2.1
    · have e1 := ih _ p (by omega) h6
      rw [h8] at e1
      exact e1
theorem rank_lt {x : Idx} (h : Allowed x) : ∀ r ∈ x.rank, -1 ≤ r ∧ r < 4294967295 := by
  intro r hr
  have h1 := (allowed_enc h).1 r hr
  omega
theorem row_lt {arcs : List Arc} {l : List Int} (h : ∀ y ∈ l, 0 ≤ y ∧ ∃ a, arcs[y.toNat]? = some a) (hn : l.Nodup) (hc : arcs.length ≤ 300000) : (∀ y ∈ l, 0 ≤ y ∧ y < 4294967296) ∧ l.length < 4294967296 := by
  have h1 : ∀ y ∈ l, 0 ≤ y ∧ y < arcs.length := fun y hy => by
    obtain ⟨h1, a, h2⟩ := h y hy
    have := (List.getElem?_eq_some_iff.1 h2).1
    exact ⟨h1, by omega⟩
  have h2 := few_below arcs.length l hn h1
  exact ⟨fun y hy => by have := h1 y hy; omega, by omega⟩
theorem mem_at {α : Type} {l : List α} {a : α} (h : a ∈ l) : ∃ i : Nat, l[i]? = some a := by
  obtain ⟨i, hi, e⟩ := List.getElem_of_mem h
  exact ⟨i, by simp [hi, e]⟩
theorem reads_up {x : Idx} (h : Allowed x) : ∀ l ∈ x.up, ∀ r, rList ⟨rowB l ++ r, false⟩ = (l, ⟨r, false⟩) := by
  intro l hl r
  obtain ⟨i, hi⟩ := mem_at hl
  have hu := h.up i l hi
  have := row_lt (arcs := x.arcs) (fun y hy => by obtain ⟨h1, a, h2, _⟩ := hu.2 y hy; exact ⟨h1, a, h2⟩) hu.1 h.count
  exact rList_row this.1 this.2 r false
theorem reads_down {x : Idx} (h : Allowed x) : ∀ l ∈ x.down, ∀ r, rList ⟨rowB l ++ r, false⟩ = (l, ⟨r, false⟩) := by
  intro l hl r
  obtain ⟨i, hi⟩ := mem_at hl
  have hu := h.down i l hi
  have := row_lt (arcs := x.arcs) (fun y hy => by obtain ⟨h1, a, h2, _⟩ := hu.2 y hy; exact ⟨h1, a, h2⟩) hu.1 h.count
  exact rList_row this.1 this.2 r false
theorem reads_arcs {x : Idx} (h : Allowed x) : ∀ a ∈ x.arcs, ∀ r, rArc ⟨arcB a ++ r, false⟩ = (a, ⟨r, false⟩) := by
  intro a ha r
  obtain ⟨i, hi⟩ := mem_at ha
  have hil := (List.getElem?_eq_some_iff.1 hi).1
  have hc := h.count
  have he := arc_ends h.net h.arcs (i + 1) i a (by omega) hi
  have hm := arc_mode h.net h.arcs (i + 1) i a (by omega) hi
  have hn := h.net.2.1
  have hel := h.net.2.2.1
  obtain ⟨h1, h2⟩ := h.arcs i a hi
  rcases h2 with ⟨q1, q2, q3, q4⟩ | ⟨q1, q2, q3, q4, q5, _⟩
  · have := (List.getElem?_eq_some_iff.1 q4).1
    exact rArc_arc (by omega) (by omega) (by omega) h1 (by omega) (by omega) (by omega) r false
  · exact rArc_arc (by omega) (by omega) (by omega) h1 (by omega) (by omega) (by omega) r false
theorem raw_encode {x : Idx} (h : Allowed x) : rawOf (encodeOf x) = some x := by
  obtain ⟨n1, n2, n3, n4⟩ := h.net
  have hr := h.rankLen
  have hu := h.upLen
  have hd := h.downLen
  have hc := h.count
  obtain ⟨n, hn⟩ : ∃ n : Nat, x.n = n := ⟨x.n.toNat, by omega⟩
  have hul : x.up.length = n := by omega
  have hdl : x.down.length = n := by omega
  have hrl : x.rank.length = n := by omega
  have hE := rep_flat (f := rEdge) (B := edgeB) (bad := false) x.es.length x.es rfl (fun e he r => rEdge_edge (by
    obtain ⟨a1, a2, a3, a4⟩ := n4 e he
    refine ⟨?_, ?_, ?_, ?_⟩ <;> omega) r false)
  have hR := rep_flat (f := rRank) (B := rankB) (bad := false) n x.rank hrl (fun e he r => rRank_rank (rank_lt h e he) r false)
  have hA := rep_flat (f := rArc) (B := arcB) (bad := false) x.arcs.length x.arcs rfl (reads_arcs h)
  have hU := rep_flat (f := rList) (B := rowB) (bad := false) n x.up hul (reads_up h)
  have hD := rep_flat (f := rList) (B := rowB) (bad := false) n x.down hdl (reads_down h)
  have e0 : encodeOf x = [77, 73, 88, 49] ++ (fourOf n ++ (fourOf (x.es.length : Int) ++ (x.es.flatMap edgeB ++ (x.rank.flatMap rankB ++ (fourOf (x.arcs.length : Int) ++ (x.arcs.flatMap arcB ++ (x.up.flatMap rowB ++ (x.down.flatMap rowB ++ [])))))))) := by
    simp [encodeOf, foursOf, hn]
  have hn32 : (n : Int) % 4294967296 = n := by omega
  rw [raw_eq, e0]
  generalize hT : x.down.flatMap rowB ++ [] = tD at *
  have hD' : rep rList n ⟨tD, false⟩ = (x.down, ⟨[], false⟩) := by rw [← hT]; exact hD []
  generalize hT2 : x.up.flatMap rowB ++ tD = tU at *
  have hU' : rep rList n ⟨tU, false⟩ = (x.up, ⟨tD, false⟩) := by rw [← hT2]; exact hU tD
  have cA : rCount 32 ⟨fourOf (x.arcs.length : Int) ++ (x.arcs.flatMap arcB ++ tU), false⟩ = ((x.arcs.length : Int), ⟨x.arcs.flatMap arcB ++ tU, false⟩) := rCount_four (by rw [List.length_append, flat_len arcB_len]; omega) (by omega)
  generalize hT3 : x.arcs.flatMap arcB ++ tU = tA at *
  have hA' : rep rArc x.arcs.length ⟨tA, false⟩ = (x.arcs, ⟨tU, false⟩) := by rw [← hT3]; exact hA tU
  generalize hT4 : fourOf (x.arcs.length : Int) ++ tA = tM at *
  have hR' := hR tM
  have lR : (x.rank.flatMap rankB ++ tM).length / 4 ≥ n := by rw [List.length_append, flat_len rankB_len]; omega
  generalize hT5 : x.rank.flatMap rankB ++ tM = tR at *
  have cE : rCount 16 ⟨fourOf (x.es.length : Int) ++ (x.es.flatMap edgeB ++ tR), false⟩ = ((x.es.length : Int), ⟨x.es.flatMap edgeB ++ tR, false⟩) := rCount_four (by rw [List.length_append, flat_len edgeB_len]; omega) (by omega)
  have hE' := hE tR
  have pA : partA ⟨fourOf (n : Int) ++ (fourOf (x.es.length : Int) ++ (x.es.flatMap edgeB ++ tR)), false⟩ = (((n : Int), x.es), ⟨tR, false⟩) := by
    simp only [partA, andThen, rFour_four, hn32, cE, Int.toNat_natCast, hE']
  have pB : partB n ⟨tR, false⟩ = ((x.rank, x.arcs, x.up, x.down), ⟨[], false⟩) := by
    simp only [partB, andThen, Int.toNat_natCast, hR', cA, hA', hU', hD']
  generalize hT6 : fourOf (n : Int) ++ (fourOf (x.es.length : Int) ++ (x.es.flatMap edgeB ++ tR)) = tN at *
  have t4 : ([77, 73, 88, 49] ++ tN).take 4 = [(77 : Int), 73, 88, 49] := rfl
  have d4 : ([77, 73, 88, 49] ++ tN).drop 4 = tN := rfl
  unfold rawAB
  rw [if_pos t4, d4, pA]
  simp only
  rw [if_neg (by intro hh; rcases hh with hh | hh; omega; cases hh), pB]
  simp only
  rw [if_neg (by intro hh; rcases hh with hh | hh; cases hh; simp at hh)]
  obtain ⟨xn, _, _, _, _, _⟩ := x
  simp only at hn
  rw [hn]
end Go.Proofs.Ytknhlpmmalcchaa

namespace Go.Proofs.Ytknhlpmmalcchaa
open Go Go.VAI
set_option linter.unusedSimpArgs false

/-! ### what is read is what was written -/
theorem Bytes.drop' {a b : List Int} (h : Bytes (a ++ b)) : Bytes b := fun x hx => h x (by simp [hx])
theorem nbad {α : Type} {f : RS → α × RS} (hf : Reads f) {s : RS} (h : (f s).2.bad = false) : s.bad = false := by
  cases hx : s.bad with
  | false => rfl
  | true => have := hf.bad s hx; rw [h] at this; cases this
/-- What a reader takes is what a writer lays. -/
def Writes {α : Type} (f : RS → α × RS) (B : α → List Int) : Prop := ∀ s, Bytes s.left → (f s).2.bad = false → s.left = B (f s).1 ++ (f s).2.left
theorem Writes.bytes {α : Type} {f : RS → α × RS} {B : α → List Int} (h : Writes f B) {s : RS} (hb : Bytes s.left) (hn : (f s).2.bad = false) : Bytes (f s).2.left := by
  have := h s hb hn
  rw [this] at hb
  exact hb.drop'
theorem Writes.bind {α β : Type} {f : RS → α × RS} {g : α → RS → β × RS} {B : α → List Int} {C : α → β → List Int} (hf : Writes f B) (hg : ∀ a, Writes (g a) (C a)) (hr : ∀ a, Reads (g a)) : ∀ s, Bytes s.left → (andThen f g s).2.bad = false → s.left = B (f s).1 ++ (C (f s).1 (andThen f g s).1 ++ (andThen f g s).2.left) := by
  intro s hb hn
  have h1 : (f s).2.bad = false := nbad (hr _) hn
  have h2 := hf s hb h1
  have h3 := hg (f s).1 (f s).2 (hf.bytes hb h1) hn
  conv => lhs; rw [h2]
  congr 1
/-- What a reader takes, by what it has read. -/
def Takes {β : Type} (h : RS → β × RS) (R : β → List Int → Prop) : Prop := ∀ s, Bytes s.left → (h s).2.bad = false → ∃ l, R (h s).1 l ∧ s.left = l ++ (h s).2.left
theorem Takes.done {β : Type} (x : β) : Takes (fun s : RS => (x, s)) (fun r l => r = x ∧ l = []) := fun s _ _ => ⟨[], ⟨rfl, rfl⟩, rfl⟩
theorem Takes.bind {α β : Type} {f : RS → α × RS} {g : α → RS → β × RS} {R1 : α → List Int → Prop} {R2 : α → β → List Int → Prop} (hf : Takes f R1) (hg : ∀ a, Takes (g a) (R2 a)) (hr : ∀ a, Reads (g a)) : Takes (andThen f g) (fun r l => ∃ a l1 l2, R1 a l1 ∧ R2 a r l2 ∧ l = l1 ++ l2) := by
  intro s hb hn
  have h1 : (f s).2.bad = false := nbad (hr _) hn
  obtain ⟨l1, q1, e1⟩ := hf s hb h1
  have hb2 : Bytes (f s).2.left := by
    rw [e1] at hb
    exact hb.drop'
  obtain ⟨l2, q2, e2⟩ := hg (f s).1 (f s).2 hb2 hn
  refine ⟨l1 ++ l2, ⟨(f s).1, l1, l2, q1, q2, rfl⟩, ?_⟩
  rw [e1, e2, List.append_assoc]
  rfl
end Go.Proofs.Ytknhlpmmalcchaa

namespace Go.Proofs.Ytknhlpmmalcchaa
open Go Go.VAI
set_option linter.unusedSimpArgs false

end Go.Proofs.Ytknhlpmmalcchaa

namespace Go.Proofs.Ytknhlpmmalcchaa
open Go Go.VAI
set_option linter.unusedSimpArgs false

end Go.Proofs.Ytknhlpmmalcchaa

namespace Go.Proofs.Ytknhlpmmalcchaa
open Go Go.VAI
set_option linter.unusedSimpArgs false

theorem fourOf_bytes (v : Int) : Bytes (fourOf v) := by
  intro b hb
  unfold fourOf at hb
  rw [wrap8, wrap8, wrap8, wrap8] at hb
  simp only [List.mem_cons, List.not_mem_nil, or_false] at hb
  omega
theorem Bytes.app {a b : List Int} (ha : Bytes a) (hb : Bytes b) : Bytes (a ++ b) := fun x hx => (List.mem_append.1 hx).elim (ha x) (hb x)
theorem Bytes.flat {α : Type} {f : α → List Int} {l : List α} (h : ∀ a, Bytes (f a)) : Bytes (l.flatMap f) := fun x hx => by
  obtain ⟨a, _, ha⟩ := List.mem_flatMap.1 hx
  exact h a x ha
theorem foursOf_bytes (l : List Int) : Bytes (foursOf l) := Bytes.flat fourOf_bytes
theorem encode_bytes (x : Idx) : Bytes (encodeOf x) := by
  unfold encodeOf
  have hm : Bytes [77, 73, 88, 49] := by intro b hb; simp at hb; omega
  exact ((((((hm.app (foursOf_bytes _)).app (Bytes.flat fun e => foursOf_bytes _)).app (Bytes.flat fun e => foursOf_bytes _)).app (foursOf_bytes _)).app (Bytes.flat fun a => ((foursOf_bytes _).app (foursOf_bytes _)).app (foursOf_bytes _))).app (Bytes.flat fun e => (foursOf_bytes _).app (foursOf_bytes _))).app (Bytes.flat fun e => (foursOf_bytes _).app (foursOf_bytes _))
end Go.Proofs.Ytknhlpmmalcchaa

namespace Go.Proofs.Ytknhlpmmalcchaa
open Go Go.VAI
set_option linter.unusedSimpArgs false

def look2 (x : Option (AVal × AHeap)) : Option (Bool × Nat × List (Option AObj)) :=
  match x with
  | some (.bool b, H) => some (b, H.next, [H.obj 0, H.obj 1])
  | _ => none
def known26N2 : Nat := match look2 (callA A 100 26 [] ⟨fun _ => none, 2⟩) with | some (_, n, _) => n | none => 0
theorem e26x2 (f : Nat → Option AObj) : look2 (callA A 100 26 [] ⟨f, 2⟩) = some (true, known26N2, [f 0, f 1]) := by kernel_rfl
theorem known26N2_ge : 2 ≤ known26N2 := by decide +kernel
theorem known26x2_ret {f : Nat → Option AObj} {Q : AVal → AHeap → Prop} (hq : ∀ H', Keep Nothing ⟨f, 2⟩ H' → Q (.bool true) H') : Ret A 26 [] ⟨f, 2⟩ Q := by
  have h := e26x2 f
  unfold look2 at h
  split at h
  · rename_i b H' e
    injection h with h
    injection h with h1 h2
    injection h2 with h2 h3
    subst h1
    refine Ret.test (n := 100) (.bool true, H') e (hq H' ⟨by rw [h2]; exact known26N2_ge, fun i hi _ => ?_⟩)
    simp only [List.cons.injEq, and_true] at h3
    have hi : i < 2 := hi
    match i, hi with
    | 0, _ => exact h3.1
    | 1, _ => exact h3.2
  · cases h

end Go.Proofs.Ytknhlpmmalcchaa

namespace Go.Proofs.Ytknhlpmmalcchaa
open Go Go.VAI
set_option linter.unusedSimpArgs false

end Go.Proofs.Ytknhlpmmalcchaa

namespace Go.Proofs.Ytknhlpmmalcchaa
open Go Go.VAI
set_option linter.unusedSimpArgs false

theorem take_eq_succ {α : Type} {l m : List α} {i : Nat} {x : α} (h : l.take i = m.take i) (hl : l[i]? = some x) (hm : m[i]? = some x) : l.take (i + 1) = m.take (i + 1) := by
  obtain ⟨a, b⟩ := List.getElem?_eq_some_iff.1 hl
  obtain ⟨c, d⟩ := List.getElem?_eq_some_iff.1 hm
  rw [List.take_succ_eq_append_getElem a, List.take_succ_eq_append_getElem c, h, b, d]
theorem take_all_eq {α : Type} {l m : List α} (hn : l.length = m.length) (h : l.take l.length = m.take l.length) : l = m := by
  rw [List.take_length, hn, List.take_length] at h
  exact h
set_option maxRecDepth 20000 in
theorem ints_ret {lv mv : AVal} {l m : List Int} {H : AHeap} {Q : AVal → AHeap → Prop} (hl : Row H lv 1 (ints l)) (hm : Row H mv 1 (ints m)) (hlen : l.length ≤ 4611686018427387904) (hq : ∀ b, Says b (l = m) → Q (.bool b) H) : Ret A 40 [lv, mv] H Q := by
  refine Ret.of (fn := F40) rfl ?_
  have h1 := hl.len1
  have h2 := hm.len1
  rw [ints_length] at h1 h2
  by_cases hn : (l.length : Int) = m.length
  · simp (disch := first | omega | (simp only [next_new, next_upd] <;> omega) | fail) only [vai, vaim, vaic, bots, Bool.not_true, Bool.not_false, decide_true, decide_false, wrap64, F40, h1, h2, hn, ne_eq, not_true_eq_false, Nat.reduceAdd, Nat.reduceMul, Nat.reduceLeDiff, Nat.reduceEqDiff, ↓reduceIte]
    refine wpx_loop (fun k t H' => ∃ (i : Nat), k = l.length - i ∧ i ≤ l.length ∧ t = (lv :: mv :: bots 3 (.int .i64 i :: bots 20 ([])) : Tmps) ∧ H' = H ∧ l.take i = m.take i) l.length ?_ ?_
    · exact ⟨0, rfl, by omega, rfl, rfl, by simp⟩
    · rintro k t H1 ⟨i, rfl, hi, rfl, rfl, hin⟩
      by_cases hc : (i : Int) < m.length
      · have hil : i < l.length := by omega
        have him : i < m.length := by omega
        have ex : l[i]? = some l[i] := by simp [hil]
        have ey : m[i]? = some m[i] := by simp [him]
        obtain ⟨ix, ox, x1, x2, x3⟩ := hl.int_at (k := .i64) ex
        obtain ⟨iy, oy, y1, y2, y3⟩ := hm.int_at (k := .i64) ey
        have hne : l[i] ≠ m[i] → l ≠ m := fun h e => h (by subst e; rfl)
        generalize l[i] = x at *
        generalize m[i] = y at *
        by_cases hxy : x = y
        · subst hxy
          simp (disch := first | omega | (simp only [next_new, next_upd] <;> omega) | fail) only [vai, vaim, vaic, bots, Bool.not_true, Bool.not_false, decide_true, decide_false, wrap64, h1, hn, hc, x1, x3, y1, y3, ne_eq, not_true_eq_false, Nat.reduceAdd, Nat.reduceMul, Nat.reduceLeDiff, Nat.reduceEqDiff, ↓reduceIte]
          exact ⟨l.length - (i + 1), by omega, i + 1, rfl, by omega, rfl, take_eq_succ hin ex ey⟩
        · simp (disch := first | omega | (simp only [next_new, next_upd] <;> omega) | fail) only [vai, vaim, vaic, bots, Bool.not_true, Bool.not_false, decide_true, decide_false, wrap64, h1, hn, hc, x1, x3, y1, y3, hxy, ne_eq, not_true_eq_false, not_false_eq_true, Nat.reduceAdd, Nat.reduceMul, Nat.reduceLeDiff, Nat.reduceEqDiff, ↓reduceIte]
          exact hq _ (says_no (hne hxy))
      · have : i = l.length := by omega
        subst this
        simp (disch := first | omega | (simp only [next_new, next_upd] <;> omega) | fail) only [vai, vaim, vaic, bots, Bool.not_true, Bool.not_false, decide_true, decide_false, wrap64, h1, hn, hc, Int.lt_irrefl, Nat.reduceAdd, Nat.reduceMul, Nat.reduceLeDiff, Nat.reduceEqDiff, ↓reduceIte]
        exact hq _ (says_yes (take_all_eq (by omega) hin))
  · simp (disch := first | omega | (simp only [next_new, next_upd] <;> omega) | fail) only [vai, vaim, vaic, bots, Bool.not_true, Bool.not_false, decide_true, decide_false, wrap64, F40, h1, h2, hn, ne_eq, not_false_eq_true, Nat.reduceAdd, Nat.reduceMul, Nat.reduceLeDiff, Nat.reduceEqDiff, ↓reduceIte]
    exact hq _ (says_no fun e => hn (by rw [e]))
theorem nflat4 {a b c d e f g h : Int} : abin .neq (.flat [.int, .int, .int, .int]) (.agg [.int .i64 a, .int .i64 b, .int .i64 c, .int .i64 d]) (.agg [.int .i64 e, .int .i64 f, .int .i64 g, .int .i64 h]) = some (.bool (!(decide (a = e) && (decide (b = f) && (decide (c = g) && (decide (d = h) && true)))))) := rfl
theorem nflat7 {a b c d e f g a' b' c' d' e' f' g' : Int} : abin .neq (.flat [.int, .int, .int, .int, .int, .int, .int]) (.agg [.int .i64 a, .int .i64 b, .int .i64 c, .int .i64 d, .int .i64 e, .int .i64 f, .int .i64 g]) (.agg [.int .i64 a', .int .i64 b', .int .i64 c', .int .i64 d', .int .i64 e', .int .i64 f', .int .i64 g']) = some (.bool (!(decide (a = a') && (decide (b = b') && (decide (c = c') && (decide (d = d') && (decide (e = e') && (decide (f = f') && (decide (g = g') && true))))))))) := rfl
theorem edge_neq {x y : Edge} : abin .neq (.flat [.int, .int, .int, .int]) (.agg x.cells) (.agg y.cells) = some (.bool (decide (x ≠ y))) := by
  obtain ⟨a, b, c, d⟩ := x
  obtain ⟨e, f, g, h⟩ := y
  simp only [Edge.cells, nflat4]
  congr 2
  by_cases h1 : a = e <;> by_cases h2 : b = f <;> by_cases h3 : c = g <;> by_cases h4 : d = h <;> simp [h1, h2, h3, h4]
theorem arc_neq {x y : Arc} : abin .neq (.flat [.int, .int, .int, .int, .int, .int, .int]) (.agg x.cells) (.agg y.cells) = some (.bool (decide (x ≠ y))) := by
  obtain ⟨a, b, c, d, e, f, g⟩ := x
  obtain ⟨a', b', c', d', e', f', g'⟩ := y
  simp only [Arc.cells, nflat7]
  congr 2
  simp only [ne_eq, Arc.mk.injEq, Bool.and_true, ← Bool.decide_and, ← decide_not]
set_option maxRecDepth 20000 in
theorem netSame_ret {n m : Int} {ev fv : AVal} {es fs : List Edge} {H : AHeap} {Q : AVal → AHeap → Prop} (he : Row H ev 4 (edgeCells es)) (hf : Row H fv 4 (edgeCells fs)) (hlen : es.length ≤ 4611686018427387904)
    (hq : ∀ b H', Keep Nothing H H' → Says b (n = m ∧ es = fs) → Q (.bool b) H') : Ret A 49 [.agg [.int .i64 n, ev], .agg [.int .i64 m, fv]] H Q := by
  refine Ret.of (fn := F49) rfl ?_
  have h1 := he.len (by omega) (edgeCells_length es)
  have h2 := hf.len (by omega) (edgeCells_length fs)
  have be := he.beq
  have bf := hf.beq
  have k0 : Keep Nothing H ((H.new (.cells [.int .i64 n, ev] true)).new (.cells [.int .i64 m, fv] true)) := ((Keep.refl _ _).new _).new _
  by_cases hnm : n = m
  · by_cases hn : (es.length : Int) = fs.length
    · simp (disch := first | omega | (simp only [next_new, next_upd] <;> omega) | fail) only [vai, vaim, vaic, bots, Bool.not_true, Bool.not_false, decide_true, decide_false, wrap64, F49, h1, h2, hnm, hn, ne_eq, not_true_eq_false, Nat.reduceAdd, Nat.reduceMul, Nat.reduceLeDiff, Nat.reduceEqDiff, ↓reduceIte]
      refine wpx_loop (fun k t H' => ∃ (i : Nat), k = es.length - i ∧ i ≤ es.length ∧ t = (bots 2 (.ptr H.next 0 :: .ptr (H.next + 1) 0 :: bots 1 (.int .i64 i :: bots 32 ([]))) : Tmps) ∧ H' = (H.new (.cells [.int .i64 m, ev] true)).new (.cells [.int .i64 m, fv] true) ∧ es.take i = fs.take i) es.length ?_ ?_
      · exact ⟨0, rfl, by omega, rfl, rfl, by simp⟩
      · rintro k t H1 ⟨i, rfl, hi, rfl, rfl, hin⟩
        by_cases hc : (i : Int) < fs.length
        · have hil : i < es.length := by omega
          have him : i < fs.length := by omega
          have ex : es[i]? = some es[i] := by simp [hil]
          have ey : fs[i]? = some fs[i] := by simp [him]
          obtain ⟨ix, ox, x1, _, x2, _, _, _, x3⟩ := edge_at he ex
          obtain ⟨iy, oy, y1, _, y2, _, _, _, y3⟩ := edge_at hf ey
          have hne : es[i] ≠ fs[i] → es ≠ fs := fun h e => h (by subst e; rfl)
          generalize es[i] = x at *
          generalize fs[i] = y at *
          by_cases hxy : x = y
          · simp (disch := first | omega | (simp only [next_new, next_upd] <;> omega) | fail) only [vai, vaim, vaic, bots, Bool.not_true, Bool.not_false, decide_true, decide_false, wrap64, h1, hn, hc, x1, x3, y1, y3, edge_neq, hxy, ne_eq, not_true_eq_false, Nat.reduceAdd, Nat.reduceMul, Nat.reduceLeDiff, Nat.reduceEqDiff, ↓reduceIte]
            subst hxy
            exact ⟨es.length - (i + 1), by omega, i + 1, rfl, by omega, rfl, take_eq_succ hin ex ey⟩
          · simp (disch := first | omega | (simp only [next_new, next_upd] <;> omega) | fail) only [vai, vaim, vaic, bots, Bool.not_true, Bool.not_false, decide_true, decide_false, wrap64, h1, hn, hc, x1, x3, y1, y3, edge_neq, hxy, ne_eq, not_true_eq_false, not_false_eq_true, Nat.reduceAdd, Nat.reduceMul, Nat.reduceLeDiff, Nat.reduceEqDiff, ↓reduceIte]
            subst hnm
            exact hq _ _ k0 (says_no fun e => hne hxy e.2)
        · have : i = es.length := by omega
          subst this
          simp (disch := first | omega | (simp only [next_new, next_upd] <;> omega) | fail) only [vai, vaim, vaic, bots, Bool.not_true, Bool.not_false, decide_true, decide_false, wrap64, h1, hn, hc, Int.lt_irrefl, Nat.reduceAdd, Nat.reduceMul, Nat.reduceLeDiff, Nat.reduceEqDiff, ↓reduceIte]
          subst hnm
          exact hq _ _ k0 (says_yes ⟨rfl, take_all_eq (by omega) hin⟩)
    · simp (disch := first | omega | (simp only [next_new, next_upd] <;> omega) | fail) only [vai, vaim, vaic, bots, Bool.not_true, Bool.not_false, decide_true, decide_false, wrap64, F49, h1, h2, hnm, hn, ne_eq, not_true_eq_false, not_false_eq_true, Nat.reduceAdd, Nat.reduceMul, Nat.reduceLeDiff, Nat.reduceEqDiff, ↓reduceIte]
      subst hnm
      exact hq _ _ k0 (says_no fun e => hn (by rw [e.2]))
  · simp (disch := first | omega | (simp only [next_new, next_upd] <;> omega) | fail) only [vai, vaim, vaic, bots, Bool.not_true, Bool.not_false, decide_true, decide_false, wrap64, F49, h1, h2, hnm, ne_eq, not_false_eq_true, Nat.reduceAdd, Nat.reduceMul, Nat.reduceLeDiff, Nat.reduceEqDiff, ↓reduceIte]
    exact hq _ _ k0 (says_no fun e => hnm e.1)
end Go.Proofs.Ytknhlpmmalcchaa

namespace Go.Proofs.Ytknhlpmmalcchaa
open Go Go.VAI
set_option linter.unusedSimpArgs false

def Short62 (x : Idx) : Prop := x.es.length ≤ 4611686018427387904 ∧ x.rank.length ≤ 4611686018427387904 ∧ x.arcs.length ≤ 4611686018427387904 ∧ x.up.length ≤ 4611686018427387904 ∧ (∀ l ∈ x.up, l.length ≤ 4611686018427387904) ∧ ∀ l ∈ x.down, l.length ≤ 4611686018427387904
set_option maxRecDepth 20000 in
set_option maxHeartbeats 4000000 in
theorem same_ret {ew rv av uv dv ew' rv' av' uv' dv' : AVal} {x y : Idx} {H : AHeap} {Q : AVal → AHeap → Prop} (hx : IdxAt H ew rv av uv dv x) (hy : IdxAt H ew' rv' av' uv' dv' y) (hs : Short62 x) (hud : x.up.length = x.down.length)
    (hq : ∀ b H', Keep Nothing H H' → Says b (x = y) → Q (.bool b) H') : Ret A 32 [.agg [.int .i64 x.n, ew, rv, av, uv, dv], .agg [.int .i64 y.n, ew', rv', av', uv', dv']] H Q := by
  refine Ret.of (fn := F32) rfl ?_
  obtain ⟨s1, s2, s3, s4, s5, s6⟩ := hs
  have a1 := hx.arcs.len (by omega) (arcCells_length x.arcs)
  have a2 := hy.arcs.len (by omega) (arcCells_length y.arcs)
  have u1 := hx.up.len
  have u2 := hy.up.len
  have d1 := hx.down.len
  have d2 := hy.down.len
  simp (disch := first | omega | (simp only [next_new, next_upd] <;> omega) | fail) only [vai, vaim, vaic, bots, Bool.not_true, Bool.not_false, decide_true, decide_false, wrap64, F32, Nat.reduceAdd, Nat.reduceMul, Nat.reduceLeDiff, Nat.reduceEqDiff, ↓reduceIte]
  have k0 : Keep Nothing H ((H.new (.cells [.int .i64 x.n, ew, rv, av, uv, dv] true)).new (.cells [.int .i64 y.n, ew', rv', av', uv', dv'] true)) := ((Keep.refl _ _).new _).new _
  refine netSame_ret (hx.es.kept k0) (hy.es.kept k0) s1 fun b H1 k1 c1 => ?_
  have n1 := k1.next
  simp only [next_new] at n1
  have o1 : H1.obj H.next = some (.cells [.int .i64 x.n, ew, rv, av, uv, dv] true) := by rw [k1.old (by simp only [next_new]; omega)]; simp (disch := first | omega | (simp only [next_new, next_upd] <;> omega) | fail) only [vaim]
  have o2 : H1.obj (H.next + 1) = some (.cells [.int .i64 y.n, ew', rv', av', uv', dv'] true) := by rw [k1.old (by simp only [next_new]; omega)]; simp (disch := first | omega | (simp only [next_new, next_upd] <;> omega) | fail) only [vaim]
  have kA := k0.trans k1
  have hx1 := hx.kept kA
  have hy1 := hy.kept kA
  cases b with
  | false =>
    simp (disch := first | omega | (simp only [next_new, next_upd] <;> omega) | fail) only [vai, vaim, vaic, bots, Bool.not_true, Bool.not_false, decide_true, decide_false, wrap64, Nat.reduceAdd, Nat.reduceMul, Nat.reduceLeDiff, Nat.reduceEqDiff, ↓reduceIte]
    exact hq _ _ kA (says_no fun e => by have := c1.2 ⟨by rw [e], by rw [e]⟩; cases this)
  | true =>
    have e1 := c1.1 rfl
    simp (disch := first | omega | (simp only [next_new, next_upd] <;> omega) | fail) only [vai, vaim, vaic, bots, Bool.not_true, Bool.not_false, decide_true, decide_false, wrap64, o1, o2, Nat.reduceAdd, Nat.reduceMul, Nat.reduceLeDiff, Nat.reduceEqDiff, ↓reduceIte]
    refine ints_ret hx1.rank hy1.rank s2 fun b c2 => ?_
    cases b with
    | false =>
      simp (disch := first | omega | (simp only [next_new, next_upd] <;> omega) | fail) only [vai, vaim, vaic, bots, Bool.not_true, Bool.not_false, decide_true, decide_false, wrap64, Nat.reduceAdd, Nat.reduceMul, Nat.reduceLeDiff, Nat.reduceEqDiff, ↓reduceIte]
      exact hq _ _ kA (says_no fun e => by have := c2.2 (by rw [e]); cases this)
    | true =>
      have e2 := c2.1 rfl
      by_cases g1 : (x.arcs.length : Int) = y.arcs.length
      · by_cases g2 : (x.up.length : Int) = y.up.length
        · by_cases g3 : (x.down.length : Int) = y.down.length
          · simp (disch := first | omega | (simp only [next_new, next_upd] <;> omega) | fail) only [vai, vaim, vaic, bots, Bool.not_true, Bool.not_false, decide_true, decide_false, wrap64, o1, o2, a1, a2, u1, u2, d1, d2, g1, g2, g3, ne_eq, not_true_eq_false, Nat.reduceAdd, Nat.reduceMul, Nat.reduceLeDiff, Nat.reduceEqDiff, ↓reduceIte]
            refine wpx_loop (fun k t H' => ∃ (i : Nat), k = x.arcs.length - i ∧ i ≤ x.arcs.length ∧ t = (bots 2 (.ptr H.next 0 :: .ptr (H.next + 1) 0 :: bots 1 (.int .i64 i :: bots 100 ([]))) : Tmps) ∧ H' = H1 ∧ x.arcs.take i = y.arcs.take i) x.arcs.length ?_ ?_
            · exact ⟨0, rfl, by omega, rfl, rfl, by simp⟩
            · rintro k t H2 ⟨i, rfl, hi, rfl, rfl, hin⟩
              by_cases hc : (i : Int) < y.arcs.length
              · have hil : i < x.arcs.length := by omega
                have him : i < y.arcs.length := by omega
                have ex : x.arcs[i]? = some x.arcs[i] := by simp [hil]
                have ey : y.arcs[i]? = some y.arcs[i] := by simp [him]
                obtain ⟨ix, ox, x1, _, _, x3⟩ := arc_at hx1.arcs ex
                obtain ⟨iy, oy, y1, _, _, y3⟩ := arc_at hy1.arcs ey
                have hne : x.arcs[i] ≠ y.arcs[i] → x ≠ y := fun h e => h (by subst e; rfl)
                generalize x.arcs[i] = p at *
                generalize y.arcs[i] = q at *
                by_cases hxy : p = q
                · simp (disch := first | omega | (simp only [next_new, next_upd] <;> omega) | fail) only [vai, vaim, vaic, bots, Bool.not_true, Bool.not_false, decide_true, decide_false, wrap64, o1, o2, a1, a2, g1, hc, x1, x3, y1, y3, arc_neq, hxy, ne_eq, not_true_eq_false, Nat.reduceAdd, Nat.reduceMul, Nat.reduceLeDiff, Nat.reduceEqDiff, ↓reduceIte]
                  subst hxy
                  exact ⟨x.arcs.length - (i + 1), by omega, i + 1, rfl, by omega, rfl, take_eq_succ hin ex ey⟩
                · simp (disch := first | omega | (simp only [next_new, next_upd] <;> omega) | fail) only [vai, vaim, vaic, bots, Bool.not_true, Bool.not_false, decide_true, decide_false, wrap64, o1, o2, a1, a2, g1, hc, x1, x3, y1, y3, arc_neq, hxy, ne_eq, not_true_eq_false, not_false_eq_true, Nat.reduceAdd, Nat.reduceMul, Nat.reduceLeDiff, Nat.reduceEqDiff, ↓reduceIte]
                  exact hq _ _ kA (says_no fun e => hne hxy e)
              · have : i = x.arcs.length := by omega
                subst this
                have e3 := take_all_eq (by omega) hin
                simp (disch := first | omega | (simp only [next_new, next_upd] <;> omega) | fail) only [vai, vaim, vaic, bots, Bool.not_true, Bool.not_false, decide_true, decide_false, wrap64, o1, a1, g1, hc, Int.lt_irrefl, Nat.reduceAdd, Nat.reduceMul, Nat.reduceLeDiff, Nat.reduceEqDiff, ↓reduceIte]
                refine wpx_loop (fun k t H' => ∃ (i : Nat), k = x.up.length - i ∧ i ≤ x.up.length ∧ t = (bots 2 (.ptr H.next 0 :: .ptr (H.next + 1) 0 :: bots 2 (.int .i64 i :: bots 99 ([]))) : Tmps) ∧ H' = H2 ∧ x.up.take i = y.up.take i ∧ x.down.take i = y.down.take i) x.up.length ?_ ?_
                · exact ⟨0, rfl, by omega, rfl, rfl, by simp, by simp⟩
                · rintro k t H3 ⟨i, rfl, hi, rfl, rfl, hin1, hin2⟩
                  by_cases hc : (i : Int) < y.up.length
                  · have hil : i < x.up.length := by omega
                    have him : i < y.up.length := by omega
                    have hdl : i < x.down.length := by omega
                    have hdm : i < y.down.length := by omega
                    have ex : x.up[i]? = some x.up[i] := by simp [hil]
                    have ey : y.up[i]? = some y.up[i] := by simp [him]
                    have fx : x.down[i]? = some x.down[i] := by simp [hdl]
                    have fy : y.down[i]? = some y.down[i] := by simp [hdm]
                    obtain ⟨ix, ox, rx, x1, _, x3, x4⟩ := hx1.up.at (k := .i64) ex
                    obtain ⟨iy, oy, ry, y1, _, y3, y4⟩ := hy1.up.at (k := .i64) ey
                    obtain ⟨jx, px, qx, z1, _, z3, z4⟩ := hx1.down.at (k := .i64) fx
                    obtain ⟨jy, py, qy, w1, _, w3, w4⟩ := hy1.down.at (k := .i64) fy
                    have hne : x.up[i] ≠ y.up[i] → x ≠ y := fun h e => h (by subst e; rfl)
                    have hne2 : x.down[i] ≠ y.down[i] → x ≠ y := fun h e => h (by subst e; rfl)
                    have l1 := s5 _ (List.getElem_mem hil)
                    have l2 := s6 _ (List.getElem_mem hdl)
                    have hcd : ¬ (y.down.length : Int) ≤ i := by omega
                    generalize x.up[i] = p at *
                    generalize y.up[i] = q at *
                    generalize x.down[i] = p' at *
                    generalize y.down[i] = q' at *
                    simp (disch := first | omega | (simp only [next_new, next_upd] <;> omega) | fail) only [vai, vaim, vaic, bots, Bool.not_true, Bool.not_false, decide_true, decide_false, wrap64, o1, o2, u1, u2, g2, hc, x1, x3, y1, y3, Nat.reduceAdd, Nat.reduceMul, Nat.reduceLeDiff, Nat.reduceEqDiff, ↓reduceIte]
                    refine ints_ret x4 y4 l1 fun b c3 => ?_
                    cases b with
                    | false =>
                      simp (disch := first | omega | (simp only [next_new, next_upd] <;> omega) | fail) only [vai, vaim, vaic, bots, Bool.not_true, Bool.not_false, decide_true, decide_false, wrap64, Nat.reduceAdd, Nat.reduceMul, Nat.reduceLeDiff, Nat.reduceEqDiff, ↓reduceIte]
                      exact hq _ _ kA (says_no fun e => hne (fun h => by have := c3.2 h; cases this) e)
                    | true =>
                      have e4 := c3.1 rfl
                      subst e4
                      simp (disch := first | omega | (simp only [next_new, next_upd] <;> omega) | fail) only [vai, vaim, vaic, bots, Bool.not_true, Bool.not_false, decide_true, decide_false, wrap64, o1, o2, d1, d2, g3, hcd, z1, z3, w1, w3, Nat.reduceAdd, Nat.reduceMul, Nat.reduceLeDiff, Nat.reduceEqDiff, ↓reduceIte]
                      refine ints_ret z4 w4 l2 fun b c4 => ?_
                      cases b with
                      | false =>
                        simp (disch := first | omega | (simp only [next_new, next_upd] <;> omega) | fail) only [vai, vaim, vaic, bots, Bool.not_true, Bool.not_false, decide_true, decide_false, wrap64, Nat.reduceAdd, Nat.reduceMul, Nat.reduceLeDiff, Nat.reduceEqDiff, ↓reduceIte]
                        exact hq _ _ kA (says_no fun e => hne2 (fun h => by have := c4.2 h; cases this) e)
                      | true =>
                        have e5 := c4.1 rfl
                        subst e5
                        simp (disch := first | omega | (simp only [next_new, next_upd] <;> omega) | fail) only [vai, vaim, vaic, bots, Bool.not_true, Bool.not_false, decide_true, decide_false, wrap64, Nat.reduceAdd, Nat.reduceMul, Nat.reduceLeDiff, Nat.reduceEqDiff, ↓reduceIte]
                        exact ⟨x.up.length - (i + 1), by omega, i + 1, rfl, by omega, rfl, take_eq_succ hin1 ex ey, take_eq_succ hin2 fx fy⟩
                  · have : i = x.up.length := by omega
                    subst this
                    have e4 := take_all_eq (by omega) hin1
                    have e5 : x.down = y.down := by
                      rw [hud] at hin2
                      exact take_all_eq (by omega) hin2
                    simp (disch := first | omega | (simp only [next_new, next_upd] <;> omega) | fail) only [vai, vaim, vaic, bots, Bool.not_true, Bool.not_false, decide_true, decide_false, wrap64, o1, u1, g2, hc, Int.lt_irrefl, Nat.reduceAdd, Nat.reduceMul, Nat.reduceLeDiff, Nat.reduceEqDiff, ↓reduceIte]
                    refine hq _ _ kA (says_yes ?_)
                    obtain ⟨xn, xe, xr, xa, xu, xd⟩ := x
                    obtain ⟨yn, ye, yr, ya, yu, yd⟩ := y
                    simp only at e1 e2 e3 e4 e5
                    obtain ⟨rfl, rfl⟩ := e1
                    subst e2; subst e3; subst e4; subst e5
                    rfl
          · simp (disch := first | omega | (simp only [next_new, next_upd] <;> omega) | fail) only [vai, vaim, vaic, bots, Bool.not_true, Bool.not_false, decide_true, decide_false, wrap64, o1, o2, a1, a2, u1, u2, d1, d2, g1, g2, g3, ne_eq, not_true_eq_false, not_false_eq_true, Nat.reduceAdd, Nat.reduceMul, Nat.reduceLeDiff, Nat.reduceEqDiff, ↓reduceIte]
            exact hq _ _ kA (says_no fun e => g3 (by rw [e]))
        · simp (disch := first | omega | (simp only [next_new, next_upd] <;> omega) | fail) only [vai, vaim, vaic, bots, Bool.not_true, Bool.not_false, decide_true, decide_false, wrap64, o1, o2, a1, a2, u1, u2, g1, g2, ne_eq, not_true_eq_false, not_false_eq_true, Nat.reduceAdd, Nat.reduceMul, Nat.reduceLeDiff, Nat.reduceEqDiff, ↓reduceIte]
          exact hq _ _ kA (says_no fun e => g2 (by rw [e]))
      · simp (disch := first | omega | (simp only [next_new, next_upd] <;> omega) | fail) only [vai, vaim, vaic, bots, Bool.not_true, Bool.not_false, decide_true, decide_false, wrap64, o1, o2, a1, a2, g1, ne_eq, not_true_eq_false, not_false_eq_true, Nat.reduceAdd, Nat.reduceMul, Nat.reduceLeDiff, Nat.reduceEqDiff, ↓reduceIte]
        exact hq _ _ kA (says_no fun e => g1 (by rw [e]))
end Go.Proofs.Ytknhlpmmalcchaa

namespace Go.Proofs.Ytknhlpmmalcchaa
open Go Go.VAI
set_option linter.unusedSimpArgs false

/-- A writer under way. -/
structure EncR (H0 H : AHeap) (x : List AVal) (bv : AVal) (bs : List Int) : Prop where
  keep : Keep Nothing H0 H
  lt : H0.next < H.next
  box : H.obj H0.next = some (.cells x true)
  own : Own (H0.next + 1) H bv 1 (u8s bs)
theorem EncR.kept {H0 H H' : AHeap} {x : List AVal} {bv : AVal} {bs : List Int} (h : EncR H0 H x bv bs) (hk : Keep Nothing H H') : EncR H0 H' x bv bs := by
  have := h.lt
  exact ⟨h.keep.trans hk, by have := hk.next; omega, by rw [hk.old (by omega)]; exact h.box, h.own.kept hk⟩
theorem EncR.step {H0 H H' : AHeap} {x : List AVal} {bv bv' : AVal} {bs bs' : List Int} (h : EncR H0 H x bv bs) (hk : Keep (fun j => sid bv = some j) H H') (g : Own (H0.next + 1) H' bv' 1 (u8s bs')) : EncR H0 H' x bv' bs' := by
  have hlt := h.lt
  have hs : ∀ j, sid bv = some j → H0.next + 1 ≤ j := fun j hj => (h.own.sid_ge hj).1
  exact ⟨h.keep.trans' hk (fun j hj e => by have := hs j e; omega), by have := hk.next; omega, by rw [hk.obj _ (by omega) (fun e => by have := hs _ e; omega)]; exact h.box, g⟩
end Go.Proofs.Ytknhlpmmalcchaa

namespace Go.Proofs.Ytknhlpmmalcchaa
open Go Go.VAI
set_option linter.unusedSimpArgs false

end Go.Proofs.Ytknhlpmmalcchaa

namespace Go.Proofs.Ytknhlpmmalcchaa
open Go Go.VAI
set_option linter.unusedSimpArgs false

end Go.Proofs.Ytknhlpmmalcchaa

namespace Go.Proofs.Ytknhlpmmalcchaa
open Go Go.VAI
set_option linter.unusedSimpArgs false

/-- Reading under way. -/
structure RdgAt (H0 : AHeap) (q w : Nat) (src : Option Nat) (H : AHeap) (cs : List AVal) (s : RS) : Prop where
  keep : Keep (fun j => j = w) H0 H
  op : H.obj H0.next = some (.cells [.int .i64 0, .nilSlice, .nilSlice, .nilSlice, .nilSlice, .nilSlice] true)
  ob : H.obj q = some (.cells cs true)
  rd : RdAt H w src s
  len : s.left.length ≤ 1000000000
  lq : H0.next < q
  lh : q < H.next
  lw : w < H0.next
  ls : ∀ j, src = some j → j < H0.next
theorem RdgAt.grow {H0 : AHeap} {q w : Nat} {src : Option Nat} {H H' : AHeap} {cs : List AVal} {s : RS} {M : Nat → Prop} (h : RdgAt H0 q w src H cs s) (hk : Keep M H H') (hM : ∀ j, M j → q < j) : RdgAt H0 q w src H' cs s := by
  have h2 := h.lq
  have h3 := h.lw
  have h4 := h.lh
  have h5 := h.keep.next
  have hm : ∀ j, j ≤ q → ¬ M j := fun j hj hm => by have := hM j hm; omega
  exact ⟨⟨by have := hk.next; omega, fun j hj hw => by rw [hk.obj j (by omega) (hm j (by omega)), h.keep.obj j hj hw]⟩, by rw [hk.obj _ (by omega) (hm _ (by omega))]; exact h.op, by rw [hk.obj _ (by omega) (hm _ (by omega))]; exact h.ob, h.rd.M hk (hm w (by omega)) (fun j hj => hm j (by have := h.ls j hj; omega)), h.len, h2, by have := hk.next; omega, h3, h.ls⟩
theorem RdgAt.kept {H0 : AHeap} {q w : Nat} {src : Option Nat} {H H' : AHeap} {cs : List AVal} {s : RS} (h : RdgAt H0 q w src H cs s) (hk : Keep Nothing H H') : RdgAt H0 q w src H' cs s := h.grow hk (fun _ h => h.elim)
theorem RdgAt.upd {H0 : AHeap} {q w y : Nat} {src : Option Nat} {H : AHeap} {cs : List AVal} {s : RS} (h : RdgAt H0 q w src H cs s) (hy : q < y) (o : Option AObj) : RdgAt H0 q w src (H.upd y o) cs s :=
  h.grow (M := fun j => j = y) ((Keep.refl (fun j => j = y) _).upd (.inr rfl) _) (fun j e => by omega)
theorem RdgAt.read {H0 : AHeap} {q w : Nat} {src : Option Nat} {H H' : AHeap} {cs : List AVal} {s s' : RS} (h : RdgAt H0 q w src H cs s) (hk : Keep (fun j => j = w) H H') (hr : RdAt H' w src s') (hl : s'.left.length ≤ s.left.length) : RdgAt H0 q w src H' cs s' := by
  have h2 := h.lq
  have h3 := h.lw
  have h4 := h.lh
  have h5 := h.keep.next
  have h6 := h.len
  exact ⟨⟨by have := hk.next; omega, fun j hj hw => by rw [hk.obj j (by omega) hw, h.keep.obj j hj hw]⟩, by rw [hk.obj _ (by omega) (by omega)]; exact h.op, by rw [hk.obj _ (by omega) (by omega)]; exact h.ob, hr, by omega, h2, by have := hk.next; omega, h3, h.ls⟩
theorem RdgAt.put {H0 : AHeap} {q w : Nat} {src : Option Nat} {H : AHeap} {cs : List AVal} {s : RS} (h : RdgAt H0 q w src H cs s) (cs' : List AVal) : RdgAt H0 q w src (H.upd q (some (.cells cs' true))) cs' s := by
  have h2 := h.lq
  have h3 := h.lw
  have h4 := h.lh
  have h5 := h.keep.next
  have kk : Keep (fun j => j = q) H (H.upd q (some (.cells cs' true))) := (Keep.refl (fun j => j = q) _).upd (.inr rfl) _
  exact ⟨h.keep.upd (.inl (by omega)) _, by rw [obj_upd_ne (by omega)]; exact h.op, obj_upd_eq rfl, h.rd.M kk (by omega) (fun j hj => by have := h.ls j hj; omega), h.len, h2, h4, h3, h.ls⟩
theorem RdgAt.set {H0 : AHeap} {q w y : Nat} {src : Option Nat} {Ha H : AHeap} {cs zs : List AVal} {s : RS} (h : RdgAt H0 q w src H cs s) (hk : Keep (fun j => j = w) Ha H) (hy : Ha.next ≤ y ∧ y < H.next) (hqa : q < Ha.next) :
    RdgAt H0 q w src (H.upd y (some (.cells zs true))) cs s ∧ Keep (fun j => j = w) Ha (H.upd y (some (.cells zs true))) ∧ (H.upd y (some (.cells zs true))).obj y = some (.cells zs true) ∧ (H.upd y (some (.cells zs true))).next = H.next :=
  ⟨h.upd (by omega) _, hk.upd (.inl (by omega)) _, obj_upd_eq rfl, by simp only [next_upd]⟩
end Go.Proofs.Ytknhlpmmalcchaa

namespace Go.Proofs.Ytknhlpmmalcchaa
open Go Go.VAI
set_option linter.unusedSimpArgs false

end Go.Proofs.Ytknhlpmmalcchaa

namespace Go.Proofs.Ytknhlpmmalcchaa
open Go Go.VAI
set_option linter.unusedSimpArgs false

theorem edge_set : ∀ (es : List Edge) (i : Nat) (e : Edge) (c : Int), es[i]? = some e → splice (edgeCells es) (i * 4 + 3) [.int .i64 c] = edgeCells (es.set i { e with cost := c })
  | [], i, e, c, h => by simp at h
  | x :: es, 0, e, c, h => by
    simp at h; subst h
    simp [edgeCells, Edge.cells, splice]
  | x :: es, i + 1, e, c, h => by
    have ih := edge_set es i e c (by simpa using h)
    have e1 : edgeCells (x :: es) = x.cells ++ edgeCells es := by simp [edgeCells]
    have e2 : edgeCells ((x :: es).set (i + 1) { e with cost := c }) = x.cells ++ edgeCells (es.set i { e with cost := c }) := by simp [edgeCells]
    have hx : x.cells.length = 4 := rfl
    rw [e2, ← ih, e1]
    unfold splice
    have h1 : (i + 1) * 4 + 3 = 4 + (i * 4 + 3) := by omega
    rw [h1]
    have hx2 : x.cells.length ≤ 4 + (i * 4 + 3) := by omega
    rw [List.take_append, List.drop_append, hx]
    simp only [List.append_assoc, List.length_cons, List.length_nil]
    have h2 : 4 + (i * 4 + 3) - 4 = i * 4 + 3 := by omega
    have h3 : 4 + (i * 4 + 3) + 1 - 4 = i * 4 + 3 + 1 := by omega
    rw [h2]
    have h5 : x.cells.take (4 + (i * 4 + 3)) = x.cells := List.take_of_length_le (by omega)
    rw [h5]
    simp [h3, List.drop_of_length_le, hx]
    omega
theorem Own.edgeSlot {lo : Nat} {H : AHeap} {v : AVal} {es : List Edge} (h : Own lo H v 4 (edgeCells es)) {i : Nat} (hi : i < es.length) : ∃ id, sid v = some id ∧ lo ≤ id ∧ id < H.next ∧ aindexAddrS 4 v (.int .i64 (i : Int)) = some (.ptr id (i * 4)) ∧ H.obj id = some (.cells (edgeCells es) true) ∧
    ∀ (H' : AHeap) c', H.next ≤ H'.next → H'.obj id = some (.cells c' true) → c'.length = (edgeCells es).length → Own lo H' v 4 c' := by
  obtain ⟨cs, hcs⟩ : ∃ cs, cs = edgeCells es := ⟨_, rfl⟩
  have hl := edgeCells_length es
  rw [← hcs] at h hl ⊢
  cases h with
  | nil => simp at hl; omega
  | @room id len _ _ hlo hhi ho hlen => exact ⟨id, rfl, hlo, hhi, by rw [aindexAddrS_slice ⟨by omega, by omega⟩]; simp, ho, fun H' c' h1 h2 h3 => .room hlo (by omega) h2 (by omega)⟩
  | @full id len _ _ hlo hhi ho hlen => exact ⟨id, rfl, hlo, hhi, by rw [aindexAddrS_slice ⟨by omega, by omega⟩]; simp, ho, fun H' c' h1 h2 h3 => .full hlo (by omega) h2 (by omega)⟩
theorem encode_inj {x y : Idx} (hx : Allowed x) (hy : Allowed y) (h : encodeOf x = encodeOf y) : x = y := by
  have e1 := raw_encode hx
  rw [h, raw_encode hy] at e1
  injection e1 with e1
  exact e1.symm
theorem net_set {n : Int} {es : List Edge} (h : NetOk n es) {i : Nat} {e : Edge} (he : es[i]? = some e) {c : Int} (hc : 0 ≤ c ∧ c < 9) : NetOk n (es.set i { e with cost := c }) := by
  obtain ⟨h1, h2, h3, h4⟩ := h
  refine ⟨h1, h2, by rw [List.length_set]; exact h3, fun x hx => ?_⟩
  rcases List.mem_or_eq_of_mem_set hx with hx | hx
  · exact h4 x hx
  · subst hx
    obtain ⟨a1, a2, a3, a4⟩ := h4 e (List.mem_of_getElem? he)
    exact ⟨a1, a2, a3, by simp only; omega⟩
end Go.Proofs.Ytknhlpmmalcchaa

namespace Go.Proofs.Ytknhlpmmalcchaa
open Go Go.VAI
set_option linter.unusedSimpArgs false

/-! ### the other reader reads the same -/
end Go.Proofs.Ytknhlpmmalcchaa

namespace Go.Proofs.Ytknhlpmmalcchaa
open Go Go.VAI
set_option linter.unusedSimpArgs false

theorem mk_ret {size modes : Int} {ns : AVal} {xs : List Int} {H : AHeap} {Q : AVal → AHeap → Prop} (hr : Row H ns 1 (ints xs)) (hx : ∀ x ∈ xs, I64 x) (hx2 : xs.length ≤ 9223372036854775807)
    (hq : ∀ ev H', Keep Nothing H H' → Grown H.next H' ev 4 (edgeCells (mkEs size modes xs)) → Q (.agg [.int .i64 (mkN size), ev]) H') : Ret A 28 [.int .i64 size, ns, .int .i64 modes] H Q := by
  refine make_ret hr hx hx2 fun ev H' k g => ?_
  have h := hq ev H' k g
  rw [mkN_eq] at h
  exact h
theorem beq_net {n : Int} {ev : AVal} (h : AVal.beq ev ev = true) : AVal.beq (.agg [.int .i64 n, ev]) (.agg [.int .i64 n, ev]) = true := by simp [AVal.beq, AVal.beqs, h]
theorem IdxAt.beq {H : AHeap} {ew rv av uv dv : AVal} {x : Idx} (h : IdxAt H ew rv av uv dv x) {n : Int} : AVal.beq (.agg [.int .i64 n, ew, rv, av, uv, dv]) (.agg [.int .i64 n, ew, rv, av, uv, dv]) = true := by
  simp [AVal.beq, AVal.beqs, h.es.beq, h.rank.beq, h.arcs.beq, h.up.beq, h.down.beq]
theorem allowed_short {x : Idx} (h : Allowed x) : Short62 x ∧ x.up.length = x.down.length := by
  obtain ⟨n1, n2, n3, n4⟩ := h.net
  have hrl := h.rankLen
  have hul := h.upLen
  have hdl := h.downLen
  have hac := h.count
  have hu : ∀ l ∈ x.up, l.length ≤ 300000 := fun l hl => by
    obtain ⟨v, hv, e⟩ := List.getElem_of_mem hl
    obtain ⟨h1, h2⟩ := h.up v l (by rw [List.getElem?_eq_getElem hv, e])
    have := few_below x.arcs.length l h1 (fun y hy => by
      obtain ⟨h3, a, h4, _⟩ := h2 y hy
      have := (List.getElem?_eq_some_iff.1 h4).1
      omega)
    omega
  have hd : ∀ l ∈ x.down, l.length ≤ 300000 := fun l hl => by
    obtain ⟨v, hv, e⟩ := List.getElem_of_mem hl
    obtain ⟨h1, h2⟩ := h.down v l (by rw [List.getElem?_eq_getElem hv, e])
    have := few_below x.arcs.length l h1 (fun y hy => by
      obtain ⟨h3, a, h4, _⟩ := h2 y hy
      have := (List.getElem?_eq_some_iff.1 h4).1
      omega)
    omega
  exact ⟨⟨by omega, by omega, by omega, by omega, fun l hl => by have := hu l hl; omega, fun l hl => by have := hd l hl; omega⟩, by omega⟩
structure TwoNets (H : AHeap) (p1 p2 : Nat) (N M : Nat) (es fs : List Edge) (ev fv : AVal) : Prop where
  l1 : p1 < H.next
  l2 : p2 < H.next
  o1 : H.obj p1 = some (.cells [.int .i64 N, ev] true)
  o2 : H.obj p2 = some (.cells [.int .i64 M, fv] true)
  r1 : Row H ev 4 (edgeCells es)
  r2 : Row H fv 4 (edgeCells fs)
  n1 : NetOk N es
  n2 : NetOk M fs
  s1 : N ≤ 21
  s2 : M ≤ 21
set_option maxRecDepth 20000 in
set_option maxHeartbeats 4000000 in
theorem indexApart_ret {size other at_ : Int} {ns ms : AVal} {xs ys : List Int} {f : Nat → Option AObj} (_ : I64 size) (hr : Row ⟨f, 2⟩ ns 1 (ints xs)) (hx : ∀ x ∈ xs, I64 x) (hx2 : xs.length ≤ 9223372036854775807) (_ : I64 other)
    (hm : Row ⟨f, 2⟩ ms 1 (ints ys)) (hy : ∀ y ∈ ys, I64 y) (hy2 : ys.length ≤ 9223372036854775807) (ha : I64 at_) :
    Ret A 8 [.int .i64 size, ns, .int .i64 other, ms, .int .i64 at_] ⟨f, 2⟩ (fun v _ => v = .bool true) := by
  refine Ret.of (fn := F8) rfl ?_
  simp (disch := first | omega | (simp only [next_new, next_upd] <;> omega) | fail) only [vai, vaim, vaic, bots, Bool.not_true, Bool.not_false, decide_true, decide_false, wrap64, F8, Nat.reduceAdd, Nat.reduceMul, Nat.reduceLeDiff, Nat.reduceEqDiff, ↓reduceIte]
  refine known26x2_ret fun H1 k1 => ?_
  simp (disch := first | omega | (simp only [next_new, next_upd] <;> omega) | fail) only [vai, vaim, vaic, bots, Bool.not_true, Bool.not_false, decide_true, decide_false, wrap64, Bool.not_true, Nat.reduceAdd, Nat.reduceMul, Nat.reduceLeDiff, Nat.reduceEqDiff, ↓reduceIte]
  refine mk_ret (hr.kept k1) hx hx2 fun ev H2 k2 g2 => ?_
  simp (disch := first | omega | (simp only [next_new, next_upd] <;> omega) | fail) only [vai, vaim, vaic, bots, Bool.not_true, Bool.not_false, decide_true, decide_false, wrap64, Nat.reduceAdd, Nat.reduceMul, Nat.reduceLeDiff, Nat.reduceEqDiff, ↓reduceIte]
  refine mk_ret ((hm.kept k1).kept k2) hy hy2 fun fv H3 k3 g3 => ?_
  have ce := g2.cells
  have cf := g3.cells
  simp (disch := first | omega | (simp only [next_new, next_upd] <;> omega) | fail) only [vai, vaim, vaic, bots, Bool.not_true, Bool.not_false, decide_true, decide_false, wrap64, ce, cf, Nat.reduceAdd, Nat.reduceMul, Nat.reduceLeDiff, Nat.reduceEqDiff, ↓reduceIte]
  have c4 : Keep Nothing H3 ((((H3.new (.cells [.int .i64 0, .nilSlice] true)).new (.cells [.int .i64 0, .nilSlice] true)).upd H3.next (some (.cells [.int .i64 (mkN size), ev] true))).upd (H3.next + 1) (some (.cells [.int .i64 (mkN other), fv] true))) := ((((Keep.refl _ _).new _).new _).upd (.inl (by omega)) _).upd (.inl (by omega)) _
  have T4 : TwoNets ((((H3.new (.cells [.int .i64 0, .nilSlice] true)).new (.cells [.int .i64 0, .nilSlice] true)).upd H3.next (some (.cells [.int .i64 (mkN size), ev] true))).upd (H3.next + 1) (some (.cells [.int .i64 (mkN other), fv] true))) H3.next (H3.next + 1) (mkN size) (mkN other) (mkEs size 0 xs) (mkEs other 0 ys) ev fv :=
    ⟨(by first | omega | (simp only [next_new, next_upd]; omega)), (by first | omega | (simp only [next_new, next_upd]; omega)), by simp (disch := first | omega | (simp only [next_new, next_upd] <;> omega) | fail) only [vaim], by simp (disch := first | omega | (simp only [next_new, next_upd] <;> omega) | fail) only [vaim], ((g2.row.kept k3).kept c4), g3.row.kept c4, mk_net _ _ _, mk_net _ _ _, mk_small _, mk_small _⟩
  generalize (((H3.new (.cells [.int .i64 0, .nilSlice] true)).new (.cells [.int .i64 0, .nilSlice] true)).upd H3.next (some (.cells [.int .i64 (mkN size), ev] true))).upd (H3.next + 1) (some (.cells [.int .i64 (mkN other), fv] true)) = H4 at *
  generalize hp : H3.next = p at *
  have k04 := (k1.trans k2).trans (k3.trans c4)
  refine within_ret (n := 2) rfl (by omega) (by omega) ?_
  simp (disch := first | omega | (simp only [next_new, next_upd] <;> omega) | fail) only [vai, vaim, vaic, bots, Bool.not_true, Bool.not_false, decide_true, decide_false, wrap64, Nat.reduceAdd, Nat.reduceMul, Nat.reduceLeDiff, Nat.reduceEqDiff, ↓reduceIte]
  refine condK_cut (fun t H' => ∃ (M : Nat) (fs : List Edge) (fv : AVal), t = bots 10 (.bool false :: .ptr p 0 :: .ptr (p + 1) 0 :: bots 48 []) ∧ TwoNets H' p (p + 1) (mkN size) M (mkEs size 0 xs) fs ev fv) ?_ ?_
  · refine condK_split (fun h2 => ?_) (fun h2 => ?_)
    · simp (disch := first | omega | (simp only [next_new, next_upd] <;> omega) | fail) only [vai, vaim, vaic, bots, Bool.not_true, Bool.not_false, decide_true, decide_false, wrap64, Nat.reduceAdd, Nat.reduceMul, Nat.reduceLeDiff, Nat.reduceEqDiff, ↓reduceIte]
      refine mk_ret (hr.kept k04) hx hx2 fun gv H5 k5 g5 => ?_
      have cg := g5.cells
      have q1 : H5.obj p = some (.cells [.int .i64 (mkN size), ev] true) := by rw [k5.old T4.l1]; exact T4.o1
      have q2 : H5.obj (p + 1) = some (.cells [.int .i64 (mkN other), fv] true) := by rw [k5.old T4.l2]; exact T4.o2
      have hl1 : p < H5.next := by have := k5.next; have := T4.l1; omega
      have hl2 : p + 1 < H5.next := by have := k5.next; have := T4.l2; omega
      have hgl := g5.row.len (by omega) (edgeCells_length (mkEs size 0 xs))
      have hpos : (mkEs size 0 xs).length ≤ 40 := by simp [mkEs]; omega
      have hsid : ∀ j, sid gv = some j → j ≠ p + 1 := fun j hj => by have := (g5.sid_ge hj).1; have := T4.l2; omega
      have kU : Keep (fun j => j = p + 1) H5 (H5.upd (p + 1) (some (.cells [.int .i64 (mkN size), gv] true))) := (Keep.refl (fun j => j = p + 1) _).upd (.inr rfl) _
      have re5 : Row H5 ev 4 (edgeCells (mkEs size 0 xs)) := T4.r1.kept k5
      have sev : ∀ j, sid ev = some j → j ≠ p + 1 := fun j hj => by have := (g2.sid_ge hj).2; have := k3.next; omega
      have g6 := g5.own.keepM kU (fun j hj e => hsid j hj e)
      have re6 := re5.M kU (fun j hj e => sev j hj e)
      have hnet := mk_net size 0 xs
      by_cases hl0 : ((mkEs size 0 xs).length : Int) = 0
      · simp (disch := first | omega | (simp only [next_new, next_upd] <;> omega) | fail) only [vai, vaim, vaic, bots, Bool.not_true, Bool.not_false, decide_true, decide_false, wrap64, cg, q1, q2, hgl, hl0, Nat.reduceAdd, Nat.reduceMul, Nat.reduceLeDiff, Nat.reduceEqDiff, ↓reduceIte]
        have h0 : ¬ ((0 : Int) < 0) := by omega
        simp (disch := first | omega | (simp only [next_new, next_upd] <;> omega) | fail) only [vai, vaim, vaic, bots, Bool.not_true, Bool.not_false, decide_true, decide_false, wrap64, vaij, h0, decide_false, Nat.reduceAdd, Nat.reduceMul, Nat.reduceLeDiff, Nat.reduceEqDiff, ↓reduceIte]
        exact ⟨mkN size, mkEs size 0 xs, gv, ⟨(by first | omega | (simp only [next_new, next_upd]; omega)), (by first | omega | (simp only [next_new, next_upd]; omega)), by simp (disch := first | omega | (simp only [next_new, next_upd] <;> omega) | fail) only [vaim]; rw [q1], by simp (disch := first | omega | (simp only [next_new, next_upd] <;> omega) | fail) only [vaim], re6, g6.row, hnet, hnet, mk_small _, mk_small _⟩⟩
      · have h0 : (0 : Int) < (mkEs size 0 xs).length := by omega
        have bg := g5.row.beq
        have t2 := tdiv_bd ha (c := 2) (by omega)
        have t9 := tdiv_bd ha (c := 9) (by omega)
        simp (disch := first | omega | (simp only [next_new, next_upd] <;> omega) | fail) only [vai, vaim, vaic, bots, Bool.not_true, Bool.not_false, decide_true, decide_false, wrap64, cg, q1, q2, hgl, h0, decide_true, abin_quo, reK_same bg, Nat.reduceAdd, Nat.reduceMul, Nat.reduceLeDiff, Nat.reduceEqDiff, ↓reduceIte]
        refine within_ret (n := (mkEs size 0 xs).length) rfl (by omega) (by omega) ?_
        simp (disch := first | omega | (simp only [next_new, next_upd] <;> omega) | fail) only [vai, vaim, vaic, bots, Bool.not_true, Bool.not_false, decide_true, decide_false, wrap64, reK_same bg, hgl, Nat.reduceAdd, Nat.reduceMul, Nat.reduceLeDiff, Nat.reduceEqDiff, ↓reduceIte]
        refine within_ret (n := 9) rfl (by omega) (by omega) ?_
        have o6 : (H5.upd (p + 1) (some (.cells [.int .i64 (mkN size), gv] true))).obj (p + 1) = some (.cells [.int .i64 (mkN size), gv] true) := obj_upd_eq rfl
        have q6 : (H5.upd (p + 1) (some (.cells [.int .i64 (mkN size), gv] true))).obj p = some (.cells [.int .i64 (mkN size), ev] true) := by simp (disch := first | omega | (simp only [next_new, next_upd] <;> omega) | fail) only [vaim]; rw [q1]
        have n6 : (H5.upd (p + 1) (some (.cells [.int .i64 (mkN size), gv] true))).next = H5.next := rfl
        generalize H5.upd (p + 1) (some (.cells [.int .i64 (mkN size), gv] true)) = H6 at *
        have e1 := Int.emod_nonneg (at_.tdiv 2) (show ((mkEs size 0 xs).length : Int) ≠ 0 by omega)
        have e2 := Int.emod_lt_of_pos (at_.tdiv 2) (show 0 < ((mkEs size 0 xs).length : Int) by omega)
        obtain ⟨j, hj⟩ : ∃ j : Nat, at_.tdiv 2 % ((mkEs size 0 xs).length : Int) = j := ⟨(at_.tdiv 2 % ((mkEs size 0 xs).length : Int)).toNat, by omega⟩
        rw [hj] at e2 ⊢
        have c1 : 0 ≤ at_.tdiv 9 % 9 ∧ at_.tdiv 9 % 9 < 9 := by omega
        generalize at_.tdiv 9 % 9 = c at *
        have hjl : j < (mkEs size 0 xs).length := by omega
        have hej : (mkEs size 0 xs)[j]? = some (mkEs size 0 xs)[j] := by simp [hjl]
        generalize (mkEs size 0 xs)[j] = e at *
        obtain ⟨id, s1, s2, s3, s4, s5, s6⟩ := Own.edgeSlot g6 (i := j) hjl
        have hset := edge_set (mkEs size 0 xs) j e c hej
        have hel := edgeCells_length (mkEs size 0 xs)
        have hle : j * 4 + 3 + 1 ≤ (edgeCells (mkEs size 0 xs)).length := by omega
        have hnp : id ≠ p := by have := T4.l1; omega
        have hnp1 : id ≠ p + 1 := by have := T4.l2; omega
        have sev2 : ∀ j, sid ev = some j → j ≠ id := fun j hj => by have := (g2.sid_ge hj).2; have := k3.next; have := c4.next; omega
        simp (disch := first | omega | (simp only [next_new, next_upd] <;> omega) | fail) only [vai, vaim, vaic, bots, Bool.not_true, Bool.not_false, decide_true, decide_false, wrap64, reK_same bg, o6, s4, s5, hle, hset, vaij, Nat.reduceAdd, Nat.reduceMul, Nat.reduceLeDiff, Nat.reduceEqDiff, ↓reduceIte]
        have kV : Keep (fun j => j = id) H6 (H6.upd id (some (.cells (edgeCells ((mkEs size 0 xs).set j { e with cost := c })) true))) := (Keep.refl (fun j => j = id) _).upd (.inr rfl) _
        have g7 := s6 (H6.upd id (some (.cells (edgeCells ((mkEs size 0 xs).set j { e with cost := c })) true))) _ (by simp only [next_upd]; omega) (obj_upd_eq rfl) (by rw [edgeCells_length, List.length_set, hel])
        exact ⟨mkN size, (mkEs size 0 xs).set j { e with cost := c }, gv, ⟨by simp only [next_upd]; omega, by simp only [next_upd]; omega, by rw [obj_upd_ne (by omega)]; exact q6, by rw [obj_upd_ne (by omega)]; exact o6, re6.M kV (fun j hj e => sev2 j hj e), g7.row, hnet, net_set hnet hej c1, mk_small _, mk_small _⟩⟩
    · simp (disch := first | omega | (simp only [next_new, next_upd] <;> omega) | fail) only [vai, vaim, vaic, bots, Bool.not_true, Bool.not_false, decide_true, decide_false, wrap64, vaij, Nat.reduceAdd, Nat.reduceMul, Nat.reduceLeDiff, Nat.reduceEqDiff, ↓reduceIte]
      exact ⟨mkN other, mkEs other 0 ys, fv, T4⟩
  · rintro t H5 ⟨M, fs, gv, rfl, T5⟩
    clear T4 k04 c4 g3 g2 ce cf
    generalize mkEs size 0 xs = es at *
    generalize mkN size = N at *
    obtain ⟨l1, l2, o1, o2, r1, r2, n1, n2, s1, s2⟩ := T5
    have be := r1.beq
    have bg := r2.beq
    simp (disch := first | omega | (simp only [next_new, next_upd] <;> omega) | fail) only [vai, vaim, vaic, bots, Bool.not_true, Bool.not_false, decide_true, decide_false, wrap64, o1, o2, Nat.reduceAdd, Nat.reduceMul, Nat.reduceLeDiff, Nat.reduceEqDiff, ↓reduceIte]
    have kP : Keep Nothing H5 ((H5.new (.cells [.int .i64 0, .nilSlice, .nilSlice, .nilSlice, .nilSlice, .nilSlice] true)).new (.cells [.int .i64 0, .nilSlice, .nilSlice, .nilSlice, .nilSlice, .nilSlice] true)) := ((Keep.refl _ _).new _).new _
    refine buildFrom_ret (r1.kept kP) n1 s1 fun ew rv av uv dv H6 k6 h6 => ?_
    have k56 := kP.trans k6
    have b1 := k6.next
    simp only [next_new] at b1
    have p2 : H6.obj (p + 1) = some (.cells [.int .i64 M, gv] true) := by rw [k56.old l2]; exact o2
    have q1 : H6.obj H5.next = some (.cells [.int .i64 0, .nilSlice, .nilSlice, .nilSlice, .nilSlice, .nilSlice] true) := by rw [k6.old (by first | omega | (simp only [next_new, next_upd]; omega))]; simp (disch := first | omega | (simp only [next_new, next_upd] <;> omega) | fail) only [vaim]
    have q2 : H6.obj (H5.next + 1) = some (.cells [.int .i64 0, .nilSlice, .nilSlice, .nilSlice, .nilSlice, .nilSlice] true) := by rw [k6.old (by first | omega | (simp only [next_new, next_upd]; omega))]; simp (disch := first | omega | (simp only [next_new, next_upd] <;> omega) | fail) only [vaim]
    simp (disch := first | omega | (simp only [next_new, next_upd] <;> omega) | fail) only [vai, vaim, vaic, bots, Bool.not_true, Bool.not_false, decide_true, decide_false, wrap64, p2, reK_same (beq_net bg), Nat.reduceAdd, Nat.reduceMul, Nat.reduceLeDiff, Nat.reduceEqDiff, ↓reduceIte]
    refine buildFrom_ret (r2.kept k56) n2 s2 fun ew' rv' av' uv' dv' H7 k7 h7 => ?_
    have b2 := k7.next
    rw [← k7.old (by omega)] at q1 q2
    have hal := idx_allowed n1 s1
    have hal' := idx_allowed n2 s2
    have hnx : (idxOf N es).n = N := rfl
    have hny : (idxOf M fs).n = M := rfl
    generalize idxOf N es = x at *
    generalize idxOf M fs = y at *
    simp (disch := first | omega | (simp only [next_new, next_upd] <;> omega) | fail) only [vai, vaim, vaic, bots, Bool.not_true, Bool.not_false, decide_true, decide_false, wrap64, q1, q2, Nat.reduceAdd, Nat.reduceMul, Nat.reduceLeDiff, Nat.reduceEqDiff, ↓reduceIte]
    have k78 : Keep (fun j => j = H5.next ∨ j = H5.next + 1) H7 ((H7.upd H5.next (some (.cells [.int .i64 N, ew, rv, av, uv, dv] true))).upd (H5.next + 1) (some (.cells [.int .i64 M, ew', rv', av', uv', dv'] true))) := ((Keep.refl _ _).upd (.inr (.inl rfl)) _).upd (.inr (.inr rfl)) _
    have hx8 := (h6.kept k7).M k78 (fun j e => by simp only [next_new]; omega)
    have hy8 := h7.M k78 (fun j e => by omega)
    have w1 : ((H7.upd H5.next (some (.cells [.int .i64 N, ew, rv, av, uv, dv] true))).upd (H5.next + 1) (some (.cells [.int .i64 M, ew', rv', av', uv', dv'] true))).obj H5.next = some (.cells [.int .i64 N, ew, rv, av, uv, dv] true) := by simp (disch := first | omega | (simp only [next_new, next_upd] <;> omega) | fail) only [vaim]
    have w2 : ((H7.upd H5.next (some (.cells [.int .i64 N, ew, rv, av, uv, dv] true))).upd (H5.next + 1) (some (.cells [.int .i64 M, ew', rv', av', uv', dv'] true))).obj (H5.next + 1) = some (.cells [.int .i64 M, ew', rv', av', uv', dv'] true) := by simp (disch := first | omega | (simp only [next_new, next_upd] <;> omega) | fail) only [vaim]
    have n8 : ((H7.upd H5.next (some (.cells [.int .i64 N, ew, rv, av, uv, dv] true))).upd (H5.next + 1) (some (.cells [.int .i64 M, ew', rv', av', uv', dv'] true))).next = H7.next := rfl
    generalize (H7.upd H5.next (some (.cells [.int .i64 N, ew, rv, av, uv, dv] true))).upd (H5.next + 1) (some (.cells [.int .i64 M, ew', rv', av', uv', dv'] true)) = H8 at *
    obtain ⟨e1, e2, e3⟩ := allowed_enc hal
    obtain ⟨f1, f2, f3⟩ := allowed_enc hal'
    rw [← hnx, ← hny] at *
    refine encode_ret hx8.idx e1 e2 (by omega) fun bv H9 k9 g9 => ?_
    have b9 := k9.next
    rw [← k9.old (by omega)] at w1 w2
    have hx9 := hx8.kept k9
    have hy9 := hy8.kept k9
    have st1 := row_str g9.row
    simp (disch := first | omega | (simp only [next_new, next_upd] <;> omega) | fail) only [vai, vaim, vaic, bots, Bool.not_true, Bool.not_false, decide_true, decide_false, wrap64, w1, w2, reK_same hx9.idx.beq, reK_same hy9.idx.beq, st1, Nat.reduceAdd, Nat.reduceMul, Nat.reduceLeDiff, Nat.reduceEqDiff, ↓reduceIte]
    refine encode_ret hy9.idx f1 f2 (by omega) fun cv H10 k10 g10 => ?_
    have b10 := k10.next
    rw [← k10.old (by omega)] at w1 w2
    have hx10 := hx9.kept k10
    have hy10 := hy9.kept k10
    have st1' := row_str (g9.kept k10).row
    have st2 := row_str g10.row
    have heq := abin_eql_str (encode_bytes x) (encode_bytes y)
    simp (disch := first | omega | (simp only [next_new, next_upd] <;> omega) | fail) only [vai, vaim, vaic, bots, Bool.not_true, Bool.not_false, decide_true, decide_false, wrap64, w1, w2, reK_same hx10.idx.beq, reK_same hy10.idx.beq, st1', st2, heq, Nat.reduceAdd, Nat.reduceMul, Nat.reduceLeDiff, Nat.reduceEqDiff, ↓reduceIte]
    obtain ⟨hs1, hs2⟩ := allowed_short hal
    refine same_ret hx10.idx hy10.idx hs1 hs2 fun b H11 k11 c11 => ?_
    have st1'' := row_str ((g9.kept k10).kept k11).row
    have st2' := row_str (g10.kept k11).row
    have hbb : (decide (encodeOf x = encodeOf y) == b) = true := by
      cases b with
      | false => 
        have : ¬ encodeOf x = encodeOf y := fun h => by have := c11.2 (encode_inj hal hal' h); cases this
        rw [decide_eq_false this]; rfl
      | true =>
        have := c11.1 rfl
        rw [decide_eq_true (by rw [this])]; rfl
    simp (disch := first | omega | (simp only [next_new, next_upd] <;> omega) | fail) only [vai, vaim, vaic, bots, Bool.not_true, Bool.not_false, decide_true, decide_false, wrap64, st1'', st2', hbb, Nat.reduceAdd, Nat.reduceMul, Nat.reduceLeDiff, Nat.reduceEqDiff, ↓reduceIte]
end Go.Proofs.Ytknhlpmmalcchaa

/- Closed facts of the program: what its head says, read as a list of signs (the kernel is slow at a long text's own signs). -/
namespace Go.Proofs.Ytknhlpmmalcchaa
open Go Go.ChangeShapes Go.WideShapes Go.ChangeAt Go.RowKit
set_option maxRecDepth 100000
def headSigns : List Char := List.map Char.ofNat [104, 97, 114, 110, 101, 115, 115, 32, 55, 99, 56, 99, 100, 51, 98, 49, 52, 101, 49, 49, 99, 55, 53, 54, 51, 54, 100, 97, 101, 56, 55, 98, 55, 54, 100, 50, 48, 98, 53, 57, 56, 97, 56, 56, 56, 55, 99, 98, 51, 49, 48, 98, 100, 53, 97, 55, 54, 53, 102, 100, 48, 102, 49, 102, 50, 57, 53, 50, 52, 102, 57, 50, 32, 99, 117, 116, 32, 97, 116, 32, 109, 105, 108, 101, 115, 116, 111, 110, 101, 47, 109, 105, 108, 101, 115, 116, 111, 110, 101, 108, 97, 119, 49, 50, 46, 73, 110, 100, 101, 120, 66, 97, 99, 107, 32, 109, 105, 108, 101, 115, 116, 111, 110, 101, 47, 109, 105, 108, 101, 115, 116, 111, 110, 101, 108, 97, 119, 49, 50, 46, 73, 110, 100, 101, 120, 82, 101, 97, 100, 115, 32, 109, 105, 108, 101, 115, 116, 111, 110, 101, 47, 109, 105, 108, 101, 115, 116, 111, 110, 101, 108, 97, 119, 49, 50, 46, 73, 110, 100, 101, 120, 83, 112, 111, 105, 108, 116, 32, 109, 105, 108, 101, 115, 116, 111, 110, 101, 47, 109, 105, 108, 101, 115, 116, 111, 110, 101, 108, 97, 119, 49, 50, 46, 73, 110, 100, 101, 120, 79, 110, 108, 121, 32, 109, 105, 108, 101, 115, 116, 111, 110, 101, 47, 109, 105, 108, 101, 115, 116, 111, 110, 101, 108, 97, 119, 49, 50, 46, 73, 110, 100, 101, 120, 83, 105, 122, 101, 32, 109, 105, 108, 101, 115, 116, 111, 110, 101, 47, 109, 105, 108, 101, 115, 116, 111, 110, 101, 108, 97, 119, 49, 50, 46, 73, 110, 100, 101, 120, 65, 112, 97, 114, 116, 32, 109, 105, 108, 101, 115, 116, 111, 110, 101, 47, 109, 105, 108, 101, 115, 116, 111, 110, 101, 108, 97, 119, 49, 50, 46, 73, 110, 100, 101, 120, 67, 117, 116, 32, 109, 105, 108, 101, 115, 116, 111, 110, 101, 47, 109, 105, 108, 101, 115, 116, 111, 110, 101, 108, 97, 119, 49, 50, 46, 73, 110, 100, 101, 120, 67, 111, 117, 110, 116, 115, 32, 109, 105, 108, 101, 115, 116, 111, 110, 101, 47, 109, 105, 108, 101, 115, 116, 111, 110, 101, 108, 97, 119, 49, 50, 46, 73, 110, 100, 101, 120, 72, 101, 97, 100, 32, 109, 105, 108, 101, 115, 116, 111, 110, 101, 47, 109, 105, 108, 101, 115, 116, 111, 110, 101, 108, 97, 119, 49, 48, 46, 79, 114, 100, 101, 114, 65, 108, 108, 32, 109, 105, 108, 101, 115, 116, 111, 110, 101, 47, 109, 105, 108, 101, 115, 116, 111, 110, 101, 108, 97, 119, 49, 48, 46, 79, 114, 100, 101, 114, 69, 97, 99, 104, 32, 109, 105, 108, 101, 115, 116, 111, 110, 101, 47, 109, 105, 108, 101, 115, 116, 111, 110, 101, 108, 97, 119, 49, 48, 46, 79, 114, 100, 101, 114, 67, 111, 115, 116, 115, 32, 109, 105, 108, 101, 115, 116, 111, 110, 101, 47, 109, 105, 108, 101, 115, 116, 111, 110, 101, 108, 97, 119, 49, 48, 46, 79, 114, 100, 101, 114, 75, 110, 111, 119, 110, 32, 109, 105, 108, 101, 115, 116, 111, 110, 101, 47, 109, 105, 108, 101, 115, 116, 111, 110, 101, 108, 97, 119, 49, 48, 46, 79, 114, 100, 101, 114, 77, 111, 100, 101, 32, 109, 105, 108, 101, 115, 116, 111, 110, 101, 47, 109, 105, 108, 101, 115, 116, 111, 110, 101, 108, 97, 119, 49, 49, 46, 72, 105, 101, 114, 66, 117, 105, 108, 100, 115, 32, 109, 105, 108, 101, 115, 116, 111, 110, 101, 47, 109, 105, 108, 101, 115, 116, 111, 110, 101, 108, 97, 119, 49, 49, 46, 72, 105, 101, 114, 82, 97, 110, 107, 115, 32, 109, 105, 108, 101, 115, 116, 111, 110, 101, 47, 109, 105, 108, 101, 115, 116, 111, 110, 101, 108, 97, 119, 49, 49, 46, 72, 105, 101, 114, 75, 101, 101, 112, 115, 32, 109, 105, 108, 101, 115, 116, 111, 110, 101, 47, 109, 105, 108, 101, 115, 116, 111, 110, 101, 108, 97, 119, 49, 49, 46, 72, 105, 101, 114, 67, 111, 114, 101, 32, 109, 105, 108, 101, 115, 116, 111, 110, 101, 47, 109, 105, 108, 101, 115, 116, 111, 110, 101, 108, 97, 119, 49, 49, 46, 72, 105, 101, 114, 67, 111, 115, 116, 115, 32, 109, 105, 108, 101, 115, 116, 111, 110, 101, 47, 109, 105, 108, 101, 115, 116, 111, 110, 101, 108, 97, 119, 49, 49, 46, 72, 105, 101, 114, 65, 114, 99, 115, 32, 109, 105, 108, 101, 115, 116, 111, 110, 101, 47, 109, 105, 108, 101, 115, 116, 111, 110, 101, 108, 97, 119, 49, 49, 46, 72, 105, 101, 114, 83, 104, 111, 114, 116, 32, 109, 105, 108, 101, 115, 116, 111, 110, 101, 47, 109, 105, 108, 101, 115, 116, 111, 110, 101, 108, 97, 119, 49, 49, 46, 72, 105, 101, 114, 79, 119, 110, 32, 109, 105, 108, 101, 115, 116, 111, 110, 101, 47, 109, 105, 108, 101, 115, 116, 111, 110, 101, 108, 97, 119, 49, 49, 46, 72, 105, 101, 114, 76, 111, 110, 103]
theorem head_eq : Try.prog.initOrder = String.ofList headSigns := by kernel_rfl
theorem head_list : Try.prog.initOrder.toList = headSigns := by rw [head_eq, String.toList_ofList]
theorem head_words : ∃ rest, behindMainWord (wordsSigns headSigns) = "cut".toList :: rest := ⟨(behindMainWord (wordsSigns headSigns)).tail, by kernel_rfl⟩
theorem strip_cut (rest : List (List Char)) : stripLifts liftWords ("cut".toList :: rest) = ([], "cut".toList :: rest) := by kernel_rfl
theorem ne1 : ("cut".toList == "gc".toList) = false := by kernel_rfl
theorem ne2 : ("cut".toList == "spec".toList) = false := by kernel_rfl
theorem ne3 : ("cut".toList == "carried".toList) = false := by kernel_rfl
theorem words_of : ∃ rest, behindMainWord (wordsSigns Try.prog.initOrder.toList) = "cut".toList :: rest := by
  obtain ⟨rest, h⟩ := head_words
  exact ⟨rest, (congrArg (fun l => behindMainWord (wordsSigns l)) head_list).trans h⟩
theorem make_of (P : Program) (rest : List (List Char)) (h : behindMainWord (wordsSigns P.initOrder.toList) = "cut".toList :: rest) : P.make = some .cut := by
  unfold Program.make
  rw [h]
  simp only [ne1, ne2, beq_self_eq_true, Bool.false_or, Bool.true_or, Bool.or_self, Bool.false_eq_true, if_true, if_false]
theorem lifts_of (P : Program) (rest : List (List Char)) (h : behindMainWord (wordsSigns P.initOrder.toList) = "cut".toList :: rest) : P.liftsFinal = false := by
  unfold Program.liftsFinal Program.headLifts
  rw [h]
  have e : ((some "cut".toList : Option (List Char)) == some "carried".toList) = false := by kernel_rfl
  simp only [strip_cut, List.head?_cons, beq_self_eq_true, if_true, e, Bool.false_and, Bool.false_or]
  rfl
theorem enter_of (P : Program) (rest : List (List Char)) (h : behindMainWord (wordsSigns P.initOrder.toList) = "cut".toList :: rest) (h1 : P.laysLater = false) (h2 : P.bearsReflect = false) (h3 : P.doorFits [] = true) : P.mayEnter = true := by
  unfold Program.mayEnter
  rw [h]
  simp only [strip_cut, ne1, ne2, ne3, h1, h2, h3, List.head?_cons, beq_self_eq_true, Bool.false_or, Bool.or_false, Bool.false_and, Bool.true_and, Bool.and_true, Bool.not_false, Bool.or_true, List.contains_nil]
theorem fact_make : Try.prog.make = some .cut := by
  obtain ⟨rest, h⟩ := words_of
  exact make_of _ _ h
theorem fact_lifts : Try.prog.liftsFinal = false := by
  obtain ⟨rest, h⟩ := words_of
  exact lifts_of _ _ h
theorem fact_later : Try.prog.laysLater = false := by kernel_rfl
theorem fact_reflect : Try.prog.bearsReflect = false := by kernel_rfl
theorem fact_door : Try.prog.doorFits [] = true := by kernel_rfl
theorem fact_enter : Try.prog.mayEnter = true := by
  obtain ⟨rest, h⟩ := words_of
  exact enter_of _ _ h fact_later fact_reflect fact_door
theorem fact_laid : laidOutB Try.prog = true := by kernel_rfl
theorem fact_maps : mapsRowed Try.prog = true := by kernel_rfl
theorem fact_heard : Try.prog.stopsHeard = true := by kernel_rfl
theorem own : ownKnob Try.prog.godebug = none := by kernel_rfl
theorem follows : Try.prog.follows .mixedOrders = true := by kernel_rfl
end Go.Proofs.Ytknhlpmmalcchaa
