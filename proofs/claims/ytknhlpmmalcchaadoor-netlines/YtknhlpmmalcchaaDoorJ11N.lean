/- Texts in plain words: strings as rows of bytes,parted at a sign; numbers,written and read. Nothing of a program stands here. -/
import Derived.Lib.AtoiAll
import Derived.Lib.ItoaNum
import Derived.Lib.Split
import Derived.Lib.SplitLaws
import Derived.Laws.Strings
import Derived.Test.YtknhlpmmalcchaaDoorJ11Vba
import Derived.Lib.Join
set_option linter.all false
set_option linter.unusedVariables false
set_option linter.unusedSimpArgs false
namespace Go.Proofs.YtknhlpmmalcchaaDoor
open Go
set_option linter.unusedVariables false
set_option linter.unusedSimpArgs false

def bs (l : List UInt8) : ByteArray := ⟨l.toArray⟩
theorem bs_data (l : List UInt8) : (bs l).data.toList = l := by simp [bs]
theorem bs_of (s : ByteArray) : bs s.data.toList = s := by cases s; simp [bs]
theorem bs_size (l : List UInt8) : (bs l).size = l.length := by simp [bs,ByteArray.size]
theorem bs_append (a b : List UInt8) : bs a ++ bs b = bs (a ++ b) := by
 apply ByteArray.ext
 rw [ByteArray.data_append]
 simp [bs]
theorem bs_extract (l : List UInt8) (a b : Nat) : (bs l).extract a b = bs ((l.drop a).take (b - a)) := by
 apply ByteArray.ext
 rw [ByteArray.data_extract]
 simp [bs]
theorem bs_get (l : List UInt8) (i : Nat) : (bs l)[i]? = l[i]? := by
 by_cases h : i < l.length
 ·have h2 : i < (bs l).size := by rw [bs_size]; exact h
  rw [getElem?_pos (bs l) i h2,List.getElem?_eq_getElem h]
  congr 1
 ·have h2 : ¬ i < (bs l).size := by rw [bs_size]; exact h
  rw [getElem?_neg (bs l) i h2,List.getElem?_eq_none (by omega)]
theorem bs_toList (l : List UInt8) : (bs l).toList = l := by rw [ByteArray.toList_eq,bs_data]

def cutAt (c : UInt8) : List UInt8 → List (List UInt8)
 | [] => [[]]
 | b :: l => if b = c then [] :: cutAt c l else
  match cutAt c l with
  | [] => [[b]]
  | x :: r => (b :: x) :: r
theorem cutAt_ne (c : UInt8) : ∀ l,cutAt c l ≠ []
 | [] => by simp [cutAt]
 | b :: l => by
  unfold cutAt
  split
  ·simp
  ·split <;> simp
theorem cutAt_hit (c : UInt8) (l : List UInt8) : cutAt c (c :: l) = [] :: cutAt c l := by rw [cutAt,if_pos rfl]
theorem cutAt_cons {c b : UInt8} {l x : List UInt8} {r : List (List UInt8)} (hb : b ≠ c) (h : cutAt c l = x :: r) : cutAt c (b :: l) = (b :: x) :: r := by rw [cutAt,if_neg hb,h]
theorem cutAt_piece {c : UInt8} : ∀ {p : List UInt8} (l : List UInt8),c ∉ p → cutAt c (p ++ c :: l) = p :: cutAt c l
 | [],l,_ => cutAt_hit c l
 | b :: p,l,h => by
  have hb : b ≠ c := fun e => h (by simp [e])
  exact cutAt_cons hb (cutAt_piece l (fun k => h (by simp [k])))
theorem cutAt_last {c : UInt8} : ∀ {p : List UInt8},c ∉ p → cutAt c p = [p]
 | [],_ => rfl
 | b :: p,h => cutAt_cons (fun e => h (by simp [e])) (cutAt_last (fun k => h (by simp [k])))
theorem cutAt_len (c : UInt8) : ∀ l : List UInt8,(cutAt c l).length = l.count c + 1
 | [] => rfl
 | b :: l => by
  have ih := cutAt_len c l
  by_cases hb : b = c
  ·subst hb
   rw [cutAt_hit,List.length_cons,ih,List.count_cons_self]
  ·cases hc : cutAt c l with
   | nil => exact absurd hc (cutAt_ne c l)
   | cons x r =>
    rw [cutAt_cons hb hc,List.count_cons_of_ne (fun e => hb e)]
    rw [hc] at ih
    simpa using ih
theorem index_one_hit (c : UInt8) (l : List UInt8) : Lib.index (c :: l) [c] = 0 := by simp [Lib.index]
theorem index_one_miss {c b : UInt8} (h : b ≠ c) (l : List UInt8) : Lib.index (b :: l) [c] = if Lib.index l [c] = -1 then -1 else Lib.index l [c] + 1 := by
 have : ([c] : List UInt8).isPrefixOf (b :: l) = false := by simp [List.isPrefixOf,Ne.symm h]
 simp only [Lib.index,this,Bool.false_eq_true,if_false,beq_iff_eq]
theorem index_count (c : UInt8) : ∀ l : List UInt8,Lib.index l [c] = -1 ↔ l.count c = 0
 | [] => by simp [Lib.index]
 | b :: l => by
  have ih := index_count c l
  by_cases hb : b = c
  ·subst hb
   rw [index_one_hit]; simp
  ·rw [index_one_miss hb,List.count_cons_of_ne (fun e => hb e)]
   have := Lib.index_ge l [c]
   split
   ·rename_i h; simp [ih.1 h]
   ·rename_i h
    constructor
    ·intro h2; omega
    ·intro h2; exact absurd (ih.2 h2) h
theorem splitK_one (c : UInt8) : ∀ l : List UInt8,Lib.splitK [c] 0 (l.count c) l = cutAt c l
 | [] => rfl
 | b :: l => by
  have ih := splitK_one c l
  by_cases hb : b = c
  ·subst hb
   rw [cutAt_hit,List.count_cons_self,Lib.splitK,index_one_hit]
   simp [ih]
  ·rw [List.count_cons_of_ne (fun e => hb e)]
   cases hk : l.count c with
   | zero =>
    rw [hk] at ih
    rw [Lib.splitK] at ih ⊢
    rw [cutAt_cons hb ih.symm]
   | succ k =>
    rw [hk] at ih
    have hne : ¬ Lib.index l [c] = -1 := fun e => by have := (index_count c l).1 e; omega
    have hge := Lib.index_ge l [c]
    rw [Lib.splitK,if_neg (by simpa using hne)] at ih
    have hi : Lib.index (b :: l) [c] = Lib.index l [c] + 1 := by rw [index_one_miss hb,if_neg hne]
    rw [Lib.splitK,hi,if_neg (by simp; omega)]
    rw [cutAt_cons hb ih.symm]
    have e1 : (Lib.index l [c] + 1).toNat = (Lib.index l [c]).toNat + 1 := by omega
    rw [e1]
    simp

theorem decDigits_ne (n : Nat) : Lib.decDigits n ≠ [] := by
 rw [Lib.decDigits]
 split <;> simp
theorem digit_val {d : Nat} (h : d < 10) : (UInt8.ofNat (48 + d)).toNat = 48 + d := by
 simp; omega
theorem decDigits_digit : ∀ (n : Nat),∀ b ∈ Lib.decDigits n,48 ≤ b.toNat ∧ b.toNat ≤ 57 := by
 intro n
 induction n using Nat.strongRecOn with
 | _ n ih =>
  rw [Lib.decDigits]
  split
  ·rename_i h
   intro b hb
   simp only [List.mem_singleton] at hb
   subst hb
   rw [digit_val h]; omega
  ·intro b hb
   rcases List.mem_append.1 hb with hb | hb
   ·exact ih (n / 10) (by omega) b hb
   ·simp only [List.mem_singleton] at hb
    subst hb
    rw [digit_val (by omega)]; omega
def spell (acc : Nat) : List UInt8 → Nat
 | [] => acc
 | c :: r => spell (acc * 10 + (c.toNat - 48)) r
theorem spell_append (acc : Nat) : ∀ (a b : List UInt8),spell acc (a ++ b) = spell (spell acc a) b
 | [],_ => rfl
 | c :: a,b => spell_append _ a b
theorem spell_dec (n : Nat) : spell 0 (Lib.decDigits n) = n := by
 induction n using Nat.strongRecOn with
 | _ n ih =>
  by_cases h : n < 10
  ·rw [Lib.decDigits,dif_pos h]
   show 0 * 10 + ((UInt8.ofNat (48 + n)).toNat - 48) = n
   rw [digit_val h]; omega
  ·rw [Lib.decDigits,dif_neg h,spell_append,ih (n / 10) (by omega)]
   show n / 10 * 10 + ((UInt8.ofNat (48 + n % 10)).toNat - 48) = n
   rw [digit_val (show n % 10 < 10 by omega)]; omega
theorem spell_ge (acc : Nat) : ∀ l : List UInt8,acc ≤ spell acc l
 | [] => Nat.le_refl _
 | c :: r => Nat.le_trans (show acc ≤ acc * 10 + (c.toNat - 48) by omega) (spell_ge (acc * 10 + (c.toNat - 48)) r)
theorem dec_spell : ∀ (r : List UInt8) (acc : Nat),0 < acc → (∀ b ∈ r,48 ≤ b.toNat ∧ b.toNat ≤ 57) → Lib.decDigits acc ++ r = Lib.decDigits (spell acc r)
 | [],acc,_,_ => List.append_nil (Lib.decDigits acc)
 | c :: r,acc,h0,h => by
  have hc := h c (by simp)
  have e : Lib.decDigits (acc * 10 + (c.toNat - 48)) = Lib.decDigits acc ++ [c] := by
   rw [Lib.decDigits,dif_neg (by omega)]
   have e1 : (acc * 10 + (c.toNat - 48)) / 10 = acc := by omega
   have e2 : (acc * 10 + (c.toNat - 48)) % 10 = c.toNat - 48 := by omega
   rw [e1,e2]
   have e3 : UInt8.ofNat (48 + (c.toNat - 48)) = c := by
    have : 48 + (c.toNat - 48) = c.toNat := by omega
    rw [this]; simp
   rw [e3]
  have ih := dec_spell r (acc * 10 + (c.toNat - 48)) (by omega) (fun b hb => h b (by simp [hb]))
  rw [e,List.append_assoc] at ih
  exact ih
def plain : List UInt8 → Bool
 | [] => false
 | [c] => decide (48 ≤ c.toNat ∧ c.toNat ≤ 57)
 | c :: r => decide (49 ≤ c.toNat ∧ c.toNat ≤ 57) && r.all fun b => decide (48 ≤ b.toNat ∧ b.toNat ≤ 57)
theorem digit_of {c : UInt8} (h : 48 ≤ c.toNat ∧ c.toNat ≤ 57) : Lib.decDigits (c.toNat - 48) = [c] := by
 have e1 : c.toNat - 48 < 10 := by omega
 have e2 : 48 + (c.toNat - 48) = c.toNat := by omega
 have e3 := Lib.decDigits_one e1
 rw [e2,UInt8.ofNat_toNat] at e3
 exact e3
theorem one_digit {c : UInt8} (h : 48 ≤ c.toNat ∧ c.toNat ≤ 57) : Lib.decDigits (spell 0 [c]) = [c] := by
 have e : spell 0 [c] = c.toNat - 48 := by
  show 0 * 10 + (c.toNat - 48) = _
  omega
 rw [e]
 exact digit_of h
theorem plain_dec {l : List UInt8} (h : plain l = true) : l = Lib.decDigits (spell 0 l) := by
 match l,h with
 | [c],h =>
  exact (one_digit (of_decide_eq_true h)).symm
 | c :: d :: r,h =>
  simp only [plain,Bool.and_eq_true,decide_eq_true_eq,List.all_eq_true] at h
  have e := dec_spell (d :: r) (c.toNat - 48) (by omega) h.2
  have e0 : Lib.decDigits (c.toNat - 48) = [c] := digit_of (by omega)
  rw [e0] at e
  have e1 : spell 0 (c :: d :: r) = spell (c.toNat - 48) (d :: r) := by
   show spell (0 * 10 + (c.toNat - 48)) (d :: r) = _
   rw [Nat.zero_mul,Nat.zero_add]
  rw [e1]
  exact e
theorem dec_head {n : Nat} : ∀ {c : UInt8} {r : List UInt8},Lib.decDigits n = c :: r → r ≠ [] → 49 ≤ c.toNat := by
 induction n using Nat.strongRecOn with
 | _ n ih =>
  intro c r h hr
  rw [Lib.decDigits] at h
  split at h
  ·injection h with h1 h2
   exact absurd h2.symm hr
  ·rename_i hn
   cases hd : Lib.decDigits (n / 10) with
   | nil => exact absurd hd (decDigits_ne _)
   | cons a q =>
    rw [hd] at h
    injection h with h1 h2
    subst h1
    by_cases hq : q = []
    ·by_cases h10 : n / 10 < 10
     ·rw [Lib.decDigits,dif_pos h10] at hd
      injection hd with hd _
      rw [← hd,digit_val h10]; omega
     ·rw [Lib.decDigits,dif_neg h10] at hd
      have := congrArg List.length hd
      have hp := List.length_pos_iff.2 (decDigits_ne (n / 10 / 10))
      rw [hq] at this
      simp only [List.length_append,List.length_cons,List.length_nil] at this
      omega
    ·exact ih (n / 10) (by omega) hd hq
theorem dec_plain (n : Nat) : plain (Lib.decDigits n) = true := by
 have hd := decDigits_digit n
 cases h : Lib.decDigits n with
 | nil => exact absurd h (decDigits_ne n)
 | cons c r =>
  rw [h] at hd
  cases r with
  | nil => simpa [plain] using hd c (by simp)
  | cons d r =>
   have h1 := dec_head h (by simp)
   have h2 := hd c (by simp)
   simp only [plain,Bool.and_eq_true,decide_eq_true_eq,List.all_eq_true]
   exact ⟨⟨h1,h2.2⟩,fun b hb => hd b (by simp [hb])⟩
def numP (l : List UInt8) : Int := match Lib.atoiAll l with
 | .ok v => if 0 ≤ v ∧ Lib.itoa v = l then v else -1
 | _ => -1
theorem parse10_spell : ∀ (l : List UInt8) (acc : Nat),(∀ b ∈ l,48 ≤ b.toNat ∧ b.toNat ≤ 57) → spell acc l < 18446744073709551616 → Lib.parseUint10 acc l = .ok (spell acc l)
 | [],_,_,_ => rfl
 | c :: r,acc,h,hb => by
  have hc := h c (by simp)
  have hge := spell_ge (acc * 10 + (c.toNat - 48)) r
  have hb2 : spell (acc * 10 + (c.toNat - 48)) r < 18446744073709551616 := hb
  rw [Lib.parseUint10,if_pos hc,if_neg (by omega),if_neg (by omega)]
  exact parse10_spell r _ (fun b hb => h b (by simp [hb])) hb2
theorem atoi_dec {n : Nat} (h : n < 9223372036854775808) : Lib.atoiAll (Lib.decDigits n) = .ok (n : Int) := by
 have hd := decDigits_digit n
 have hs := spell_dec n
 cases hc : Lib.decDigits n with
 | nil => exact absurd hc (decDigits_ne n)
 | cons c r =>
  rw [hc] at hd hs
  have h0 := hd c (by simp)
  unfold Lib.atoiAll
  have e1 : ¬ (c.toNat = 43 ∨ c.toNat = 45) := by omega
  have e2 : ¬ c.toNat = 45 := by omega
  have hp : Lib.parseMag (c :: r) = .ok n := by
   rw [Lib.parseMag,if_neg (by simp),parse10_spell _ _ hd (by rw [hs]; omega),hs]
  simp only [if_neg e1,hp]
  have e3 : ¬ 9223372036854775808 ≤ n := by omega
  simp only [e2,not_false_eq_true,true_and,e3,if_false,false_and]
theorem itoa_nat (n : Nat) : Lib.itoa (n : Int) = Lib.decDigits n := by
 unfold Lib.itoa
 rw [if_neg (by omega)]
 simp
theorem numP_dec {n : Nat} (h : n < 9223372036854775808) : numP (Lib.decDigits n) = n := by
 unfold numP
 rw [atoi_dec h]
 simp only
 rw [if_pos ⟨by omega,itoa_nat n⟩]
theorem numP_inv {l : List UInt8} (h : 0 ≤ numP l) : l = Lib.decDigits (numP l).toNat := by
 unfold numP at h ⊢
 cases ha : Lib.atoiAll l with
 | ok v =>
  rw [ha] at h
  simp only at h ⊢
  split at h
  ·rename_i hv
   rw [if_pos hv]
   have : Lib.itoa v = Lib.decDigits v.toNat := by
    unfold Lib.itoa
    rw [if_neg (by omega)]
   rw [← this]; exact hv.2.symm
  ·omega
 | range => rw [ha] at h; simp only at h; omega
 | _ => rw [ha] at h; simp only at h; omega
theorem numP_lt (l : List UInt8) : -1 ≤ numP l ∧ numP l < 9223372036854775808 := by
 unfold numP
 cases ha : Lib.atoiAll l with
 | ok v =>
  simp only
  have hb : v < 9223372036854775808 := by
   unfold Lib.atoiAll at ha
   split at ha
   ·cases ha
   ·simp only at ha
    split at ha
    ·cases ha
    ·cases ha
    ·split at ha
     ·cases ha
     ·split at ha
      ·cases ha
      ·injection ha with ha
       rename_i h1 h2
       subst ha
       split
       ·omega
       ·rename_i h3
        simp only [h3,not_false_eq_true,true_and] at h1
        omega
  split
  ·omega
  ·omega
 | range => simp only; omega
 | _ => simp only; omega
def numR (l : List UInt8) : Int := if l.length > 12 then -1 else if plain l then (spell 0 l : Nat) else -1
theorem spell_lt : ∀ (l : List UInt8) (acc : Nat),(∀ b ∈ l,48 ≤ b.toNat ∧ b.toNat ≤ 57) → spell acc l < (acc + 1) * 10 ^ l.length
 | [],acc,_ => by
  show acc < (acc + 1) * 10 ^ 0
  rw [Nat.pow_zero]; omega
 | c :: r,acc,h => by
  have hc := h c (by simp)
  have ih := spell_lt r (acc * 10 + (c.toNat - 48)) (fun b hb => h b (by simp [hb]))
  have e : (acc * 10 + (c.toNat - 48) + 1) * 10 ^ r.length ≤ (acc + 1) * 10 ^ (r.length + 1) := by
   rw [Nat.pow_succ,Nat.mul_comm (10 ^ r.length) 10,← Nat.mul_assoc]
   exact Nat.mul_le_mul_right _ (by omega)
  exact Nat.lt_of_lt_of_le ih e
theorem plain_digits {l : List UInt8} (h : plain l = true) : ∀ b ∈ l,48 ≤ b.toNat ∧ b.toNat ≤ 57 := by
 match l,h with
 | [c],h =>
  simp only [plain,decide_eq_true_eq] at h
  intro b hb
  simp only [List.mem_singleton] at hb
  subst hb; exact h
 | c :: d :: r,h =>
  simp only [plain,Bool.and_eq_true,decide_eq_true_eq,List.all_eq_true] at h
  intro b hb
  rcases List.mem_cons.1 hb with rfl | hb
  ·omega
  ·exact h.2 b hb
theorem numR_dec {n : Nat} (h : n < 1000000000000) : numR (Lib.decDigits n) = n := by
 have hl : ¬ (Lib.decDigits n).length > 12 := by
  rw [Lib.decDigits_length]
  intro h2
  by_cases h0 : n = 0
  ·subst h0
   rw [Lib.nDigits_small (by omega)] at h2
   omega
  ·obtain ⟨k,hk⟩ : ∃ k,Lib.nDigits n = k + 1 := ⟨Lib.nDigits n - 1,by have := Lib.nDigits_pos n; omega⟩
   have hp : ∀ (k u : Nat),0 < u → Lib.nDigits u = k + 1 → 10 ^ k ≤ u := by
    intro k
    induction k with
    | zero => intro u h0 _; rw [Nat.pow_zero]; exact h0
    | succ k ih =>
     intro u h0 hu
     by_cases h10 : u < 10
     ·rw [Lib.nDigits_small h10] at hu; omega
     ·rw [Lib.nDigits_big h10] at hu
      have := ih (u / 10) (by omega) (by omega)
      rw [Nat.pow_succ]; omega
   have := hp k n (by omega) hk
   have : 10 ^ 12 ≤ 10 ^ k := Nat.pow_le_pow_right (by omega) (by omega)
   omega
 unfold numR
 rw [if_neg hl,if_pos (dec_plain n),spell_dec]
theorem numR_numP (l : List UInt8) : (numR l = numP l ∧ numP l < 1000000000000) ∨ (numR l = -1 ∧ 1000000000000 ≤ numP l) := by
 by_cases hp : 0 ≤ numP l
 ·have e := numP_inv hp
  have hb := (numP_lt l).2
  obtain ⟨n,hn⟩ : ∃ n : Nat,numP l = n := ⟨(numP l).toNat,by omega⟩
  rw [hn] at e hb ⊢
  simp only [Int.toNat_natCast] at e
  by_cases h12 : n < 1000000000000
  ·left
   rw [e,numR_dec h12]
   exact ⟨rfl,by omega⟩
  ·right
   refine ⟨?_,by omega⟩
   unfold numR
   by_cases hl : l.length > 12
   ·rw [if_pos hl]
   ·rw [if_neg hl]
    split
    ·rename_i hpl
     exfalso
     have hs := spell_lt l 0 (plain_digits hpl)
     rw [e,spell_dec] at hs
     have : 10 ^ (Lib.decDigits n).length ≤ 10 ^ 12 := Nat.pow_le_pow_right (by omega) (by rw [← e]; omega)
     omega
    ·rfl
 ·left
  have hm : numP l = -1 := by have := (numP_lt l).1; omega
  refine ⟨?_,by omega⟩
  rw [hm]
  unfold numR
  split
  ·rfl
  ·split
   ·rename_i h12 hpl
    exfalso
    have e := plain_dec hpl
    have hs := spell_lt l 0 (plain_digits hpl)
    have : 10 ^ l.length ≤ 10 ^ 12 := Nat.pow_le_pow_right (by omega) (by omega)
    have hlt : spell 0 l < 9223372036854775808 := by omega
    have := numP_dec hlt
    rw [← e,hm] at this
    omega
   ·rfl
end Go.Proofs.YtknhlpmmalcchaaDoor

/- What is said of the library's functions at this seat: strings.Split (of a sign),strings.IndexByte,strconv.Itoa,strconv.Atoi. -/
namespace Go.Proofs.YtknhlpmmalcchaaDoor
open Go Go.VAI

def strs (l : List (List UInt8)) : List AVal := l.map fun p => .str (bs p)
def atoiV (l : List UInt8) : AVal :=
 match Lib.atoiAll l with
 | .ok v => .tuple [.int .i64 v,.nilIface]
 | .syntax => .tuple [.int .i64 0,.iface 104 .bot]
 | .range => .tuple [.int .i64 (Lib.atoiSat l),.iface 104 .bot]
def splitF : List AVal → AHeap → Option (AVal × AHeap)
 | [.str s,.str sep],H =>
  match sep.data.toList with
  | [c] => if s.size < 4294967281 then some (.slice H.next 0 (cutAt c s.data.toList).length (.exact (cutAt c s.data.toList).length),H.new (.cells (strs (cutAt c s.data.toList)) true)) else none
  | _ => none
 | _,_ => none
def itoaF : List AVal → AHeap → Option (AVal × AHeap)
 | [.int .i64 n],H => if -9223372036854775808 ≤ n ∧ n ≤ 9223372036854775807 then some (.str (bs (Lib.itoa n)),H) else none
 | _,_ => none
def indexF : List AVal → AHeap → Option (AVal × AHeap)
 | [.str s,.int .u8 c],H => some (.int .i64 (Lib.indexByte s.data.toList c.toNat.toUInt8),H)
 | _,_ => none
def atoiF : List AVal → AHeap → Option (AVal × AHeap)
 | [.str s],H => if s.size ≤ 281474976710656 then some (atoiV s.data.toList,H) else none
 | _,_ => none
def wsH (H : AHeap) (b : Nat) (y : Option Nat) (m : List UInt8) : AHeap :=
 (match y with
  | none => H.upd b (some (.bld (some H.next) m))
  | some y => (H.upd b (some (.bld (some H.next) m))).upd y none).new (.brow m)
def wsF : List AVal → AHeap → Option (AVal × AHeap)
 | [.ptr b 0,.str s],H =>
  match H.obj b with
  | some (.bld none l) => if s.size ≠ 0 ∧ s.size ≤ 140737488355328 ∧ l = [] then some (.tuple [.int .i64 s.size,.nilIface],wsH H b none s.data.toList) else none
  | some (.bld (some y) l) =>
   match H.obj y with
   | some (.brow l') => if s.size ≠ 0 ∧ l.length + s.size ≤ 140737488355328 ∧ l' = l then some (.tuple [.int .i64 s.size,.nilIface],wsH H b (some y) (l ++ s.data.toList)) else none
   | _ => none
  | _ => none
 | _,_ => none
def bstrF : List AVal → AHeap → Option (AVal × AHeap)
 | [.ptr b 0],H =>
  match H.obj b with
  | some (.bld (some y) l) =>
   match H.obj y with
   | some (.brow l') => if l ≠ [] ∧ l' = l then some (.str (bs l),H.upd y none) else none
   | _ => none
  | _ => none
 | _,_ => none
def unstrs : List AVal → Option (List (List UInt8))
 | [] => some []
 | .str s :: l => (unstrs l).map fun r => s.data.toList :: r
 | _ :: _ => none
theorem unstrs_strs : ∀ l : List (List UInt8),unstrs (strs l) = some l
 | [] => rfl
 | x :: l => by
  have ih := unstrs_strs l
  simp only [strs,List.map_cons] at ih ⊢
  simp only [unstrs,ih,Option.map_some,bs_data]
def joinF : List AVal → AHeap → Option (AVal × AHeap)
 | [.slice id 0 n (.exact k),.str sep],H =>
  match H.obj id with
  | some (.cells c true) =>
   match unstrs c with
   | some xs => if n = xs.length ∧ k = n ∧ 0 < n ∧ n ≤ 140737488355328 ∧ (Lib.join xs sep.data.toList).length ≤ 140737488355328 then some (.str (bs (Lib.join xs sep.data.toList)),H) else none
   | none => none
  | _ => none
 | _,_ => none
def libD : CallT := fun f args H =>
 if f = 31 then splitF args H else if f = 37 then itoaF args H else if f = 42 then indexF args H else if f = 52 then atoiF args H else if f = 36 then wsF args H else if f = 39 then bstrF args H else if f = 38 then joinF args H else none
end Go.Proofs.YtknhlpmmalcchaaDoor
