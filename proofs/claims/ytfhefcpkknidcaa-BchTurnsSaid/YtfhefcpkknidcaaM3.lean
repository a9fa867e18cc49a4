/- Merged out of the session's own texts: Zero, Loc, Rtsp, Rtsw, Locw, Flp, Degp, Degm, Degv, Degw, Brg, Degs, Degg, Set, Degr, Wrd, Dfw, Cor, Decd. -/
import Derived.Test.YtfhefcpkknidcaaM2
import Derived.Test.YtfhefcpkknidcaaM1
import Derived.Test.YtfhefcpkknidcaaPBchSparex3
import Derived.Test.YtfhefcpkknidcaaPBchSparex4
import Derived.Test.YtfhefcpkknidcaaPBchSparex2
/- A remainder whose values at the first 2t powers are nought is nought: plain. -/
namespace Go.Proofs.Ytfhefcpkknidcaa
open Go.RowKit Gf

theorem sq_xor (a b : F) : mul (a ^^^ b) (a ^^^ b) = mul a a ^^^ mul b b := by
  rw [mul_xor, xor_mul, xor_mul, mul_comm b a]
  generalize mul a a = x
  generalize mul a b = y
  generalize mul b b = z
  rw [BitVec.xor_assoc, ← BitVec.xor_assoc y y z, BitVec.xor_self, BitVec.zero_xor]
theorem S_sq (n : Nat) (f : Nat → F) : mul (S n f) (S n f) = S n (fun i => mul (f i) (f i)) := by
  induction n with
  | zero => exact mul_zero _
  | succ n ih => simp only [S]; rw [sq_xor, ih]
theorem pw_sq (y : F) (n : Nat) : mul (pw y n) (pw y n) = pw (mul y y) n := by
  induction n with
  | zero => exact one_mul _
  | succ n ih =>
    rw [← mul_pw, ← mul_pw, ← ih]
    generalize pw y n = p
    rw [mul_assoc, mul_left_comm p y p, ← mul_assoc]
theorem evB_sq (r : List UInt8) (D : Nat) (y : F) : mul (evB r D y) (evB r D y) = evB r D (mul y y) := by
  unfold evB
  rw [S_sq]
  apply S_congr
  intro i _
  split
  · exact pw_sq y _
  · exact mul_zero _
theorem evB_conj (r : List UInt8) (D j : Nat) (h : evB r D (ex j) = 0#13) (i : Nat) : evB r D (ex (j * 2 ^ i)) = 0#13 := by
  induction i with
  | zero => rw [Nat.pow_zero, Nat.mul_one]; exact h
  | succ i ih =>
    have := evB_sq r D (ex (j * 2 ^ i))
    rw [ih, mul_zero, mul_ex_ex] at this
    rw [show j * 2 ^ (i + 1) = j * 2 ^ i + j * 2 ^ i by rw [Nat.pow_succ, ← Nat.mul_assoc]; omega]
    exact this.symm
theorem syn_ev (r : List UInt8) (D k : Nat) : synN r D k D = evB r D (ex (k + 1)) := by
  have : ∀ i, synN r D k i = S i fun i => if bitL r i then pw (ex (k + 1)) (D - 1 - i) else 0#13 := by
    intro i
    induction i with
    | zero => rfl
    | succ i ih =>
      rw [synN]
      simp only [S]
      rw [← ih, pw_ex]
      by_cases h : bitL r i = true
      · rw [if_pos h, if_pos h]
      · rw [if_neg h, if_neg h, BitVec.xor_zero]
  exact this D
/-- The exponents at which the generator is nought. -/
def conjE (t : Nat) : List Nat := (List.range t).flatMap fun m => (List.range 13).map fun i => (2 * m + 1) * 2 ^ i % 8191
theorem conjE_ok : ∀ t : Fin 9, (conjE t.val).length = 13 * t.val ∧ (conjE t.val).Nodup ∧ ∀ e ∈ conjE t.val, 0 < e ∧ e < 8191 := by decide +kernel
theorem ev_rev (r : List UInt8) (D : Nat) (y : F) (hy : y ≠ 0#13) (h : evB r D y = 0#13) : ev ((List.range D).map fun i => if bitL r i then 1#13 else 0#13) (inv y) = 0#13 := by
  rw [ev_eq, List.length_map, List.length_range]
  have hm : mul (pw y (D - 1)) (S D fun i => mul (co ((List.range D).map fun i => if bitL r i then 1#13 else 0#13) i) (pw (inv y) i)) = 0#13 := by
    rw [S_mul]
    refine Eq.trans ?_ h
    unfold evB
    apply S_congr
    intro i hi
    have hc : co ((List.range D).map fun i => if bitL r i then 1#13 else 0#13) i = if bitL r i then 1#13 else 0#13 := by simp [co, hi]
    rw [hc]
    split
    · rw [one_mul]
      have e : pw y (D - 1) = mul (pw y (D - 1 - i)) (pw y i) := by rw [← pw_add]; congr 1; omega
      rw [e, mul_assoc, pw_inv hy, mul_one]
    · rw [zero_mul, mul_zero]
  rcases mul_eq_zero hm with h1 | h1
  · exact absurd h1 (pw_ne_zero hy _)
  · exact h1
theorem inv_ex {e : Nat} (h : e < 8191) : inv (ex e) = ex (8191 - e) := by unfold inv; rw [lg_ex h]
theorem rest_zero (t : Nat) (h8 : t ≤ 8) (r : List UInt8) (h : ∀ k, k < 2 * t → synN r (13 * t) k (13 * t) = 0#13) : ∀ i, i < 13 * t → bitL r i = false := by
  obtain ⟨hl, hn, he⟩ := conjE_ok ⟨t, by omega⟩
  simp only at hl hn he
  have hroot : ∀ e ∈ conjE t, evB r (13 * t) (ex e) = 0#13 := by
    intro e hm
    unfold conjE at hm
    obtain ⟨m, hm1, hm2⟩ := List.mem_flatMap.1 hm
    obtain ⟨i, hi, rfl⟩ := List.mem_map.1 hm2
    rw [ex_mod]
    rw [List.mem_range] at hm1
    apply evB_conj
    have := h (2 * m) (by omega)
    rw [syn_ev] at this
    exact this
  have hall := roots_le (13 * t) ((List.range (13 * t)).map fun i => if bitL r i then 1#13 else 0#13) ((conjE t).map fun e => inv (ex e)) (by simp) (by rw [List.length_map, hl]; exact Nat.le_refl _) (by
    rw [List.nodup_iff_pairwise_ne, List.pairwise_map]
    rw [List.nodup_iff_pairwise_ne] at hn
    refine List.Pairwise.imp_of_mem ?_ hn
    intro a b ha hb hab e
    have h1 := he a ha
    have h2 := he b hb
    rw [inv_ex h1.2, inv_ex h2.2] at e
    have := ex_inj (by omega) (by omega) e
    omega) (by
    intro y hy
    obtain ⟨e, hm, rfl⟩ := List.mem_map.1 hy
    exact ev_rev r _ _ (ex_ne_zero _) (hroot e hm))
  intro i hi
  have := hall (if bitL r i then 1#13 else 0#13) (List.mem_map.2 ⟨i, List.mem_range.2 hi, rfl⟩)
  by_cases hb : bitL r i = true
  · rw [if_pos hb] at this; exact absurd this (by decide)
  · simpa using hb
theorem byte_ext {x y : UInt8} (h : ∀ j, j < 8 → x.toNat.testBit j = y.toNat.testBit j) : x = y := by
  apply UInt8.toNat_inj.1
  apply Nat.eq_of_testBit_eq
  intro j
  by_cases hj : j < 8
  · exact h j hj
  · have e : ∀ z : UInt8, z.toNat.testBit j = false := fun z => Nat.testBit_lt_two_pow (Nat.lt_of_lt_of_le z.toNat_lt (Nat.pow_le_pow_right (n := 2) (by omega) (show 8 ≤ j by omega)))
    rw [e, e]
theorem bits_ext {l l' : List UInt8} (hl : l.length = l'.length) (h : ∀ i, i < 8 * l.length → bitL l i = bitL l' i) : l = l' := by
  apply List.ext_getElem hl
  intro k h1 h2
  apply byte_ext
  intro j hj
  have := h (8 * k + (7 - j)) (by omega)
  rw [bitL_is, bitL_is, show (8 * k + (7 - j)) / 8 = k by omega, show 7 - (8 * k + (7 - j)) % 8 = j by omega] at this
  simpa [List.getD_eq_getElem?_getD, h1, h2] using this
theorem clean_bit (tt : Nat) (_h1 : 1 ≤ tt) (l : List UInt8) (hl : l.length = nLow tt) (i : Nat) : bitL (cleanL tt l) i = if i < 13 * tt then bitL l i else false := by
  have hN : 13 * tt ≤ 8 * nLow tt := by unfold nLow; omega
  have hN2 : 8 * nLow tt < 13 * tt + 8 := by unfold nLow; omega
  by_cases h0 : 13 * tt % 8 = 0
  · have hN3 : 8 * nLow tt = 13 * tt := by unfold nLow; omega
    have e : cleanL tt l = l := by unfold cleanL; rw [if_pos h0]
    rw [e]
    split
    · rfl
    · exact bitL_out l i (by omega)
  · have e : cleanL tt l = l.set (l.length - 1) (l.getD (l.length - 1) 0 &&& maskU (13 * tt % 8)) := by unfold cleanL; rw [if_neg h0]
    have hN4 : nLow tt = 13 * tt / 8 + 1 := by unfold nLow; omega
    rw [e, bitL_is, bitL_is, List.getD_eq_getElem?_getD, List.getElem?_set]
    by_cases hk : l.length - 1 = i / 8
    · rw [if_pos hk, if_pos (by omega), Option.getD_some, UInt8.toNat_and, Nat.testBit_and, mask_bits ⟨13 * tt % 8, by omega⟩ ⟨7 - i % 8, by omega⟩ (by show 0 < 13 * tt % 8; omega), hk]
      simp only
      by_cases hi : i < 13 * tt
      · rw [if_pos hi, decide_eq_true (by omega), Bool.and_true]
      · rw [if_neg hi, decide_eq_false (by omega), Bool.and_false]
    · rw [if_neg hk, ← List.getD_eq_getElem?_getD]
      by_cases hi : i < 13 * tt
      · rw [if_pos hi]
      · rw [if_neg hi]
        rw [← bitL_is]
        exact bitL_out l i (by omega)
theorem clean_spareB (tt : Nat) (h1 : 1 ≤ tt) (l : List UInt8) (hl : l.length = nLow tt) : Spare (cleanL tt l) (13 * tt) := fun i hi => by rw [clean_bit tt h1 l hl, if_neg (by omega)]
/-- A word whose syndromes are all nought is a code word. -/
theorem clean_code (tt : Nat) (h1 : 1 ≤ tt) (h8 : tt ≤ 8) (s p : List UInt8) (hp : p.length = nLow tt) (hz : zerosK (restL tt s p) (13 * tt) (2 * tt) = true) : encB tt s = cleanL tt p := by
  have hl : (encB tt s).length = (cleanL tt p).length := by rw [encB_length, cleanL_length, hp]
  rw [zerosK_iff] at hz
  have h0 := rest_zero tt h8 _ hz
  apply bits_ext hl
  intro i _
  by_cases hi : i < 13 * tt
  · have := h0 i hi
    unfold restL at this
    rw [xorB_bit _ _ _ hl] at this
    revert this
    cases bitL (encB tt s) i <;> cases bitL (cleanL tt p) i <;> simp
  · rw [enc_spare tt h1 h8 s i (by omega), clean_spareB tt h1 p hp i (by omega)]
end Go.Proofs.Ytfhefcpkknidcaa
/- The locator, walked: parts. -/
namespace Go.Proofs.Ytfhefcpkknidcaa
open Go.RowKit Gf

/-- What a call that computes in the field keeps: the code ready, only its block and new ones written. -/
def LocI (b tt : Nat) (ch : Int) (Lw E L : Nat) (w0 wr : World) : Prop :=
  (∃ p, FldR wr b tt ch 1 0 p (13 * tt : Nat) (slB Lw (nLow tt)) E L) ∧ Only b w0 wr ∧ b < w0.heap.size ∧ E < w0.heap.size ∧ L < w0.heap.size
theorem LocI.fldS {b tt : Nat} {ch : Int} {Lw E L : Nat} {w0 wr : World} (h : LocI b tt ch Lw E L w0 wr) : FldS wr b tt ch 1 0 (13 * tt : Nat) (slB Lw (nLow tt)) := by
  obtain ⟨⟨p, hp⟩, _⟩ := h
  exact hp.back
theorem LocI.size {b tt : Nat} {ch : Int} {Lw E L : Nat} {w0 wr : World} (h : LocI b tt ch Lw E L w0 wr) : w0.heap.size ≤ wr.heap.size := h.2.1.size
theorem LocI.bb {b tt : Nat} {ch : Int} {Lw E L : Nat} {w0 wr : World} (h : LocI b tt ch Lw E L w0 wr) : b < w0.heap.size := h.2.2.1
theorem LocI.below {b tt : Nat} {ch : Int} {Lw E L : Nat} {w0 wr w' : World} (h : LocI b tt ch Lw E L w0 wr) (hb : Below wr.heap.size wr w') : LocI b tt ch Lw E L w0 w' := by
  obtain ⟨⟨p, hp⟩, ho, hr⟩ := h
  exact ⟨⟨p, hp.below hb⟩, ho.below hb, hr⟩
theorem LocI.drew {b tt : Nat} {ch : Int} {Lw E L : Nat} {w0 wr : World} (h : LocI b tt ch Lw E L w0 wr) : LocI b tt ch Lw E L w0 wr.drew := h.below (below_drewN' (Below.refl _ _) 1)
theorem LocI.mul {b tt : Nat} {ch : Int} {Lw E L : Nat} {w0 wr w' : World} (h : LocI b tt ch Lw E L w0 wr) (hP : FldP b tt ch 1 0 (13 * tt : Nat) (slB Lw (nLow tt)) wr w') : LocI b tt ch Lw E L w0 w' := by
  obtain ⟨⟨p, hp⟩, ho, hr⟩ := h
  obtain ⟨p', hp'⟩ := hP.rdy hp
  exact ⟨⟨p', hp'⟩, ho.trans hP.only, hr⟩
theorem LocI.put {b tt : Nat} {ch : Int} {Lw E L : Nat} {w0 wr : World} (h : LocI b tt ch Lw E L w0 wr) {a : Addr} (ha : w0.heap.size ≤ a.block) (v : Value) : LocI b tt ch Lw E L w0 (wr.setCell a v) := by
  obtain ⟨⟨p, hp⟩, ho, h1, h2, h3⟩ := h
  exact ⟨⟨p, hp.far (by omega) (by omega) (by omega) v⟩, ho.put (.inr ha) v, h1, h2, h3⟩
theorem LocI.grow {b tt : Nat} {ch : Int} {Lw E L : Nat} {w0 wr w' : World} {row : Option Nat} (h : LocI b tt ch Lw E L w0 wr) (hg : wr.grownBy w' row) (hr : ∀ k, row = some k → w0.heap.size ≤ k) : LocI b tt ch Lw E L w0 w' := by
  obtain ⟨⟨p, hp⟩, ho, h1, h2, h3⟩ := h
  exact ⟨⟨p, hp.grown hg (fun e => by have := hr _ e.symm; omega) (fun e => by have := hr _ e.symm; omega) (fun e => by have := hr _ e.symm; omega)⟩, ho.grownBy hg (fun k hk => .inr (hr k hk)), h1, h2, h3⟩
theorem CodeR.loc {w : World} {b tt Lw : Nat} {ch : Int} (h : CodeR w b tt ch Lw) : ∃ E L, LocI b tt ch Lw E L w w := by
  obtain ⟨⟨p, E, L, hh⟩, _⟩ := h
  exact ⟨E, L, ⟨p, hh⟩, Only.refl _ _, hh.lt.1, hh.lt.2.1, hh.lt.2.2⟩
theorem LocI.code {b tt : Nat} {ch : Int} {Lw E L : Nat} {w0 wr : World} (h : LocI b tt ch Lw E L w0 wr) (h0 : CodeR w0 b tt ch Lw) : CodeR wr b tt ch Lw := by
  obtain ⟨⟨p, hp⟩, ho, _⟩ := h
  refine ⟨⟨p, E, L, hp⟩, h0.low.other ho ?_⟩
  obtain ⟨⟨p, E, L, hh⟩, hl⟩ := h0
  exact hl.ne hh.code (by decide)
theorem inv_ex0 {e : Nat} (h : e < 8191) : inv (ex e) = ex (8191 - e) := by unfold inv; rw [lg_ex h]
/-- A value that lies below block B. -/
def Ltb (v : Value) (B : Nat) : Prop := ∀ k, v.ownBlock = some k → k < B
theorem Own.ltb {w : World} {B : Nat} {T : TypeId} {v : Value} {xs : List Value} (h : Own w B T v xs) : Ltb v w.heap.size := fun k hk => (h.below_B k hk).2
theorem Ltb.apart {v v' : Value} {B : Nat} {w : World} {T : TypeId} {xs : List Value} (h : Ltb v B) (h' : Own w B T v' xs) : v.ownBlock = none ∨ v.ownBlock ≠ v'.ownBlock := by
  rcases hv : v.ownBlock with _ | k
  · exact .inl rfl
  · refine .inr fun e => ?_
    have h1 := h k hv
    have h2 := (h'.below_B k e.symm).1
    omega
theorem Ltb.up {v : Value} {B B' : Nat} (h : Ltb v B) (hB : B ≤ B') : Ltb v B' := fun k hk => Nat.lt_of_lt_of_le (h k hk) hB
def CloneEnd (l : List F) (w : World) (e : Ending) (w' : World) : Prop := ∃ v', e = .returned v' ∧ Own w' w.heap.size 3 v' (fis l) ∧ Below w.heap.size w w'
theorem clone_any {B : Nat} {v : Value} {l : List F} (w : World) (h : Own w B 3 v (fis l)) (hl : l ≠ []) (hll : l.length ≤ 1000) : Calls Try.prog 32 #[v] w (CloneEnd l w) := by
  have hne : fis l ≠ [] := fun e => hl (by have := congrArg List.length e; rw [fis_length] at this; exact List.eq_nil_of_length_eq_zero this)
  obtain ⟨g, c, rfl, _, _, _, hc, _⟩ := h.at hne
  have hm : (l.map fi).map (Value.int .i64) = fis l := by simp [fis]
  refine (Try.slices_Clone_int g 0 (fis l).length c (l.map fi) w (by rw [fis_length, List.length_map]; exact Nat.le_refl _) (by rw [fis_length]; omega) ?_).mono ?_
  · intro j hj
    rw [List.length_map] at hj
    rw [Nat.zero_add, hc j _ (fis_at hj)]
    simp [co, hj]
  · rintro e w' ⟨v', rfl, ho, _, hb⟩
    refine ⟨v', rfl, ?_, hb⟩
    rw [List.take_of_length_le (by rw [List.length_map, fis_length]; exact Nat.le_refl _), hm] at ho
    exact ho
/-- The next polynomial, the first j terms of the elder one mixed in. -/
def updK (now old : List F) (gap : Nat) (by' : F) (j : Nat) : List F := (List.range (max now.length (old.length + gap))).map fun k => co now k ^^^ (if gap ≤ k ∧ k < gap + j then mul by' (co old (k - gap)) else 0#13)
theorem updK_length (now old : List F) (gap : Nat) (b : F) (j : Nat) : (updK now old gap b j).length = max now.length (old.length + gap) := by simp [updK]
theorem updK_zero (now old : List F) (gap : Nat) (b : F) : updK now old gap b 0 = now ++ List.replicate (old.length + gap - now.length) 0#13 := by
  apply List.ext_getElem
  · rw [updK_length]; simp; omega
  · intro k h1 h2
    have h3 : ¬ (gap ≤ k ∧ k < gap + 0) := by omega
    simp only [updK, List.getElem_map, List.getElem_range, if_neg h3, BitVec.xor_zero]
    rw [List.getElem_append]
    split
    · rename_i h4; simp [co, h4]
    · rename_i h4; rw [co_out (by omega), List.getElem_replicate]
theorem updK_at (now old : List F) (gap : Nat) (b : F) (j k : Nat) (hk : k < max now.length (old.length + gap)) : co (updK now old gap b j) k = co now k ^^^ (if gap ≤ k ∧ k < gap + j then mul b (co old (k - gap)) else 0#13) := by
  simp [co, updK, hk]
theorem updK_next (now old : List F) (gap : Nat) (b : F) (j : Nat) (hj : j < old.length) : (updK now old gap b j).set (j + gap) (co (updK now old gap b j) (j + gap) ^^^ mul b (co old j)) = updK now old gap b (j + 1) := by
  rw [updK_at _ _ _ _ _ _ (by omega)]
  apply List.ext_getElem
  · simp [updK]
  · intro k h1 h2
    rw [List.getElem_set]
    simp only [updK, List.getElem_map, List.getElem_range]
    split
    · rename_i h3
      subst h3
      rw [if_neg (by omega), if_pos (by omega), show j + gap - gap = j by omega, BitVec.xor_zero]
    · rename_i h3
      congr 1
      by_cases h4 : gap ≤ k ∧ k < gap + j
      · rw [if_pos h4, if_pos (by omega)]
      · rw [if_neg h4, if_neg (by omega)]
theorem updK_all (now old : List F) (gap : Nat) (b : F) : updK now old gap b old.length = upd now old gap b := by
  unfold updK upd
  apply List.map_congr_left
  intro k hk
  congr 1
  by_cases h : gap ≤ k
  · by_cases h2 : k < gap + old.length
    · rw [if_pos ⟨h, h2⟩, if_pos h]
    · rw [if_neg (by omega), if_pos h, co_out (l := old) (by omega), mul_zero]
  · rw [if_neg (by omega), if_neg h]
def dK (s : Nat → F) (now : List F) (n j : Nat) : F := s n ^^^ S j (fun i => mul (co now (i + 1)) (s (n - (i + 1))))
theorem dK_zero (s : Nat → F) (now : List F) (n : Nat) : dK s now n 0 = s n := by simp [dK, S]
theorem dK_next (s : Nat → F) (now : List F) (n j : Nat) : dK s now n j ^^^ mul (co now (j + 1)) (s (n - (j + 1))) = dK s now n (j + 1) := by simp only [dK, S]; rw [BitVec.xor_assoc]
theorem dK_all (s : Nat → F) (now : List F) (len n : Nat) (h : now.length ≤ len + 1) : dK s now n (now.length - 1) = disc s now len n := by unfold dK disc; rw [Nat.min_eq_right (by omega)]
theorem Own.takeF {w : World} {B g n c : Nat} {l : List F} (h : Own w B 3 (.slice (some ⟨g, 0, none⟩) n c) (fis l)) : Own w B 3 (.slice (some ⟨g, 0, none⟩) (l.length - 1) c) (fis l.dropLast) := by
  have h1 := h.take (m := l.length - 1) (by rw [fis_length]; omega)
  have e : (fis l).take (l.length - 1) = fis l.dropLast := by simp [fis, List.dropLast_eq_take, List.map_take]
  rw [e] at h1
  exact h1
end Go.Proofs.Ytfhefcpkknidcaa
/- The roots of a locator, one exponent after the other: plain. -/
namespace Go.Proofs.Ytfhefcpkknidcaa
open Go.RowKit Gf
/-- The exponents below e whose inverse powers are roots. -/
def rootK (l : List F) : Nat → List Nat
  | 0 => []
  | e + 1 => if ev l (inv (ex e)) = 0#13 then rootK l e ++ [e] else rootK l e
def logL (l : List F) (i : Nat) : List Nat := (List.range l.length).map fun j => if j < i then lg (co l j) else 0
theorem logL_length (l : List F) (i : Nat) : (logL l i).length = l.length := by simp [logL]
theorem logL_zero (l : List F) : logL l 0 = List.replicate l.length 0 := by
  apply List.ext_getElem
  · simp [logL]
  · intro j h1 h2; simp [logL]
theorem logL_set (l : List F) (i : Nat) (_h : i < l.length) : (logL l i).set i (lg (co l i)) = logL l (i + 1) := by
  apply List.ext_getElem
  · simp [logL]
  · intro j h1 h2
    rw [List.getElem_set]
    simp only [logL, List.getElem_map, List.getElem_range]
    split
    · rename_i h3; subst h3; rw [if_pos (by omega)]
    · rename_i h3
      by_cases h4 : j < i
      · rw [if_pos h4, if_pos (by omega)]
      · rw [if_neg h4, if_neg (by omega)]
theorem logL_at (l : List F) (j : Nat) (h : j < l.length) : (logL l l.length)[j]? = some (lg (co l j)) := by simp [logL, h]
/-- The value so far. -/
def vK (l : List F) (e i : Nat) : F := S i fun j => if co l j = 0#13 then 0#13 else exI ((lg (co l j) : Int) - ((j * e : Nat) : Int))
theorem vK_zero (l : List F) (e : Nat) : vK l e 0 = 0#13 := rfl
theorem vK_skip (l : List F) (e i : Nat) (h : co l i = 0#13) : vK l e (i + 1) = vK l e i := by
  unfold vK; simp only [S]; rw [if_pos h, BitVec.xor_zero]
theorem vK_next (l : List F) (e i : Nat) (h : co l i ≠ 0#13) : vK l e (i + 1) = vK l e i ^^^ exI ((lg (co l i) : Int) - ((i * e : Nat) : Int)) := by
  unfold vK; simp only [S]; rw [if_neg h]
theorem exI_shift (a e j : Nat) (he : e < 8191) : exI ((a : Int) - ((j * e : Nat) : Int)) = ex (a + (8191 - e) * j) := by
  rw [← exI_nat]
  unfold exI
  congr 2
  have h1 : (((8191 - e) * j : Nat) : Int) = 8191 * (j : Int) - ((j * e : Nat) : Int) := by
    rw [Nat.sub_mul]
    have : e * j ≤ 8191 * j := Nat.mul_le_mul_right _ (by omega)
    rw [Nat.mul_comm j e]
    omega
  rw [Int.natCast_add, h1]
  generalize ((j * e : Nat) : Int) = m
  omega
theorem vK_all (l : List F) (e : Nat) (he : e < 8191) : vK l e l.length = ev l (inv (ex e)) := by
  rw [ev_eq]
  unfold vK
  apply S_congr
  intro j hj
  by_cases h : co l j = 0#13
  · rw [if_pos h, h, zero_mul]
  · rw [if_neg h, exI_shift _ _ _ he, inv_ex0 he, pw_ex]
    have := (lg_spec h).2
    generalize lg (co l j) = a at *
    rw [← this, mul_ex_ex]
theorem rootK_mem (l : List F) (n : Nat) (e : Nat) : e ∈ rootK l n ↔ e < n ∧ ev l (inv (ex e)) = 0#13 := by
  induction n with
  | zero => simp [rootK]
  | succ n ih =>
    simp only [rootK]
    split
    · rename_i h
      rw [List.mem_append, ih, List.mem_singleton]
      constructor
      · rintro (⟨h1, h2⟩ | rfl)
        · exact ⟨by omega, h2⟩
        · exact ⟨by omega, h⟩
      · rintro ⟨h1, h2⟩
        by_cases he : e = n
        · exact .inr he
        · exact .inl ⟨by omega, h2⟩
    · rename_i h
      rw [ih]
      constructor
      · rintro ⟨h1, h2⟩; exact ⟨by omega, h2⟩
      · rintro ⟨h1, h2⟩
        refine ⟨?_, h2⟩
        by_cases he : e = n
        · subst he; exact absurd h2 h
        · omega
theorem rootK_nodup (l : List F) (n : Nat) : (rootK l n).Nodup := by
  induction n with
  | zero => simp [rootK]
  | succ n ih =>
    simp only [rootK]
    split
    · rw [List.nodup_append]
      refine ⟨ih, by simp, ?_⟩
      intro a ha b hb
      have h1 := ((rootK_mem l n a).1 ha).1
      simp at hb
      omega
    · exact ih
/-- A list that is not all noughts has fewer roots than members. -/
theorem rootK_few (l : List F) (n : Nat) (hn : n ≤ 8191) (h0 : co l 0 ≠ 0#13) : ∀ e, e ≤ n → (rootK l e).length < l.length := by
  intro e he
  have hl : 0 < l.length := by
    rcases l with _ | ⟨a, l⟩
    · exact absurd rfl h0
    · simp
  apply Nat.lt_of_not_le
  intro hle
  have := roots_le l.length l ((rootK l e).map fun e => inv (ex e)) rfl (by rw [List.length_map]; exact hle) (by
    have hnd := rootK_nodup l e
    rw [List.nodup_iff_pairwise_ne, List.pairwise_map]
    rw [List.nodup_iff_pairwise_ne] at hnd
    refine List.Pairwise.imp_of_mem ?_ hnd
    intro a b ha hb hab he2
    have h1 := ((rootK_mem l e a).1 ha).1
    have h2 := ((rootK_mem l e b).1 hb).1
    apply hab
    rw [inv_ex0 (by omega), inv_ex0 (by omega)] at he2
    have h3 := congrArg (fun x => mul x (ex (a + b))) he2
    simp only [mul_ex_ex] at h3
    rw [show 8191 - a + (a + b) = b + 8191 by omega, show 8191 - b + (a + b) = a + 8191 by omega, ex_add_order, ex_add_order] at h3
    exact (ex_inj (by omega) (by omega) h3).symm) (by
    intro y hy
    obtain ⟨e', hm, rfl⟩ := List.mem_map.1 hy
    exact ((rootK_mem l e e').1 hm).2) (co l 0) (by simp [co, hl])
  exact h0 this
end Go.Proofs.Ytfhefcpkknidcaa
/- The roots of a locator, walked. -/
namespace Go.Proofs.Ytfhefcpkknidcaa
open Go.RowKit Gf
def RootsEnd (l : List Nat) (b tt Lw : Nat) (ch : Int) (w : World) (e : Ending) (w' : World) : Prop := ∃ v, e = .returned v ∧ Own w' w.heap.size 3 v (i64s l) ∧ CodeR w' b tt ch Lw ∧ Only b w w'
theorem i64s_zeros (n : Nat) : List.replicate n (Value.int .i64 0) = i64s (List.replicate n 0) := by unfold i64s; rw [List.map_replicate]; rfl
theorem i64s_setN (l : List Nat) (j x : Nat) : (i64s l).set j (.int .i64 (x : Int)) = i64s (l.set j x) := by simp [i64s, List.map_set]
theorem i64s_snocN (l : List Nat) (x : Nat) : i64s l ++ [.int .i64 (x : Int)] = i64s (l ++ [x]) := by simp [i64s]
theorem log_all (x : F) {b : Nat} {t ch d m dg : Int} {low : Value} (w : World) (h : FldS w b t ch d m dg low) :
    Calls Try.prog 33 #[.pointer (some ⟨b, 5, none⟩), .int .i64 (fi x)] w fun e w' => (∃ bt, e = .returned (.tuple #[.int .i64 (lg x), .bool bt])) ∧ (w = w' ∨ FldP b t ch d m dg low w w') := by
  by_cases hx : x = 0#13
  · subst hx
    rw [lg_zero]
    refine (log_zero (b := b) w).mono ?_
    rintro e w' ⟨rfl, rfl⟩
    exact ⟨⟨_, rfl⟩, .inl rfl⟩
  · refine (log_any x hx w h).mono ?_
    rintro e w' ⟨rfl, hP⟩
    exact ⟨⟨_, rfl⟩, .inr hP⟩
def LogEnd (x : F) (b tt Lw : Nat) (ch : Int) (w : World) (e : Ending) (w' : World) : Prop :=
  (∃ bt, e = .returned (.tuple #[.int .i64 (lg x), .bool bt])) ∧ Only b w w' ∧ ∀ E L w0, LocI b tt ch Lw E L w0 w → LocI b tt ch Lw E L w0 w'
theorem log_loc (x : F) {b tt Lw E L : Nat} {ch : Int} {w0 : World} (w : World) (h : LocI b tt ch Lw E L w0 w) :
    Calls Try.prog 33 #[.pointer (some ⟨b, 5, none⟩), .int .i64 (fi x)] w (LogEnd x b tt Lw ch w) := by
  refine (log_all x w h.fldS).mono ?_
  rintro e w' ⟨⟨bt, rfl⟩, hw⟩
  refine ⟨⟨bt, rfl⟩, ?_⟩
  rcases hw with rfl | hP
  · exact ⟨Only.refl _ _, fun _ _ _ h => h⟩
  · exact ⟨hP.only, fun _ _ _ h => h.mul hP⟩

set_option maxRecDepth 100000 in
set_option maxHeartbeats 6400000 in
theorem roots_any (l : List F) (n : Nat) {b tt Lw : Nat} (hn : n ≤ 8190) (hl1 : 1 ≤ l.length) (hl2 : l.length ≤ 17) (hfew : ∀ e, e ≤ n → (rootK l e).length < l.length) {ch : Int} {lv : Value} {B0 : Nat} (w : World) (h : CodeR w b tt ch Lw) (hr : Own w B0 3 lv (fis l)) :
    Calls Try.prog 21 #[.pointer (some ⟨b, 0, none⟩), lv, .int .i64 n] w (RootsEnd (rootK l n) b tt Lw ch w) := by
  unfold RootsEnd
  have HC := Lib.hid h
  obtain ⟨E, L, hI⟩ := h.loc
  have hbb := hI.bb
  have hne : fis l ≠ [] := fun e => by have := congrArg List.length e; rw [fis_length] at this; simp at this; subst this; simp at hl1
  have hnb : lv.ownBlock ≠ some b := by
    obtain ⟨⟨p, E, L, hh⟩, _⟩ := h
    exact hr.ne hh.code (by decide)
  obtain ⟨sg, sc, rfl, hx1, hx2, hsg, hx3, hx4⟩ := hr.at hne
  clear hx1 hx2 hx3 hx4
  rw [fis_length] at hr hnb ⊢
  have hltb : Ltb (.slice (some ⟨sg, 0, none⟩) l.length sc) w.heap.size := hr.ltb
  have HLv : Hid (∀ w', Only b w w' → Own w' B0 3 (.slice (some ⟨sg, 0, none⟩) l.length sc) (fis l)) := fun w' ho => hr.other ho hnb
  have HFew := Lib.hid hfew
  have hmk := mk22 l.length (by omega)
  have hnew := Own.made w w.heap.size 3 (.int .i64 0) l.length (Nat.le_refl _) (by omega)
  rw [i64s_zeros, ← logL_zero] at hnew
  have hbel := (Below.refl w.heap.size w).alloc (Nat.le_refl _) (.cells (madeCells #[.int .i64 0] l.length) 3)
  have HNew := Lib.hid hnew
  have HI0 := Lib.hid (hI.below hbel)
  clear hne hnb hr h hfew hnew hbel hI hltb
  go_enter Try.func21, Try.ntmps21
  go_wp2_with fail
  clear hmk
  generalize World.alloc w _ = wa at *
  go_loopw [9, 10, 24] (fun _ _ kv wr => ∃ i : Nat, i ≤ l.length ∧ kv = .int .i64 i ∧ Own wr w.heap.size 3 (.slice (some ⟨w.heap.size, 0, none⟩) l.length l.length) (i64s (logL l i)) ∧ LocI b tt ch Lw E L w wr) (fun _ _ kv _ => l.length - (intOf kv).toNat)
  case atStart => exact ⟨0, Nat.zero_le _, rfl, HNew.out, HI0.out⟩
  case round =>
    obtain ⟨i, hi, rfl, hlg, hI⟩ := hrel
    clear HNew HI0
    by_cases hlt : i < l.length
    · have hlt' : (i : Int) < l.length := by omega
      have hc1 := ((HLv.out _ hI.2.1).get (fis_at (l := l) (j := i) hlt)).1
      have HLog := Lib.hid (log_loc (co l i) wr hI)
      have HLg := Lib.hid hlg
      have HI := Lib.hid hI
      have HSet := Lib.hid (logL_set l i hlt)
      have hgb : w.heap.size ≠ b := by omega
      obtain ⟨hcl, hzl⟩ := hlg.get (j := i) (x := .int .i64 ((logL l i)[i]'(by rw [logL_length]; exact hlt) : Nat)) (by simp [i64s, logL_length, hlt])
      have hglt := hlg.slice_lt.2.1
      clear hlg hI
      go_wp2_with fail
      refine HLog.out.mono ?_
      rintro e w1 ⟨⟨bt, rfl⟩, ho1, hk1⟩
      have HI1 := Lib.hid (hk1 _ _ _ HI.out)
      have hcl1 := ho1.cellOf hgb hcl
      have hzl1 := ho1.freeOf (j := i) hgb hglt hzl
      have hlg1 := HLg.out.other ho1 (HLg.out.neb hbb)
      have hlg2 := hlg1.put (by rw [i64s_length, logL_length]) i (.int .i64 (lg (co l i)))
      rw [i64s_setN, HSet.out] at hlg2
      have HLg2 := Lib.hid hlg2
      have HI2 := Lib.hid (HI1.out.put (a := ⟨w.heap.size, i, none⟩) (Nat.le_refl _) (.int .i64 (lg (co l i))))
      clear hcl hzl hlg1 hlg2 ho1 hk1 HLog HLg HI HI1 HSet hc1 hglt
      generalize co l i = x at *
      go_wp2_with fail
      generalize World.setCell w1 _ _ = w6 at *
      go_roundw
      case rel => exact ⟨i + 1, by omega, by go_num, HLg2.out, HI2.out⟩
      case measure => simp only [intOf]; omega
    · obtain rfl : i = l.length := by omega
      have HLg := Lib.hid hlg
      have HI := Lib.hid hI
      have HV := Lib.hid (vK_all l)
      clear hlg hI
      go_wp2_with fail
      go_loopw [11, 12, 13, 14, 15, 53] (fun ov ev' _ _ _ _ wr => ∃ (e c : Nat) (a : Option Addr), e ≤ n ∧ ev' = .int .i64 e ∧ ov = .slice a (rootK l e).length c ∧ Own wr (w.heap.size + 1) 3 (.slice a (rootK l e).length c) (i64s (rootK l e)) ∧ Own wr w.heap.size 3 (.slice (some ⟨w.heap.size, 0, none⟩) l.length l.length) (i64s (logL l l.length)) ∧ LocI b tt ch Lw E L w wr ∧ w.heap.size + 1 ≤ wr.heap.size) (fun _ ev' _ _ _ _ _ => n - (intOf ev').toNat)
      case atStart => exact ⟨0, 0, none, Nat.zero_le _, rfl, rfl, Own.nil _ _ _, HLg.out, HI.out, HLg.out.slice_lt.2.1⟩
      case round =>
        obtain ⟨e, c, a, he, rfl, rfl, hout, hlg, hI, hsz⟩ := hrel
        clear HLg HI
        have hfl := HFew.out e he
        by_cases hen : e < n
        · have hen' : (e : Int) < n := by omega
          have hfl' : ((rootK l e).length : Int) < l.length := by omega
          have HOut := Lib.hid hout
          have HLg := Lib.hid hlg
          have HI := Lib.hid hI
          have HRk : Hid (rootK l (e + 1) = if vK l e l.length = 0#13 then rootK l e ++ [e] else rootK l e) := by
            show rootK l (e + 1) = _
            rw [HV.out e (by omega)]; rfl
          clear hout hlg hI
          generalize rootK l e = R at *
          go_wp2_with fail
          go_loopw [13, 14, 15, 53] (fun vv _ _ kv wr => ∃ i : Nat, i ≤ l.length ∧ kv = .int .i64 i ∧ vv = .int .i64 (fi (vK l e i)) ∧ Own wr (w.heap.size + 1) 3 (.slice a R.length c) (i64s R) ∧ Own wr w.heap.size 3 (.slice (some ⟨w.heap.size, 0, none⟩) l.length l.length) (i64s (logL l l.length)) ∧ LocI b tt ch Lw E L w wr ∧ w.heap.size + 1 ≤ wr.heap.size) (fun _ _ _ kv _ => l.length - (intOf kv).toNat)
          case atStart => exact ⟨0, Nat.zero_le _, rfl, rfl, HOut.out, HLg.out, HI.out, hsz⟩
          case round =>
            obtain ⟨i, hi, rfl, rfl, hout, hlg, hI, hsz⟩ := hrel
            clear HOut HLg HI
            by_cases hil : i < l.length
            · have hil' : (i : Int) < l.length := by omega
              have hc1 := ((HLv.out _ hI.2.1).get (fis_at (l := l) (j := i) hil)).1
              have hc2 := (hlg.get (j := i) (x := .int .i64 (lg (co l i))) (by unfold i64s; rw [List.getElem?_map, logL_at l i hil]; rfl)).1
              have hml : i * e ≤ 17 * 8190 := Nat.mul_le_mul (by omega) (by omega)
              have hm1 : IntKind.i64.wrap ((i : Int) * (e : Int)) = ((i * e : Nat) : Int) := by
                have e1 : (i : Int) * (e : Int) = ((i * e : Nat) : Int) := by push_cast; rfl
                rw [e1]; exact i64_small _ (by omega)
              have hlgx := lg_lt (co l i)
              have hm2 : IntKind.i64.wrap ((lg (co l i) : Int) - ((i * e : Nat) : Int)) = (lg (co l i) : Int) - ((i * e : Nat) : Int) := by rw [IntKind.wrap_i64]; omega
              have HSk := Lib.hid (vK_skip l e i)
              have HNx := Lib.hid (vK_next l e i)
              have HOut := Lib.hid hout
              have HLg := Lib.hid hlg
              have HI := Lib.hid hI
              clear hout hlg hI
              generalize vK l e i = v0 at *
              generalize co l i = x at *
              by_cases hx : x = 0#13
              · have hz1 : (fi x == 0) = true := by rw [hx]; rfl
                have hz2 : (fi x != 0) = false := by rw [hx]; rfl
                have HVn := Lib.hid (HSk.out hx)
                clear hx HSk HNx hm1 hm2 hc2
                go_wp2_with fail
                go_roundw
                case rel => exact ⟨i + 1, by omega, by go_num, by rw [HVn.out], HOut.out, HLg.out, HI.out, hsz⟩
                case measure => simp only [intOf]; omega
              · have hz1 : (fi x == 0) = false := fi_zero_ne hx
                have hz2 : (fi x != 0) = true := by unfold bne; rw [hz1]; rfl
                have HVn := Lib.hid (HNx.out hx)
                have HExp := Lib.hid (exp_any ((lg x : Int) - ((i * e : Nat) : Int)) wr HI.out.fldS)
                clear hx HSk HNx
                have hm3 : 0 ≤ ((i * e : Nat) : Int) := by omega
                have hm4 : ((i * e : Nat) : Int) ≤ 17 * 8190 := by omega
                generalize ((i * e : Nat) : Int) = m at *
                clear hml hm2
                go_wp2_with fail
                ((with_reducible refine HExp.out.mono ?_))
                rintro e2 w2 ⟨rfl, hP2⟩
                have HOut2 := Lib.hid (HOut.out.other hP2.only (HOut.out.neb (by omega)))
                have HLg2 := Lib.hid (HLg.out.other hP2.only (HLg.out.neb hbb))
                have HI2 := Lib.hid (HI.out.mul hP2)
                have hsz2 : w.heap.size + 1 ≤ w2.heap.size := Nat.le_trans hsz hP2.only.size
                clear hP2 HExp HOut HLg HI hm1 hc1 hc2 hsz
                go_wp2_with fail
                rw [fi_xor, ← HVn.out]
                go_roundw
                case rel => exact ⟨i + 1, by omega, by go_num, rfl, HOut2.out, HLg2.out, HI2.out, hsz2⟩
                case measure => simp only [intOf]; omega
            · obtain rfl : i = l.length := by omega
              have HOut := Lib.hid hout
              have HLg := Lib.hid hlg
              have HI := Lib.hid hI
              clear hout hlg hI
              generalize vK l e l.length = v0 at *
              by_cases hv : v0 = 0#13
              · have hz1 : (fi v0 == 0) = true := by rw [hv]; rfl
                have HR : Hid (rootK l (e + 1) = R ++ [e]) := by show rootK l (e + 1) = R ++ [e]; rw [HRk.out, if_pos hv]
                clear hv HRk
                go_wp2_with (at_builtin; refine append1 (w.heap.size + 1) rfl (.tmp 75) (.tmp 77) 22 3 (.int .i64 0) 8 rfl Try.underlying22 (by kernel_rfl) rfl (by decide) _ (i64s R) (.int .i64 e) rfl rfl rfl HOut.out (Below.refl (w.heap.size + 1) _) hsz (by rw [i64s_length]; omega) ?_; intro v4 w4 hown4 hbel4 hg4 hat; have HG4 := Lib.hid hg4; have HO4 := Lib.hid hown4; have HBe4 := Lib.hid hbel4; clear hat hbel4 hg4 hown4)
                have hx := HO4.out
                rw [i64s_snocN] at hx
                obtain ⟨a4, c4, rfl, hx1⟩ := hx.form
                have hl4 : (i64s (R ++ [e])).length = (R ++ [e]).length := i64s_length _
                rw [hl4] at hx ⊢
                have HLg4 := Lib.hid (HLg.out.keep HG4.out (Ltb.apart (B := w.heap.size + 1) (fun k hk => by simp [Value.ownBlock] at hk; omega) HOut.out))
                have HI4 := Lib.hid (HI.out.grow HG4.out (fun k hk => by have := (HOut.out.below_B k hk).1; omega))
                have hB4 : w.heap.size + 1 ≤ w4.heap.size := Nat.le_trans hsz HBe4.out.size
                have HX := Lib.hid hx
                clear hx1 hl4 hx HO4 HBe4 HG4 HOut HLg HI hsz
                go_wp2_with fail
                go_roundw
                case rel => exact ⟨e + 1, c4, a4, by omega, by go_num, by rw [HR.out], by rw [HR.out]; exact HX.out, HLg4.out, HI4.out, hB4⟩
                case measure => simp only [intOf]; omega
              · have hz1 : (fi v0 == 0) = false := fi_zero_ne hv
                have HR : Hid (rootK l (e + 1) = R) := by show rootK l (e + 1) = R; rw [HRk.out, if_neg hv]
                clear hv HRk
                go_wp2_with fail
                go_roundw
                case rel => exact ⟨e + 1, c, a, by omega, by go_num, by rw [HR.out], by rw [HR.out]; exact HOut.out, HLg.out, HI.out, hsz⟩
                case measure => simp only [intOf]; omega
        · obtain rfl : e = n := by omega
          have hen' : ¬ ((e : Int) < e) := by omega
          have HOut := Lib.hid (hout.lower (B' := w.heap.size) (by omega))
          have HI := Lib.hid hI
          clear hout hlg hI
          go_wp2_with fail
          go_ret
          exact ⟨_, rfl, HOut.out, HI.out.code HC.out, HI.out.2.1⟩
end Go.Proofs.Ytfhefcpkknidcaa
/- The locator, walked. -/
namespace Go.Proofs.Ytfhefcpkknidcaa
open Go.RowKit Gf
def LocEnd (l : List F) (b tt Lw : Nat) (ch : Int) (w : World) (e : Ending) (w' : World) : Prop := ∃ v, e = .returned v ∧ Own w' w.heap.size 3 v (fis l) ∧ CodeR w' b tt ch Lw ∧ Only b w w'

set_option maxRecDepth 100000 in
set_option maxHeartbeats 6400000 in
theorem locator_any (sl : List F) {b tt Lw : Nat} (hsl : sl.length ≤ 16) (hsl1 : 1 ≤ sl.length) {ch : Int} {sv : Value} {B0 : Nat} (w : World) (h : CodeR w b tt ch Lw) (hr : Own w B0 3 sv (fis sl)) :
    Calls Try.prog 20 #[.pointer (some ⟨b, 0, none⟩), sv] w (LocEnd (locator (co sl) sl.length) b tt Lw ch w) := by
  unfold LocEnd
  have HC := Lib.hid h
  obtain ⟨E, L, hI⟩ := h.loc
  have hbb := hI.bb
  have hne : fis sl ≠ [] := fun e => by have := congrArg List.length e; rw [fis_length] at this; simp at this; subst this; simp at hsl1
  have hnb : sv.ownBlock ≠ some b := by
    obtain ⟨⟨p, E, L, hh⟩, _⟩ := h
    exact hr.ne hh.code (by decide)
  obtain ⟨sg, sc, rfl, hx1, hx2, hsg, hx3, hx4⟩ := hr.at hne
  clear hx1 hx2 hx3 hx4
  rw [fis_length] at hr hnb ⊢
  have HSv : Hid (∀ w', Only b w w' → Own w' B0 3 (.slice (some ⟨sg, 0, none⟩) sl.length sc) (fis sl)) := fun w' ho => hr.other ho hnb
  clear hne hnb hr h
  have ha1 := Own.lit w w.heap.size 3 #[.int .i64 1] (Nat.le_refl _) (by simp)
  have hb1 := (Below.refl w.heap.size w).alloc (Nat.le_refl _) (.cells #[.int .i64 1] 3)
  have hI1 := hI.below hb1
  have hs1 : w.heap.size ≤ (w.alloc (.cells #[.int .i64 1] 3)).heap.size := by simp
  have ha2 := Own.lit (w.alloc (.cells #[.int .i64 1] 3)) w.heap.size 3 #[.int .i64 1] hs1 (by simp)
  have hI2 := hI1.below ((Below.refl _ _).alloc (Nat.le_refl _) (.cells #[.int .i64 1] 3))
  have ha1' := ha1.alloc (.cells #[.int .i64 1] 3)
  have HNow0 : Hid (Own ((w.alloc (.cells #[.int .i64 1] 3)).alloc (.cells #[.int .i64 1] 3)) w.heap.size 3 (.slice (some ⟨w.heap.size, 0, none⟩) 1 1) (fis [1#13])) := ha1'
  have HOld0 : Hid (Own ((w.alloc (.cells #[.int .i64 1] 3)).alloc (.cells #[.int .i64 1] 3)) w.heap.size 3 (.slice (some ⟨(w.alloc (.cells #[.int .i64 1] 3)).heap.size, 0, none⟩) 1 1) (fis [1#13])) := ha2
  have HI0 := Lib.hid hI2
  clear ha1 ha2 ha1' hI hI1 hI2 hb1 hs1
  go_enter Try.func20, Try.ntmps20
  go_wp2_with fail
  generalize World.alloc (World.alloc w _) _ = wa at *
  go_loopw [6, 7, 8, 9, 10, 11, 12, 13, 14, 15, 16, 17, 18, 26] (fun v6 v7 v8 v9 v10 _ _ _ _ _ _ _ _ kv wr => ∃ (n gn cn go co' : Nat), n ≤ sl.length ∧ kv = .int .i64 n ∧ v6 = .slice (some ⟨gn, 0, none⟩) (runBM (co sl) n).now.length cn ∧ v7 = .slice (some ⟨go, 0, none⟩) (runBM (co sl) n).old.length co' ∧ v8 = .int .i64 (runBM (co sl) n).len ∧ v9 = .int .i64 (runBM (co sl) n).gap ∧ v10 = .int .i64 (fi (runBM (co sl) n).last) ∧
      Own wr w.heap.size 3 (.slice (some ⟨gn, 0, none⟩) (runBM (co sl) n).now.length cn) (fis (runBM (co sl) n).now) ∧ Own wr w.heap.size 3 (.slice (some ⟨go, 0, none⟩) (runBM (co sl) n).old.length co') (fis (runBM (co sl) n).old) ∧ LocI b tt ch Lw E L w wr) (fun _ _ _ _ _ _ _ _ _ _ _ _ _ kv _ => sl.length - (intOf kv).toNat)
  case atStart => exact ⟨0, w.heap.size, 1, w.heap.size + 1, 1, by omega, rfl, rfl, by simp [runBM, initBM], rfl, rfl, rfl, HNow0.out, by simpa [runBM, initBM] using HOld0.out, HI0.out⟩
  case round =>
    obtain ⟨n, gn, cn, go, co', hn, rfl, rfl, rfl, rfl, rfl, rfl, hnow, hold, hI⟩ := hrel
    clear HNow0 HOld0 HI0
    by_cases hlt : n < sl.length
    · have hinv := inv_run (co sl) n
      have HRun : Hid (runBM (co sl) (n + 1) = stepBM (co sl) n (runBM (co sl) n)) := rfl
      have hsc := ((HSv.out _ hI.2.1).get (fis_at (l := sl) (j := n) hlt)).1
      have hlt' : (n : Int) < sl.length := by omega
      generalize runBM (co sl) n = st at *
      obtain ⟨now, old, ln, gap, last⟩ := st
      simp only at hnow hold hinv ⊢
      obtain ⟨i1, i2, i3, i4, i5, i6, i7, i8, i9, i10, i11, i12, i13⟩ := hinv
      simp only at i1 i2 i3 i4 i5 i6 i7 i8 i9 i13
      clear i4 i7 i10 i11 i12
      have HNow := Lib.hid hnow
      have HOld := Lib.hid hold
      have HI := Lib.hid hI
      have HLast := Lib.hid i13
      clear hnow hold hI i13
      go_wp2_with fail
      clear hsc
      rw [← dK_zero (co sl) now n]
      go_loopw [12, 13] (fun dv iv wr => ∃ j : Nat, j + 1 ≤ now.length ∧ iv = .int .i64 ((j : Int) + 1) ∧ dv = .int .i64 (fi (dK (co sl) now n j)) ∧ Own wr w.heap.size 3 (.slice (some ⟨gn, 0, none⟩) now.length cn) (fis now) ∧ Own wr w.heap.size 3 (.slice (some ⟨go, 0, none⟩) old.length co') (fis old) ∧ LocI b tt ch Lw E L w wr) (fun _ iv _ => 20 - (intOf iv).toNat)
      case atStart => exact ⟨0, i3, rfl, rfl, HNow.out, HOld.out, HI.out⟩
      case round =>
        obtain ⟨j, hj, rfl, rfl, hnow, hold, hI⟩ := hrel
        clear HNow HOld HI
        by_cases hjl : j + 1 < now.length
        · have hj1 : (j : Int) + 1 ≤ ln := by omega
          have hj2 : (j : Int) + 1 < now.length := by omega
          have hwn : IntKind.i64.wrap ((n : Int) - ((j : Int) + 1)) = ((n - (j + 1) : Nat) : Int) := by rw [IntKind.wrap_i64]; omega
          have hni : ((n - (j + 1) : Nat) : Int) < sl.length := by omega
          have hc1 := (hnow.get (fis_at (l := now) (j := j + 1) hjl)).1
          have hc2 := ((HSv.out _ hI.2.1).get (fis_at (l := sl) (j := n - (j + 1)) (by omega))).1
          have HD := Lib.hid (dK_next (co sl) now n j)
          have HX : Hid (∀ w, FldS w b tt ch 1 0 (13 * tt : Nat) (slB Lw (nLow tt)) → Calls Try.prog 30 #[.pointer (some ⟨b, 5, none⟩), .int .i64 (fi (co now (j + 1))), .int .i64 (fi (co sl (n - (j + 1))))] w (fun e w' => e = .returned (.int .i64 (fi (mul (co now (j + 1)) (co sl (n - (j + 1)))))) ∧ FldP b tt ch 1 0 (13 * tt : Nat) (slB Lw (nLow tt)) w w')) := fun w h => mul_any _ _ w h
          have HNow := Lib.hid hnow
          have HOld := Lib.hid hold
          have HI := Lib.hid hI
          clear hnow hold hI
          generalize n - (j + 1) = ni at *
          generalize co now (j + 1) = x at *
          generalize co sl ni = y at *
          generalize dK (co sl) now n j = d0 at *
          go_wp2_with fail
          go_region_with (go_at_call 30; refine (HX.out _ HI.out.drew.fldS).mono ?_; rintro e w2 ⟨rfl, hP2⟩; have HP2 := Lib.hid hP2; clear hP2)
          all_goals
            go_wp2_with fail
            rw [fi_xor, HD.out]
            have HNow2 := Lib.hid ((HNow.out.drew).other HP2.out.only (HNow.out.neb hbb))
            have HOld2 := Lib.hid ((HOld.out.drew).other HP2.out.only (HOld.out.neb hbb))
            have HI2 := Lib.hid (HI.out.drew.mul HP2.out)
            clear HNow HOld HI HX HP2 hc1 hc2 hwn
            go_roundw
            case rel => exact ⟨j + 1, by omega, by go_num, rfl, HNow2.out, HOld2.out, HI2.out⟩
            case measure => simp only [intOf]; omega
        · have hjn : j + 1 = now.length := by omega
          have HDall : Hid (dK (co sl) now n j = disc (co sl) now ln n) := by
            show dK (co sl) now n j = disc (co sl) now ln n
            rw [← dK_all (co sl) now ln n i2, show now.length - 1 = j by omega]
          have HStp : Hid (∀ x, disc (co sl) now ln n = x → runBM (co sl) (n + 1) = (if x = 0#13 then ⟨now, old, ln, gap + 1, last⟩ else if 2 * ln ≤ n then ⟨upd now old gap (mul (inv last) x), now, n + 1 - ln, 1, x⟩ else ⟨upd now old gap (mul (inv last) x), old, ln, gap + 1, last⟩)) := by
            intro x hx
            rw [HRun.out]; unfold stepBM; simp only [hx]
          have hj2 : ¬ ((j : Int) + 1 < now.length) := by omega
          rw [HDall.out]
          generalize hdx : disc (co sl) now ln n = x at *
          have HR2 := Lib.hid (HStp.out x rfl)
          have HNow := Lib.hid hnow
          have HOld := Lib.hid hold
          have HI := Lib.hid hI
          clear HRun HStp HDall hdx hjl hnow hold hI
          by_cases hx0 : x = 0#13
          · subst hx0
            have HR3 : Hid (runBM (co sl) (n + 1) = ⟨now, old, ln, gap + 1, last⟩) := by
              show runBM (co sl) (n + 1) = ⟨now, old, ln, gap + 1, last⟩
              rw [HR2.out, if_pos rfl]
            clear HR2
            by_cases hln : (j : Int) + 1 ≤ ln
            all_goals
              go_wp2_with fail
              go_roundw
              case rel => exact ⟨n + 1, gn, cn, go, co', by omega, by go_num, by rw [HR3.out], by rw [HR3.out], by rw [HR3.out], by rw [HR3.out]; go_num, by rw [HR3.out], by rw [HR3.out]; exact HNow.out, by rw [HR3.out]; exact HOld.out, HI.out⟩
              case measure => simp only [intOf]; omega
          · have HR3 : Hid (runBM (co sl) (n + 1) = (if 2 * ln ≤ n then ⟨upd now old gap (mul (inv last) x), now, n + 1 - ln, 1, x⟩ else ⟨upd now old gap (mul (inv last) x), old, ln, gap + 1, last⟩)) := by
              show runBM (co sl) (n + 1) = _
              rw [HR2.out, if_neg hx0]
            have hxz := fi_zero_ne hx0
            have HInv := Lib.hid (inv_any last HLast.out _ HI.out.fldS)
            clear HR2 hx0
            by_cases hln : (j : Int) + 1 ≤ ln
            all_goals
              clear hjn
              go_wp2_with fail
              clear hxz
              refine HInv.out.mono ?_
              rintro e w1 ⟨rfl, hP1⟩
              have HNow1 := Lib.hid (HNow.out.other hP1.only (HNow.out.neb hbb))
              have HOld1 := Lib.hid (HOld.out.other hP1.only (HOld.out.neb hbb))
              have HI1 := Lib.hid (HI.out.mul hP1)
              have HMul := Lib.hid (mul_any (inv last) x _ HI1.out.fldS)
              clear HInv hP1 HNow HOld HI HLast
              go_wp2_with fail
              refine HMul.out.mono ?_
              rintro e w2 ⟨rfl, hP2⟩
              have HNow2 := Lib.hid (HNow1.out.other hP2.only (HNow1.out.neb hbb))
              have HOld2 := Lib.hid (HOld1.out.other hP2.only (HOld1.out.neb hbb))
              have HI2 := Lib.hid (HI1.out.mul hP2)
              have HCl := Lib.hid (clone_any _ HNow2.out (fun e => by rw [e] at i3; simp at i3) (by omega))
              clear HMul hP2 HNow1 HOld1 HI1
              generalize mul (inv last) x = by' at *
              go_wp2_with fail
              refine HCl.out.mono ?_
              rintro e w3 ⟨v16, rfl, hn3, hb3⟩
              have hl6 := HNow2.out.ltb
              have hl7 := HOld2.out.ltb
              have HNow3 := Lib.hid (HNow2.out.below hb3)
              have HOld3 := Lib.hid (HOld2.out.below hb3)
              have HI3 := Lib.hid (HI2.out.below hb3)
              have hB2 : w.heap.size ≤ w2.heap.size := HI2.out.size
              have hB3 : w2.heap.size ≤ w3.heap.size := hb3.size
              have HL6 := Lib.hid hl6
              have HL7 := Lib.hid hl7
              have HNx3 : Hid (Own w3 w2.heap.size 3 v16 (fis (now ++ List.replicate 0 0#13))) := by
                show Own w3 w2.heap.size 3 v16 (fis (now ++ List.replicate 0 0#13))
                simpa using hn3
              clear hl6 hl7 hn3 hb3 HCl HNow2 HOld2 HI2
              generalize hBB : w2.heap.size = B2 at *
              clear hBB
              have hne3 : fis (now ++ List.replicate 0 0#13) ≠ [] := fun e => by have := congrArg List.length e; rw [fis_length] at this; simp at this; rw [this] at i3; simp at i3
              obtain ⟨gx0, cx0, rfl, hx1, hx2, hx3, hx4, hx5⟩ := HNx3.out.at hne3
              clear hx1 hx2 hx3 hx4 hx5 hne3
              have hl3 : (fis (now ++ List.replicate 0 0#13)).length = now.length := by rw [fis_length]; simp
              rw [hl3] at HNx3 ⊢
              clear hl3
              go_wp2_with fail
              go_loopw [16] (fun v wr => ∃ q gx cx : Nat, now.length ≤ q ∧ q ≤ max now.length (old.length + gap) ∧ v = .slice (some ⟨gx, 0, none⟩) q cx ∧ Own wr B2 3 (.slice (some ⟨gx, 0, none⟩) q cx) (fis (now ++ List.replicate (q - now.length) 0#13)) ∧ Own wr w.heap.size 3 (.slice (some ⟨gn, 0, none⟩) now.length cn) (fis now) ∧ Own wr w.heap.size 3 (.slice (some ⟨go, 0, none⟩) old.length co') (fis old) ∧ LocI b tt ch Lw E L w wr ∧ B2 ≤ wr.heap.size) (fun v _ => match v with | .slice _ q _ => 40 - q | _ => 0)
              case atStart => exact ⟨now.length, gx0, cx0, Nat.le_refl _, by omega, rfl, by rw [Nat.sub_self]; exact HNx3.out, HNow3.out, HOld3.out, HI3.out, hB3⟩
              case round =>
                obtain ⟨q, gx, cx, hq1, hq2, rfl, hnx, hnow, hold, hI, hBr⟩ := hrel
                clear HNx3 HNow3 HOld3 HI3 hB3
                by_cases hq : q < old.length + gap
                · have hqi : (q : Int) < (old.length : Int) + gap := by omega
                  have HNx := Lib.hid hnx
                  have HNow := Lib.hid hnow
                  have HOld := Lib.hid hold
                  have HI := Lib.hid hI
                  have hql : (fis (now ++ List.replicate (q - now.length) 0#13)).length = q := by rw [fis_length]; simp; omega
                  have HQL := Lib.hid hql
                  clear hnx hnow hold hI hql
                  go_wp2_with (at_builtin; refine append1 B2 rfl (.tmp 81) (.tmp 82) 22 3 (.int .i64 0) 8 rfl Try.underlying22 (by kernel_rfl) rfl (by decide) _ (fis (now ++ List.replicate (q - now.length) 0#13)) (.int .i64 0) rfl rfl rfl HNx.out (Below.refl B2 _) hBr (by rw [HQL.out]; omega) ?_; intro v4 w4 hown4 hbel4 hg4 hat; have HG4 := Lib.hid hg4; have HO4 := Lib.hid hown4; have HBe4 := Lib.hid hbel4; clear hat hbel4 hg4 hown4)
                  have hap : fis (now ++ List.replicate (q - now.length) 0#13) ++ [.int .i64 0] = fis (now ++ List.replicate (q + 1 - now.length) 0#13) := by
                    rw [← fi_zero, fis_snoc, List.append_assoc, ← List.replicate_succ', show q - now.length + 1 = q + 1 - now.length by omega]
                  have hx := HO4.out
                  rw [hap] at hx
                  obtain ⟨gy, cy, rfl, hx1, hx2, hx3, hx4, hx5⟩ := hx.at (fun e => by have := congrArg List.length e; rw [fis_length] at this; simp at this; omega)
                  have hl4 : (fis (now ++ List.replicate (q + 1 - now.length) 0#13)).length = q + 1 := by rw [fis_length]; simp; omega
                  rw [hl4] at hx ⊢
                  have HNow4 := Lib.hid (HNow.out.keep HG4.out (HL6.out.apart HNx.out))
                  have HOld4 := Lib.hid (HOld.out.keep HG4.out (HL7.out.apart HNx.out))
                  have HI4 := Lib.hid (HI.out.grow HG4.out (fun k hk => Nat.le_trans hB2 (HNx.out.below_B k hk).1))
                  have hB4 : B2 ≤ w4.heap.size := Nat.le_trans hBr HBe4.out.size
                  have HX := Lib.hid hx
                  clear hx1 hx2 hx3 hx4 hx5 hl4 hx hap HO4 HBe4 HG4 HNx HNow HOld HI hBr
                  go_wp2_with fail
                  go_roundw
                  case rel => exact ⟨q + 1, gy, cy, by omega, by omega, rfl, HX.out, HNow4.out, HOld4.out, HI4.out, hB4⟩
                  case measure => simp only []; omega
                · have hqi : ¬ ((q : Int) < (old.length : Int) + gap) := by omega
                  obtain rfl : q = max now.length (old.length + gap) := by omega
                  have hup : now ++ List.replicate (max now.length (old.length + gap) - now.length) 0#13 = updK now old gap by' 0 := by rw [updK_zero]; congr 2; omega
                  rw [hup] at hnx
                  have HNx := Lib.hid hnx
                  have HNow := Lib.hid hnow
                  have HOld := Lib.hid hold
                  have HI := Lib.hid hI
                  clear hnx hnow hold hI hup
                  have hQ1 : now.length ≤ max now.length (old.length + gap) := by omega
                  have hQ2 : old.length + gap ≤ max now.length (old.length + gap) := by omega
                  have hQ3 : max now.length (old.length + gap) ≤ 40 := by omega
                  have HQ : Hid (∀ i, (updK now old gap by' i).length = max now.length (old.length + gap)) := fun i => updK_length _ _ _ _ i
                  clear hq2 hq1
                  generalize max now.length (old.length + gap) = q at *
                  go_wp2_with fail
                  go_loopw [17, 18, 86] (fun _ _ kv wr => ∃ i : Nat, i ≤ old.length ∧ kv = .int .i64 i ∧ Own wr B2 3 (.slice (some ⟨gx, 0, none⟩) q cx) (fis (updK now old gap by' i)) ∧ Own wr w.heap.size 3 (.slice (some ⟨gn, 0, none⟩) now.length cn) (fis now) ∧ Own wr w.heap.size 3 (.slice (some ⟨go, 0, none⟩) old.length co') (fis old) ∧ LocI b tt ch Lw E L w wr) (fun _ _ kv _ => old.length - (intOf kv).toNat)
                  case atStart => exact ⟨0, Nat.zero_le _, rfl, HNx.out, HNow.out, HOld.out, HI.out⟩
                  case round =>
                    obtain ⟨i, hio, rfl, hnx, hnow, hold, hI⟩ := hrel
                    clear HNx HNow HOld HI
                    by_cases hil : i < old.length
                    · have hii : (i : Int) < old.length := by omega
                      have hwig : IntKind.i64.wrap ((i : Int) + gap) = ((i + gap : Nat) : Int) := by rw [IntKind.wrap_i64]; omega
                      have higq : ((i + gap : Nat) : Int) < q := by omega
                      have hc1 := (hold.get (fis_at (l := old) (j := i) hil)).1
                      obtain ⟨hn1, hz1⟩ := hnx.get (fis_at (l := updK now old gap by' i) (j := i + gap) (by rw [HQ.out]; omega))
                      have HNxt := Lib.hid (updK_next now old gap by' i hil)
                      have hgx := hnx.slice_lt
                      have hgxB := hgx.1
                      have hgxw := hgx.2.1
                      have hgxb : gx ≠ b := by omega
                      have HNx := Lib.hid hnx
                      have HNow := Lib.hid hnow
                      have HOld := Lib.hid hold
                      have HI := Lib.hid hI
                      have HQi := Lib.hid (HQ.out i)
                      clear hnx hnow hold hI hgx hBr
                      generalize updK now old gap by' i = U at *
                      generalize co old i = y at *
                      generalize i + gap = ig at *
                      have HX : Hid (∀ w, FldS w b tt ch 1 0 (13 * tt : Nat) (slB Lw (nLow tt)) → Calls Try.prog 30 #[.pointer (some ⟨b, 5, none⟩), .int .i64 (fi by'), .int .i64 (fi y)] w (fun e w' => e = .returned (.int .i64 (fi (mul by' y))) ∧ FldP b tt ch 1 0 (13 * tt : Nat) (slB Lw (nLow tt)) w w')) := fun w h => mul_any _ _ w h
                      go_wp2_with fail
                      go_region_with (go_at_call 30; refine (HX.out _ HI.out.drew.fldS).mono ?_; rintro e w5 ⟨rfl, hP5⟩; have hn2 := hP5.only.cellOf hgxb hn1; have hz2 := hP5.only.freeOf (j := ig) hgxb hgxw hz1; have HP5 := Lib.hid hP5; clear hP5)
                      all_goals
                        go_wp2_with fail
                        rw [fi_xor]
                        have hn5 := (HNx.out.drew).other HP5.out.only (HNx.out.neb (Nat.lt_of_lt_of_le hbb hB2))
                        have hn6 := hn5.put (by rw [fis_length, HQi.out]) ig (.int .i64 (fi (co U ig ^^^ mul by' y)))
                        rw [fis_set, HNxt.out] at hn6
                        have hnow5 := (HNow.out.drew).other HP5.out.only (HNow.out.neb hbb)
                        have hold5 := (HOld.out.drew).other HP5.out.only (HOld.out.neb hbb)
                        have hnow6 := hnow5.far (p := ⟨gx, ig, none⟩) (fun e => by have := HL6.out _ e; simp only at this; omega) (.int .i64 (fi (co U ig ^^^ mul by' y)))
                        have hold6 := hold5.far (p := ⟨gx, ig, none⟩) (fun e => by have := HL7.out _ e; simp only at this; omega) (.int .i64 (fi (co U ig ^^^ mul by' y)))
                        have hI6 := (HI.out.drew.mul HP5.out).put (a := ⟨gx, ig, none⟩) (Nat.le_trans hB2 hgxB) (.int .i64 (fi (co U ig ^^^ mul by' y)))
                        have HNx6 := Lib.hid hn6
                        have HNow6 := Lib.hid hnow6
                        have HOld6 := Lib.hid hold6
                        have HI6 := Lib.hid hI6
                        clear hn5 hn6 hnow5 hold5 hnow6 hold6 hI6 hn2 hz2 HP5 HNx HNow HOld HI hn1 hz1 hc1 HX hwig
                        generalize World.setCell w5 _ _ = w6 at *
                        go_wp2_with fail
                        go_roundw
                        case rel => exact ⟨i + 1, by omega, by go_num, HNx6.out, HNow6.out, HOld6.out, HI6.out⟩
                        case measure => simp only [intOf]; omega
                    · obtain rfl : i = old.length := by omega
                      have hua := updK_all now old gap by'
                      have hql := HQ.out old.length
                      rw [hua] at hnx hql
                      have hnx2 := hnx.lower hB2
                      have HNx := Lib.hid hnx2
                      have HNow := Lib.hid hnow
                      have HOld := Lib.hid hold
                      have HI := Lib.hid hI
                      have HQl := Lib.hid hql
                      clear hua hnx hnow hold hI hnx2 hql hBr
                      by_cases hgl : 2 * ln ≤ n
                      · have hgl' : 2 * (ln : Int) ≤ n := by omega
                        have HR4 : Hid (runBM (co sl) (n + 1) = ⟨upd now old gap by', now, n + 1 - ln, 1, x⟩) := by
                          show runBM (co sl) (n + 1) = _
                          rw [HR3.out, if_pos hgl]
                        clear HR3
                        go_wp2_with fail
                        go_roundw
                        case rel => exact ⟨n + 1, gx, cx, gn, cn, by omega, by go_num, by rw [HR4.out]; simp only [HQl.out], by rw [HR4.out], by rw [HR4.out]; simp only []; congr 1; omega, by rw [HR4.out]; rfl, by rw [HR4.out], by rw [HR4.out]; simp only [HQl.out]; exact HNx.out, by rw [HR4.out]; exact HNow.out, HI.out⟩
                        case measure => simp only [intOf]; omega
                      · have hgl' : ¬ (2 * (ln : Int) ≤ n) := by omega
                        have HR4 : Hid (runBM (co sl) (n + 1) = ⟨upd now old gap by', old, ln, gap + 1, last⟩) := by
                          show runBM (co sl) (n + 1) = _
                          rw [HR3.out, if_neg hgl]
                        clear HR3
                        go_wp2_with fail
                        go_roundw
                        case rel => exact ⟨n + 1, gx, cx, go, co', by omega, by go_num, by rw [HR4.out]; simp only [HQl.out], by rw [HR4.out], by rw [HR4.out], by rw [HR4.out]; go_num, by rw [HR4.out], by rw [HR4.out]; simp only [HQl.out]; exact HNx.out, by rw [HR4.out]; exact HOld.out, HI.out⟩
                        case measure => simp only [intOf]; omega
    · obtain rfl : n = sl.length := by omega
      have HLoc : Hid (locator (co sl) sl.length = trim (runBM (co sl) sl.length).now) := rfl
      have hinv := (inv_run (co sl) sl.length).now_pos
      have hinv2 := (inv_run (co sl) sl.length).now_le
      have hinv3 := (inv_run (co sl) sl.length).len_le
      have HNow := Lib.hid hnow
      have HI := Lib.hid hI
      clear hold hnow hI hlt
      generalize runBM (co sl) sl.length = st at *
      obtain ⟨now, old, ln, gap, last⟩ := st
      simp only at HNow hinv hinv2 hinv3 HLoc ⊢
      go_wp2_with fail
      go_loopw [6] (fun v wr => ∃ l : List F, v = .slice (some ⟨gn, 0, none⟩) l.length cn ∧ trim l = trim now ∧ 1 ≤ l.length ∧ l.length ≤ 20 ∧ Own wr w.heap.size 3 (.slice (some ⟨gn, 0, none⟩) l.length cn) (fis l) ∧ LocI b tt ch Lw E L w wr) (fun v _ => match v with | .slice _ q _ => q | _ => 0)
      case atStart => exact ⟨now, rfl, rfl, hinv, by omega, HNow.out, HI.out⟩
      case round =>
        obtain ⟨l, rfl, htr, hl1, hl2, hown, hI⟩ := hrel
        clear HNow HI
        have hcap := hown.slice_lt.2.2.2
        have hLi := hI
        have HI := Lib.hid hI
        have HTr := Lib.hid htr
        have HOwn := Lib.hid hown
        by_cases hlt : 1 < l.length
        · have hlt' : (1 : Int) < l.length := by omega
          have hw1 : IntKind.i64.wrap ((l.length : Int) - 1) = ((l.length - 1 : Nat) : Int) := by rw [IntKind.wrap_i64]; omega
          have hk1 : ((l.length - 1 : Nat) : Int) < l.length := by omega
          have hk2 : ((l.length - 1 : Nat) : Int) ≤ cn := by omega
          have hc1 := (hown.get (fis_at (l := l) (j := l.length - 1) (by omega))).1
          have HT := Lib.hid hown.takeF
          clear hown hI hLi htr
          by_cases hz : co l (l.length - 1) = 0#13
          · have HTl : Hid (trim l.dropLast = trim now) := by
              show trim l.dropLast = trim now
              have := HTr.out
              rw [trim, dif_pos ⟨hlt, hz⟩] at this
              exact this
            have hdl : l.dropLast.length = l.length - 1 := List.length_dropLast
            have HDl := Lib.hid hdl
            rw [hz] at hc1
            have hz0 : (fi 0#13 == 0) = true := rfl
            clear hz hdl
            generalize hlm : l.length - 1 = m at *
            have HLm := Lib.hid hlm
            clear hlm
            go_wp2_with fail
            go_roundw
            case rel => exact ⟨l.dropLast, by rw [HDl.out], HTl.out, by have := HLm.out; rw [HDl.out]; omega, by have := HLm.out; rw [HDl.out]; omega, by rw [HDl.out]; exact HT.out, HI.out⟩
            case measure => have := HLm.out; simp only []; omega
          · have hzf := fi_zero_ne hz
            have HTl : Hid (l = trim now) := by
              show l = trim now
              have := HTr.out
              rw [trim, dif_neg (fun hh => hz hh.2)] at this
              exact this
            clear hz
            go_wp2_with fail
            go_ret
            exact ⟨_, rfl, by rw [HLoc.out, ← HTl.out]; exact HOwn.out, HI.out.code HC.out, HI.out.2.1⟩
        · have hlt' : ¬ ((1 : Int) < l.length) := by omega
          have HTl : Hid (l = trim now) := by
            show l = trim now
            have := HTr.out
            rw [trim, dif_neg (fun hh => hlt hh.1)] at this
            exact this
          clear hown hI hLi htr hlt
          go_wp2_with fail
          go_ret
          exact ⟨_, rfl, by rw [HLoc.out, ← HTl.out]; exact HOwn.out, HI.out.code HC.out, HI.out.2.1⟩
end Go.Proofs.Ytfhefcpkknidcaa
/- Turned bits, and what Decode answers: plain. -/
namespace Go.Proofs.Ytfhefcpkknidcaa
open Go.RowKit Gf
theorem bit8_bits : ∀ m : Fin 8, ∀ j : Fin 8, (UInt8.ofNat (128 / 2 ^ m.val)).toNat.testBit j.val = decide (m.val + j.val = 7) := by decide +kernel
def flipB (l : List UInt8) (q : Nat) : List UInt8 := l.set (q / 8) (l.getD (q / 8) 0 ^^^ bit8 q)
theorem flipB_length (l : List UInt8) (q : Nat) : (flipB l q).length = l.length := by simp [flipB]
theorem flipB_bit (l : List UInt8) (q i : Nat) (hq : q < 8 * l.length) : bitL (flipB l q) i = (bitL l i ^^ decide (i = q)) := by
  rw [bitL_is, bitL_is]
  unfold flipB
  rw [List.getD_eq_getElem?_getD, List.getElem?_set]
  by_cases hk : q / 8 = i / 8
  · rw [if_pos hk, if_pos (by omega), Option.getD_some, UInt8.toNat_xor, Nat.testBit_xor, hk]
    congr 1
    unfold bit8
    rw [bit8_bits ⟨q % 8, by omega⟩ ⟨7 - i % 8, by omega⟩]
    simp only
    by_cases h : i = q
    · subst h; rw [decide_eq_true (by omega), decide_eq_true rfl]
    · rw [decide_eq_false (by omega), decide_eq_false h]
  · rw [if_neg hk, ← List.getD_eq_getElem?_getD, decide_eq_false (by rintro rfl; exact hk rfl), Bool.xor_false]
def flipP (m : Nat) (sp : List UInt8 × List UInt8) (q : Nat) : List UInt8 × List UInt8 := if q < m then (flipB sp.1 q, sp.2) else (sp.1, flipB sp.2 (q - m))
theorem flipP_lo {m : Nat} {sp : List UInt8 × List UInt8} {q : Nat} (h : q < m) : flipP m sp q = (flipB sp.1 q, sp.2) := by unfold flipP; rw [if_pos h]
theorem flipP_hi {m : Nat} {sp : List UInt8 × List UInt8} {q : Nat} (h : ¬ q < m) : flipP m sp q = (sp.1, flipB sp.2 (q - m)) := by unfold flipP; rw [if_neg h]
theorem flipP_length (m : Nat) (sp : List UInt8 × List UInt8) (q : Nat) : (flipP m sp q).1.length = sp.1.length ∧ (flipP m sp q).2.length = sp.2.length := by
  unfold flipP
  split
  · exact ⟨flipB_length _ _, rfl⟩
  · exact ⟨rfl, flipB_length _ _⟩
def flipsP (m : Nat) (sp : List UInt8 × List UInt8) (Q : List Nat) : List UInt8 × List UInt8 := Q.foldl (flipP m) sp
theorem flipsP_snoc (m : Nat) (sp : List UInt8 × List UInt8) (Q : List Nat) (q : Nat) : flipsP m sp (Q ++ [q]) = flipP m (flipsP m sp Q) q := by simp [flipsP]
theorem flipsP_length (m : Nat) (Q : List Nat) : ∀ sp : List UInt8 × List UInt8, (flipsP m sp Q).1.length = sp.1.length ∧ (flipsP m sp Q).2.length = sp.2.length := by
  induction Q with
  | nil => intro sp; exact ⟨rfl, rfl⟩
  | cons q Q ih =>
    intro sp
    have h1 := ih (flipP m sp q)
    have h2 := flipP_length m sp q
    exact ⟨h1.1.trans h2.1, h1.2.trans h2.2⟩
/-- Bit i of a word: the chunk's bits, then the parity's. -/
def wbit (m : Nat) (sp : List UInt8 × List UInt8) (i : Nat) : Bool := if i < m then bitL sp.1 i else bitL sp.2 (i - m)
theorem flipP_bit (m : Nat) (sp : List UInt8 × List UInt8) (q i : Nat) (hm : m = 8 * sp.1.length) (hq : q < m + 8 * sp.2.length) : wbit m (flipP m sp q) i = (wbit m sp i ^^ decide (i = q)) := by
  unfold wbit
  by_cases h : q < m
  · rw [flipP_lo h]
    by_cases hi : i < m
    · rw [if_pos hi, if_pos hi]; exact flipB_bit _ _ _ (by omega)
    · rw [if_neg hi, if_neg hi, decide_eq_false (by omega), Bool.xor_false]
  · rw [flipP_hi h]
    by_cases hi : i < m
    · rw [if_pos hi, if_pos hi, decide_eq_false (by omega), Bool.xor_false]
    · rw [if_neg hi, if_neg hi]
      simp only
      rw [flipB_bit _ _ _ (by omega)]
      congr 1
      by_cases e : i = q
      · subst e; simp
      · rw [decide_eq_false (by omega), decide_eq_false e]
theorem flipsP_bit (m : Nat) (Q : List Nat) : ∀ (sp : List UInt8 × List UInt8), m = 8 * sp.1.length → (∀ q ∈ Q, q < m + 8 * sp.2.length) → Q.Nodup → ∀ i, wbit m (flipsP m sp Q) i = (wbit m sp i ^^ decide (i ∈ Q)) := by
  induction Q with
  | nil => intro sp _ _ _ i; simp [flipsP]
  | cons q Q ih =>
    intro sp hm hq hnd i
    have hl := flipP_length m sp q
    rw [List.nodup_cons] at hnd
    have := ih (flipP m sp q) (by rw [hl.1]; exact hm) (fun x hx => by rw [hl.2]; exact hq x (List.mem_cons_of_mem _ hx)) hnd.2 i
    show wbit m (flipsP m (flipP m sp q) Q) i = _
    rw [this, flipP_bit m sp q i hm (hq q List.mem_cons_self), Bool.xor_assoc]
    congr 1
    by_cases e : i = q
    · subst e; rw [decide_eq_true rfl, decide_eq_false hnd.1, decide_eq_true List.mem_cons_self]; rfl
    · rw [decide_eq_false e, Bool.false_xor]
      by_cases h : i ∈ Q
      · rw [decide_eq_true h, decide_eq_true (List.mem_cons_of_mem _ h)]
      · rw [decide_eq_false h, decide_eq_false (fun hh => by rcases List.mem_cons.1 hh with h1 | h1; exact e h1; exact h h1)]
/-- The locator that Decode finds. -/
def locT (tt : Nat) (s p : List UInt8) : List F := locator (co (synL (restL tt s p) (13 * tt) (2 * tt))) (2 * tt)
def turnT (tt : Nat) (s p : List UInt8) : List Nat := rootK (locT tt s p) (8 * s.length + 13 * tt)
def backT (tt : Nat) (s p : List UInt8) : List UInt8 × List UInt8 := flipsP (8 * s.length) (s, cleanL tt p) ((turnT tt s p).map fun e => 8 * s.length + 13 * tt - 1 - e)
/-- What Decode answers. -/
def decF (tt : Nat) (s p : List UInt8) : Option (List UInt8 × List UInt8 × Nat) :=
  if zerosK (restL tt s p) (13 * tt) (2 * tt) = true then some (s, cleanL tt p, 0)
  else if tt < (locT tt s p).length - 1 ∨ (turnT tt s p).length ≠ (locT tt s p).length - 1 then none
  else if encB tt (backT tt s p).1 = (backT tt s p).2 then some ((backT tt s p).1, (backT tt s p).2, (turnT tt s p).length)
  else none
def decV (o : Option (List UInt8 × List UInt8 × Nat)) : Value := match o with
  | none => .tuple #[.string ⟨#[]⟩, .string ⟨#[]⟩, .int .i64 0, .bool false]
  | some (a, b, k) => .tuple #[str a, str b, .int .i64 k, .bool true]
theorem synL_length (r : List UInt8) (D n : Nat) : (synL r D n).length = n := by simp [synL]
theorem loc_bounds (tt : Nat) (s p : List UInt8) : 1 ≤ (locT tt s p).length ∧ (locT tt s p).length ≤ 2 * tt + 1 ∧ co (locT tt s p) 0 = 1#13 := by
  unfold locT locator
  have hI := inv_run (co (synL (restL tt s p) (13 * tt) (2 * tt))) (2 * tt)
  obtain ⟨a, b, c, _⟩ := trim_spec _ hI.now_pos
  have h2 := hI.now_le
  have h3 := hI.len_le
  exact ⟨b, by omega, by rw [a]; exact hI.now_one⟩
theorem str_txt (s : ByteArray) : str (txt s) = .string s := by simp [str, txt]
end Go.Proofs.Ytfhefcpkknidcaa
/- The document's generator: plain. -/
namespace Go.Proofs.Ytfhefcpkknidcaa
open Go.RowKit Gf Go.Proofs.Ytfhefcpkknidcaa.PBchSpare Go.Proofs.YtfhefcpkknidcaaW.PrintWords Go.Proofs.YtfhefcpkknidcaaW.PrintLast Go.Proofs.YtfhefcpkknidcaaW.PrintMore

/-- The places below n that are true, falling. -/
def listOf (b : List Bool) : Nat → List Int
  | 0 => []
  | n + 1 => if b.getD n false then (n : Int) :: listOf b n else listOf b n
theorem listOf_length (b : List Bool) (n : Nat) : (listOf b n).length ≤ n := by
  induction n with
  | zero => simp [listOf]
  | succ n ih => simp only [listOf]; split <;> (try rw [List.length_cons]) <;> omega
theorem wrap64_in (x : Int) (h0 : -2 ≤ x) (h1 : x ≤ 1000000) : wrap64 x = x := by unfold wrap64; omega
theorem list_l0 (b : List Bool) (hb : b.length ≤ 20000) : ∀ n, n ≤ b.length → ∀ k, n + 1 ≤ k → ∀ acc : List Int, acc.length + n ≤ 40000 → chertref02_List.l0 k b acc ((n : Int) - 1) = some (acc ++ listOf b n) := by
  intro n
  induction n with
  | zero =>
    intro _ k hk acc _
    obtain ⟨k, rfl⟩ : ∃ j, k = j + 1 := ⟨k - 1, by omega⟩
    rw [chertref02_List.l0]
    simp [listOf]
  | succ n ih =>
    intro hn k hk acc ha
    obtain ⟨k, rfl⟩ : ∃ j, k = j + 1 := ⟨k - 1, by omega⟩
    rw [chertref02_List.l0]
    have e1 : ((n + 1 : Nat) : Int) - 1 = n := by omega
    have hw : wrap64 ((n : Int) - 1) = (n : Int) - 1 := wrap64_in _ (by omega) (by omega)
    rw [e1, if_pos (by omega), if_pos (by omega), if_pos (by omega), hw]
    have er : rdOf false b (n : Int) = b.getD n false := by simp [rdOf]
    rw [er]
    by_cases h : b.getD n false = true
    · rw [if_pos h, if_pos (by omega), ih (by omega) k (by omega) _ (by simp; omega)]
      simp only [listOf, h, if_true]
      simp
    · rw [if_neg h, ih (by omega) k (by omega) _ (by omega)]
      simp only [listOf, h]
      simp
def ints (l : List Nat) : List Int := l.map fun n : Nat => (n : Int)
theorem ints_length (l : List Nat) : (ints l).length = l.length := by simp [ints]
theorem ints_rd (l : List Nat) (i : Nat) (h : i < l.length) : rd (ints l) (i : Int) = (l[i] : Nat) := by simp [rd, ints, h]
def tog (b : List Bool) (e : Nat) : List Bool := b.set e (!(b.getD e false))
theorem tog_length (b : List Bool) (e : Nat) : (tog b e).length = b.length := by simp [tog]
theorem bits_l0 (l : List Nat) (hl : ∀ e ∈ l, e ≤ 16384) (hll : l.length ≤ 20000) : ∀ m i, i + m = l.length → ∀ b : List Bool, b.length = 16385 → ∀ k, m + 1 ≤ k → chertref02_Bits.l0 k (ints l) b (i : Int) = some ((l.drop i).foldl tog b) := by
  intro m
  induction m with
  | zero =>
    intro i hi b _ k hk
    obtain ⟨k, rfl⟩ : ∃ j, k = j + 1 := ⟨k - 1, by omega⟩
    rw [chertref02_Bits.l0, if_neg (by rw [ints_length]; omega), List.drop_of_length_le (by omega)]
    rfl
  | succ m ih =>
    intro i hi b hb k hk
    obtain ⟨k, rfl⟩ : ∃ j, k = j + 1 := ⟨k - 1, by omega⟩
    have hlt : i < l.length := by omega
    have he := hl l[i] (List.getElem_mem hlt)
    rw [chertref02_Bits.l0, ints_rd l i hlt, if_pos (by rw [ints_length]; omega), if_pos (by omega), if_pos (by omega), if_pos (by omega), if_pos (by omega), if_pos (by omega), wrap64_in _ (by omega) (by omega)]
    rw [List.drop_eq_getElem_cons hlt, List.foldl_cons]
    have e1 : ((i : Int) + 1) = ((i + 1 : Nat) : Int) := by omega
    rw [e1, ← ih (i + 1) (by omega) (tog b l[i]) (by rw [tog_length]; exact hb) k (by omega)]
    congr 1
theorem bits_f (l : List Nat) (hl : ∀ e ∈ l, e ≤ 16384) (hll : l.length ≤ 20000) (k : Nat) (hk : l.length + 1 ≤ k) : chertref02_Bits.f k (ints l) = some (l.foldl tog (List.replicate 16385 false)) := by
  unfold chertref02_Bits.f
  rw [if_pos (by omega)]
  exact bits_l0 l hl hll l.length 0 (by omega) _ (by rw [List.length_replicate]) k hk
theorem tog_get (b : List Bool) (e n : Nat) (he : e < b.length) : (tog b e).getD n false = if e = n then !(b.getD n false) else b.getD n false := by
  unfold tog
  by_cases h : e = n
  · subst h
    simp [List.getD_eq_getElem?_getD, he]
  · rw [if_neg h]
    simp [List.getD_eq_getElem?_getD, h]
def flipAt (n : Nat) (p : Bool) (e : Nat) : Bool := if e = n then !p else p
def par (l : List Nat) (n : Nat) : Bool := l.foldl (flipAt n) false
theorem foldl_tog (l : List Nat) (n : Nat) : ∀ b : List Bool, (∀ e ∈ l, e < b.length) → (l.foldl tog b).getD n false = l.foldl (flipAt n) (b.getD n false) := by
  induction l with
  | nil => intro b _; rfl
  | cons e l ih =>
    intro b hb
    rw [List.foldl_cons, List.foldl_cons, ih _ (fun x hx => by rw [tog_length]; exact hb x (List.mem_cons_of_mem _ hx)), tog_get b e n (hb e List.mem_cons_self)]
    rfl
theorem foldl_tog_length (l : List Nat) : ∀ b : List Bool, (l.foldl tog b).length = b.length := by
  induction l with
  | nil => intro b; rfl
  | cons e l ih => intro b; rw [List.foldl_cons, ih, tog_length]
def listF (f : Nat → Bool) : Nat → List Nat
  | 0 => []
  | n + 1 => if f n then n :: listF f n else listF f n
theorem listOf_F (b : List Bool) (n : Nat) : listOf b n = ints (listF (fun i => b.getD i false) n) := by
  induction n with
  | zero => rfl
  | succ n ih => simp only [listOf, listF]; split <;> simp [ints, ih] <;> rfl
theorem listF_congr {f g : Nat → Bool} (n : Nat) (h : ∀ i, i < n → f i = g i) : listF f n = listF g n := by
  induction n with
  | zero => rfl
  | succ n ih => simp only [listF]; rw [h n (by omega), ih (fun i hi => h i (by omega))]
theorem listF_cut {f : Nat → Bool} (m n : Nat) (hmn : m ≤ n) (h : ∀ i, m ≤ i → f i = false) : listF f n = listF f m := by
  induction n with
  | zero => rw [show m = 0 by omega]
  | succ n ih =>
    by_cases hm : m = n + 1
    · rw [hm]
    · simp only [listF]
      rw [h n (by omega), if_neg (by simp), ih (by omega)]
theorem par_none (l : List Nat) (n : Nat) (h : ∀ e ∈ l, e ≠ n) (p : Bool) : l.foldl (flipAt n) p = p := by
  induction l generalizing p with
  | nil => rfl
  | cons e l ih =>
    rw [List.foldl_cons, ih (fun x hx => h x (List.mem_cons_of_mem _ hx))]
    unfold flipAt
    rw [if_neg (h e List.mem_cons_self)]
/-- The places of odd count, falling: List of Bits. -/
theorem list_bits (l : List Nat) (m : Nat) (hm : m ≤ 16385) (hl : ∀ e ∈ l, e < m) (k : Nat) (hk : 16386 ≤ k) : chertref02_List.f k (l.foldl tog (List.replicate 16385 false)) = some (ints (listF (par l) m)) := by
  have hlen : (l.foldl tog (List.replicate 16385 false)).length = 16385 := by rw [foldl_tog_length, List.length_replicate]
  have hget : ∀ n, (l.foldl tog (List.replicate 16385 false)).getD n false = par l n := by
    intro n
    rw [foldl_tog l n _ (fun e he => by rw [List.length_replicate]; have := hl e he; omega)]
    have : (List.replicate 16385 false).getD n false = false := by
      rw [List.getD_eq_getElem?_getD, List.getElem?_replicate]; split <;> rfl
    rw [this]; rfl
  generalize l.foldl tog (List.replicate 16385 false) = b at *
  unfold chertref02_List.f
  rw [hlen, wrap64_in _ (by omega) (by omega), list_l0 b (by omega) 16385 (by omega) k hk [] (by simp)]
  rw [listOf_F, List.nil_append]
  congr 2
  rw [listF_congr (g := par l) 16385 (fun i _ => hget i)]
  exact listF_cut m 16385 hm (fun i hi => par_none l i (fun e he h => by have := hl e he; omega) false)
end Go.Proofs.Ytfhefcpkknidcaa
/- The document's product: plain. -/
namespace Go.Proofs.Ytfhefcpkknidcaa
open Go.RowKit Gf Go.Proofs.Ytfhefcpkknidcaa.PBchSpare Go.Proofs.YtfhefcpkknidcaaW.PrintWords Go.Proofs.YtfhefcpkknidcaaW.PrintLast Go.Proofs.YtfhefcpkknidcaaW.PrintMore

def zRow : List Bool := List.replicate 16385 false
def prodL (X Y : List Nat) : List Nat := X.flatMap fun x => Y.map (x + ·)
theorem mul_l1 (X Y : List Nat) (M : Nat) (hM : M ≤ 16385) (hXY : ∀ x ∈ X, ∀ y ∈ Y, x + y < M) (hX : X.length ≤ 20000) (hY : Y.length ≤ 20000) (i : Nat) (hi : i < X.length) : ∀ m j, j + m = Y.length → ∀ L : List Nat, ∀ k, chertref02_Mul.l1 (k + m + 1) (ints X) (ints Y) (L.foldl tog zRow) (i : Int) (j : Int) = chertref02_Mul.l0 k (ints X) (ints Y) ((L ++ (Y.drop j).map (X[i] + ·)).foldl tog zRow) ((i + 1 : Nat) : Int) := by
  intro m
  induction m with
  | zero =>
    intro j hj L k
    rw [chertref02_Mul.l1, if_neg (by rw [ints_length]; omega), List.drop_of_length_le (by omega), wrap64_in _ (by omega) (by omega)]
    simp
  | succ m ih =>
    intro j hj L k
    have hlt : j < Y.length := by omega
    have hs := hXY X[i] (List.getElem_mem hi) Y[j] (List.getElem_mem hlt)
    have hb : (L.foldl tog zRow).length = 16385 := by rw [foldl_tog_length]; unfold zRow; rw [List.length_replicate]
    have hw : wrap64 (((X[i] : Nat) : Int) + ((Y[j] : Nat) : Int)) = ((X[i] + Y[j] : Nat) : Int) := by rw [wrap64_in _ (by omega) (by omega)]; omega
    rw [show k + (m + 1) + 1 = (k + m + 1) + 1 by omega, chertref02_Mul.l1, ints_rd X i hi, ints_rd Y j hlt, hw, if_pos (by rw [ints_length]; omega), if_pos (by omega), if_pos (by rw [ints_length]; omega), if_pos (by omega), if_pos (by omega), if_pos (by rw [hb]; omega), wrap64_in ((j : Int) + 1) (by omega) (by omega)]
    have e := ih (j + 1) (by omega) (L ++ [X[i] + Y[j]]) k
    rw [List.drop_eq_getElem_cons hlt, List.map_cons, show L ++ (X[i] + Y[j]) :: (Y.drop (j + 1)).map (X[i] + ·) = (L ++ [X[i] + Y[j]]) ++ (Y.drop (j + 1)).map (X[i] + ·) by simp, ← e]
    congr 1
    rw [List.foldl_append]
    rfl
theorem mul_l0 (X Y : List Nat) (M : Nat) (hM : M ≤ 16385) (hXY : ∀ x ∈ X, ∀ y ∈ Y, x + y < M) (hX : X.length ≤ 20000) (hY : Y.length ≤ 20000) : ∀ m i, i + m = X.length → ∀ L : List Nat, (∀ e ∈ L, e < M) → ∀ k, 16387 + m * (Y.length + 2) ≤ k →
    chertref02_Mul.l0 k (ints X) (ints Y) (L.foldl tog zRow) (i : Int) = some (ints (listF (par (L ++ prodL (X.drop i) Y)) M), true) := by
  intro m
  induction m with
  | zero =>
    intro i hi L hL k hk
    obtain ⟨k, rfl⟩ : ∃ j, k = j + 1 := ⟨k - 1, by omega⟩
    rw [chertref02_Mul.l0, if_neg (by rw [ints_length]; omega), List.drop_of_length_le (by omega)]
    have := list_bits L M hM hL k (by omega)
    unfold zRow
    rw [this]
    simp [prodL]
  | succ m ih =>
    intro i hi L hL k hk
    have hlt : i < X.length := by omega
    have hmul : (m + 1) * (Y.length + 2) = m * (Y.length + 2) + (Y.length + 2) := Nat.succ_mul _ _
    obtain ⟨k', rfl⟩ : ∃ j, k = (j + Y.length + 1) + 1 := ⟨k - Y.length - 2, by omega⟩
    rw [chertref02_Mul.l0, if_pos (by rw [ints_length]; omega)]
    have e := mul_l1 X Y M hM hXY hX hY i hlt Y.length 0 (by omega) L k'
    have e0 : ((0 : Nat) : Int) = 0 := rfl
    rw [e0] at e
    rw [e, List.drop_zero, ih (i + 1) (by omega) _ (fun x hx => by
      rcases List.mem_append.1 hx with h | h
      · exact hL x h
      · obtain ⟨y, hy, rfl⟩ := List.mem_map.1 h
        exact hXY X[i] (List.getElem_mem hlt) y hy) k' (by omega)]
    have ed : L ++ prodL (X.drop i) Y = (L ++ Y.map (X[i] + ·)) ++ prodL (X.drop (i + 1)) Y := by
      rw [List.drop_eq_getElem_cons hlt]; unfold prodL; rw [List.flatMap_cons, ← List.append_assoc]
    rw [ed]
/-- Mul of two lists: that of the odd ones among the products, where the degrees fit. -/
theorem mul_f (X Y X' Y' : List Nat) (m M : Nat) (hm : m ≤ 16385) (hM : M ≤ 16385) (hX : ∀ e ∈ X, e < m) (hY : ∀ e ∈ Y, e < m) (hX' : listF (par X) m = X') (hY' : listF (par Y) m = Y') (hne : X' ≠ [] ∧ Y' ≠ [])
    (hXY : ∀ x ∈ X', ∀ y ∈ Y', x + y < M) (hlX : X.length ≤ 20000 ∧ X'.length ≤ 1000) (hlY : Y.length ≤ 20000 ∧ Y'.length ≤ 1000) (k : Nat) (hk : 2000000 ≤ k) :
    chertref02_Mul.f k (ints X) (ints Y) = some (ints (listF (par (prodL X' Y')) M), true) := by
  unfold chertref02_Mul.f
  rw [bits_f X (fun e he => by have := hX e he; omega) hlX.1 k (by omega), Option.bind_some, list_bits X m hm hX k (by omega), Option.bind_some,
    bits_f Y (fun e he => by have := hY e he; omega) hlY.1 k (by omega), Option.bind_some, list_bits Y m hm hY k (by omega), Option.bind_some, hX', hY']
  have h1 : X'.length ≠ 0 := fun h => hne.1 (List.eq_nil_of_length_eq_zero h)
  have h2 : Y'.length ≠ 0 := fun h => hne.2 (List.eq_nil_of_length_eq_zero h)
  have hb : (((ints Y').length : Int) == 0) = false := by rw [ints_length]; apply beq_eq_false_iff_ne.2; omega
  rw [if_neg (by rw [ints_length]; omega), hb]
  obtain ⟨k, rfl⟩ : ∃ j, k = j + 1 := ⟨k - 1, by omega⟩
  have r1 := ints_rd X' 0 (by omega)
  have r2 := ints_rd Y' 0 (by omega)
  have hs := hXY X'[0] (List.getElem_mem (by omega)) Y'[0] (List.getElem_mem (by omega))
  have e0 : ((0 : Nat) : Int) = 0 := rfl
  rw [e0] at r1 r2
  rw [chertref02_Mul.j0, if_neg (by simp), if_pos (by rw [ints_length]; omega), if_pos (by rw [ints_length]; omega), r1, r2, wrap64_in _ (by omega) (by omega), if_neg (by omega), if_pos (by omega)]
  have hp : X'.length * (Y'.length + 2) ≤ 1000 * 1002 := Nat.mul_le_mul hlX.2 (by omega)
  have := mul_l0 X' Y' M hM hXY (by omega) (by omega) X'.length 0 (by omega) [] (by simp) k (by omega)
  exact this
end Go.Proofs.Ytfhefcpkknidcaa
/- The document's least polynomials: by computing. -/
namespace Go.Proofs.Ytfhefcpkknidcaa
open Go.RowKit Gf Go.Proofs.Ytfhefcpkknidcaa.PBchSpare Go.Proofs.YtfhefcpkknidcaaW.PrintWords Go.Proofs.YtfhefcpkknidcaaW.PrintLast Go.Proofs.YtfhefcpkknidcaaW.PrintMore
theorem ref_min : ∀ i : Fin 8, chertref02_Minimal.f 1000 ((2 * i.val + 1 : Nat) : Int) = some (ints (minT i.val)) := by decide +kernel
theorem ref_gen : ∀ i : Fin 8, listF (par (prodL (genT i.val) (minT i.val))) 120 = genT (i.val + 1) := by decide +kernel
theorem ref_self : ∀ i : Fin 8, listF (par (genT i.val)) 120 = genT i.val ∧ listF (par (minT i.val)) 120 = minT i.val := by decide +kernel
end Go.Proofs.Ytfhefcpkknidcaa
/- The document's generator: its steps' values. -/
namespace Go.Proofs.Ytfhefcpkknidcaa
open Go.RowKit Gf Go.Proofs.Ytfhefcpkknidcaa.PBchSpare Go.Proofs.YtfhefcpkknidcaaW.PrintWords Go.Proofs.YtfhefcpkknidcaaW.PrintLast Go.Proofs.YtfhefcpkknidcaaW.PrintMore
theorem leO_up {α : Type} {f : Nat → Option α} (h : ∀ k, LeO (f k) (f (k + 1))) (k m : Nat) (hkm : k ≤ m) : LeO (f k) (f m) := by
  induction m with
  | zero => rw [show k = 0 by omega]; exact LeO.refl _
  | succ m ih =>
    by_cases e : k = m + 1
    · rw [e]; exact LeO.refl _
    · exact (ih (by omega)).trans (h m)
theorem min_f (i : Nat) (hi : i < 8) (k : Nat) (hk : 1000 ≤ k) : chertref02_Minimal.f k ((2 * i + 1 : Nat) : Int) = some (ints (minT i)) :=
  leO_up (f := fun k => chertref02_Minimal.f k ((2 * i + 1 : Nat) : Int)) (fun k => chertref02_Minimal.mono _ k) 1000 k hk _ (ref_min ⟨i, hi⟩)
theorem min_len : ∀ i : Fin 8, (minT i.val).length ≤ 14 ∧ minT i.val ≠ [] := by decide +kernel
theorem gen_ne : ∀ i : Fin 9, genT i.val ≠ [] := by decide +kernel
theorem mul_gen (i : Nat) (hi : i < 8) (k : Nat) (hk : 2000000 ≤ k) : chertref02_Mul.f k (ints (genT i)) (ints (minT i)) = some (ints (genT (i + 1)), true) := by
  have h1 := gen_small ⟨i, by omega⟩
  have h2 := min_small ⟨i, hi⟩
  have h3 := ref_self ⟨i, hi⟩
  have h4 := ref_gen ⟨i, hi⟩
  have h5 := min_len ⟨i, hi⟩
  have h6 := gen_ne ⟨i, by omega⟩
  have h7 := gen_len ⟨i, by omega⟩
  simp only at h1 h2 h3 h4 h5 h6 h7
  rw [mul_f (genT i) (minT i) (genT i) (minT i) 120 120 (by omega) (by omega) (fun e he => by have := h1 e he; omega) (fun e he => by have := h2 e he; omega) h3.1 h3.2 ⟨h6, h5.2⟩
    (fun x hx y hy => by have := h1 x hx; have := h2 y hy; omega) (by omega) (by omega) k hk, h4]
end Go.Proofs.Ytfhefcpkknidcaa
/- Between the printed rows (Kd) and Own. -/
namespace Go.Proofs.Ytfhefcpkknidcaa
open Go.RowKit Gf Go.Proofs.Ytfhefcpkknidcaa.PBchSpare Go.Proofs.YtfhefcpkknidcaaW.PrintWords Go.Proofs.YtfhefcpkknidcaaW.PrintLast Go.Proofs.YtfhefcpkknidcaaW.PrintMore
theorem own_of_R {w : World} {base : Nat} {ok : Nat → Prop} {v : Value} {l : List Nat} (h : Kd.R (Kd.int .i64) 3 w base ok v (ints l)) : Own w base 3 v (i64s l) := by
  obtain ⟨_, inner, ho, hl, hr⟩ := h
  have hlen : inner.length = l.length := by rw [hl, ints_length]; exact Nat.mul_one _
  have e : inner = i64s l := by
    apply List.ext_getElem
    · rw [hlen, i64s_length]
    · intro j h1 h2
      have hj : j < l.length := by omega
      have h3 := hr j ((l[j] : Nat) : Int) (by simp [ints, hj])
      have h4 : (inner.drop (j * 1)).take 1 = [.int .i64 ((l[j] : Nat) : Int)] := h3
      have h5 := congrArg (fun x => x[0]?) h4
      simp [h1] at h5
      rw [h5]
      simp [i64s]
  rw [e, ints_length] at ho
  unfold Own
  rw [i64s_length]
  exact ho
theorem C_of_own {w : World} {B n c : Nat} {A : Option Addr} {l : List Nat} (h : Own w B 3 (.slice A n c) (i64s l)) : Kd.C (Kd.int .i64) w A (ints l).length (ints l) ∧ (ints l).length ≤ c ∧ n = (ints l).length := by
  have hlen := h.len
  rw [i64s_length] at hlen
  rcases h.2 with ⟨h1, h2⟩ | ⟨g, cap, cur, h1, _, hh, h2, _⟩
  · rw [i64s_length] at h2
    have hl : l = [] := List.eq_nil_of_length_eq_zero h2
    simp only [Value.slice.injEq] at h1
    obtain ⟨rfl, rfl, rfl⟩ := h1
    subst hl
    exact ⟨⟨rfl, by simp [ints], fun hp => absurd hp (by simp [ints])⟩, by simp [ints], by simp [ints]⟩
  · simp only [Value.slice.injEq] at h1
    obtain ⟨rfl, rfl, rfl⟩ := h1
    rw [i64s_length] at *
    refine ⟨⟨rfl, by rw [ints_length]; exact hlen, fun _ => ⟨_, rfl, fun j p hp => ⟨[.int .i64 p], rfl, rfl, fun i u hu => ?_⟩⟩⟩, by rw [ints_length]; exact h2, by rw [ints_length]⟩
    have hj : j < l.length := by have := (List.getElem?_eq_some_iff.1 hp).1; rw [ints_length] at this; exact this
    have hi : i = 0 := by have := (List.getElem?_eq_some_iff.1 hu).1; simp at this; exact this
    subst hi
    have hg := (h.get (i64s_at hj)).1
    have hp' : (⟨g, 0, none⟩ : Addr).add (j * 1 + 0) = ⟨g, j, none⟩ := by unfold Addr.add; split <;> simp_all
    show w.cell? ((⟨g, 0, none⟩ : Addr).add (j * 1 + 0)) = some u
    rw [hp', hg]
    simp [ints, hj] at hp
    simp at hu
    rw [← hu, ← hp]
end Go.Proofs.Ytfhefcpkknidcaa
/- Same: of two lists that differ. -/
namespace Go.Proofs.Ytfhefcpkknidcaa
open Go.RowKit Gf Go.Proofs.Ytfhefcpkknidcaa.PBchSpare Go.Proofs.YtfhefcpkknidcaaW.PrintWords Go.Proofs.YtfhefcpkknidcaaW.PrintLast Go.Proofs.YtfhefcpkknidcaaW.PrintMore
theorem same_f : ∀ i : Fin 8, ∀ j : Fin 8, j.val < i.val → chertref02_Same.f 100 (ints (minT j.val)) (ints (minT i.val)) = some false := by decide +kernel
end Go.Proofs.Ytfhefcpkknidcaa
/- The document's generator, walked. -/
namespace Go.Proofs.Ytfhefcpkknidcaa
open Go.RowKit Gf
def RefGen (l : List Nat) (w : World) (e : Ending) (w' : World) : Prop := ∃ v, e = .returned v ∧ Own w' w.heap.size 3 v (i64s l) ∧ Below w.heap.size w w'
theorem ref_min_any (i : Nat) (hi : i < 8) (w : World) : Calls Try.prog 35 #[.int .i64 ((2 * i + 1 : Nat) : Int)] w (RefGen (minT i) w) := by
  refine (PBchSpare.chertref02_Minimal.calls 1000 _ _ w (ref_min ⟨i, hi⟩)).mono ?_
  rintro e w' ⟨v, rfl, hr, hb⟩
  exact ⟨v, rfl, own_of_R hr, hb⟩
theorem ref_mul_any (i : Nat) (hi : i < 8) {B B' : Nat} {v v' : Value} (w : World) (h : Own w B 3 v (i64s (genT i))) (h' : Own w B' 3 v' (i64s (minT i))) :
    Calls Try.prog 37 #[v, v'] w fun e w' => ∃ u, e = .returned (.tuple #[u, .bool true]) ∧ Own w' w.heap.size 3 u (i64s (genT (i + 1))) ∧ Below w.heap.size w w' := by
  obtain ⟨a, c, rfl, _⟩ := h.form
  obtain ⟨a', c', rfl, _⟩ := h'.form
  obtain ⟨h1, h2, h3⟩ := C_of_own h
  obtain ⟨h4, h5, h6⟩ := C_of_own h'
  rw [h3, h6]
  refine (PBchSpare.chertref02_Mul.calls 2000000 a c (ints (genT i)) a' c' (ints (minT i)) _ _ w h1 h2 h4 h5 (mul_gen i hi _ (Nat.le_refl _))).mono ?_
  rintro e w' ⟨u, rfl, hr, hb⟩
  exact ⟨u, rfl, own_of_R hr, hb⟩
theorem ref_same_any (i j : Nat) (hi : i < 8) (hj : j < i) {B B' : Nat} {v v' : Value} (w : World) (h : Own w B 3 v (i64s (minT j))) (h' : Own w B' 3 v' (i64s (minT i))) :
    Calls Try.prog 36 #[v, v'] w fun e w' => e = .returned (.bool false) ∧ Below w.heap.size w w' := by
  obtain ⟨a, c, rfl, _⟩ := h.form
  obtain ⟨a', c', rfl, _⟩ := h'.form
  obtain ⟨h1, h2, h3⟩ := C_of_own h
  obtain ⟨h4, h5, h6⟩ := C_of_own h'
  rw [h3, h6]
  refine (PBchSpare.chertref02_Same.calls 100 a c (ints (minT j)) a' c' (ints (minT i)) _ w h1 h2 h4 h5 (same_f ⟨i, hi⟩ ⟨j, by omega⟩ hj)).mono ?_
  rintro e w' ⟨rfl, hd⟩
  obtain ⟨n, rfl⟩ := hd
  exact ⟨rfl, below_drewN' (Below.refl _ _) n⟩
theorem Own.bel {w w' : World} {B B' : Nat} {T : TypeId} {v : Value} {xs : List Value} (h : Own w B T v xs) (hb : Below w.heap.size w w') (hB : B' ≤ B) : Own w' B' T v xs := (h.below hb).lower hB
theorem Seen.grownI {w w' : World} {G : Nat} {vs vs' : List Value} {i : Nat} {s : Value} (h : Seen w G vs i) (hs : Own w G 22 s vs') (hg : w.grownBy w' s.ownBlock) : Seen w' G vs i := fun j x hx => ⟨(h j x hx).1, (h j x hx).2.keep hg ((h j x hx).2.neT hs (by decide))⟩

set_option maxRecDepth 100000 in
set_option maxHeartbeats 3200000 in
theorem ref_generator_any (tt : Nat) (h1 : 1 ≤ tt) (h8 : tt ≤ 8) (w : World) : Calls Try.prog 24 #[.int .i64 tt] w (RefGen (genT tt) w) := by
  have hnot : ∀ (x : Bool) (w : World), (Op.unary .not (.bool x)).run Try.prog w = .ok (.bool (!x)) w := fun _ _ => rfl
  have hT2 : IntKind.i64.wrap (2 * (tt : Int)) = 2 * (tt : Int) := i64_in _ (by omega) (by omega)
  have HGen0 := Lib.hid (Own.lit w w.heap.size 3 #[.int .i64 0] (Nat.le_refl _) (by simp))
  have hsz0 : w.heap.size ≤ (w.alloc (.cells #[.int .i64 0] 3)).heap.size := by simp
  have HB0 := Lib.hid ((Below.refl w.heap.size w).alloc (Nat.le_refl _) (.cells #[.int .i64 0] 3))
  go_enter Try.func24, Try.ntmps24
  go_wp2_with fail
  generalize World.alloc w _ = wa at *
  go_loopw [3, 4, 5, 6, 7, 8] (fun g s kv _ _ _ wr => ∃ (i k : Nat) (vs : List Value), k = 2 * i + 1 ∧ i ≤ tt ∧ kv = .int .i64 (k : Int) ∧ vs.length = i ∧ Own wr w.heap.size 22 s vs ∧ Seen wr w.heap.size vs i ∧ Own wr w.heap.size 3 g (i64s (genT i)) ∧ Below w.heap.size w wr) (fun _ _ kv _ _ _ _ => 2 * tt + 1 - (intOf kv).toNat)
  case atStart => exact ⟨0, 1, [], rfl, by omega, rfl, rfl, Own.nil _ _ _, fun j x hx => by simp at hx, HGen0.out, HB0.out⟩
  case round =>
    obtain ⟨i, k, vs, hk, hi, rfl, hvl, hs, hseen, hgen, hB⟩ := hrel
    clear HGen0 HB0 hsz0
    by_cases hlt : i < tt
    · have hdec : decide ((k : Int) < 2 * (tt : Int)) = true := decide_eq_true (by omega)
      have hklt : k < 2 * tt := by omega
      have HM0 := ref_min_any i (by omega) wr
      rw [← hk] at HM0
      have HM := Lib.hid HM0
      have HS := Lib.hid hs
      have HSeen := Lib.hid hseen
      have HGen := Lib.hid hgen
      have HB := Lib.hid hB
      have HK := Lib.hid hk
      have HV := Lib.hid hvl
      have hsz : w.heap.size ≤ wr.heap.size := hB.size
      clear HM0 hs hseen hgen hB hk hvl
      go_wp2_with fail
      refine HM.out.mono ?_
      rintro e w1 ⟨v, rfl, hmin, hb1⟩
      have HS1 := Lib.hid (HS.out.below hb1)
      have HSeen1 := Lib.hid (HSeen.out.below hb1)
      have HGen1 := Lib.hid (HGen.out.below hb1)
      have HB1 := Lib.hid (HB.out.trans (hb1.mono hsz))
      have HMin1 := Lib.hid (hmin.lower hsz)
      obtain ⟨ma, mc, rfl, hjunk⟩ := hmin.form
      obtain ⟨sa, sc, rfl, hjunk2⟩ := HS.out.form
      clear hjunk hjunk2 hmin hb1 HM HS HSeen HGen HB hsz
      have hvv := HV.out
      rw [hvv] at HS1 ⊢
      clear hvv
      go_wp2_with fail
      go_loopw [7, 8] (fun kn jv wr => ∃ j : Nat, j ≤ i ∧ kn = .bool false ∧ jv = .int .i64 j ∧ Own wr w.heap.size 22 (.slice sa i sc) vs ∧ Seen wr w.heap.size vs i ∧ Own wr w.heap.size 3 u3 (i64s (genT i)) ∧ Own wr w.heap.size 3 (.slice ma (i64s (minT i)).length mc) (i64s (minT i)) ∧ Below w.heap.size w wr) (fun _ jv _ => i - (intOf jv).toNat)
      case atStart => exact ⟨0, Nat.zero_le _, rfl, rfl, HS1.out, HSeen1.out, HGen1.out, HMin1.out, HB1.out⟩
      case round =>
        obtain ⟨j, hj, rfl, rfl, hs, hseen, hgen, hmin, hB⟩ := hrel
        clear HS1 HSeen1 HGen1 HMin1 HB1
        by_cases hji : j < i
        · obtain ⟨a2, c2, he2, hcells⟩ := hs.form
          have hjv : j < vs.length := by rw [HV.out]; exact hji
          obtain ⟨gs, ha2, _, _, hcell, _⟩ := hcells j vs[j] (by simp [hjv])
          simp only [Value.slice.injEq] at he2
          obtain ⟨rfl, hj1, rfl⟩ := he2
          subst ha2
          have hx := (hseen j vs[j] (by simp [hjv])).2
          have hji' : (j : Int) < i := by omega
          have HSm := Lib.hid (ref_same_any i j (by omega) hji wr hx hmin)
          have HS1 := Lib.hid hs
          have HSeen1 := Lib.hid hseen
          have HGen1 := Lib.hid hgen
          have HMin1 := Lib.hid hmin
          have HB1 := Lib.hid hB
          clear hj1 hcells hs hseen hgen hmin hB hx
          generalize vs[j] = x at *
          clear hjv
          go_wp2_with fail
          refine HSm.out.mono ?_
          rintro e w2 ⟨rfl, hb2⟩
          have HS2 := Lib.hid (HS1.out.below hb2)
          have HSeen2 := Lib.hid (HSeen1.out.below hb2)
          have HGen2 := Lib.hid (HGen1.out.below hb2)
          have HMin2 := Lib.hid (HMin1.out.below hb2)
          have HB2 := Lib.hid (HB1.out.trans (hb2.mono HB1.out.size))
          clear hb2 HSm HS1 HSeen1 HGen1 HMin1 HB1 hcell
          go_wp2_with fail
          go_roundw
          case rel => exact ⟨j + 1, by omega, rfl, by simp, HS2.out, HSeen2.out, HGen2.out, HMin2.out, HB2.out⟩
          case measure => simp only [intOf]; omega
        · obtain rfl : j = i := by omega
          have HS3 := Lib.hid hs
          have HSeen3 := Lib.hid hseen
          have HGen3 := Lib.hid hgen
          have HMin3 := Lib.hid hmin
          have HB3 := Lib.hid hB
          have hsz3 : w.heap.size ≤ wr.heap.size := hB.size
          have hself : decide ((j : Int) < j) = false := decide_eq_false (by omega)
          clear hs hseen hgen hmin hB hj hji
          go_wp2_with (at_builtin; refine append1 w.heap.size rfl (.tmp 35) (.tmp 37) 81 22 (.slice none 0 0) 24 rfl Try.underlying81 (by kernel_rfl) rfl (by decide) (.slice sa j sc) vs _ rfl rfl rfl HS3.out (Below.refl w.heap.size _) hsz3 (by rw [HV.out]; omega) ?_; intro s4 w4 hown4 hbel4 hg4 hat; have HG4 := Lib.hid hg4; have HO4 := Lib.hid hown4; have HBe4 := Lib.hid hbel4; clear hat hbel4 hg4 hown4)
          have hMin4 := HMin3.out.keep HG4.out (HMin3.out.neT HS3.out (by decide))
          have hGen4 := HGen3.out.keep HG4.out (HGen3.out.neT HS3.out (by decide))
          have HSeen4 := Lib.hid ((HSeen3.out.grownI HS3.out HG4.out).snoc HV.out hMin4)
          have HMul := Lib.hid (ref_mul_any j (by omega) w4 hGen4 hMin4)
          have HB4 := Lib.hid (HB3.out.trans (HBe4.out.mono (by omega)))
          clear hMin4 hGen4 HS3 HSeen3 HGen3 HMin3 HB3 HG4
          go_wp2_with fail
          refine HMul.out.mono ?_
          rintro e w5 ⟨g5, rfl, hg5, hb5⟩
          have HS5 := Lib.hid (HO4.out.below hb5)
          have HSeen5 := Lib.hid (HSeen4.out.below hb5)
          have HB5 := Lib.hid (HB4.out.trans (hb5.mono HB4.out.size))
          have HG5 := Lib.hid (hg5.lower HB4.out.size)
          have hkw : IntKind.i64.wrap ((k : Int) + 2) = (k : Int) + 2 := i64_in _ (by omega) (by have := HK.out; omega)
          clear hg5 hb5 HMul HSeen4 HO4 HB4 HBe4
          go_wp2_with fail
          go_roundw
          case rel => exact ⟨j + 1, k + 2, _, by have := HK.out; omega, by omega, by simp, by rw [List.length_append, HV.out]; rfl, HS5.out, HSeen5.out, HG5.out, HB5.out⟩
          case measure => simp only [intOf]; omega
    · have hdec : decide ((k : Int) < 2 * (tt : Int)) = false := decide_eq_false (by omega)
      obtain rfl : i = tt := by omega
      have HGen := Lib.hid hgen
      have HB := Lib.hid hB
      clear hs hseen hgen hB
      go_wp2_with fail
      go_ret
      exact ⟨_, rfl, HGen.out, HB.out⟩
end Go.Proofs.Ytfhefcpkknidcaa
/- settings. -/
namespace Go.Proofs.Ytfhefcpkknidcaa
open Go.RowKit Gf
def setB (t ch : Int) : Bool := decide (1 ≤ t ∧ t ≤ 8 ∧ 1 ≤ ch ∧ ch ≤ 256)
theorem settings_any (t ch : Int) (w : World) : Calls Try.prog 8 #[.int .i64 t, .int .i64 ch] w fun e w' => e = .returned (.bool (setB t ch)) ∧ w' = w := by
  unfold setB
  by_cases h1 : 1 ≤ t
  · by_cases h2 : t ≤ 8
    · by_cases h3 : 1 ≤ ch
      · by_cases h4 : ch ≤ 256
        · have e : decide (1 ≤ t ∧ t ≤ 8 ∧ 1 ≤ ch ∧ ch ≤ 256) = true := decide_eq_true ⟨h1, h2, h3, h4⟩
          rw [e]
          go_enter Try.func8, Try.ntmps8
          go_wp2_with fail
          go_ret
          exact ⟨by first | (simp; done) | (simp; omega), rfl⟩
        · have e : decide (1 ≤ t ∧ t ≤ 8 ∧ 1 ≤ ch ∧ ch ≤ 256) = false := decide_eq_false (by omega)
          rw [e]
          go_enter Try.func8, Try.ntmps8
          go_wp2_with fail
          go_ret
          exact ⟨by first | (simp; done) | (simp; omega), rfl⟩
      · have e : decide (1 ≤ t ∧ t ≤ 8 ∧ 1 ≤ ch ∧ ch ≤ 256) = false := decide_eq_false (by omega)
        rw [e]
        go_enter Try.func8, Try.ntmps8
        go_wp2_with fail
        go_ret
        exact ⟨by first | (simp; done) | (simp; omega), rfl⟩
    · have e : decide (1 ≤ t ∧ t ≤ 8 ∧ 1 ≤ ch ∧ ch ≤ 256) = false := decide_eq_false (by omega)
      rw [e]
      go_enter Try.func8, Try.ntmps8
      go_wp2_with fail
      go_ret
      exact ⟨by first | (simp; done) | (simp; omega), rfl⟩
  · have e : decide (1 ≤ t ∧ t ≤ 8 ∧ 1 ≤ ch ∧ ch ≤ 256) = false := decide_eq_false (by omega)
    rw [e]
    go_enter Try.func8, Try.ntmps8
    go_wp2_with fail
    go_ret
    exact ⟨by first | (simp; done) | (simp; omega), rfl⟩
end Go.Proofs.Ytfhefcpkknidcaa
/- The generator's degree, by the document. -/
namespace Go.Proofs.Ytfhefcpkknidcaa
open Go.RowKit Gf
theorem refdegree_any (tt : Nat) (h1 : 1 ≤ tt) (h8 : tt ≤ 8) (w : World) : Calls Try.prog 15 #[.int .i64 tt] w fun e w' => e = .returned (.int .i64 (13 * tt : Nat)) ∧ Below w.heap.size w w' := by
  have HG := Lib.hid (ref_generator_any tt h1 h8 w)
  have hd := gen_head ⟨tt, by omega⟩
  simp only at hd
  have HD := Lib.hid hd
  clear hd
  go_enter Try.func15, Try.ntmps15
  go_wp2_with fail
  refine HG.out.mono ?_
  rintro e w1 ⟨v, rfl, hv, hb⟩
  have hx : (i64s (genT tt))[0]? = some (.int .i64 (13 * tt : Nat)) := by simp [i64s, HD.out]
  have hne : i64s (genT tt) ≠ [] := fun e => by rw [e] at hx; simp at hx
  obtain ⟨g, c, rfl, hlc, _, hg, hcell, _⟩ := hv.at hne
  have hc := hcell 0 _ hx
  have HB := Lib.hid hb
  have hl : 0 < (i64s (genT tt)).length := by
    rcases h : i64s (genT tt) with _ | ⟨a, l⟩
    · exact absurd h hne
    · simp
  clear hcell hx hne hv hb HG hlc
  generalize (i64s (genT tt)).length = n at *
  have hl' : (0 : Int) < (n : Int) := by omega
  go_wp2_with fail
  go_ret
  exact ⟨rfl, HB.out⟩
end Go.Proofs.Ytfhefcpkknidcaa
/- The document's bits of a text, its word, in how many places two lists differ: walked. -/
namespace Go.Proofs.Ytfhefcpkknidcaa
open Go.RowKit Gf
/-- The bits of a text, as noughts and ones. -/
def bitsN (l : List UInt8) : List Nat := (List.range (8 * l.length)).map fun i => (bitL l i).toNat
theorem bitsN_length (l : List UInt8) : (bitsN l).length = 8 * l.length := by simp [bitsN]
theorem bitsN_next (l : List UInt8) (m : Nat) (h : m < 8 * l.length) : (bitsN l).take (m + 1) = (bitsN l).take m ++ [(bitL l m).toNat] := by
  rw [List.take_succ_eq_append_getElem (by rw [bitsN_length]; exact h)]
  simp [bitsN]
theorem bit_int (l : List UInt8) (i j : Nat) (hj : j ≤ 7) : Go.bits .and .u8 (((l.getD i 0).toNat : Int) / 2 ^ j) 1 = (((bitL l (8 * i + (7 - j))).toNat : Nat) : Int) := by
  have h1 : ((l.getD i 0).toNat : Int) / 2 ^ j = (((l.getD i 0).toNat / 2 ^ j : Nat) : Int) := by simp
  have h2 : (l.getD i 0).toNat / 2 ^ j < 256 := Nat.lt_of_le_of_lt (Nat.div_le_self _ _) (l.getD i 0).toNat_lt
  rw [h1, show (1 : Int) = ((1 : Nat) : Int) from rfl, u8_and_nat _ _ h2 (by omega), Nat.and_one_is_mod, bitL_is, show (8 * i + (7 - j)) / 8 = i by omega, show 7 - (8 * i + (7 - j)) % 8 = j by omega]
  rw [Nat.testBit_eq_decide_div_mod_eq]
  generalize (l.getD i 0).toNat / 2 ^ j = y
  rcases Nat.mod_two_eq_zero_or_one y with h | h <;> simp [h]
def BitsEnd (l : List Nat) (w : World) (e : Ending) (w' : World) : Prop := ∃ v, e = .returned v ∧ Own w' w.heap.size 3 v (i64s l) ∧ Below w.heap.size w w'
set_option maxRecDepth 100000 in
set_option maxHeartbeats 3200000 in
theorem bits_any (s : ByteArray) (hs : s.size ≤ 300) (w : World) : Calls Try.prog 34 #[.string s] w (BitsEnd (bitsN (txt s)) w) := by
  unfold BitsEnd
  have hws : IntKind.i64.wrap (s.size : Int) = s.size := i64_small _ (by omega)
  have HTl : Hid ((bitsN (txt s)).length = 8 * s.size) := by show (bitsN (txt s)).length = 8 * s.size; rw [bitsN_length, txt_length]
  go_enter Try.func34, Try.ntmps34
  go_wp2_with fail
  go_loopw [3, 4, 5] (fun ov iv _ wr => ∃ (i c : Nat) (a : Option Addr), i ≤ s.size ∧ iv = .int .i64 i ∧ ov = .slice a (8 * i) c ∧ Own wr w.heap.size 3 (.slice a (8 * i) c) (i64s ((bitsN (txt s)).take (8 * i))) ∧ Below w.heap.size w wr) (fun _ iv _ _ => s.size - (intOf iv).toNat)
  case atStart => exact ⟨0, 0, none, Nat.zero_le _, rfl, rfl, Own.nil _ _ _, Below.refl _ _⟩
  case round =>
    obtain ⟨i, c, a, hi, rfl, rfl, hown, hB⟩ := hrel
    by_cases hlt : i < s.size
    · have hlt' : (i : Int) < s.size := by omega
      have HOwn := Lib.hid hown
      have HB := Lib.hid hB
      clear hown hB
      go_wp2_with fail
      go_loopw [3, 5] (fun ov kv wr => ∃ (n c : Nat) (a : Option Addr), n ≤ 8 ∧ kv = .int .i64 (7 - (n : Int)) ∧ ov = .slice a (8 * i + n) c ∧ Own wr w.heap.size 3 (.slice a (8 * i + n) c) (i64s ((bitsN (txt s)).take (8 * i + n))) ∧ Below w.heap.size w wr) (fun _ kv _ => (intOf kv + 1).toNat)
      case atStart => exact ⟨0, c, a, by omega, rfl, rfl, HOwn.out, HB.out⟩
      case round =>
        obtain ⟨n, c, a, hn, rfl, rfl, hown, hB⟩ := hrel
        clear HOwn HB
        by_cases hn8 : n < 8
        · obtain ⟨j, hj⟩ : ∃ j : Nat, 7 - (n : Int) = j := ⟨7 - n, by omega⟩
          rw [hj]
          have hj7 : j ≤ 7 := by omega
          have hw1 : IntKind.i64.wrap ((j : Int) - 1) = (j : Int) - 1 := by rw [IntKind.wrap_i64]; omega
          have hj0 : (0 : Int) ≤ j := by omega
          have hbi := bit_int (txt s) i j hj7
          have hxi : (txt s).getD i 0 = s[i] := by rw [← txt_at s i hlt]; simp [List.getD_eq_getElem?_getD, txt_length, hlt]
          rw [hxi, show 8 * i + (7 - j) = 8 * i + n by omega] at hbi
          have HNx := Lib.hid (bitsN_next (txt s) (8 * i + n) (by rw [txt_length]; omega))
          have HL : Hid ((i64s ((bitsN (txt s)).take (8 * i + n))).length = 8 * i + n) := by
            show (i64s ((bitsN (txt s)).take (8 * i + n))).length = 8 * i + n
            rw [i64s_length, List.length_take, HTl.out]; omega
          have HOwn := Lib.hid hown
          have HB := Lib.hid hB
          have HJ := Lib.hid hj
          have hsz : w.heap.size ≤ wr.heap.size := hB.size
          clear hown hB hj hxi
          have hbt : (bitL (txt s) (8 * i + n)).toNat ≤ 1 := by cases bitL (txt s) (8 * i + n) <;> simp
          generalize (bitL (txt s) (8 * i + n)).toNat = bt at *
          go_wp2_with (at_builtin; refine append1 w.heap.size rfl (.tmp 16) (.tmp 24) 22 3 (.int .i64 0) 8 rfl Try.underlying22 (by kernel_rfl) rfl (by decide) _ (i64s ((bitsN (txt s)).take (8 * i + n))) (.int .i64 bt) rfl rfl rfl HOwn.out (Below.refl w.heap.size _) hsz (by rw [HL.out]; omega) ?_; intro v4 w4 hown4 hbel4 hg4 hat; have HO4 := Lib.hid hown4; have HBe4 := Lib.hid hbel4; clear hat hbel4 hg4 hown4)
          have hx := HO4.out
          rw [i64s_snocN, ← HNx.out] at hx
          obtain ⟨a4, c4, rfl, hx1⟩ := hx.form
          have hl4 : (i64s ((bitsN (txt s)).take (8 * i + n + 1))).length = 8 * i + (n + 1) := by rw [i64s_length, List.length_take, HTl.out]; omega
          rw [hl4] at hx ⊢
          have HX := Lib.hid hx
          have HB4 := Lib.hid (HB.out.trans HBe4.out)
          clear hx1 hl4 hx HO4 HBe4 HB HOwn hbi hsz
          go_wp2_with fail
          go_roundw
          case rel => exact ⟨n + 1, c4, a4, by omega, by have := HJ.out; congr 1; push_cast; omega, rfl, HX.out, HB4.out⟩
          case measure => simp only [intOf]; omega
        · obtain rfl : n = 8 := by omega
          have HOwn := Lib.hid hown
          have HB := Lib.hid hB
          clear hown hB
          go_wp2_with fail
          go_roundw
          case rel => exact ⟨i + 1, c, a, by omega, by go_num, by rw [show 8 * (i + 1) = 8 * i + 8 by omega], by rw [show 8 * (i + 1) = 8 * i + 8 by omega]; exact HOwn.out, HB.out⟩
          case measure => simp only [intOf]; omega
    · obtain rfl : i = s.size := by omega
      have hall : (bitsN (txt s)).take (8 * s.size) = bitsN (txt s) := List.take_of_length_le (by rw [HTl.out]; exact Nat.le_refl _)
      rw [hall] at hown
      have HOwn := Lib.hid hown
      have HB := Lib.hid hB
      have hlt' : ¬ ((s.size : Int) < s.size) := by omega
      clear hown hB hall
      go_wp2_with fail
      go_ret
      exact ⟨_, rfl, HOwn.out, HB.out⟩
def wordN (tt : Nat) (s p : List UInt8) : List Nat := bitsN s ++ (bitsN p).take (13 * tt)
/-- append(s, x...) of whole numbers onto a row of the call's own: behind 'at_builtin'. -/
theorem appendI {ops : Array Oper} {rest : List Oper} {o : Oper} {a : Act} {Q : Exit → Act → World → Prop} {w0 W : World} (B : Nat) (hgd : o.guard = none) (s x : Operand)
    (ho : o.op = .call { callee := .builtin .append, args := #[s, x], argTypes := #[22, 22] })
    (v : Value) (xs : List Nat) (hs : a.eval s = v) (g m c B' : Nat) (ys : List Nat) (hx : a.eval x = .slice (some ⟨g, 0, none⟩) m c) (hys : Own W B' 3 (.slice (some ⟨g, 0, none⟩) m c) (i64s ys))
    (HO : Own W B 3 v (i64s xs)) (HB : Below B w0 W) (hB : B ≤ W.heap.size) (hl : xs.length + ys.length ≤ 100000)
    (h : ∀ v1 w1, Own w1 B 3 v1 (i64s (xs ++ ys)) → Below B w0 w1 → wpList Try.prog ops Q rest (a.put o.dst v1) w1) :
    wpList Try.prog ops Q (o :: rest) a W := by
  obtain ⟨i0, hi, hzz⟩ := Option.map_eq_some_iff.1 (show (Try.prog.info? 3).map (fun i => (i.zero, i.size, i.bytes)) = some (some (.int .i64 0), 1, 8) by kernel_rfl)
  simp only [Prod.mk.injEq] at hzz
  obtain ⟨hz0, hz1, hz2⟩ := hzz
  have hm := hys.slice_lt.2.2.1
  rw [i64s_length] at hm
  refine wpList_append_own_at W hgd s x 22 ho B 3 i0 (.int .i64 0) 1 8 Try.underlying22 hi hz0 hz1 hz2 rfl (by omega) v xs.length (i64s xs) hs (by have := HO; unfold Own at this; rw [i64s_length] at this; exact this) ⟨g, 0, none⟩ m c (i64s ys) hx (by rw [i64s_length, hm, Nat.mul_one])
    (fun j u hu => by
      have hp : (⟨g, 0, none⟩ : Addr).add j = ⟨g, j, none⟩ := by unfold Addr.add; split <;> simp_all
      rw [hp]; exact (hys.get hu).1) (by intro u hu; simp [i64s] at hu; obtain ⟨n, _, rfl⟩ := hu; rfl) (by simp only [maxLen]; omega) (by omega) hB ?_
  intro v1 w1 hown hg _ _
  have e : i64s xs ++ i64s ys = i64s (xs ++ ys) := by simp [i64s]
  rw [e] at hown
  refine h v1 w1 ?_ (HB.grown hg hB (fun k hk => (HO.below_B k hk).1))
  unfold Own
  rw [i64s_length, List.length_append]
  rw [hm] at hown
  exact hown
theorem Own.takeI {w : World} {B g n c m : Nat} {l : List Nat} (h : Own w B 3 (.slice (some ⟨g, 0, none⟩) n c) (i64s l)) (hm : m ≤ l.length) : Own w B 3 (.slice (some ⟨g, 0, none⟩) m c) (i64s (l.take m)) := by
  have h1 := h.take (m := m) (by rw [i64s_length]; exact hm)
  have e : (i64s l).take m = i64s (l.take m) := by simp [i64s, List.map_take]
  rw [e] at h1
  exact h1
set_option maxRecDepth 100000 in
set_option maxHeartbeats 3200000 in
theorem word_any (tt : Nat) (s p : ByteArray) (h1 : 1 ≤ tt) (h8 : tt ≤ 8) (hs : s.size ≤ 300) (hp : p.size = nLow tt) (w : World) : Calls Try.prog 23 #[.int .i64 tt, .string s, .string p] w (BitsEnd (wordN tt (txt s) (txt p)) w) := by
  unfold BitsEnd
  have hp13 : p.size ≤ 13 := by rw [hp]; unfold nLow; omega
  have hD : 13 * tt ≤ 8 * p.size := by rw [hp]; unfold nLow; omega
  have HPs := Lib.hid hp
  clear hp
  go_enter Try.func23, Try.ntmps23
  go_wp2_with fail
  refine (bits_any s hs _).mono ?_
  rintro e w1 ⟨v1, rfl, ho1, hb1⟩
  have HO1 := Lib.hid ho1
  have HB1 := Lib.hid hb1
  clear ho1 hb1
  go_wp2_with fail
  refine (bits_any p (by omega) _).mono ?_
  rintro e w2 ⟨v2, rfl, ho2, hb2⟩
  have hlen2 : (bitsN (txt p)).length = 8 * p.size := by rw [bitsN_length, txt_length]
  have hne2 : i64s (bitsN (txt p)) ≠ [] := fun e => by have := congrArg List.length e; rw [i64s_length, hlen2] at this; simp at this; omega
  obtain ⟨g2, c2, rfl, hx1, hx2, hx3, hx4, hx5⟩ := ho2.at hne2
  rw [i64s_length, hlen2] at ho2 hx1 ⊢
  have HO1' := Lib.hid (HO1.out.below hb2)
  have HB2 := Lib.hid (HB1.out.trans (hb2.mono HB1.out.size))
  have HO2 := Lib.hid ho2
  have HL2 := Lib.hid hlen2
  clear hx2 hx3 hx4 hx5 hne2 ho2 hb2 HO1 HB1 hlen2
  go_wp2_with fail
  refine (refdegree_any tt h1 h8 w2).mono ?_
  rintro e w3 ⟨rfl, hb3⟩
  have HO3 := Lib.hid (HO1'.out.below hb3)
  have HB3 := Lib.hid (HB2.out.trans (hb3.mono HB2.out.size))
  have HT3 := Lib.hid ((HO2.out.below hb3).takeI (m := 13 * tt) (by rw [HL2.out]; exact hD))
  have hD2 : 13 * tt ≤ c2 := by omega
  have hsz3 := HB3.out.size
  have HL1 : Hid ((bitsN (txt s)).length = 8 * s.size) := by show (bitsN (txt s)).length = 8 * s.size; rw [bitsN_length, txt_length]
  clear hb3 HO1' HB2 HO2
  generalize hdd : 13 * tt = D at *
  have HDD := Lib.hid hdd
  clear hdd
  go_wp2_with (at_builtin; refine appendI w.heap.size rfl (.tmp 13) (.tmp 17) rfl _ (bitsN (txt s)) rfl g2 D c2 _ ((bitsN (txt p)).take D) rfl HT3.out HO3.out HB3.out hsz3 (by rw [List.length_take, HL1.out, HL2.out]; omega) ?_; intro v4 w4 hown4 hbel4; have HO4 := Lib.hid hown4; have HB4 := Lib.hid hbel4; clear hown4 hbel4)
  go_ret
  exact ⟨_, rfl, by rw [← HDD.out] at HO4; exact HO4.out, HB4.out⟩
/-- In how many places two lists differ. -/
def apartN (a b : List Nat) : Nat → Nat
  | 0 => 0
  | k + 1 => apartN a b k + if a.getD k 0 = b.getD k 0 then 0 else 1
theorem apartN_le (a b : List Nat) (k : Nat) : apartN a b k ≤ k := by
  induction k with
  | zero => exact Nat.le_refl _
  | succ k ih => simp only [apartN]; split <;> omega
set_option maxRecDepth 100000 in
set_option maxHeartbeats 3200000 in
theorem apart_any (a b : List Nat) {va vb : Value} {B B' : Nat} (hl : b.length = a.length) (hn : a.length ≤ 100000) (w : World) (ha : Own w B 3 va (i64s a)) (hb : Own w B' 3 vb (i64s b)) :
    Calls Try.prog 22 #[va, vb] w fun e w' => e = .returned (.int .i64 (apartN a b a.length)) ∧ ∃ n, w' = w.drewN n := by
  obtain ⟨aa, ac, rfl, hx1⟩ := ha.form
  obtain ⟨ba, bc, rfl, hx2⟩ := hb.form
  clear hx1 hx2
  rw [i64s_length] at ha hb
  rw [i64s_length, i64s_length]
  rw [hl] at hb ⊢
  have HA := Lib.hid ha
  have HB := Lib.hid hb
  have HL := Lib.hid hl
  clear ha hb hl
  go_enter Try.func22, Try.ntmps22
  go_wp2_with fail
  go_loopw [5, 6] (fun nv iv wr => ∃ (i d : Nat), i ≤ a.length ∧ iv = .int .i64 i ∧ nv = .int .i64 (apartN a b i) ∧ wr = w.drewN d) (fun _ iv _ => a.length - (intOf iv).toNat)
  case atStart => exact ⟨0, 0, Nat.zero_le _, rfl, rfl, rfl⟩
  case round =>
    obtain ⟨i, d, hi, rfl, rfl, rfl⟩ := hrel
    by_cases hlt : i < a.length
    · have hlt' : (i : Int) < a.length := by omega
      have hle := apartN_le a b i
      obtain ⟨a2, c2, he2, hcells⟩ := HA.out.form
      rw [i64s_length] at he2
      simp only [Value.slice.injEq] at he2
      obtain ⟨rfl, hx4, rfl⟩ := he2
      obtain ⟨ga, ha2, hx1, hx2, hca, hx3⟩ := hcells i (.int .i64 (a.getD i 0 : Nat)) (by simp [i64s, hlt])
      subst ha2
      obtain ⟨a3, c3, he3, hcells3⟩ := HB.out.form
      rw [i64s_length, HL.out] at he3
      simp only [Value.slice.injEq] at he3
      obtain ⟨rfl, hy4, rfl⟩ := he3
      obtain ⟨gb, hb2, hy1, hy2, hcb, hy3⟩ := hcells3 i (.int .i64 (b.getD i 0 : Nat)) (by have := HL.out; simp [i64s, hlt, this])
      subst hb2
      have HAp : Hid (apartN a b (i + 1) = apartN a b i + if a.getD i 0 = b.getD i 0 then 0 else 1) := rfl
      clear hcells hcells3 hx1 hx2 hx3 hx4 hy1 hy2 hy3 hy4
      generalize a.getD i 0 = x at *
      generalize b.getD i 0 = y at *
      generalize apartN a b i = m at *
      go_wp2_with fail
      go_region
      all_goals
        by_cases hxy : x = y
        · have hA : Hid (apartN a b (i + 1) = m) := by show apartN a b (i + 1) = m; rw [HAp.out, if_pos hxy]; rfl
          rw [show ((x : Int) != (y : Int)) = false by rw [hxy]; simp]
          clear hxy HAp
          go_wp2_with fail
          go_roundw
          case rel => exact ⟨i + 1, d + 1, by omega, by go_num, by rw [hA.out], rfl⟩
          case measure => simp only [intOf]; omega
        · have hA : Hid (apartN a b (i + 1) = m + 1) := by show apartN a b (i + 1) = m + 1; rw [HAp.out, if_neg hxy]
          rw [show ((x : Int) != (y : Int)) = true by simp; omega]
          clear hxy HAp
          go_wp2_with fail
          go_roundw
          case rel => exact ⟨i + 1, d + 1, by omega, by go_num, by rw [hA.out]; go_num, rfl⟩
          case measure => simp only [intOf]; omega
    · obtain rfl : i = a.length := by omega
      have hlt' : ¬ ((a.length : Int) < a.length) := by omega
      go_wp2_with fail
      go_ret
      exact ⟨rfl, d, rfl⟩
end Go.Proofs.Ytfhefcpkknidcaa
/- What Decode answers is none, or a code word that is as far as it says: plain. -/
namespace Go.Proofs.Ytfhefcpkknidcaa
open Go.RowKit Gf
theorem wordN_length (tt : Nat) (s p : List UInt8) (hp : p.length = nLow tt) : (wordN tt s p).length = 8 * s.length + 13 * tt := by
  have : 13 * tt ≤ 8 * nLow tt := by unfold nLow; omega
  unfold wordN
  rw [List.length_append, List.length_take, bitsN_length, bitsN_length, hp]
  omega
theorem wordN_at (tt : Nat) (s p : List UInt8) (hp : p.length = nLow tt) (i : Nat) (hi : i < 8 * s.length + 13 * tt) : (wordN tt s p).getD i 0 = (wbit (8 * s.length) (s, p) i).toNat := by
  have h13 : 13 * tt ≤ 8 * nLow tt := by unfold nLow; omega
  unfold wordN wbit
  rw [List.getD_eq_getElem?_getD, List.getElem?_append, bitsN_length]
  split
  · rename_i h; simp [bitsN, h]
  · rename_i h
    rw [List.getElem?_take, if_pos (by omega)]
    simp [bitsN, hp]
    rw [List.getElem?_range (by omega)]
    rfl
theorem apartN_count (a b : List Nat) (n : Nat) : apartN a b n = ((List.range n).filter fun i => !(decide (a.getD i 0 = b.getD i 0))).length := by
  induction n with
  | zero => rfl
  | succ n ih =>
    rw [apartN, List.range_succ, List.filter_append, List.length_append, ← ih]
    congr 1
    by_cases h : a.getD n 0 = b.getD n 0
    · rw [if_pos h]; simp only [List.filter]; rw [decide_eq_true h]; rfl
    · rw [if_neg h]; simp only [List.filter]; rw [decide_eq_false h]; rfl
theorem filter_count (Q : List Nat) (n : Nat) (hnd : Q.Nodup) (hq : ∀ q ∈ Q, q < n) (f : Nat → Bool) (hf : ∀ i, i < n → f i = decide (i ∈ Q)) : ((List.range n).filter f).length = Q.length := by
  apply Nat.le_antisymm
  · apply nodup_le
    · exact List.Pairwise.filter _ List.nodup_range
    · intro x hx
      rw [List.mem_filter, List.mem_range] at hx
      have := hf x hx.1
      rw [hx.2] at this
      exact of_decide_eq_true this.symm
  · apply nodup_le _ _ hnd
    intro x hx
    rw [List.mem_filter, List.mem_range]
    exact ⟨hq x hx, by rw [hf x (hq x hx)]; exact decide_eq_true hx⟩
theorem toNat_xor_eq (x y : Bool) : (decide (x.toNat = (x ^^ y).toNat)) = !y := by cases x <;> cases y <;> rfl
/-- A word, some of whose bits are turned, differs from it in as many places. -/
theorem apart_flips (tt : Nat) (s p : List UInt8) (hp : p.length = nLow tt) (Q : List Nat) (hnd : Q.Nodup) (hq : ∀ q ∈ Q, q < 8 * s.length + 13 * tt) (p' : List UInt8) (hp' : p'.length = nLow tt) (hpp : ∀ i, i < 13 * tt → bitL p' i = bitL p i) :
    apartN (wordN tt s p) (wordN tt (flipsP (8 * s.length) (s, p') Q).1 (flipsP (8 * s.length) (s, p') Q).2) (8 * s.length + 13 * tt) = Q.length := by
  have h13 : 13 * tt ≤ 8 * nLow tt := by unfold nLow; omega
  rw [apartN_count]
  apply filter_count Q _ hnd hq
  intro i hi
  have hl := flipsP_length (8 * s.length) Q (s, p')
  rw [wordN_at tt s p hp i hi, wordN_at tt _ _ (hl.2.trans hp') i (by rw [hl.1]; exact hi), hl.1]
  have hb := flipsP_bit (8 * s.length) Q (s, p') rfl (fun q h => by have := hq q h; simp only [hp']; omega) hnd i
  have e : wbit (8 * s.length) (s, p') i = wbit (8 * s.length) (s, p) i := by
    unfold wbit
    split
    · rfl
    · exact hpp _ (by omega)
  rw [hb, e, toNat_xor_eq, Bool.not_not]
theorem map_back_nodup (T : List Nat) (n : Nat) (hnd : T.Nodup) (ht : ∀ e ∈ T, e < n) : (T.map fun e => n - 1 - e).Nodup := by
  rw [List.nodup_iff_pairwise_ne, List.pairwise_map]
  rw [List.nodup_iff_pairwise_ne] at hnd
  refine List.Pairwise.imp_of_mem ?_ hnd
  intro a b ha hb hab he
  have h1 := ht a ha
  have h2 := ht b hb
  omega
theorem decF_word (tt : Nat) (h1 : 1 ≤ tt) (h8 : tt ≤ 8) (s p : List UInt8) (hp : p.length = nLow tt) (a b : List UInt8) (k : Nat) (h : decF tt s p = some (a, b, k)) :
    a.length = s.length ∧ b.length = nLow tt ∧ encB tt a = b ∧ k ≤ tt ∧ apartN (wordN tt s p) (wordN tt a b) (8 * s.length + 13 * tt) = k := by
  have hcl : (cleanL tt p).length = nLow tt := by rw [cleanL_length, hp]
  have hcb : ∀ i, i < 13 * tt → bitL (cleanL tt p) i = bitL p i := fun i hi => by rw [clean_bit tt h1 p hp, if_pos hi]
  unfold decF at h
  split at h
  · rename_i hz
    simp only [Option.some.injEq, Prod.mk.injEq] at h
    obtain ⟨rfl, rfl, rfl⟩ := h
    refine ⟨rfl, hcl, clean_code tt h1 h8 _ _ hp hz, by omega, ?_⟩
    exact apart_flips tt s p hp [] (by simp) (by simp) (cleanL tt p) hcl hcb
  · split at h
    · simp at h
    · rename_i hno
      split at h
      · rename_i he
        simp only [Option.some.injEq, Prod.mk.injEq] at h
        obtain ⟨rfl, rfl, rfl⟩ := h
        have hl := flipsP_length (8 * s.length) ((turnT tt s p).map fun e => 8 * s.length + 13 * tt - 1 - e) (s, cleanL tt p)
        have hm : ∀ e ∈ turnT tt s p, e < 8 * s.length + 13 * tt := fun e he => ((rootK_mem _ _ e).1 he).1
        refine ⟨hl.1, hl.2.trans hcl, he, by omega, ?_⟩
        have := apart_flips tt s p hp ((turnT tt s p).map fun e => 8 * s.length + 13 * tt - 1 - e) (map_back_nodup _ _ (rootK_nodup _ _) hm) (fun q hq => by
          obtain ⟨e, he, rfl⟩ := List.mem_map.1 hq
          have := hm e he
          omega) (cleanL tt p) hcl hcb
        rw [List.length_map] at this
        exact this
      · simp at h
end Go.Proofs.Ytfhefcpkknidcaa
/- What Decode answers to a word with at most t turned bits: plain. -/
namespace Go.Proofs.Ytfhefcpkknidcaa
open Go.RowKit Gf
theorem S_add (m n : Nat) (f : Nat → F) : S (m + n) f = S m f ^^^ S n (fun i => f (m + i)) := by
  induction n with
  | zero => simp [S]
  | succ n ih => rw [← Nat.add_assoc]; simp only [S]; rw [ih, BitVec.xor_assoc]
theorem S_single (n q : Nat) (hq : q < n) (f : Nat → F) : S n (fun i => if i = q then f i else 0#13) = f q := by
  induction n with
  | zero => omega
  | succ n ih =>
    simp only [S]
    by_cases h : n = q
    · subst h
      rw [if_pos rfl, S_zero' (fun i hi => by rw [if_neg (by omega)]), BitVec.zero_xor]
    · rw [if_neg h, ih (by omega), BitVec.xor_zero]
theorem S_mem (n : Nat) (f : Nat → F) : ∀ Q : List Nat, Q.Nodup → (∀ q ∈ Q, q < n) → S n (fun i => if i ∈ Q then f i else 0#13) = Sl Q f := by
  intro Q
  induction Q with
  | nil => intro _ _; exact S_zero' (fun i _ => by simp)
  | cons q Q ih =>
    intro hnd hq
    rw [List.nodup_cons] at hnd
    have e : S n (fun i => if i ∈ q :: Q then f i else 0#13) = S n (fun i => (if i = q then f i else 0#13) ^^^ (if i ∈ Q then f i else 0#13)) := by
      apply S_congr
      intro i _
      by_cases h : i = q
      · subst h; rw [if_pos List.mem_cons_self, if_pos rfl, if_neg hnd.1, BitVec.xor_zero]
      · rw [if_neg h, BitVec.zero_xor]
        by_cases h2 : i ∈ Q
        · rw [if_pos h2, if_pos (List.mem_cons_of_mem _ h2)]
        · rw [if_neg h2, if_neg (fun hh => by rcases List.mem_cons.1 hh with h3 | h3; exact h h3; exact h2 h3)]
    rw [e, S_xor, S_single n q (hq q List.mem_cons_self), ih hnd.2 (fun x hx => hq x (List.mem_cons_of_mem _ hx))]
    rfl
/-- The value of a whole word. -/
def wev (m D : Nat) (sp : List UInt8 × List UInt8) (y : F) : F := S (m + D) fun i => if wbit m sp i then pw y (m + D - 1 - i) else 0#13
theorem wev_eq (m D : Nat) (sp : List UInt8 × List UInt8) (y : F) : wev m D sp y = mul (evB sp.1 m y) (pw y D) ^^^ evB sp.2 D y := by
  unfold wev
  rw [S_add]
  congr 1
  · unfold evB
    rw [mul_comm, S_mul]
    apply S_congr
    intro i hi
    unfold wbit
    rw [if_pos hi]
    split
    · rw [← pw_add]; congr 1; omega
    · rw [mul_zero]
  · unfold evB
    apply S_congr
    intro i hi
    have hw : wbit m sp (m + i) = bitL sp.2 i := by
      unfold wbit
      rw [if_neg (by omega), show m + i - m = i by omega]
    rw [hw, show m + D - 1 - (m + i) = D - 1 - i by omega]
theorem rest_ev (tt : Nat) (h1 : 1 ≤ tt) (h8 : tt ≤ 8) (s p : List UInt8) (hp : p.length = nLow tt) (k : Nat) (hk : k < 2 * tt) : synN (restL tt s p) (13 * tt) k (13 * tt) = wev (8 * s.length) (13 * tt) (s, cleanL tt p) (ex (k + 1)) := by
  rw [syn_ev, wev_eq]
  unfold restL
  rw [ev_xor _ _ _ _ (by rw [encB_length, cleanL_length, hp])]
  congr 1
  obtain ⟨d, hd⟩ : ∃ d, 13 * tt = d + 1 := ⟨13 * tt - 1, by omega⟩
  have hr := low_root tt h1 h8 k hk
  have hs := low_spare tt h1 h8
  rw [hd] at hr hs ⊢
  have := (ev_div (lowT tt) d _ hs hr s).2
  rw [lowT_length] at this
  exact this
theorem code_ev (tt : Nat) (h1 : 1 ≤ tt) (h8 : tt ≤ 8) (s : List UInt8) (k : Nat) (hk : k < 2 * tt) : wev (8 * s.length) (13 * tt) (s, encB tt s) (ex (k + 1)) = 0#13 := by
  have h := rest_ev tt h1 h8 s (encB tt s) (encB_length tt s) k hk
  have hc : cleanL tt (encB tt s) = encB tt s := by
    apply bits_ext (by rw [cleanL_length])
    intro i _
    rw [clean_bit tt h1 _ (encB_length tt s)]
    split
    · rfl
    · exact (enc_spare tt h1 h8 s i (by omega)).symm
  rw [hc] at h
  rw [← h]
  have hz := zeros_self (restL tt s (encB tt s)) (13 * tt) (fun i _ => by unfold restL; rw [hc]; exact xorB_self _ i) (2 * tt)
  exact (zerosK_iff _ _ _).1 hz k hk
theorem flips_ev (m D : Nat) (sp : List UInt8 × List UInt8) (hm : m = 8 * sp.1.length) (hD : D ≤ 8 * sp.2.length) (Q : List Nat) (hnd : Q.Nodup) (hq : ∀ q ∈ Q, q < m + D) (y : F) : wev m D (flipsP m sp Q) y = wev m D sp y ^^^ Sl Q (fun q => pw y (m + D - 1 - q)) := by
  rw [← S_mem (m + D) (fun q => pw y (m + D - 1 - q)) Q hnd hq]
  unfold wev
  rw [← S_xor]
  apply S_congr
  intro i _
  rw [flipsP_bit m Q sp hm (fun q h => by have := hq q h; omega) hnd i]
  by_cases h : i ∈ Q
  · rw [decide_eq_true h, if_pos h]
    cases wbit m sp i <;> simp
  · rw [decide_eq_false h, if_neg h]
    simp
theorem pw_swap (k e : Nat) : pw (ex (k + 1)) e = pw (ex e) (k + 1) := by rw [pw_ex, pw_ex, Nat.mul_comm]
/-- A code word with at most t bits turned is decoded to it. -/
theorem dec_correct (tt : Nat) (h1 : 1 ≤ tt) (h8 : tt ≤ 8) (data : List UInt8) (hs : data.length ≤ 256) (Q : List Nat) (hnd : Q.Nodup) (hq : ∀ q ∈ Q, q < 8 * data.length + 13 * tt) (hv : Q.length ≤ tt) :
    decF tt (flipsP (8 * data.length) (data, encB tt data) Q).1 (flipsP (8 * data.length) (data, encB tt data) Q).2 = some (data, encB tt data, Q.length) := by
  have hD8 : 13 * tt ≤ 8 * nLow tt := by unfold nLow; omega
  have hel := encB_length tt data
  have hfl := flipsP_length (8 * data.length) Q (data, encB tt data)
  have hbit := flipsP_bit (8 * data.length) Q (data, encB tt data) rfl (fun q h => by have := hq q h; simp only [hel]; omega) hnd
  have hfe := fun y => flips_ev (8 * data.length) (13 * tt) (data, encB tt data) rfl (by simp only [hel]; omega) Q hnd hq y
  generalize hfl' : flipsP (8 * data.length) (data, encB tt data) Q = fl at *
  obtain ⟨S', P'⟩ := fl
  simp only at hfl ⊢
  obtain ⟨hl1, hl2⟩ := hfl
  rw [hel] at hl2
  have hclean : cleanL tt P' = P' := by
    apply bits_ext (by rw [cleanL_length])
    intro i _
    rw [clean_bit tt h1 _ hl2]
    split
    · rfl
    · have := hbit (8 * data.length + i)
      unfold wbit at this
      rw [if_neg (by omega), if_neg (by omega), show 8 * data.length + i - 8 * data.length = i by omega] at this
      simp only at this
      rw [this, enc_spare tt h1 h8 data i (by omega), decide_eq_false (fun h => by have := hq _ h; omega)]
      rfl
  have hsyn : ∀ k, k < 2 * tt → synN (restL tt S' P') (13 * tt) k (13 * tt) = Sl Q (fun q => pw (ex (8 * data.length + 13 * tt - 1 - q)) (k + 1)) := by
    intro k hk
    rw [rest_ev tt h1 h8 S' P' hl2 k hk, hclean, hl1, hfe, code_ev tt h1 h8 data k hk, BitVec.zero_xor]
    apply Sl_congr
    intro q _
    exact pw_swap _ _
  have hn : 8 * data.length + 13 * tt ≤ 8191 := by omega
  have hXd : (Q.map fun q => ex (8 * data.length + 13 * tt - 1 - q)).Nodup := by
    rw [List.nodup_iff_pairwise_ne, List.pairwise_map]
    have hnd' := hnd
    rw [List.nodup_iff_pairwise_ne] at hnd'
    refine List.Pairwise.imp_of_mem ?_ hnd'
    intro a b ha hb hab he
    have h2 := hq a ha
    have h3 := hq b hb
    have := ex_inj (by omega) (by omega) he
    omega
  unfold decF
  by_cases hz : zerosK (restL tt S' P') (13 * tt) (2 * tt) = true
  · rw [if_pos hz, hclean]
    have hz' := (zerosK_iff _ _ _).1 hz
    have hQ : Q = [] := by
      rcases hQ : Q with _ | ⟨q, Q'⟩
      · rfl
      · exfalso
        have := vander Q.length Q (fun q => ex (8 * data.length + 13 * tt - 1 - q)) (fun q => ex (8 * data.length + 13 * tt - 1 - q)) rfl hXd (fun j hj => by
          have h4 := hz' j (by omega)
          rw [hsyn j (by omega)] at h4
          exact h4) q (by rw [hQ]; exact List.mem_cons_self)
        exact ex_ne_zero _ this
    subst hQ
    simp only [flipsP, List.foldl_nil, Prod.mk.injEq] at hfl'
    rw [← hfl'.1, ← hfl'.2]
    rfl
  · rw [if_neg hz]
    have hco : ∀ k, k < 2 * tt → co (synL (restL tt S' P') (13 * tt) (2 * tt)) k = Sl Q (fun q => pw (ex (8 * data.length + 13 * tt - 1 - q)) (k + 1)) := by
      intro k hk
      rw [← hsyn k hk]
      simp [co, synL, hk]
    obtain ⟨hlen, hroots⟩ := locator_spec (t := tt) (X := fun q => ex (8 * data.length + 13 * tt - 1 - q)) (l := Q) (s := co (synL (restL tt S' P') (13 * tt) (2 * tt))) (fun q _ => ex_ne_zero _) hXd hv hco
    have hloc : (locT tt S' P').length = Q.length + 1 := hlen
    have hmem : ∀ e, e ∈ turnT tt S' P' ↔ ∃ q ∈ Q, e = 8 * data.length + 13 * tt - 1 - q := by
      intro e
      unfold turnT
      rw [rootK_mem, hl1]
      constructor
      · rintro ⟨he, hr⟩
        obtain ⟨q, hqm, hi⟩ := (hroots (inv (ex e))).1 hr
        refine ⟨q, hqm, ?_⟩
        have h2 := hq q hqm
        rw [inv_ex (by omega), inv_ex (by omega)] at hi
        have h3 := congrArg (fun x => mul x (ex (e + (8 * data.length + 13 * tt - 1 - q)))) hi
        simp only [mul_ex_ex] at h3
        rw [show 8191 - e + (e + (8 * data.length + 13 * tt - 1 - q)) = (8 * data.length + 13 * tt - 1 - q) + 8191 by omega, show 8191 - (8 * data.length + 13 * tt - 1 - q) + (e + (8 * data.length + 13 * tt - 1 - q)) = e + 8191 by omega, ex_add_order, ex_add_order] at h3
        exact (ex_inj (by omega) (by omega) h3).symm
      · rintro ⟨q, hqm, rfl⟩
        have h2 := hq q hqm
        exact ⟨by omega, (hroots _).2 ⟨q, hqm, rfl⟩⟩
    have hTn : (turnT tt S' P').Nodup := rootK_nodup _ _
    have hTlt : ∀ e ∈ turnT tt S' P', e < 8 * data.length + 13 * tt := fun e he => by
      obtain ⟨q, hqm, rfl⟩ := (hmem e).1 he
      have := hq q hqm
      omega
    have hTl : (turnT tt S' P').length = Q.length := by
      apply Nat.le_antisymm
      · have := nodup_le (turnT tt S' P') (Q.map fun q => 8 * data.length + 13 * tt - 1 - q) hTn (fun e he => by
          obtain ⟨q, hqm, rfl⟩ := (hmem e).1 he
          exact List.mem_map.2 ⟨q, hqm, rfl⟩)
        rw [List.length_map] at this
        exact this
      · have := nodup_le (Q.map fun q => 8 * data.length + 13 * tt - 1 - q) (turnT tt S' P') (map_back_nodup Q _ hnd hq) (fun e he => by
          obtain ⟨q, hqm, rfl⟩ := List.mem_map.1 he
          exact (hmem _).2 ⟨q, hqm, rfl⟩)
        rw [List.length_map] at this
        exact this
    rw [if_neg (by rw [hloc, hTl]; omega)]
    have hback : backT tt S' P' = (data, encB tt data) := by
      have hQ'n := map_back_nodup _ _ hTn hTlt
      have hQ'm : ∀ i, i ∈ ((turnT tt S' P').map fun e => 8 * data.length + 13 * tt - 1 - e) ↔ i ∈ Q := by
        intro i
        rw [List.mem_map]
        constructor
        · rintro ⟨e, he, rfl⟩
          obtain ⟨q, hqm, rfl⟩ := (hmem e).1 he
          have := hq q hqm
          rw [show 8 * data.length + 13 * tt - 1 - (8 * data.length + 13 * tt - 1 - q) = q by omega]
          exact hqm
        · intro hi
          have := hq i hi
          exact ⟨_, (hmem _).2 ⟨i, hi, rfl⟩, by omega⟩
      unfold backT
      rw [hclean, hl1]
      have hb2 := flipsP_bit (8 * data.length) ((turnT tt S' P').map fun e => 8 * data.length + 13 * tt - 1 - e) (S', P') (by simp only [hl1]) (fun q h => by
        have := hq q ((hQ'm q).1 h)
        simp only [hl2]; omega) hQ'n
      have hl3 := flipsP_length (8 * data.length) ((turnT tt S' P').map fun e => 8 * data.length + 13 * tt - 1 - e) (S', P')
      generalize flipsP (8 * data.length) (S', P') ((turnT tt S' P').map fun e => 8 * data.length + 13 * tt - 1 - e) = g at *
      obtain ⟨A, C⟩ := g
      simp only at hl3
      have hall : ∀ i, wbit (8 * data.length) (A, C) i = wbit (8 * data.length) (data, encB tt data) i := by
        intro i
        rw [hb2 i, hbit i, Bool.xor_assoc]
        have : (decide (i ∈ Q) ^^ decide (i ∈ ((turnT tt S' P').map fun e => 8 * data.length + 13 * tt - 1 - e))) = false := by
          by_cases h : i ∈ Q
          · rw [decide_eq_true h, decide_eq_true ((hQ'm i).2 h)]; rfl
          · rw [decide_eq_false h, decide_eq_false (fun hh => h ((hQ'm i).1 hh))]; rfl
        rw [this, Bool.xor_false]
      have e1 : A = data := by
        apply bits_ext (hl3.1.trans hl1)
        intro i hi
        have := hall i
        unfold wbit at this
        rw [hl3.1, hl1] at hi
        rw [if_pos hi, if_pos hi] at this
        exact this
      have e2 : C = encB tt data := by
        apply bits_ext (by rw [hl3.2, hl2, hel])
        intro i _
        have := hall (8 * data.length + i)
        unfold wbit at this
        rw [if_neg (by omega), if_neg (by omega), show 8 * data.length + i - 8 * data.length = i by omega] at this
        exact this
      rw [e1, e2]
    rw [hback]
    simp only
    rw [if_pos trivial, hTl]
end Go.Proofs.Ytfhefcpkknidcaa
/- Decode of a word whose syndromes are not all nought, walked. -/
namespace Go.Proofs.Ytfhefcpkknidcaa
open Go.RowKit Gf
theorem ba_ne {a b : ByteArray} (h : a ≠ b) : (a.toList == b.toList) = false := by
  rw [beq_eq_false_iff_ne]
  intro e
  rw [ByteArray.toList_eq, ByteArray.toList_eq] at e
  exact h (by cases a; cases b; simp at e; subst e; rfl)
theorem CodeR.putByt {w : World} {b tt Lw B g n : Nat} {ch : Int} {l : List UInt8} (h : CodeR w b tt ch Lw) (hg : Byt w B g n l) (hL : Lw ≠ g) (j : Nat) (v : Value) : CodeR (w.setCell ⟨g, j, none⟩ v) b tt ch Lw := by
  obtain ⟨⟨p, E, L, hh⟩, hl⟩ := h
  exact ⟨⟨p, E, L, hh.far (Ne.symm (hg.ne hh.code (by decide))) (Ne.symm (hg.ne hh.tabs.exp (by decide))) (Ne.symm (hg.ne hh.tabs.log (by decide))) v⟩, hl.far (fun e => by simp [Value.ownBlock] at e; exact hL e) v⟩
theorem Own.neByt {w : World} {B B' g n : Nat} {T : TypeId} {v : Value} {xs : List Value} {l : List UInt8} (h : Own w B T v xs) (hg : Byt w B' g n l) (hT : T ≠ 5) : v.ownBlock ≠ some g := by
  intro hk
  rcases h.2 with ⟨rfl, _⟩ | ⟨g', cap, cur, rfl, _, hh, _⟩
  · simp [Value.ownBlock] at hk
  · have : g' = g := by simpa [Value.ownBlock] using hk
    subst this
    obtain ⟨_, _, cur', fz, h3, _⟩ := hg
    rw [hh] at h3
    injection h3 with hb
    injection hb with _ e
    exact hT e
def flK (m nn : Nat) (sp : List UInt8 × List UInt8) (T : List Nat) (k : Nat) : List UInt8 × List UInt8 := flipsP m sp ((T.take k).map fun e => nn - 1 - e)
theorem flK_next (m nn : Nat) (sp : List UInt8 × List UInt8) (T : List Nat) (k e : Nat) (h : T[k]? = some e) : flK m nn sp T (k + 1) = flipP m (flK m nn sp T k) (nn - 1 - e) := by
  unfold flK
  obtain ⟨hk, he⟩ := List.getElem?_eq_some_iff.1 h
  rw [List.take_succ_eq_append_getElem hk, List.map_append, List.map_singleton, flipsP_snoc, he]
theorem flK_all (m nn : Nat) (sp : List UInt8 × List UInt8) (T : List Nat) : flK m nn sp T T.length = flipsP m sp (T.map fun e => nn - 1 - e) := by unfold flK; rw [List.take_length]
theorem flK_length (m nn : Nat) (sp : List UInt8 × List UInt8) (T : List Nat) (k : Nat) : (flK m nn sp T k).1.length = sp.1.length ∧ (flK m nn sp T k).2.length = sp.2.length := flipsP_length _ _ _
theorem bit8_int (q : Nat) : ((bit8 q).toNat : Int) = 128 / 2 ^ (q % 8) := by rw [bit8_nat]; simp
set_option maxRecDepth 100000 in
set_option maxHeartbeats 6400000 in
theorem decode_dirty (s p : ByteArray) (hs : s.size ≤ 256) {b tt : Nat} (h1 : 1 ≤ tt) (h8 : tt ≤ 8) (hp : p.size = nLow tt) (hz : zerosK (restL tt (txt s) (txt p)) (13 * tt) (2 * tt) = false) (w : World) (h : CodeS w b tt s.size) :
    Calls Try.prog 12 #[.pointer (some ⟨b, 0, none⟩), .string s, .string p] w fun e w' => e = .returned (decV (decF tt (txt s) (txt p))) ∧ Ready b tt s.size w w' := by
  have hc := h.chunk
  have HP := Lib.hid (parity_any h1 h8 w h)
  have hws : IntKind.i64.wrap (s.size : Int) = s.size := i64_small _ (by omega)
  have hN13 : nLow tt ≤ 13 := by unfold nLow; omega
  have hN1 : 1 ≤ nLow tt := by unfold nLow; omega
  have hwp : IntKind.i64.wrap (p.size : Int) = (p.size : Int) := i64_small _ (by omega)
  have HZ := Lib.hid hz
  have HPs := Lib.hid hp
  clear h hz hp
  go_enter Try.func12, Try.ntmps12
  go_wp2_with fail
  refine HP.out.mono ?_
  rintro e w1 ⟨rfl, hR⟩
  rw [← HPs.out]
  have HR := Lib.hid hR
  obtain ⟨⟨Lw, hcr, hju⟩, hjo⟩ := hR
  have HC := Lib.hid hcr
  clear hcr hju hjo HP hc
  have hcv := byt_conv w1 s
  have HY := Lib.hid (bytW_byt w1 s (Nat.le_refl _))
  have hbel := bytW_below w1 s (Nat.le_refl _)
  have HB := Lib.hid hbel
  have HCl := Lib.hid (clean_any p h1 h8 HPs.out (bytW w1 s) (HC.out.below hbel))
  have hsz := (bytW_size w1 s)
  have hszG : w1.heap.size ≤ (bytW w1 s).heap.size := by omega
  clear hbel hsz
  have hszE : (bytW w1 s).heap.size = w1.heap.size + 1 := bytW_size w1 s
  generalize bytW w1 s = w2 at *
  generalize grownCap w1 s.size 0 5 = cw at *
  go_wp2_with fail
  clear hcv
  refine HCl.out.mono ?_
  rintro e w3 ⟨gp, cp, rfl, hbp, hb3⟩
  have HBp := Lib.hid (hbp.lower hszG)
  have hb13 : Below w1.heap.size w1 w3 := HB.out.trans (hb3.mono hszG)
  have HB3 := Lib.hid hb13
  have hs3 : w1.heap.size ≤ w3.heap.size := hb13.size
  have HDv := Lib.hid (divR_any s hs h1 h8 w3 (HC.out.below hb13))
  have hgpw : w1.heap.size < gp := by have := hbp.lt.1; omega
  have HW3 := Lib.hid (HY.out.below hb3)
  clear hbp hb3 hb13 HCl HY hszE
  go_wp2_with fail
  refine HDv.out.mono ?_
  rintro e w4 ⟨gr, rfl, hr4, hb4⟩
  have HB4 := Lib.hid (HB3.out.trans (hb4.mono hs3))
  have HBp4 := Lib.hid (HBp.out.below hb4)
  have HR4 := Lib.hid (hr4.lower hs3)
  have hgrB := hr4.slice_lt.1
  have hgpB := HBp.out.lt.2.1
  have hne : gr ≠ gp := by omega
  have hs4 : w1.heap.size ≤ w4.heap.size := HB4.out.size
  have HEl : Hid ((encB tt (txt s)).length = nLow tt) := encB_length tt (txt s)
  have HPl : Hid ((cleanL tt (txt p)).length = p.size) := by show (cleanL tt (txt p)).length = p.size; rw [cleanL_length, txt_length]
  have HXr : Hid (restL tt (txt s) (txt p) = xorK (encB tt (txt s)) (cleanL tt (txt p)) (nLow tt)) := by show xorB _ _ = _; unfold xorB; rw [encB_length]
  have HW4 := Lib.hid (HW3.out.below hb4)
  have hgrw : gr ≠ w1.heap.size := by have := HW3.out.lt.2.1; omega
  clear hr4 hb4 HB3 HBp HDv hgrB hgpB HB hszG hs3 HW3
  generalize encB tt (txt s) = R at *
  generalize hPe : cleanL tt (txt p) = P at *
  have HPe := Lib.hid hPe
  clear hPe
  go_wp2_with fail
  go_loopw [13, 50] (fun _ kv wr => ∃ k : Nat, k ≤ nLow tt ∧ kv = .int .i64 k ∧ Own wr w1.heap.size 5 (slB gr (nLow tt)) (bys (xorK R P k)) ∧ Byt wr w1.heap.size gp p.size P ∧ Byt wr w1.heap.size w1.heap.size s.size (txt s) ∧ Below w1.heap.size w1 wr) (fun _ kv _ => nLow tt - (intOf kv).toNat)
  case atStart => exact ⟨0, Nat.zero_le _, rfl, HR4.out, HBp4.out, HW4.out, HB4.out⟩
  case round =>
    obtain ⟨k, hk, rfl, hr, hb, hw, hB⟩ := hrel
    clear HR4 HBp4 HB4 HW4
    by_cases hlt : k < nLow tt
    · have hXl : (xorK R P k).length = nLow tt := by rw [xorK_length]; exact HEl.out
      obtain ⟨hrc, hrz⟩ := hr.get (bys_at (l := xorK R P k) (j := k) (by rw [hXl]; exact hlt))
      obtain ⟨hpc, _⟩ := hb.get (j := k) (by rw [HPl.out, HPs.out]; exact hlt)
      have hput := hr.put (by rw [bys_length, hXl]) k (.int .u8 (((xorK R P k).getD k 0 ^^^ P.getD k 0).toNat : Int))
      rw [bys_set] at hput
      have HPt : Hid (Own (wr.setCell ⟨gr, k, none⟩ (.int .u8 (((xorK R P k).getD k 0 ^^^ P.getD k 0).toNat : Int))) w1.heap.size 5 (slB gr (nLow tt)) (bys (xorK R P (k + 1)))) := hput
      have HBt := Lib.hid (hb.far (p := ⟨gr, k, none⟩) (by simp only; exact Ne.symm hne) (.int .u8 (((xorK R P k).getD k 0 ^^^ P.getD k 0).toNat : Int)))
      have HWt := Lib.hid (hw.far (p := ⟨gr, k, none⟩) (by simp only; exact Ne.symm hgrw) (.int .u8 (((xorK R P k).getD k 0 ^^^ P.getD k 0).toNat : Int)))
      have HBl := Lib.hid (Only.frame hB hB.size hr.slice_lt.1 ((Only.refl gr wr).put (p := ⟨gr, k, none⟩) (.inl rfl) (.int .u8 (((xorK R P k).getD k 0 ^^^ P.getD k 0).toNat : Int))))
      have HX := Lib.hid (u8_xorB ((xorK R P k).getD k 0) (P.getD k 0))
      have hkN : (k : Int) < (nLow tt : Nat) := by omega
      have hkp : (k : Int) < p.size := by have := HPs.out; omega
      clear hXl hput hr hb hw hB
      generalize (xorK R P k).getD k 0 = x1 at *
      generalize P.getD k 0 = x2 at *
      go_wp2_with fail
      go_region
      all_goals
        go_wp2_with fail
        rw [HX.out]
        go_roundw
        case rel => exact ⟨k + 1, by omega, by simp, HPt.out.drew, HBt.out.drew, HWt.out.drew, HBl.out.drew⟩
        case measure => simp only [intOf]; omega
    · obtain rfl : k = nLow tt := by omega
      have HBp := Lib.hid hb
      have HWd := Lib.hid hw
      have HCr := Lib.hid (HC.out.below hB)
      rw [← HXr.out] at hr
      have HSy := Lib.hid (syndromes_any _ h1 h8 (by rw [HXr.out, xorK_length]; exact HEl.out) wr HCr.out (hr.lower (Nat.zero_le _)))
      have HB := Lib.hid hB
      clear hr hb hw hB
      go_wp2_with fail
      refine HSy.out.mono ?_
      rintro e w5 ⟨v, rfl, hv, hc5, ho5⟩
      rw [HZ.out]
      have hLw : Lw < w1.heap.size := HC.out.low.slice_lt.2.1
      have hbb : b < w1.heap.size := by obtain ⟨⟨p0, E0, L0, hh⟩, hl0⟩ := HC.out; exact hh.lt.1
      have hpb : gp ≠ b := by omega
      have HBp5 := Lib.hid (HBp.out.only ho5 hpb)
      have HWd5 := Lib.hid (HWd.out.only ho5 (by omega))
      have HO5 := Lib.hid ((Only.of_below HB.out).trans ho5)
      have hsl := synL_length (restL tt (txt s) (txt p)) (13 * tt) (2 * tt)
      have HLc := Lib.hid (locator_any _ (by rw [hsl]; omega) (by rw [hsl]; omega) w5 hc5 hv)
      have hlT : locator (co (synL (restL tt (txt s) (txt p)) (13 * tt) (2 * tt))) (synL (restL tt (txt s) (txt p)) (13 * tt) (2 * tt)).length = locT tt (txt s) (txt p) := by rw [hsl]; rfl
      rw [hlT] at HLc
      clear hv hc5 ho5 HSy HCr HB HBp HWd hsl hlT
      go_wp2_with fail
      refine HLc.out.mono ?_
      rintro e w6 ⟨lv, rfl, hlv, hc6, ho6⟩
      have HBp6 := Lib.hid (HBp5.out.only ho6 hpb)
      have HWd6 := Lib.hid (HWd5.out.only ho6 (by omega))
      have HO6 := Lib.hid (HO5.out.trans ho6)
      obtain ⟨hlb1, hlb2, hlb3⟩ := loc_bounds tt (txt s) (txt p)
      obtain ⟨la, lc, rfl, hx1⟩ := hlv.form
      have hll : (fis (locT tt (txt s) (txt p))).length = (locT tt (txt s) (txt p)).length := fis_length _
      rw [hll] at hlv ⊢
      have hch := hc6.cells.2.1
      have hdg := hc6.cells.2.2.1
      have hw8 : IntKind.i64.wrap (8 * (s.size : Int)) = ((8 * s.size : Nat) : Int) := by rw [IntKind.wrap_i64]; omega
      have hw9 : IntKind.i64.wrap (((8 * s.size : Nat) : Int) + ((13 * tt : Nat) : Int)) = ((8 * s.size + 13 * tt : Nat) : Int) := by rw [IntKind.wrap_i64]; omega
      have HRt := Lib.hid (roots_any (locT tt (txt s) (txt p)) (8 * s.size + 13 * tt) (by omega) hlb1 (by omega) (rootK_few _ _ (by omega) (by rw [hlb3]; decide)) w6.drew (hc6.below (below_drewN' (Below.refl _ _) 1)) hlv.drew)
      have hTn : rootK (locT tt (txt s) (txt p)) (8 * s.size + 13 * tt) = turnT tt (txt s) (txt p) := by unfold turnT; rw [txt_length]
      rw [hTn] at HRt
      have HTm : Hid (∀ e ∈ turnT tt (txt s) (txt p), e < 8 * s.size + 13 * tt) := fun e he => by rw [← hTn] at he; exact ((rootK_mem _ _ e).1 he).1
      have HTd : Hid ((turnT tt (txt s) (txt p)).Nodup) := by show (turnT tt (txt s) (txt p)).Nodup; rw [← hTn]; exact rootK_nodup _ _
      have HDF : Hid (decF tt (txt s) (txt p) = (if tt < (locT tt (txt s) (txt p)).length - 1 ∨ (turnT tt (txt s) (txt p)).length ≠ (locT tt (txt s) (txt p)).length - 1 then none
          else if encB tt (flipsP (8 * s.size) (txt s, P) ((turnT tt (txt s) (txt p)).map fun e => 8 * s.size + 13 * tt - 1 - e)).1 = (flipsP (8 * s.size) (txt s, P) ((turnT tt (txt s) (txt p)).map fun e => 8 * s.size + 13 * tt - 1 - e)).2 then some ((flipsP (8 * s.size) (txt s, P) ((turnT tt (txt s) (txt p)).map fun e => 8 * s.size + 13 * tt - 1 - e)).1, (flipsP (8 * s.size) (txt s, P) ((turnT tt (txt s) (txt p)).map fun e => 8 * s.size + 13 * tt - 1 - e)).2, (turnT tt (txt s) (txt p)).length) else none)) := by
        show decF tt (txt s) (txt p) = _
        unfold decF backT
        rw [if_neg (by rw [HZ.out]; simp), HPe.out, txt_length]
      have hnn : 8 * s.size + 13 * tt ≤ 8000 := by omega
      clear hx1 hll hlv hc6 ho6 hlb3 hTn HBp5 HWd5 HO5 HLc HZ HPe HXr
      generalize turnT tt (txt s) (txt p) = T at *
      generalize (locT tt (txt s) (txt p)).length = nl at *
      generalize hnnE : 8 * s.size + 13 * tt = nn at *
      have HNN := Lib.hid hnnE
      clear hnnE
      go_wp2_with fail
      go_region
      go_wp2_with fail
      have hrw : 8 * (s.size : Int) + 13 * (tt : Int) = (nn : Int) := by have := HNN.out; omega
      rw [hrw]
      clear hrw hw8 hw9 hch hdg
      refine HRt.out.mono ?_
      rintro e w7 ⟨tv, rfl, htv, hc7, ho7⟩
      have HBp7 := Lib.hid (HBp6.out.drew.only ho7 hpb)
      have HWd7 := Lib.hid (HWd6.out.drew.only ho7 (by omega))
      have HO7 := Lib.hid (HO6.out.drew.trans ho7)
      obtain ⟨ta, tc, rfl, hx1⟩ := htv.form
      have htl : (i64s T).length = T.length := i64s_length _
      rw [htl] at htv ⊢
      have ht0 := hc7.cells.1
      have HTv := Lib.hid htv
      have HC7 := Lib.hid hc7
      have hTn : T.length ≤ 8000 := by
        have := nodup_le T (List.range nn) HTd.out (fun x hx => List.mem_range.2 (HTm.out x hx))
        rw [List.length_range] at this
        omega
      clear hx1 htl htv hc7 ho7 HBp6 HWd6 HO6 HRt
      by_cases hbig : tt < nl - 1
      · have hg1 : (tt : Int) < (nl : Int) - 1 := by omega
        have HDf : Hid (decF tt (txt s) (txt p) = none) := by show decF tt (txt s) (txt p) = none; rw [HDF.out, if_pos (.inl hbig)]
        have HRf := Lib.hid (HR.out.after HC.out HC7.out HO7.out)
        go_wp2_with fail
        refine bodyPost_ret (results_tmp4 rfl _ _ _) rfl ?_
        exact ⟨by rw [HDf.out]; rfl, HRf.out⟩
      · have hg1 : ¬ ((tt : Int) < (nl : Int) - 1) := by omega
        by_cases hTl : T.length = nl - 1
        · have hg2 : (((T.length : Int)) == (nl : Int) - 1) = true := beq_iff_eq.2 (by omega)
          have hg3 : (((T.length : Int)) != (nl : Int) - 1) = false := by unfold bne; rw [hg2]; rfl
          have HDf : Hid (decF tt (txt s) (txt p) = (if encB tt (flK (8 * s.size) nn (txt s, P) T T.length).1 = (flK (8 * s.size) nn (txt s, P) T T.length).2 then some ((flK (8 * s.size) nn (txt s, P) T T.length).1, (flK (8 * s.size) nn (txt s, P) T T.length).2, T.length) else none)) := by
            show decF tt (txt s) (txt p) = _
            rw [HDF.out, if_neg (fun h => by rcases h with h | h; exact hbig h; exact h hTl), flK_all]
          have HFl : Hid (∀ k, (flK (8 * s.size) nn (txt s, P) T k).1.length = s.size ∧ (flK (8 * s.size) nn (txt s, P) T k).2.length = p.size) := fun k => by
            have := flK_length (8 * s.size) nn (txt s, P) T k
            exact ⟨this.1.trans (txt_length s), this.2.trans HPl.out⟩
          clear hTl hbig HDF
          go_wp2_with fail
          clear ht0 hg1 hg2 hg3
          go_loopw [20, 21, 109] (fun _ _ kv wr => ∃ k : Nat, k ≤ T.length ∧ kv = .int .i64 k ∧ Byt wr w1.heap.size w1.heap.size s.size (flK (8 * s.size) nn (txt s, P) T k).1 ∧ Byt wr w1.heap.size gp p.size (flK (8 * s.size) nn (txt s, P) T k).2 ∧ Own wr 0 3 (.slice ta T.length tc) (i64s T) ∧ CodeR wr b tt s.size Lw ∧ Only b w1 wr) (fun _ _ kv _ => T.length - (intOf kv).toNat)
          case atStart => exact ⟨0, Nat.zero_le _, rfl, HWd7.out, HBp7.out, HTv.out.lower (Nat.zero_le _), HC7.out, HO7.out⟩
          case round =>
            obtain ⟨k, hk, rfl, hwd, hbp, htv, hcr, ho⟩ := hrel
            clear HWd7 HBp7 HTv HC7 HO7
            by_cases hkT : k < T.length
            · have hkT' : (k : Int) < T.length := by omega
              have hTk : T[k]? = some T[k] := by simp [hkT]
              have hem := HTm.out T[k] (List.getElem_mem hkT)
              obtain ⟨a2, c2, he2, hcells⟩ := htv.form
              obtain ⟨tg, ha2, hx1, hx2, hct, hx3⟩ := hcells k (.int .i64 (T[k] : Nat)) (by simp [i64s, hkT])
              rw [i64s_length] at he2
              simp only [Value.slice.injEq] at he2
              obtain ⟨rfl, hx4, rfl⟩ := he2
              subst ha2
              have HNext := Lib.hid (flK_next (8 * s.size) nn (txt s, P) T k T[k] hTk)
              have hlen := HFl.out k
              clear hx1 hx2 hx3 hx4 hcells hTk
              generalize T[k] = e at *
              have hat : IntKind.i64.wrap ((nn : Int) - 1 - (e : Int)) = ((nn - 1 - e : Nat) : Int) := by rw [IntKind.wrap_i64]; omega
              have hqn : nn - 1 - e < 8 * s.size + 8 * p.size := by
                have h2 := HNN.out
                have h3 := HPs.out
                have h4 : 13 * tt ≤ 8 * nLow tt := by unfold nLow; omega
                omega
              have hqle : nn - 1 - e ≤ 8000 := by omega
              have hp13 : p.size ≤ 13 := by have := HPs.out; omega
              have hch := hcr.cells.2.1
              have HTv := Lib.hid htv
              have HCr := Lib.hid hcr
              have HO := Lib.hid ho
              have HWd := Lib.hid hwd
              have HBp := Lib.hid hbp
              clear htv hcr ho hwd hbp
              generalize flK (8 * s.size) nn (txt s, P) T k = fl at *
              generalize nn - 1 - e = q at *
              by_cases hq : q < 8 * s.size
              · have hq' : (q : Int) < 8 * (s.size : Int) := by omega
                have hq8 : (q : Int).tdiv 8 = ((q / 8 : Nat) : Int) := by rw [Int.tdiv_eq_ediv_of_nonneg (by omega)]; omega
                have hqm : (q : Int).tmod 8 = ((q % 8 : Nat) : Int) := by rw [Int.tmod_eq_emod_of_nonneg (by omega)]; omega
                have hqs : ((q / 8 : Nat) : Int) < s.size := by omega
                have hm8 : q % 8 < 8 := by omega
                obtain ⟨hcw, hzw⟩ := HWd.out.get (j := q / 8) (by rw [hlen.1]; omega)
                have HXor := Lib.hid (u8_xorB (fl.1.getD (q / 8) 0) (bit8 q))
                have HB8 := Lib.hid (bit8_int q)
                have HNx : Hid (flK (8 * s.size) nn (txt s, P) T (k + 1) = (fl.1.set (q / 8) (fl.1.getD (q / 8) 0 ^^^ bit8 q), fl.2)) := by
                  show flK (8 * s.size) nn (txt s, P) T (k + 1) = _
                  rw [HNext.out, flipP_lo hq]; rfl
                have HWp := Lib.hid (HWd.out.put (q / 8) (fl.1.getD (q / 8) 0 ^^^ bit8 q))
                have HBp2 := Lib.hid (HBp.out.far (p := ⟨w1.heap.size, q / 8, none⟩) (by simp only; omega) (.int .u8 ((fl.1.getD (q / 8) 0 ^^^ bit8 q).toNat : Int)))
                have HTv2 := Lib.hid (HTv.out.far (p := ⟨w1.heap.size, q / 8, none⟩) (HTv.out.neByt HWd.out (by decide)) (.int .u8 ((fl.1.getD (q / 8) 0 ^^^ bit8 q).toNat : Int)))
                have HCr2 := Lib.hid (HCr.out.putByt HWd.out (by omega) (q / 8) (.int .u8 ((fl.1.getD (q / 8) 0 ^^^ bit8 q).toNat : Int)))
                have HO2 := Lib.hid (HO.out.put (p := ⟨w1.heap.size, q / 8, none⟩) (.inr (Nat.le_refl _)) (.int .u8 ((fl.1.getD (q / 8) 0 ^^^ bit8 q).toNat : Int)))
                clear hlen hq HNext HTv HCr HO HWd HBp
                generalize fl.1.getD (q / 8) 0 = x1 at *
                generalize bit8 q = y1 at *
                generalize q / 8 = q8 at *
                generalize q % 8 = qm at *
                go_wp2_with fail
                go_region
                all_goals
                  go_wp2_with fail
                  rw [← HB8.out, HXor.out]
                  go_roundw
                  case rel => exact ⟨k + 1, by omega, by go_num, by rw [HNx.out]; exact HWp.out.drew, by rw [HNx.out]; exact HBp2.out.drew, HTv2.out.drew, HCr2.out.below (below_drewN' (Below.refl _ _) 1), HO2.out.drew⟩
                  case measure => simp only [intOf]; omega
              · have hq' : ¬ ((q : Int) < 8 * (s.size : Int)) := by omega
                have hwq : IntKind.i64.wrap ((q : Int) - 8 * (s.size : Int)) = ((q - 8 * s.size : Nat) : Int) := by rw [IntKind.wrap_i64]; omega
                have hq8 : ((q - 8 * s.size : Nat) : Int).tdiv 8 = (((q - 8 * s.size) / 8 : Nat) : Int) := by rw [Int.tdiv_eq_ediv_of_nonneg (by omega)]; omega
                have hqm : ((q - 8 * s.size : Nat) : Int).tmod 8 = (((q - 8 * s.size) % 8 : Nat) : Int) := by rw [Int.tmod_eq_emod_of_nonneg (by omega)]; omega
                have hqs : (((q - 8 * s.size) / 8 : Nat) : Int) < p.size := by omega
                have hm8 : (q - 8 * s.size) % 8 < 8 := by omega
                obtain ⟨hcw, hzw⟩ := HBp.out.get (j := (q - 8 * s.size) / 8) (by rw [hlen.2]; omega)
                have HXor := Lib.hid (u8_xorB (fl.2.getD ((q - 8 * s.size) / 8) 0) (bit8 (q - 8 * s.size)))
                have HB8 := Lib.hid (bit8_int (q - 8 * s.size))
                have HNx : Hid (flK (8 * s.size) nn (txt s, P) T (k + 1) = (fl.1, fl.2.set ((q - 8 * s.size) / 8) (fl.2.getD ((q - 8 * s.size) / 8) 0 ^^^ bit8 (q - 8 * s.size)))) := by
                  show flK (8 * s.size) nn (txt s, P) T (k + 1) = _
                  rw [HNext.out, flipP_hi hq]; rfl
                have HBp2 := Lib.hid (HBp.out.put ((q - 8 * s.size) / 8) (fl.2.getD ((q - 8 * s.size) / 8) 0 ^^^ bit8 (q - 8 * s.size)))
                have HWp := Lib.hid (HWd.out.far (p := ⟨gp, (q - 8 * s.size) / 8, none⟩) (by simp only; omega) (.int .u8 ((fl.2.getD ((q - 8 * s.size) / 8) 0 ^^^ bit8 (q - 8 * s.size)).toNat : Int)))
                have HTv2 := Lib.hid (HTv.out.far (p := ⟨gp, (q - 8 * s.size) / 8, none⟩) (HTv.out.neByt HBp.out (by decide)) (.int .u8 ((fl.2.getD ((q - 8 * s.size) / 8) 0 ^^^ bit8 (q - 8 * s.size)).toNat : Int)))
                have HCr2 := Lib.hid (HCr.out.putByt HBp.out (by omega) ((q - 8 * s.size) / 8) (.int .u8 ((fl.2.getD ((q - 8 * s.size) / 8) 0 ^^^ bit8 (q - 8 * s.size)).toNat : Int)))
                have HO2 := Lib.hid (HO.out.put (p := ⟨gp, (q - 8 * s.size) / 8, none⟩) (.inr (by simp only; omega)) (.int .u8 ((fl.2.getD ((q - 8 * s.size) / 8) 0 ^^^ bit8 (q - 8 * s.size)).toNat : Int)))
                clear hlen hq HNext HTv HCr HO HWd HBp
                generalize q - 8 * s.size = q2 at *
                generalize fl.2.getD (q2 / 8) 0 = x1 at *
                generalize bit8 q2 = y1 at *
                generalize q2 / 8 = q8 at *
                generalize q2 % 8 = qm at *
                go_wp2_with fail
                go_region
                all_goals
                  go_wp2_with fail
                  rw [← HB8.out, HXor.out]
                  go_roundw
                  case rel => exact ⟨k + 1, by omega, by go_num, by rw [HNx.out]; exact HWp.out.drew, by rw [HNx.out]; exact HBp2.out.drew, HTv2.out.drew, HCr2.out.below (below_drewN' (Below.refl _ _) 1), HO2.out.drew⟩
                  case measure => simp only [intOf]; omega
            · obtain rfl : k = T.length := by omega
              have hlen := HFl.out T.length
              have HCr := Lib.hid hcr
              have HO := Lib.hid ho
              have HWd := Lib.hid hwd
              have HBp := Lib.hid hbp
              have hTlt : ¬ ((T.length : Int) < T.length) := by omega
              clear htv hcr ho hwd hbp
              generalize flK (8 * s.size) nn (txt s, P) T T.length = fl at *
              obtain ⟨S', P'⟩ := fl
              simp only at HDf hlen HWd HBp
              obtain ⟨q, hq⟩ : ∃ q : ByteArray, q = ⟨S'.toArray⟩ := ⟨_, rfl⟩
              have hqt : txt q = S' := by rw [hq]; simp [txt]
              have hqs : q.size = s.size := by rw [← txt_length, hqt]; exact hlen.1
              have hqv : str S' = .string q := by rw [hq]; rfl
              obtain ⟨pp, hpp⟩ : ∃ pp : ByteArray, pp = ⟨P'.toArray⟩ := ⟨_, rfl⟩
              obtain ⟨ee, hee⟩ : ∃ ee : ByteArray, ee = ⟨(encB tt S').toArray⟩ := ⟨_, rfl⟩
              have HPv : Hid (str P' = .string pp) := by show str P' = .string pp; rw [hpp]; rfl
              have HEv : Hid (str (encB tt S') = .string ee) := by show str (encB tt S') = .string ee; rw [hee]; rfl
              have HSv : Hid (str S' = .string q) := hqv
              have hiff : (encB tt S' = P') ↔ (ee = pp) := by
                rw [hee, hpp]
                constructor
                · intro h; rw [h]
                · intro h
                  have := congrArg (fun x => x.data.toList) h
                  simpa using this
              have HIf := Lib.hid hiff
              clear hiff hee hpp
              have hcw1 := byt_back HWd.out.drew cw
              have hcp1 := byt_back HBp.out.drew cp
              rw [hqv] at hcw1
              rw [HPv.out] at hcp1
              have HDv : Hid (∀ w', CodeR w' b tt s.size Lw → Calls Try.prog 17 #[.pointer (some ⟨b, 0, none⟩), .string q] w' (DivEnd (encB tt S') (nLow tt) w')) := fun w' h' => by
                have := divR_any q (by omega) h1 h8 w' h'
                rw [hqt] at this
                exact this
              clear hq hqt hqv
              go_wp2_with fail
              go_region_with (go_at_call 17; refine (HDv.out _ (HCr.out.below (below_drewN' (Below.refl _ _) 1))).mono ?_; rintro e w9 ⟨g9, rfl, hown9, hbel9⟩; have hcv9 := conv_back hown9; rw [HEv.out] at hcv9; have hcp9 := byt_back (HBp.out.drew.below hbel9) cp; rw [HPv.out] at hcp9;  have HB9 := Lib.hid hbel9; clear hown9 hbel9)
              all_goals
                have HC9 := Lib.hid ((HCr.out.below (below_drewN' (Below.refl _ _) 1)).below HB9.out)
                have HO9 := Lib.hid (HO.out.drew.below HB9.out)
                have hcw10 := byt_back ((HWd.out.drew.below HB9.out).drew) cw
                have hcp10 := byt_back ((HBp.out.drew.below HB9.out).drew) cp
                rw [HSv.out] at hcw10
                rw [HPv.out] at hcp10
                clear hcv9 hcp9 HB9 HWd HBp HCr HO hcw1 hcp1 HDv
                by_cases heq : encB tt S' = P'
                · have hee := HIf.out.1 heq
                  have HRes : Hid (decF tt (txt s) (txt p) = some (S', P', T.length)) := by show decF tt (txt s) (txt p) = _; rw [HDf.out, if_pos heq]
                  have HRf := Lib.hid (HR.out.after HC.out HC9.out HO9.out)
                  clear heq HIf
                  subst hee
                  rw [show (!(ee.toList == ee.toList)) = false by simp]
                  go_wp2_with fail
                  go_region
                  all_goals
                    go_wp2_with fail
                    refine bodyPost_ret (results_tmp4 rfl _ _ _) rfl ?_
                    refine ⟨?_, HRf.out.below (below_drewN' (Below.refl _ _) 1)⟩
                    rw [HRes.out]
                    unfold decV
                    simp only []
                    rw [HSv.out, HPv.out]
                    rfl
                · have hne : ee ≠ pp := fun h => heq (HIf.out.2 h)
                  rw [show (!(ee.toList == pp.toList)) = true by rw [ba_ne hne]; rfl]
                  have HRes : Hid (decF tt (txt s) (txt p) = none) := by show decF tt (txt s) (txt p) = _; rw [HDf.out, if_neg heq]
                  have HRf := Lib.hid (HR.out.after HC.out HC9.out HO9.out)
                  clear heq hne
                  go_wp2_with fail
                  refine bodyPost_ret (results_tmp4 rfl _ _ _) rfl ?_
                  exact ⟨by rw [HRes.out]; rfl, HRf.out⟩
        · have hg2 : (((T.length : Int)) == (nl : Int) - 1) = false := beq_eq_false_iff_ne.2 (by omega)
          have hg3 : (((T.length : Int)) != (nl : Int) - 1) = true := by unfold bne; rw [hg2]; rfl
          have HDf : Hid (decF tt (txt s) (txt p) = none) := by show decF tt (txt s) (txt p) = none; rw [HDF.out, if_pos (.inr hTl)]
          have HRf := Lib.hid (HR.out.after HC.out HC7.out HO7.out)
          clear hTl hbig
          go_wp2_with fail
          refine bodyPost_ret (results_tmp4 rfl _ _ _) rfl ?_
          exact ⟨by rw [HDf.out]; rfl, HRf.out⟩
end Go.Proofs.Ytfhefcpkknidcaa
