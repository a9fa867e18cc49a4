/- Merged out of the session's own texts: Decf, Flw, Ltu, Pla. -/
import Derived.Test.YtfhefcpkknidcaaM3
import Derived.OpenShut
/- Decode, of whatever is handed in. -/
namespace Go.Proofs.Ytfhefcpkknidcaa
open Go.RowKit Gf
theorem decode_any (s p : ByteArray) (hs : s.size ≤ 256) {b tt : Nat} (h1 : 1 ≤ tt) (h8 : tt ≤ 8) (hp : p.size = nLow tt) (w : World) (h : CodeS w b tt s.size) :
    Calls Try.prog 12 #[.pointer (some ⟨b, 0, none⟩), .string s, .string p] w fun e w' => e = .returned (decV (decF tt (txt s) (txt p))) ∧ Ready b tt s.size w w' := by
  by_cases hz : zerosK (restL tt (txt s) (txt p)) (13 * tt) (2 * tt) = true
  · refine (decode_clean s p hs h1 h8 hp hz w h).mono ?_
    rintro e w' ⟨rfl, hR⟩
    refine ⟨?_, hR⟩
    have : decF tt (txt s) (txt p) = some (txt s, cleanL tt (txt p), 0) := by unfold decF; rw [if_pos hz]
    rw [this]
    unfold decV
    simp only []
    rw [str_txt]; rfl
  · exact decode_dirty s p hs h1 h8 hp (by simpa using hz) w h
def NoneV : Value := .tuple #[.string ⟨#[]⟩, .string ⟨#[]⟩, .int .i64 0, .bool false]
set_option maxRecDepth 100000 in
theorem decode_nil (s p : ByteArray) (w : World) : Calls Try.prog 12 #[.pointer none, .string s, .string p] w fun e w' => e = .returned NoneV ∧ w = w' := by
  go_enter Try.func12, Try.ntmps12
  go_wp2_with fail
  refine bodyPost_ret (results_tmp4 rfl _ _ _) rfl ?_
  exact ⟨rfl, rfl⟩
set_option maxRecDepth 100000 in
theorem decode_len (s p : ByteArray) (hs : s.size ≤ 140737488351232) {b tt : Nat} {ch : Int} (hne : (s.size : Int) ≠ ch) (w : World) (h : CodeS w b tt ch) : Calls Try.prog 12 #[.pointer (some ⟨b, 0, none⟩), .string s, .string p] w fun e w' => e = .returned NoneV ∧ w = w' := by
  have hc := h.chunk
  have hws : IntKind.i64.wrap (s.size : Int) = s.size := i64_small _ (by omega)
  have hn1 : ((s.size : Int) == ch) = false := beq_eq_false_iff_ne.2 hne
  have hn2 : ((s.size : Int) != ch) = true := by unfold bne; rw [hn1]; rfl
  clear h hne
  go_enter Try.func12, Try.ntmps12
  go_wp2_with fail
  refine bodyPost_ret (results_tmp4 rfl _ _ _) rfl ?_
  exact ⟨rfl, rfl⟩
set_option maxRecDepth 100000 in
theorem decode_par (s p : ByteArray) (hs : s.size ≤ 256) (hps : p.size ≤ 140737488351232) {b tt : Nat} (h1 : 1 ≤ tt) (h8 : tt ≤ 8) (hne : p.size ≠ nLow tt) (w : World) (h : CodeS w b tt s.size) :
    Calls Try.prog 12 #[.pointer (some ⟨b, 0, none⟩), .string s, .string p] w fun e w' => e = .returned NoneV ∧ Ready b tt s.size w w' := by
  have hc := h.chunk
  have HP := Lib.hid (parity_any h1 h8 w h)
  have hws : IntKind.i64.wrap (s.size : Int) = s.size := i64_small _ (by omega)
  have hwp : IntKind.i64.wrap (p.size : Int) = p.size := i64_small _ (by omega)
  have hn1 : ((p.size : Int) == ((nLow tt : Nat) : Int)) = false := beq_eq_false_iff_ne.2 (by omega)
  have hn2 : ((p.size : Int) != ((nLow tt : Nat) : Int)) = true := by unfold bne; rw [hn1]; rfl
  clear h hne
  go_enter Try.func12, Try.ntmps12
  go_wp2_with fail
  refine HP.out.mono ?_
  rintro e w1 ⟨rfl, hR⟩
  have HR := Lib.hid hR
  clear hR HP hc
  go_wp2_with fail
  refine bodyPost_ret (results_tmp4 rfl _ _ _) rfl ?_
  exact ⟨rfl, HR.out⟩
set_option maxRecDepth 100000 in
/-- word, of no answer. -/
theorem lword_none (c : Value) (t : Int) (x y : ByteArray) (w : World) : Calls Try.prog 13 #[c, .int .i64 t, .string x, .string y, .string ⟨#[]⟩, .string ⟨#[]⟩, .int .i64 0, .bool false] w fun e w' => e = .returned (.bool true) ∧ w = w' := by
  go_enter Try.func13, Try.ntmps13
  go_wp2_with fail
  go_ret
  exact ⟨rfl, rfl⟩
set_option maxRecDepth 100000 in
set_option maxHeartbeats 3200000 in
theorem lword_some (x y a c : ByteArray) (k : Nat) (hx : x.size ≤ 256) (ha : a.size = x.size) {b tt : Nat} (h1 : 1 ≤ tt) (h8 : tt ≤ 8) (hy : y.size = nLow tt) (hc : c.size = nLow tt) (henc : encB tt (txt a) = txt c) (hk : k ≤ tt)
    (hap : apartN (wordN tt (txt x) (txt y)) (wordN tt (txt a) (txt c)) (8 * x.size + 13 * tt) = k) (w : World) (h : CodeS w b tt x.size) :
    Calls Try.prog 13 #[.pointer (some ⟨b, 0, none⟩), .int .i64 tt, .string x, .string y, .string a, .string c, .int .i64 k, .bool true] w fun e w' => e = .returned (.bool true) ∧ Ready b tt x.size w w' := by
  have HE := Lib.hid (encode_any a (by omega) h1 h8 w (by rw [ha]; exact h))
  have hcv : str (encB tt (txt a)) = .string c := by rw [henc, str_txt]
  rw [hcv] at HE
  have hk0 : (0 : Int) ≤ k := by omega
  have hkt : (k : Int) ≤ tt := by omega
  have HAp := Lib.hid hap
  have HA := Lib.hid ha
  have HY := Lib.hid hy
  have HCc := Lib.hid hc
  clear henc hap ha hy hc hcv h
  go_enter Try.func13, Try.ntmps13
  go_wp2_with fail
  refine HE.out.mono ?_
  rintro e w1 ⟨rfl, hR⟩
  rw [HA.out] at hR
  have HR := Lib.hid hR
  clear hR HE
  go_wp2_with fail
  refine (word_any tt x y h1 h8 (by omega) HY.out _).mono ?_
  rintro e w2 ⟨v2, rfl, ho2, hb2⟩
  have HO2 := Lib.hid ho2
  have HR2 := Lib.hid (HR.out.below hb2)
  clear ho2 hb2 HR
  go_wp2_with fail
  refine (word_any tt a c h1 h8 (by rw [HA.out]; omega) HCc.out _).mono ?_
  rintro e w3 ⟨v3, rfl, ho3, hb3⟩
  have HO3 := Lib.hid ho3
  have HO23 := Lib.hid (HO2.out.below hb3)
  have HR3 := Lib.hid (HR2.out.below hb3)
  have hl1 : (wordN tt (txt x) (txt y)).length = 8 * x.size + 13 * tt := by rw [wordN_length tt _ _ (by rw [txt_length]; exact HY.out), txt_length]
  have hl2 : (wordN tt (txt a) (txt c)).length = 8 * x.size + 13 * tt := by rw [wordN_length tt _ _ (by rw [txt_length]; exact HCc.out), txt_length, HA.out]
  have HAp2 := Lib.hid (apart_any _ _ (by rw [hl1, hl2]) (by rw [hl1]; omega) w3 HO23.out HO3.out)
  rw [hl1, HAp.out] at HAp2
  clear ho3 hb3 HO2 HR2 hl1 hl2
  go_wp2_with fail
  refine HAp2.out.mono ?_
  rintro e w4 ⟨rfl, n, rfl⟩
  have HR4 := Lib.hid (HR3.out.below (below_drewN' (Below.refl _ _) n))
  clear HAp2 HR3 HO23 HO3
  go_wp2_with fail
  go_ret
  exact ⟨by simp, HR4.out⟩
end Go.Proofs.Ytfhefcpkknidcaa
/- flipped, walked. -/
namespace Go.Proofs.Ytfhefcpkknidcaa
open Go.RowKit Gf
/-- A slice of whole numbers that came in. -/
def Places (w : World) (v : Value) (z : List Int) : Prop := ∃ a c, v = .slice a z.length c ∧ z.length ≤ 17592186044416 ∧ ∀ i x, z[i]? = some x → (-9223372036854775808 ≤ x ∧ x ≤ 9223372036854775807) ∧ ∃ g o, a = some ⟨g, o, none⟩ ∧ g < w.heap.size ∧ w.cell? ⟨g, o + i, none⟩ = some (.int .i64 x)
theorem Places.below {w w' : World} {v : Value} {z : List Int} (h : Places w v z) (hb : Below w.heap.size w w') : Places w' v z := by
  obtain ⟨a, c, rfl, hl, hc⟩ := h
  refine ⟨a, c, rfl, hl, fun i x hx => ?_⟩
  obtain ⟨h1, g, o, rfl, hg, hcell⟩ := hc i x hx
  exact ⟨h1, g, o, rfl, Nat.lt_of_lt_of_le hg hb.size, by rw [hb.cell (p := ⟨g, o + i, none⟩) hg]; exact hcell⟩
theorem mkBool (m : Nat) (hm : m ≤ 35184372088832) : ∀ W : World, (Instr.makeSlice 63 (.int .i64 (m : Int)) (.int .i64 (m : Int))).run Try.prog W = .ok (.slice (some ⟨W.heap.size, 0, none⟩) m m) (W.alloc (.cells (madeCells #[.bool false] m) 4)) := by
  intro W
  exact run_make_row' 63 4 (.bool false) 1 Try.underlying63 (by kernel_rfl) rfl .i64 .i64 m (by omega) (by omega) W
/-- Which places were turned. -/
def turnB (n : Nat) (Q : List Nat) : List Value := (List.range n).map fun i => .bool (decide (i ∈ Q))
theorem turnB_length (n : Nat) (Q : List Nat) : (turnB n Q).length = n := by simp [turnB]
theorem turnB_nil (n : Nat) : List.replicate n (Value.bool false) = turnB n [] := by
  apply List.ext_getElem
  · simp [turnB]
  · intro i h1 h2; simp [turnB]
theorem turnB_at (n : Nat) (Q : List Nat) (q : Nat) (h : q < n) : (turnB n Q)[q]? = some (.bool (decide (q ∈ Q))) := by simp [turnB, h]
theorem turnB_set (n : Nat) (Q : List Nat) (q : Nat) : (turnB n Q).set q (.bool true) = turnB n (Q ++ [q]) := by
  apply List.ext_getElem
  · simp [turnB]
  · intro i h1 h2
    rw [List.getElem_set]
    simp only [turnB, List.getElem_map, List.getElem_range]
    by_cases h : q = i
    · subst h; rw [if_pos rfl]; simp
    · rw [if_neg h]
      congr 1
      simp
      intro hh
      exact absurd hh.symm h
theorem tmod_bounds (x n : Int) (hn : 0 < n) : -n < x.tmod n ∧ x.tmod n < n := by
  constructor
  · have := Int.tmod_lt_of_pos (-x) hn
    rw [Int.neg_tmod] at this
    omega
  · exact Int.tmod_lt_of_pos x hn
def FlipEnd (tt : Nat) (s p : List UInt8) (w : World) (e : Ending) (w' : World) : Prop :=
  ∃ Q : List Nat, Q.Nodup ∧ (∀ q ∈ Q, q < 8 * s.length + 13 * tt) ∧ e = .returned (.tuple #[str (flipsP (8 * s.length) (s, p) Q).1, str (flipsP (8 * s.length) (s, p) Q).2, .int .i64 Q.length]) ∧ Below w.heap.size w w'
set_option maxRecDepth 100000 in
set_option maxHeartbeats 6400000 in
theorem flipped_any (tt : Nat) (s p : ByteArray) (z : List Int) {v : Value} (h1 : 1 ≤ tt) (h8 : tt ≤ 8) (hs1 : 1 ≤ s.size) (hs : s.size ≤ 256) (hp : p.size = nLow tt) (w : World) (hz : Places w v z) :
    Calls Try.prog 11 #[.int .i64 tt, .string s, .string p, v] w (FlipEnd tt (txt s) (txt p) w) := by
  unfold FlipEnd
  rw [txt_length]
  have hws : IntKind.i64.wrap (s.size : Int) = s.size := i64_small _ (by omega)
  have hp13 : p.size ≤ 13 := by rw [hp]; unfold nLow; omega
  have hD8 : 13 * tt ≤ 8 * p.size := by rw [hp]; unfold nLow; omega
  have HZ := Lib.hid hz
  obtain ⟨za, zc, rfl, hzl, hzc⟩ := hz
  clear hzc hp
  have HDeg := Lib.hid (refdegree_any tt h1 h8)
  generalize 13 * tt = D at *
  generalize hne : 8 * s.size + D = nn at *
  have hnn : nn ≤ 8000 := by omega
  have hn0 : 1 ≤ nn := by omega
  have hn8 : nn ≤ 8 * s.size + 8 * p.size := by omega
  have hw9 : 8 * (s.size : Int) + (D : Int) = (nn : Int) := by omega
  have hD2 : D ≤ 104 := by omega
  have HNe := Lib.hid hne
  clear hne
  go_enter Try.func11, Try.ntmps11
  go_wp2_with fail
  refine (HDeg.out w).mono ?_
  rintro e w1 ⟨rfl, hb1⟩
  have hmk := mkBool nn (by omega)
  have hm1 := Own.made w1 w.heap.size 4 (.bool false) nn hb1.size (by omega)
  rw [turnB_nil] at hm1
  have HB1 := Lib.hid (hb1.alloc hb1.size (.cells (madeCells #[.bool false] nn) 4))
  have hgt : w.heap.size ≤ w1.heap.size := hb1.size
  have hsz1 : (w1.alloc (.cells (madeCells #[.bool false] nn) 4)).heap.size = w1.heap.size + 1 := by simp
  have HM1 := Lib.hid hm1
  clear hb1 hm1
  generalize hw2 : w1.alloc (.cells (madeCells #[.bool false] nn) 4) = w2 at *
  have HW2 := Lib.hid hw2
  clear hw2
  have hcv1 := byt_conv w2 s
  have hcv2 := byt_conv (bytW w2 s) p
  have hg2 : w.heap.size ≤ w2.heap.size := by omega
  have hY1 := bytW_byt w2 s hg2
  have hb2 := bytW_below w2 s (Nat.le_refl _)
  have hz3 := bytW_size w2 s
  have hY2 := bytW_byt (bytW w2 s) p (B := w.heap.size) (by omega)
  have hb3 := bytW_below (bytW w2 s) p (Nat.le_refl _)
  have HM3 := Lib.hid ((HM1.out.below hb2).below hb3)
  have HS3 := Lib.hid (hY1.below hb3)
  have HP3 := Lib.hid hY2
  have HB3 := Lib.hid ((HB1.out.trans (hb2.mono hg2)).trans (hb3.mono (by omega)))
  have hgs : w2.heap.size ≠ (bytW w2 s).heap.size := by omega
  have hgt1 : w1.heap.size < w2.heap.size := by omega
  have hgt2 : w1.heap.size < (bytW w2 s).heap.size := by omega
  have hgB2 : w.heap.size ≤ (bytW w2 s).heap.size := by omega
  have hmk2 := hmk w1
  rw [HW2.out] at hmk2
  clear hY1 hb2 hY2 hb3 HM1 HB1 hmk
  go_wp2_with fail
  clear hcv1 hcv2 hmk2 HW2
  generalize bytW (bytW w2 s) p = w4 at *
  generalize (bytW w2 s).heap.size = gp at *
  generalize w2.heap.size = gs at *
  generalize w1.heap.size = gb at *
  generalize grownCap (bytW w2 s) p.size 0 5 = cp at *
  generalize grownCap w2 s.size 0 5 = cs at *
  subst hz3
  subst hsz1
  have hbitlo : ∀ q : Nat, (q : Int) < 8 * (s.size : Int) → q / 8 < s.size := fun q h => by omega
  go_loopw [13, 16, 17, 18] (fun cv iv _ _ wr => ∃ (i : Nat) (Q : List Nat), i ≤ z.length ∧ iv = .int .i64 i ∧ cv = .int .i64 Q.length ∧ Q.Nodup ∧ (∀ q ∈ Q, q < nn) ∧ Q.length ≤ tt + 2 ∧ Own wr w.heap.size 4 (.slice (some ⟨gb, 0, none⟩) nn nn) (turnB nn Q) ∧ Byt wr w.heap.size (gb + 1) s.size (flipsP (8 * s.size) (txt s, txt p) Q).1 ∧ Byt wr w.heap.size (gb + 1 + 1) p.size (flipsP (8 * s.size) (txt s, txt p) Q).2 ∧ Below w.heap.size w wr) (fun _ iv _ _ _ => z.length - (intOf iv).toNat)
  case atStart => exact ⟨0, [], Nat.zero_le _, rfl, rfl, by simp, by simp, by simp, HM3.out, HS3.out, HP3.out, HB3.out⟩
  case round =>
    obtain ⟨i, Q, hi, rfl, rfl, hnd, hqn, hql, htb, hsb, hpb, hB⟩ := hrel
    clear HM3 HS3 HP3 HB3
    by_cases hlt : i < z.length
    · have hlt' : (i : Int) < z.length := by omega
      obtain ⟨za', zc', hze, hzl', hzc⟩ := HZ.out
      simp only [Value.slice.injEq] at hze
      obtain ⟨rfl, hze2, rfl⟩ := hze
      obtain ⟨hxb, g, o, rfl, hg, hcell0⟩ := hzc i z[i] (by simp [hlt])
      have hcell : wr.cell? ⟨g, o + i, none⟩ = some (.int .i64 z[i]) := by rw [hB.cell (p := ⟨g, o + i, none⟩) hg]; exact hcell0
      have HZl := Lib.hid hzl'
      clear hze2 hzc hcell0 hzl'
      generalize z[i] = x at *
      have hr := tmod_bounds x nn (by omega)
      obtain ⟨hx1, hx2⟩ := hxb
      have HND := Lib.hid hnd
      have HQN := Lib.hid hqn
      have HTb := Lib.hid htb
      have HSb := Lib.hid hsb
      have HPb := Lib.hid hpb
      have HB := Lib.hid hB
      clear hnd hqn htb hsb hpb hB
      generalize hrr : x.tmod nn = r at *
      obtain ⟨q, hq1, hq2, hq3⟩ : ∃ q : Nat, (r < 0 → r + nn = q) ∧ (0 ≤ r → r = q) ∧ q < nn := by
        by_cases h : r < 0
        · exact ⟨(r + nn).toNat, fun _ => by omega, fun h2 => by omega, by omega⟩
        · exact ⟨r.toNat, fun h2 => by omega, fun _ => by omega, by omega⟩
      have hq3' : (q : Int) < nn := by omega
      have hnn0 : 0 < (nn : Int) := by omega
      have hqle : q ≤ 8000 := by omega
      obtain ⟨htc, htz⟩ := HTb.out.get (turnB_at nn Q q hq3)
      have HTs := Lib.hid (turnB_set nn Q q)
      have hlen := flipsP_length (8 * s.size) Q (txt s, txt p)
      rw [txt_length, txt_length] at hlen
      have HNx := Lib.hid (flipsP_snoc (8 * s.size) (txt s, txt p) Q q)
      have hcase : (r < 0 ∧ r + nn = q) ∨ (0 ≤ (q : Int) ∧ r = q) := by
        by_cases h : r < 0
        · exact .inl ⟨h, hq1 h⟩
        · exact .inr ⟨by omega, hq2 (by omega)⟩
      clear hq1 hq2
      rcases hcase with ⟨hr0, hsq⟩ | ⟨hr0, rfl⟩
      all_goals
        by_cases hqQ : q ∈ Q
        · rw [decide_eq_true hqQ] at htc
          clear hqQ HNx HTs hlen
          go_wp2_with fail
          go_roundw
          case rel => exact ⟨i + 1, Q, by omega, by go_num, rfl, HND.out, HQN.out, hql, HTb.out, HSb.out, HPb.out, HB.out⟩
          case measure => simp only [intOf]; omega
        · rw [decide_eq_false hqQ] at htc
          by_cases hcnt : tt + 2 ≤ Q.length
          · have hcnt' : (tt : Int) + 2 ≤ Q.length := by omega
            clear hqQ HNx HTs hlen
            go_wp2_with fail
            go_roundw
            case rel => exact ⟨i + 1, Q, by omega, by go_num, rfl, HND.out, HQN.out, hql, HTb.out, HSb.out, HPb.out, HB.out⟩
            case measure => simp only [intOf]; omega
          · have hcnt' : ¬ ((tt : Int) + 2 ≤ Q.length) := by omega
            have HND2 : Hid ((Q ++ [q]).Nodup) := by
              show (Q ++ [q]).Nodup
              rw [List.nodup_append]
              refine ⟨HND.out, by simp, ?_⟩
              intro a ha b hb e
              simp at hb
              subst hb
              subst e
              exact hqQ ha
            have HQN2 : Hid (∀ x ∈ Q ++ [q], x < nn) := fun x hx => by
              rcases List.mem_append.1 hx with h | h
              · exact HQN.out x h
              · simp at h; subst h; exact hq3
            have HTb2 := HTb.out.put (by rw [turnB_length]) q (.bool true)
            rw [HTs.out] at HTb2
            have HTb3 := Lib.hid HTb2
            have HSb2 := Lib.hid (HSb.out.far (p := ⟨gb, q, none⟩) (by simp only; omega) (.bool true))
            have HPb2 := Lib.hid (HPb.out.far (p := ⟨gb, q, none⟩) (by simp only; omega) (.bool true))
            have HB2 := Lib.hid (Only.frame HB.out HB.out.size (HTb.out.slice_lt.1) ((Only.refl gb wr).put (p := ⟨gb, q, none⟩) (.inl rfl) (.bool true)))
            have hgbw : gb < (wr.setCell ⟨gb, q, none⟩ (.bool true)).heap.size := by have := HTb.out.slice_lt.2.1; simpa using this
            clear hqQ HND HQN HTb HTb2 HTs hcnt HSb HPb HB
            by_cases hq : q < 8 * s.size
            · have hq' : (q : Int) < 8 * (s.size : Int) := by omega
              have hq8 : (q : Int).tdiv 8 = ((q / 8 : Nat) : Int) := by rw [Int.tdiv_eq_ediv_of_nonneg (by omega)]; omega
              have hqm : (q : Int).tmod 8 = ((q % 8 : Nat) : Int) := by rw [Int.tmod_eq_emod_of_nonneg (by omega)]; omega
              have hqs : ((q / 8 : Nat) : Int) < s.size := by omega
              have hm8 : q % 8 < 8 := by omega
              have HNx2 : Hid (flipsP (8 * s.size) (txt s, txt p) (Q ++ [q]) = ((flipsP (8 * s.size) (txt s, txt p) Q).1.set (q / 8) ((flipsP (8 * s.size) (txt s, txt p) Q).1.getD (q / 8) 0 ^^^ bit8 q), (flipsP (8 * s.size) (txt s, txt p) Q).2)) := by
                show flipsP (8 * s.size) (txt s, txt p) (Q ++ [q]) = _
                rw [HNx.out, flipP_lo hq]; rfl
              clear hq HNx
              generalize flipsP (8 * s.size) (txt s, txt p) Q = fl at *
              have HXor := Lib.hid (u8_xorB (fl.1.getD (q / 8) 0) (bit8 q))
              have HB8 := Lib.hid (bit8_int q)
              have hlq : q / 8 < fl.1.length := by rw [hlen.1]; omega
              go_wp2_with fail
              generalize World.setCell wr ⟨gb, q, none⟩ (.bool true) = wx at *
              obtain ⟨hcw, hzw⟩ := HSb2.out.get (j := q / 8) hlq
              have HSb4 := Lib.hid (HSb2.out.put (q / 8) (fl.1.getD (q / 8) 0 ^^^ bit8 q))
              have HPb4 := Lib.hid (HPb2.out.far (p := ⟨gb + 1, q / 8, none⟩) (by simp only; omega) (.int .u8 ((fl.1.getD (q / 8) 0 ^^^ bit8 q).toNat : Int)))
              have HTb4 := Lib.hid (HTb3.out.far (p := ⟨gb + 1, q / 8, none⟩) (HTb3.out.neByt HSb2.out (by decide)) (.int .u8 ((fl.1.getD (q / 8) 0 ^^^ bit8 q).toNat : Int)))
              have HB4 := Lib.hid (Only.frame HB2.out HB2.out.size (HSb2.out.lt.1) ((Only.refl (gb + 1) wx).put (p := ⟨gb + 1, q / 8, none⟩) (.inl rfl) (.int .u8 ((fl.1.getD (q / 8) 0 ^^^ bit8 q).toNat : Int))))
              clear HSb2 HPb2 HTb3 HB2 hlen hlq
              generalize fl.1.getD (q / 8) 0 = x1 at *
              generalize bit8 q = y1 at *
              generalize q / 8 = q8 at *
              generalize q % 8 = qm at *
              go_region
              all_goals
                go_wp2_with fail
                rw [← HB8.out, HXor.out]
                go_roundw
                case rel => exact ⟨i + 1, Q ++ [q], by omega, by go_num, by rw [List.length_append, List.length_singleton]; go_num, HND2.out, HQN2.out, by rw [List.length_append, List.length_singleton]; omega, HTb4.out.drew, by rw [HNx2.out]; exact HSb4.out.drew, by rw [HNx2.out]; exact HPb4.out.drew, below_drewN' HB4.out 1⟩
                case measure => simp only [intOf]; omega
            · have hq' : ¬ ((q : Int) < 8 * (s.size : Int)) := by omega
              have hwq : IntKind.i64.wrap ((q : Int) - 8 * (s.size : Int)) = ((q - 8 * s.size : Nat) : Int) := by rw [IntKind.wrap_i64]; omega
              have hq8 : ((q - 8 * s.size : Nat) : Int).tdiv 8 = (((q - 8 * s.size) / 8 : Nat) : Int) := by rw [Int.tdiv_eq_ediv_of_nonneg (by omega)]; omega
              have hqm : ((q - 8 * s.size : Nat) : Int).tmod 8 = (((q - 8 * s.size) % 8 : Nat) : Int) := by rw [Int.tmod_eq_emod_of_nonneg (by omega)]; omega
              have hqs : (((q - 8 * s.size) / 8 : Nat) : Int) < p.size := by omega
              have hm8 : (q - 8 * s.size) % 8 < 8 := by omega
              have HNx2 : Hid (flipsP (8 * s.size) (txt s, txt p) (Q ++ [q]) = ((flipsP (8 * s.size) (txt s, txt p) Q).1, (flipsP (8 * s.size) (txt s, txt p) Q).2.set ((q - 8 * s.size) / 8) ((flipsP (8 * s.size) (txt s, txt p) Q).2.getD ((q - 8 * s.size) / 8) 0 ^^^ bit8 (q - 8 * s.size)))) := by
                show flipsP (8 * s.size) (txt s, txt p) (Q ++ [q]) = _
                rw [HNx.out, flipP_hi hq]; rfl
              clear hq HNx
              generalize flipsP (8 * s.size) (txt s, txt p) Q = fl at *
              have HXor := Lib.hid (u8_xorB (fl.2.getD ((q - 8 * s.size) / 8) 0) (bit8 (q - 8 * s.size)))
              have HB8 := Lib.hid (bit8_int (q - 8 * s.size))
              have hlq : (q - 8 * s.size) / 8 < fl.2.length := by rw [hlen.2]; omega
              generalize q - 8 * s.size = q2 at *
              go_wp2_with fail
              generalize World.setCell wr ⟨gb, q, none⟩ (.bool true) = wx at *
              obtain ⟨hcw, hzw⟩ := HPb2.out.get (j := q2 / 8) hlq
              have HPb4 := Lib.hid (HPb2.out.put (q2 / 8) (fl.2.getD (q2 / 8) 0 ^^^ bit8 q2))
              have HSb4 := Lib.hid (HSb2.out.far (p := ⟨gb + 1 + 1, q2 / 8, none⟩) (by simp only; omega) (.int .u8 ((fl.2.getD (q2 / 8) 0 ^^^ bit8 q2).toNat : Int)))
              have HTb4 := Lib.hid (HTb3.out.far (p := ⟨gb + 1 + 1, q2 / 8, none⟩) (HTb3.out.neByt HPb2.out (by decide)) (.int .u8 ((fl.2.getD (q2 / 8) 0 ^^^ bit8 q2).toNat : Int)))
              have HB4 := Lib.hid (Only.frame HB2.out HB2.out.size (HPb2.out.lt.1) ((Only.refl (gb + 1 + 1) wx).put (p := ⟨gb + 1 + 1, q2 / 8, none⟩) (.inl rfl) (.int .u8 ((fl.2.getD (q2 / 8) 0 ^^^ bit8 q2).toNat : Int))))
              clear HSb2 HPb2 HTb3 HB2 hlen hlq
              generalize fl.2.getD (q2 / 8) 0 = x1 at *
              generalize bit8 q2 = y1 at *
              generalize q2 / 8 = q8 at *
              generalize q2 % 8 = qm at *
              go_region
              all_goals
                go_wp2_with fail
                rw [← HB8.out, HXor.out]
                go_roundw
                case rel => exact ⟨i + 1, Q ++ [q], by omega, by go_num, by rw [List.length_append, List.length_singleton]; go_num, HND2.out, HQN2.out, by rw [List.length_append, List.length_singleton]; omega, HTb4.out.drew, by rw [HNx2.out]; exact HSb4.out.drew, by rw [HNx2.out]; exact HPb4.out.drew, below_drewN' HB4.out 1⟩
                case measure => simp only [intOf]; omega
    · obtain rfl : i = z.length := by omega
      have hlt' : ¬ ((z.length : Int) < z.length) := by omega
      have hcs := byt_back hsb.drew cs
      have hcp := byt_back hpb.drew cp
      have HND := Lib.hid hnd
      have HQN := Lib.hid hqn
      have HB := Lib.hid hB
      clear hnd hqn htb hsb hpb hB
      generalize hfl : flipsP (8 * s.size) (txt s, txt p) Q = fl at *
      have HFl := Lib.hid hfl
      clear hfl
      go_wp2_with fail
      go_region
      all_goals
        go_wp2_with fail
        go_ret3
        exact ⟨Q, HND.out, HQN.out, by rw [HFl.out]; rfl, below_drewN' HB.out 1⟩
end Go.Proofs.Ytfhefcpkknidcaa
/- The laws BchTurns and BchCorrects, walked. -/
namespace Go.Proofs.Ytfhefcpkknidcaa
open Go.RowKit Gf
theorem str_bytes (l : List UInt8) : ∃ a : ByteArray, txt a = l ∧ str l = .string a := ⟨⟨l.toArray⟩, by simp [txt], rfl⟩
theorem decV_some (A C : List UInt8) (k : Nat) : ∃ a c : ByteArray, txt a = A ∧ txt c = C ∧ decV (some (A, C, k)) = .tuple #[.string a, .string c, .int .i64 k, .bool true] := ⟨⟨A.toArray⟩, ⟨C.toArray⟩, by simp [txt], by simp [txt], rfl⟩
theorem dec_code (tt : Nat) (h1 : 1 ≤ tt) (h8 : tt ≤ 8) (A : List UInt8) (hs : A.length ≤ 256) : decF tt A (encB tt A) = some (A, encB tt A, 0) := dec_correct tt h1 h8 A hs [] (by simp) (by simp) (by simp)
set_option maxRecDepth 100000 in
set_option maxHeartbeats 3200000 in
theorem bchTurns_no (t : Int) (s : ByteArray) (v : Value) (hs : s.size ≤ 140737488351232) (hn : setB t s.size = false) (w : World) :
    Calls Try.prog 6 #[.int .i64 t, .string s, v] w fun e w' => e = .returned (.bool true) ∧ Below w.heap.size w w' := by
  have hw : IntKind.i64.wrap (s.size : Int) = s.size := i64_in _ (by omega) (by omega)
  have HS := Lib.hid hn
  clear hn
  go_enter Try.func6, Try.ntmps6
  go_wp2_with fail
  refine (speaks_any _).mono ?_
  rintro e w1 ⟨rfl, hb1⟩
  have HB1 := Lib.hid hb1
  clear hb1
  go_wp2_with fail
  refine (settings_any t s.size _).mono ?_
  rintro e w2 ⟨rfl, rfl⟩
  rw [HS.out]
  go_wp2_with fail
  refine (speaks_any _).mono ?_
  rintro e w3 ⟨rfl, hb3⟩
  have HB3 := Lib.hid (HB1.out.trans (hb3.mono HB1.out.size))
  clear hb3
  go_wp2_with fail
  go_ret
  exact ⟨rfl, HB3.out⟩
set_option maxRecDepth 100000 in
set_option maxHeartbeats 3200000 in
theorem bchTurns_yes (tt : Nat) (s : ByteArray) (z : List Int) (v : Value) (h1 : 1 ≤ tt) (h8 : tt ≤ 8) (hs1 : 1 ≤ s.size) (hs : s.size ≤ 256) (w : World) (hz : Places w v z) :
    Calls Try.prog 6 #[.int .i64 tt, .string s, v] w fun e w' => e = .returned (.bool true) ∧ Below w.heap.size w w' := by
  have hw : IntKind.i64.wrap (s.size : Int) = s.size := i64_in _ (by omega) (by omega)
  have HS : Hid (setB tt s.size = true) := by show setB tt s.size = true; unfold setB; exact decide_eq_true (by omega)
  have HZ := Lib.hid hz
  clear hz
  go_enter Try.func6, Try.ntmps6
  go_wp2_with fail
  refine (speaks_any _).mono ?_
  rintro e w1 ⟨rfl, hb1⟩
  have HB1 := Lib.hid hb1
  have hs1' : w.heap.size ≤ w1.heap.size := hb1.size
  clear hb1
  go_wp2_with fail
  refine (settings_any tt s.size _).mono ?_
  rintro e w2 ⟨rfl, rfl⟩
  rw [HS.out]
  have HN := Lib.hid (new_any tt s.size (by omega) (by omega) w2)
  have HC := Lib.hid (newW_code w2 tt s.size)
  have HB2 := Lib.hid (HB1.out.trans ((newW_below w2 tt s.size).mono hs1'))
  have hsz : w2.heap.size ≤ (newW w2 tt s.size).heap.size := by rw [newW_size]; omega
  go_wp2_with fail
  refine HN.out.mono ?_
  rintro e w3 ⟨rfl, hw3⟩
  have hw3' : w3 = newW w2 tt s.size := hw3
  clear hw3
  subst hw3'
  generalize newW w2 tt s.size = w3 at *
  generalize w2.heap.size = b at *
  have HE := Lib.hid (encode_any s hs h1 h8 w3 HC.out)
  clear HN HB1
  go_wp2_with fail
  refine HE.out.mono ?_
  rintro e w4 ⟨rfl, hR⟩
  obtain ⟨p, hpt, hpv⟩ := str_bytes (encB tt (txt s))
  have hps : p.size = nLow tt := by rw [← txt_length, hpt, encB_length]
  rw [hpv]
  have hbs : w.heap.size ≤ b := hs1'
  have HR4 := Lib.hid hR.code
  have HB4 := Lib.hid (hR.frame HB2.out hs1' (by omega))
  have HF := Lib.hid (flipped_any tt s p z h1 h8 hs1 hs hps w4 (HZ.out.below HB4.out))
  have HPT := Lib.hid hpt
  have HPS := Lib.hid hps
  clear hR HE HC HB2 hpv hpt hps HZ
  go_wp2_with fail
  refine HF.out.mono ?_
  rintro e w5 ⟨Q, hnd, hqn, rfl, hb5⟩
  have HR5 := Lib.hid (HR4.out.below hb5)
  have HB5 := Lib.hid (HB4.out.trans (hb5.mono HB4.out.size))
  have hfl := flipsP_length (8 * (txt s).length) Q (txt s, txt p)
  have HCor := Lib.hid (fun hv => dec_correct tt h1 h8 (txt s) (by rw [txt_length]; exact hs) Q hnd hqn hv)
  rw [← HPT.out] at HCor
  obtain ⟨x, hxt, hxv⟩ := str_bytes (flipsP (8 * (txt s).length) (txt s, txt p) Q).1
  obtain ⟨y, hyt, hyv⟩ := str_bytes (flipsP (8 * (txt s).length) (txt s, txt p) Q).2
  rw [hxv, hyv]
  rw [← hxt, ← hyt] at HCor
  have hxs : x.size = s.size := by rw [← txt_length, hxt, hfl.1, txt_length]
  have hys : y.size = nLow tt := by rw [← txt_length, hyt, hfl.2, txt_length, HPS.out]
  have HXs := Lib.hid hxs
  have HD := Lib.hid (fun w' (h' : CodeS w' b tt s.size) => decode_any x y (by omega) h1 h8 hys w' (by rw [hxs]; exact h'))
  rw [hxs] at HD
  have HWd := Lib.hid (decF_word tt h1 h8 (txt x) (txt y) (by rw [txt_length]; exact hys))
  clear hb5 HF HR4 HB4 hfl hxt hyt hxv hyv hxs hys hnd hqn HPT HPS
  generalize decF tt (txt x) (txt y) = o at *
  go_wp2_with fail
  refine (HD.out _ HR5.out).mono ?_
  rintro e w6 ⟨rfl, hR⟩
  have HR6 := Lib.hid hR.code
  have HB6 := Lib.hid (hR.frame HB5.out hbs HB5.out.size)
  clear hR HR5 HB5
  rcases o with _ | ⟨A, C, k⟩
  · unfold decV at HD ⊢
    go_wp2_with fail
    refine (HD.out _ HR6.out).mono ?_
    rintro e w7 ⟨rfl, hR⟩
    have HB7 := Lib.hid (hR.frame HB6.out hbs HB6.out.size)
    have hgt : (tt : Int) < Q.length := by
      rcases Nat.lt_or_ge tt Q.length with h | h
      · omega
      · have := HCor.out h
        simp at this
    clear hR
    go_wp2_with fail
    go_ret
    exact ⟨by first | rfl | simp, HB7.out⟩
  · obtain ⟨q1, q2, q3, q4, q5⟩ := HWd.out A C k rfl
    obtain ⟨a, c, hat, hct, hdv⟩ := decV_some A C k
    rw [hdv] at HD ⊢
    have hal : a.size = s.size := by rw [← txt_length, hat, q1, txt_length, HXs.out]
    have hcl : c.size = nLow tt := by rw [← txt_length, hct, q2]
    have hdc := dec_code tt h1 h8 A (by rw [← hat, txt_length, hal]; exact hs)
    rw [q3, ← hat, ← hct] at hdc
    have hdv2 : decV (some (txt a, txt c, 0)) = .tuple #[.string a, .string c, .int .i64 0, .bool true] := by unfold decV; simp only []; rw [str_txt, str_txt]; rfl
    have HD3 := Lib.hid (fun w' (h' : CodeS w' b tt s.size) => decode_any a c (by omega) h1 h8 hcl w' (by rw [hal]; exact h'))
    rw [hdc, hdv2, hal] at HD3
    clear q1 q2 q3 q4 q5 hat hct hdv hal hcl hdc hdv2 HCor HWd HXs
    go_wp2_with fail
    refine (HD.out _ HR6.out).mono ?_
    rintro e w7 ⟨rfl, hR⟩
    have HR7 := Lib.hid hR.code
    have HB7 := Lib.hid (hR.frame HB6.out hbs HB6.out.size)
    clear hR HR6 HB6
    by_cases hqt : (Q.length : Int) ≤ tt
    all_goals
      go_wp2_with fail
      refine (HD3.out _ HR7.out).mono ?_
      rintro e w8 ⟨rfl, hR⟩
      have HB8 := Lib.hid (hR.frame HB7.out hbs HB7.out.size)
      clear hR
      go_wp2_with fail
      go_ret
      exact ⟨by first | rfl | simp, HB8.out⟩
theorem bchTurns_any (t : Int) (s : ByteArray) (z : List Int) (v : Value) (hs : s.size ≤ 140737488351232) (w : World) (hz : Places w v z) :
    Calls Try.prog 6 #[.int .i64 t, .string s, v] w fun e w' => e = .returned (.bool true) ∧ Below w.heap.size w w' := by
  by_cases h : setB t s.size = true
  · have h2 := of_decide_eq_true h
    obtain ⟨tt, rfl⟩ : ∃ tt : Nat, t = tt := ⟨t.toNat, by omega⟩
    exact bchTurns_yes tt s z v (by omega) (by omega) (by omega) (by omega) w hz
  · exact bchTurns_no t s v hs (by simpa using h) w
end Go.Proofs.Ytfhefcpkknidcaa
/- A parameter that is a slice of whole numbers. -/
namespace Go.Proofs.Ytfhefcpkknidcaa
open Go.RowKit
def IsRow (k : IntKind) (w : World) (a : Option Addr) (len cap : Nat) (zs : List Int) : Prop :=
  (a = none ∧ len = 0 ∧ cap = 0 ∧ zs = []) ∨
  ∃ x, a = some x ∧ len ≤ cap ∧ cap ≤ maxLen ∧ zs.length = cap ∧ (∀ i, i < zs.length → w.cell? (x.add i) = some (.int k (zs.getD i 0))) ∧ ∀ n ∈ zs, (Lit.int k n).wf = true
theorem cell_block {w : World} {g o : Nat} {v : Value} (h : w.cell? ⟨g, o, none⟩ = some v) : g < w.heap.size := by
  rcases Nat.lt_or_ge g w.heap.size with hg | hg
  · exact hg
  · have : w.heap[g]? = none := Array.getElem?_eq_none hg
    simp [World.cell?, this] at h
theorem places_of {w : World} {a : Option Addr} {len cap : Nat} {zs : List Int} (h : IsRow .i64 w a len cap zs) (hl : len * 8 ≤ 140737488351232) : Places w (.slice a len cap) (zs.take len) := by
  rcases h with ⟨rfl, rfl, rfl, rfl⟩ | ⟨x, rfl, h1, h2, h3, h4, h5⟩
  · exact ⟨none, 0, rfl, by simp, fun i x hx => by simp at hx⟩
  · have hlen : (zs.take len).length = len := by rw [List.length_take]; omega
    refine ⟨some x, cap, by rw [hlen], by rw [hlen]; omega, fun i y hy => ?_⟩
    have hi : i < len := by have := (List.getElem?_eq_some_iff.1 hy).1; rw [hlen] at this; exact this
    rw [List.getElem?_take, if_pos hi] at hy
    have hi2 : i < zs.length := (List.getElem?_eq_some_iff.1 hy).1
    have hyd : zs.getD i 0 = y := by simp [List.getD_eq_getElem?_getD, hy]
    have hmem : y ∈ zs := List.mem_of_getElem? hy
    obtain ⟨g, o, rfl, hc⟩ := ints_at h4 (by omega)
    have hwf := h5 y hmem
    have e1 : IntKind.i64.min = -9223372036854775808 := rfl
    have e2 : IntKind.i64.max = 9223372036854775807 := rfl
    simp [Lit.wf, e1, e2] at hwf
    have hci := hc i hi2
    rw [hyd] at hci
    exact ⟨by omega, g, o, rfl, cell_block hci, hci⟩
end Go.Proofs.Ytfhefcpkknidcaa
