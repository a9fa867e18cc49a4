/- The law BchCorrects, walked. -/
import Derived.Test.YtfhefcpkknidcaaM4
namespace Go.Proofs.Ytfhefcpkknidcaa
open Go.RowKit Gf
set_option maxRecDepth 100000 in
set_option maxHeartbeats 3200000 in
theorem bchCorrects_no (t : Int) (s : ByteArray) (v : Value) (hs : s.size ≤ 140737488351232) (hn : setB t s.size = false) (w : World) :
    Calls Try.prog 3 #[.int .i64 t, .string s, v] w fun e w' => e = .returned (.bool true) ∧ Below w.heap.size w w' := by
  have hw : IntKind.i64.wrap (s.size : Int) = s.size := i64_in _ (by omega) (by omega)
  have HS := Lib.hid hn
  clear hn
  go_enter Try.func3, Try.ntmps3
  go_wp2_with fail
  refine (speaks_any _).mono ?_
  rintro e w1 ⟨rfl, hb1⟩
  have HB1 := Lib.hid hb1
  clear hb1
  go_wp2_with fail
  refine (settings_any t s.size _).mono ?_
  rintro e w2 ⟨rfl, rfl⟩
  rw [HS.out]
  go_wp2_with fail
  go_ret
  exact ⟨rfl, HB1.out⟩
set_option maxRecDepth 100000 in
set_option maxHeartbeats 3200000 in
theorem bchCorrects_yes (tt : Nat) (s : ByteArray) (z : List Int) (v : Value) (h1 : 1 ≤ tt) (h8 : tt ≤ 8) (hs1 : 1 ≤ s.size) (hs : s.size ≤ 256) (w : World) (hz : Places w v z) :
    Calls Try.prog 3 #[.int .i64 tt, .string s, v] w fun e w' => e = .returned (.bool true) ∧ Below w.heap.size w w' := by
  have hw : IntKind.i64.wrap (s.size : Int) = s.size := i64_in _ (by omega) (by omega)
  have HS : Hid (setB tt s.size = true) := by show setB tt s.size = true; unfold setB; exact decide_eq_true (by omega)
  have HZ := Lib.hid hz
  clear hz
  go_enter Try.func3, Try.ntmps3
  go_wp2_with fail
  refine (speaks_any _).mono ?_
  rintro e w1 ⟨rfl, hb1⟩
  have HB1 := Lib.hid hb1
  have hs1' : w.heap.size ≤ w1.heap.size := hb1.size
  clear hb1
  go_wp2_with fail
  refine (settings_any tt s.size _).mono ?_
  rintro e w2 ⟨rfl, rfl⟩
  rw [HS.out]
  have HN := Lib.hid (new_any tt s.size (by omega) (by omega) w2)
  have HC := Lib.hid (newW_code w2 tt s.size)
  have HB2 := Lib.hid (HB1.out.trans ((newW_below w2 tt s.size).mono hs1'))
  have hsz : w2.heap.size ≤ (newW w2 tt s.size).heap.size := by rw [newW_size]; omega
  go_wp2_with fail
  refine HN.out.mono ?_
  rintro e w3 ⟨rfl, hw3⟩
  have hw3' : w3 = newW w2 tt s.size := hw3
  clear hw3
  subst hw3'
  generalize newW w2 tt s.size = w3 at *
  generalize w2.heap.size = b at *
  have HE := Lib.hid (encode_any s hs h1 h8 w3 HC.out)
  clear HN HB1
  go_wp2_with fail
  refine HE.out.mono ?_
  rintro e w4 ⟨rfl, hR⟩
  obtain ⟨p, hpt, hpv⟩ := str_bytes (encB tt (txt s))
  have hps : p.size = nLow tt := by rw [← txt_length, hpt, encB_length]
  rw [hpv]
  have hbs : w.heap.size ≤ b := hs1'
  have HR4 := Lib.hid hR.code
  have HB4 := Lib.hid (hR.frame HB2.out hs1' (by omega))
  have HF := Lib.hid (flipped_any tt s p z h1 h8 hs1 hs hps w4 (HZ.out.below HB4.out))
  have HPT := Lib.hid hpt
  have HPS := Lib.hid hps
  clear hR HE HC HB2 hpv hpt hps HZ
  go_wp2_with fail
  refine HF.out.mono ?_
  rintro e w5 ⟨Q, hnd, hqn, rfl, hb5⟩
  have HR5 := Lib.hid (HR4.out.below hb5)
  have HB5 := Lib.hid (HB4.out.trans (hb5.mono HB4.out.size))
  have hfl := flipsP_length (8 * (txt s).length) Q (txt s, txt p)
  have HCor := Lib.hid (fun hv => dec_correct tt h1 h8 (txt s) (by rw [txt_length]; exact hs) Q hnd hqn hv)
  rw [← HPT.out] at HCor
  obtain ⟨x, hxt, hxv⟩ := str_bytes (flipsP (8 * (txt s).length) (txt s, txt p) Q).1
  obtain ⟨y, hyt, hyv⟩ := str_bytes (flipsP (8 * (txt s).length) (txt s, txt p) Q).2
  rw [hxv, hyv]
  rw [← hxt, ← hyt] at HCor
  have hxs : x.size = s.size := by rw [← txt_length, hxt, hfl.1, txt_length]
  have hys : y.size = nLow tt := by rw [← txt_length, hyt, hfl.2, txt_length, HPS.out]
  have HXs := Lib.hid hxs
  have HD := Lib.hid (fun w' (h' : CodeS w' b tt s.size) => decode_any x y (by omega) h1 h8 hys w' (by rw [hxs]; exact h'))
  rw [hxs] at HD
  have HWd := Lib.hid (decF_word tt h1 h8 (txt x) (txt y) (by rw [txt_length]; exact hys))
  have HY := Lib.hid hys
  have hcp : decV (some (txt s, txt p, Q.length)) = .tuple #[.string s, .string p, .int .i64 Q.length, .bool true] := by unfold decV; simp only []; rw [str_txt, str_txt]
  have HCp := Lib.hid hcp
  clear hb5 HF HR4 HB4 hfl hxt hyt hxv hyv hxs hys hnd hqn HPT HPS hcp
  generalize decF tt (txt x) (txt y) = o at *
  go_wp2_with fail
  refine (HD.out _ HR5.out).mono ?_
  rintro e w6 ⟨rfl, hR⟩
  have HR6 := Lib.hid hR.code
  have HB6 := Lib.hid (hR.frame HB5.out hbs HB5.out.size)
  clear hR HR5 HB5
  by_cases hqt : Q.length ≤ tt
  · have hqt' : (Q.length : Int) ≤ tt := by omega
    have ho := HCor.out hqt
    rw [ho, HCp.out]
    clear ho HCor HWd HD
    go_wp2_with fail
    go_ret
    exact ⟨by first | rfl | simp, HB6.out⟩
  · have hqt' : ¬ ((Q.length : Int) ≤ tt) := by omega
    rcases o with _ | ⟨A, C, k⟩
    · unfold decV
      clear HD HCor HWd hqt
      go_wp2_with fail
      refine (lword_none _ _ _ _ _).mono ?_
      rintro e w7 ⟨rfl, rfl⟩
      go_wp2_with fail
      go_ret
      exact ⟨rfl, HB6.out⟩
    · obtain ⟨q1, q2, q3, q4, q5⟩ := HWd.out A C k rfl
      obtain ⟨a, c, hat, hct, hdv⟩ := decV_some A C k
      rw [hdv]
      rw [txt_length] at q1 q5
      have HLw := Lib.hid (fun w' (h' : CodeS w' b tt s.size) => lword_some x y a c k (by rw [HXs.out]; exact hs) (by rw [← txt_length, hat]; exact q1) h1 h8 HY.out (by rw [← txt_length, hct]; exact q2) (by rw [hat, hct]; exact q3) q4 (by rw [hat, hct]; exact q5) w' (by rw [HXs.out]; exact h'))
      rw [HXs.out] at HLw
      clear q1 q2 q3 q4 q5 hat hct hdv HWd HCor HD hqt
      go_wp2_with fail
      refine (HLw.out _ HR6.out).mono ?_
      rintro e w7 ⟨rfl, hR⟩
      have HB7 := Lib.hid (hR.frame HB6.out hbs HB6.out.size)
      clear hR
      go_wp2_with fail
      go_ret
      exact ⟨rfl, HB7.out⟩
theorem bchCorrects_any (t : Int) (s : ByteArray) (z : List Int) (v : Value) (hs : s.size ≤ 140737488351232) (w : World) (hz : Places w v z) :
    Calls Try.prog 3 #[.int .i64 t, .string s, v] w fun e w' => e = .returned (.bool true) ∧ Below w.heap.size w w' := by
  by_cases h : setB t s.size = true
  · have h2 := of_decide_eq_true h
    obtain ⟨tt, rfl⟩ : ∃ tt : Nat, t = tt := ⟨t.toNat, by omega⟩
    exact bchCorrects_yes tt s z v (by omega) (by omega) (by omega) (by omega) w hz
  · exact bchCorrects_no t s v hs (by simpa using h) w
end Go.Proofs.Ytfhefcpkknidcaa
