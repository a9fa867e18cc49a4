/- Merged out of the session's own texts: Lan, Pair. -/
import Derived.Test.YtfhefcpkknidcaaM3
import Derived.WalkKit
import Derived.ProofKit
import Derived.OpenShut
import Derived.ShutString
import Derived.SizedLaws
/- The law BchAny, walked. -/
namespace Go.Proofs.Ytfhefcpkknidcaa
open Go.RowKit Gf
def PairV (s p : ByteArray) : Value := .agg #[.string s, .string p]
def LawTrue (w : World) (e : Ending) (w' : World) : Prop := e = .returned (.bool true) ∧ Below w.heap.size w w'
set_option maxRecDepth 100000 in
set_option maxHeartbeats 3200000 in
theorem bchAny_no (t ch : Int) (s p : ByteArray) (hn : ¬ (1 ≤ t ∧ t ≤ 8 ∧ 1 ≤ ch ∧ ch ≤ 256)) (w : World) :
    Calls Try.prog 4 #[.int .i64 t, .int .i64 ch, .agg #[.string s, .string p]] w (LawTrue w) := by
  unfold LawTrue
  have HN := Lib.hid hn
  have hbx := Blk.new w #[.string s, .string p] 37
  have hc0 := hbx.cell (i := 0) (v := .string s) rfl
  have hc1 := hbx.cell (i := 1) (v := .string p) rfl
  have HB0 := Lib.hid ((Below.refl w.heap.size w).alloc (Nat.le_refl _) (.cells #[.string s, .string p] 37))
  clear hn hbx
  go_enter Try.func4, Try.ntmps4
  go_wp2_with fail
  refine (speaks_any _).mono ?_
  rintro e w1 ⟨rfl, hb1⟩
  have hc0' : w1.cell? ⟨w.heap.size, 0, none⟩ = some (.string s) := by rw [hb1.cell (p := ⟨w.heap.size, 0, none⟩) (by simp)]; exact hc0
  have hc1' : w1.cell? ⟨w.heap.size, 1, none⟩ = some (.string p) := by rw [hb1.cell (p := ⟨w.heap.size, 1, none⟩) (by simp)]; exact hc1
  have HB1 := Lib.hid (HB0.out.trans (hb1.mono HB0.out.size))
  clear hb1 hc0 hc1 HB0
  go_wp2_with fail
  go_region
  go_wp2_with fail
  refine (new_none t ch HN.out _).mono ?_
  rintro e w2 ⟨rfl, rfl⟩
  go_wp2_with fail
  refine (decode_nil s p _).mono ?_
  rintro e w3 ⟨rfl, rfl⟩
  unfold NoneV
  go_wp2_with fail
  refine (parity_nil _).mono ?_
  rintro e w4 ⟨rfl, rfl⟩
  go_wp2_with fail
  go_ret
  exact ⟨by simp, below_drewN' HB1.out 1⟩
set_option maxRecDepth 100000 in
set_option maxHeartbeats 3200000 in
theorem bchAny_yes (tt : Nat) (ch : Int) (s p : ByteArray) (h1 : 1 ≤ tt) (h8 : tt ≤ 8) (hch : 1 ≤ ch ∧ ch ≤ 256) (hs : s.size ≤ 140737488351232) (hp : p.size ≤ 140737488351232) (w : World) :
    Calls Try.prog 4 #[.int .i64 tt, .int .i64 ch, .agg #[.string s, .string p]] w (LawTrue w) := by
  unfold LawTrue
  have hbx := Blk.new w #[.string s, .string p] 37
  have hc0 := hbx.cell (i := 0) (v := .string s) rfl
  have hc1 := hbx.cell (i := 1) (v := .string p) rfl
  have HB0 := Lib.hid ((Below.refl w.heap.size w).alloc (Nat.le_refl _) (.cells #[.string s, .string p] 37))
  have hws : IntKind.i64.wrap (s.size : Int) = s.size := i64_small _ (by omega)
  have hwp : IntKind.i64.wrap (p.size : Int) = p.size := i64_small _ (by omega)
  have HCh := Lib.hid hch
  clear hbx hch
  go_enter Try.func4, Try.ntmps4
  go_wp2_with fail
  refine (speaks_any _).mono ?_
  rintro e w1 ⟨rfl, hb1⟩
  have hc0' : w1.cell? ⟨w.heap.size, 0, none⟩ = some (.string s) := by rw [hb1.cell (p := ⟨w.heap.size, 0, none⟩) (by simp)]; exact hc0
  have hc1' : w1.cell? ⟨w.heap.size, 1, none⟩ = some (.string p) := by rw [hb1.cell (p := ⟨w.heap.size, 1, none⟩) (by simp)]; exact hc1
  have HB1 := Lib.hid (HB0.out.trans (hb1.mono HB0.out.size))
  clear hb1 hc0 hc1 HB0
  go_wp2_with fail
  go_region
  have HB1d := Lib.hid (below_drewN' HB1.out 1)
  clear hc0' hc1' HB1
  go_wp2_with fail
  have HB2 : Hid (Below w.heap.size w w1.drew) := HB1d
  clear HB1d
  generalize w1.drew = w2 at *
  have hs2 : w.heap.size ≤ w2.heap.size := HB2.out.size
  have HN := Lib.hid (new_any tt ch (by omega) HCh.out w2)
  have HC := Lib.hid (newW_code w2 tt ch)
  have HB3 := Lib.hid (HB2.out.trans ((newW_below w2 tt ch).mono hs2))
  have hsz : w2.heap.size ≤ (newW w2 tt ch).heap.size := by rw [newW_size]; omega
  refine HN.out.mono ?_
  rintro e w3 ⟨rfl, hw3⟩
  have hw3' : w3 = newW w2 tt ch := hw3
  clear hw3
  subst hw3'
  generalize newW w2 tt ch = w3 at *
  generalize w2.heap.size = b at *
  clear HN HB2
  by_cases hlen : (s.size : Int) = ch
  · subst hlen
    have hs256 : s.size ≤ 256 := by have := HCh.out; omega
    clear HCh
    by_cases hpl : p.size = nLow tt
    · have HD := Lib.hid (decode_any s p hs256 h1 h8 hpl w3 HC.out)
      have HPl := Lib.hid hpl
      clear hpl
      go_wp2_with fail
      refine HD.out.mono ?_
      rintro e w4 ⟨rfl, hR⟩
      have HR4 := Lib.hid hR.code
      have HB4 := Lib.hid (hR.frame HB3.out hs2 (by omega))
      have HP := Lib.hid (parity_any (b := b) h1 h8 w4 hR.code)
      clear hR HD HC HB3
      have HW := Lib.hid (decF_word tt h1 h8 (txt s) (txt p) (by rw [txt_length]; exact HPl.out))
      generalize hdf : decF tt (txt s) (txt p) = o at *
      have HDf := Lib.hid hdf
      clear hdf
      rcases o with _ | ⟨A, C, k⟩
      · unfold decV
        go_wp2_with fail
        refine HP.out.mono ?_
        rintro e w5 ⟨rfl, hR⟩
        rw [← HPl.out]
        have HB5 := Lib.hid (hR.frame HB4.out hs2 HB4.out.size)
        clear hR HP
        go_wp2_with fail
        refine (lword_none _ _ _ _ _).mono ?_
        rintro e w6 ⟨rfl, rfl⟩
        go_wp2_with fail
        go_ret
        exact ⟨rfl, HB5.out⟩
      · obtain ⟨q1, q2, q3, q4, q5⟩ := HW.out A C k rfl
        obtain ⟨a, ha⟩ : ∃ a : ByteArray, a = ⟨A.toArray⟩ := ⟨_, rfl⟩
        obtain ⟨c, hc⟩ : ∃ c : ByteArray, c = ⟨C.toArray⟩ := ⟨_, rfl⟩
        have hat : txt a = A := by rw [ha]; simp [txt]
        have hct : txt c = C := by rw [hc]; simp [txt]
        have hdv : decV (some (A, C, k)) = .tuple #[.string a, .string c, .int .i64 k, .bool true] := by rw [ha, hc]; rfl
        rw [hdv]
        rw [txt_length] at q1 q5
        have HLw := Lib.hid (fun w' (h' : CodeS w' b tt s.size) => lword_some s p a c k hs256 (by rw [← txt_length, hat]; exact q1) h1 h8 HPl.out (by rw [← txt_length, hct]; exact q2) (by rw [hat, hct]; exact q3) q4 (by rw [hat, hct]; exact q5) w' h')
        clear q1 q2 q3 q4 q5 ha hc hat hct hdv HW HDf
        go_wp2_with fail
        refine HP.out.mono ?_
        rintro e w5 ⟨rfl, hR⟩
        rw [← HPl.out]
        have HB5 := Lib.hid (hR.frame HB4.out hs2 HB4.out.size)
        have HR5 := Lib.hid hR.code
        clear hR HP
        go_wp2_with fail
        refine (HLw.out _ HR5.out).mono ?_
        rintro e w6 ⟨rfl, hR⟩
        have HB6 := Lib.hid (hR.frame HB5.out hs2 HB5.out.size)
        clear hR
        go_wp2_with fail
        go_ret
        exact ⟨rfl, HB6.out⟩
    · have HD := Lib.hid (decode_par s p hs256 hp h1 h8 hpl w3 HC.out)
      have hn1 : ((p.size : Int) == ((nLow tt : Nat) : Int)) = false := beq_eq_false_iff_ne.2 (by omega)
      have hn2 : ((p.size : Int) != ((nLow tt : Nat) : Int)) = true := by unfold bne; rw [hn1]; rfl
      clear hpl
      go_wp2_with fail
      refine HD.out.mono ?_
      rintro e w4 ⟨rfl, hR⟩
      have HB4 := Lib.hid (hR.frame HB3.out hs2 (by omega))
      have HP := Lib.hid (parity_any (b := b) h1 h8 w4 hR.code)
      clear hR HD HC HB3
      unfold NoneV
      go_wp2_with fail
      refine HP.out.mono ?_
      rintro e w5 ⟨rfl, hR⟩
      have HB5 := Lib.hid (hR.frame HB4.out hs2 HB4.out.size)
      clear hR HP
      go_wp2_with fail
      go_ret
      exact ⟨by simp, HB5.out⟩
  · have HD := Lib.hid (decode_len s p hs hlen w3 HC.out)
    have hn1 : ((s.size : Int) == ch) = false := beq_eq_false_iff_ne.2 hlen
    have hn2 : ((s.size : Int) != ch) = true := by unfold bne; rw [hn1]; rfl
    clear hlen HCh
    go_wp2_with fail
    refine HD.out.mono ?_
    rintro e w4 ⟨rfl, rfl⟩
    unfold NoneV
    go_wp2_with fail
    go_ret
    exact ⟨by simp, HB3.out⟩
theorem bchAny_any (t ch : Int) (s p : ByteArray) (hs : s.size ≤ 140737488351232) (hp : p.size ≤ 140737488351232) (w : World) :
    Calls Try.prog 4 #[.int .i64 t, .int .i64 ch, .agg #[.string s, .string p]] w fun e w' => e = .returned (.bool true) ∧ Below w.heap.size w w' := by
  by_cases h : 1 ≤ t ∧ t ≤ 8 ∧ 1 ≤ ch ∧ ch ≤ 256
  · obtain ⟨tt, rfl⟩ : ∃ tt : Nat, t = tt := ⟨t.toNat, by omega⟩
    exact bchAny_yes tt ch s p (by omega) (by omega) (by omega) hs hp w
  · exact bchAny_no t ch s p h w
end Go.Proofs.Ytfhefcpkknidcaa
/- A parameter that is an array of two strings: opened, and shut. -/
namespace Go.Proofs.Ytfhefcpkknidcaa.Pair
open Go.ChangeShapes Go.WideShapes Go.ChangeAt Go.RowKit
open Go.ChangeMaps (open_string shut_string)
variable {H : Type} {enc : TypeId × Value → H} {P : Program} {w : World} {base : Nat} {sp : Nat → Bool} {held : Bool}
theorem open_pair {r : Reach} {b0 : Nat} {t e : TypeId} {v : Value} {d : DataW H} {ps : List MemPlace} (ht : P.underlying t = some (.array 2 e)) (he : P.underlying e = some .string) (hce : P.cellsOf e = 1) (hct : P.cellsOf t = 2)
    (hval : Value.okWide P w r b0 t v) (hd : DataW.Trod enc P w base sp held t v d ps) :
    ∃ a c : ByteArray, v = .agg #[.string a, .string c] ∧ d = .agg [.lit (.string a.data.toList), .lit (.string c.data.toList)] ∧ ps = [] ∧ a.size ≤ maxLen ∧ c.size ≤ maxLen := by
  obtain ⟨cs, rfl, hsz⟩ : ∃ cs, v = .agg cs ∧ cs.size = P.cellsOf t := by
    simp only [Value.okWide, ht] at hval
    obtain ⟨cs, h1, h2, _⟩ := hval
    exact ⟨cs, h1, h2⟩
  rw [hct] at hsz
  obtain ⟨l⟩ := cs
  obtain ⟨c0, c1, rfl⟩ : ∃ c0 c1, l = [c0, c1] := by
    match l, hsz with
    | [c0, c1], _ => exact ⟨c0, c1, rfl⟩
    | [], h => simp at h
    | [_], h => simp at h
    | _ :: _ :: _ :: _, h => simp at h
  obtain ⟨fuel, hf⟩ := hd
  obtain ⟨xs, m, _, hx, _, hl, hel⟩ := DataW.trod_array ht hf
  have e0 := hel 0 (by omega)
  have e1 := hel 1 (by omega)
  obtain ⟨y0, y1, rfl⟩ : ∃ y0 y1, xs = [y0, y1] := by
    match xs, hl with
    | [y0, y1], _ => exact ⟨y0, y1, rfl⟩
    | [], h => simp at h
    | [_], h => simp at h
    | _ :: _ :: _ :: _, h => simp at h
  simp [hce, Value.cells] at e0 e1
  obtain ⟨a, h0, rfl, wa⟩ := DataW.trod_string he e0
  obtain ⟨c, h1, rfl, wc⟩ := DataW.trod_string he e1
  simp at h0 h1
  subst h0 h1
  simp at hx
  exact ⟨a, c, rfl, hx.1, hx.2, wa, wc⟩
theorem shut_pair {t e : TypeId} {a c : ByteArray} (ht : P.underlying t = some (.array 2 e)) (he : P.underlying e = some .string) (hce : P.cellsOf e = 1) (hct : P.cellsOf t = 2) (ha : a.size ≤ maxLen) (hc : c.size ≤ maxLen) :
    DataW.Trod enc P w base sp held t (.agg #[.string a, .string c]) (.agg [.lit (.string a.data.toList), .lit (.string c.data.toList)]) [] := by
  refine ⟨2, ?_⟩
  have r2 : List.range 2 = [0, 1] := rfl
  simp [DataW.trod, ht, he, hce, hct, ha, hc, Value.cells, r2]
theorem sized_pair {ts : List TypeId} {ds : List (DataW H)} (h : (DataW.weightsEach P ts ds).all (· ≤ reachBytes) = true) {j : Nat} {t e : TypeId} {a c : List UInt8} (hu : P.underlying t = some (.array 2 e)) (ht : ts[j]? = some t) (hd : ds[j]? = some (.agg [.lit (.string a), .lit (.string c)])) : a.length ≤ reachBytes ∧ c.length ≤ reachBytes := by
  have h1 := List.all_eq_true.1 h _ (DataW.weights_mem_each ht hd a.length (by simp [DataW.weights, DataW.weightsAll, hu]))
  have h2 := List.all_eq_true.1 h _ (DataW.weights_mem_each ht hd c.length (by simp [DataW.weights, DataW.weightsAll, hu]))
  exact ⟨by simpa using h1, by simpa using h2⟩
end Go.Proofs.Ytfhefcpkknidcaa.Pair
