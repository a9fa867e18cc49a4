/- Merged out of the session's own texts: Min, Rowm, Pol, Lowp, Rdy, Ready, Left, Div, New, Enc, Byt, Clean, Synp, Syn, Decc, Bits, Ev, Roots, Spk, Spare. -/
import Derived.Test.YtfhefcpkknidcaaM1
import Derived.Laws.IdiomStrings
import Derived.Laws.BytesArg
/- The least polynomial of a power of the generator, walked. -/
namespace Go.Proofs.Ytfhefcpkknidcaa
open Go.RowKit Gf

theorem fis_length (l : List F) : (fis l).length = l.length := by simp [fis]
theorem fis_at {l : List F} {j : Nat} (h : j < l.length) : (fis l)[j]? = some (.int .i64 (fi (co l j))) := by
  simp [fis, co, h]
theorem fis_set (l : List F) (j : Nat) (x : F) : (fis l).set j (.int .i64 (fi x)) = fis (l.set j x) := by
  simp [fis, List.map_set]
theorem fis_snoc (l : List F) (x : F) : fis l ++ [.int .i64 (fi x)] = fis (l ++ [x]) := by simp [fis]
theorem fi_mem {l : List F} {x : F} : fi x ∈ l.map fi ↔ x ∈ l := by
  constructor
  · intro h
    obtain ⟨y, hy, he⟩ := List.mem_map.1 h
    rw [← fi_inj he]; exact hy
  · exact fun h => List.mem_map.2 ⟨x, h, rfl⟩
theorem rootsL_snoc (k i : Nat) : rootsL k (i + 1) = rootsL k i ++ [ex (k * 2 ^ i)] := by
  unfold rootsL; rw [List.range_succ, List.map_append]; rfl
theorem rootsL_length (k i : Nat) : (rootsL k i).length = i := by simp [rootsL]
theorem ex_sq (n : Nat) : mul (ex n) (ex n) = ex (n * 2) := by rw [mul_ex_ex, Nat.mul_two]
theorem nextN_length (mu : F → F → F) (c : List F) (r : F) (i : Nat) : (nextN mu c r i).length = c.length + 1 := by
  induction i with
  | zero => simp [nextN]
  | succ i ih => simp [nextN, ih]

theorem cprod_length (mu : F → F → F) (rs : List F) : (cprod mu rs).length = rs.length + 1 := by
  have : ∀ (rs c : List F), (rs.foldl (fun c r => nextN mu c r c.length) c).length = rs.length + c.length := by
    intro rs
    induction rs with
    | nil => intro c; simp
    | cons r rs ih => intro c; rw [List.foldl_cons, ih, nextN_length, List.length_cons]; omega
  rw [cprod, this]; rfl
theorem cprod_snoc (mu : F → F → F) (rs : List F) (i : Nat) (h : i < rs.length) : cprod mu (rs.take (i + 1)) = nextN mu (cprod mu (rs.take i)) (co rs i) (i + 1) := by
  have e : co rs i = rs[i] := by simp [co, h]
  rw [List.take_succ_eq_append_getElem h, e]
  have hl : (cprod mu (rs.take i)).length = i + 1 := by rw [cprod_length, List.length_take]; omega
  unfold cprod at *
  rw [List.foldl_append]
  show nextN mu _ rs[i] _ = _
  rw [hl]
theorem fis_zeros (n : Nat) : List.replicate n (Value.int .i64 0) = fis (List.replicate n 0#13) := by unfold fis; rw [List.map_replicate, List.map_replicate]; rfl
/-- What carries through a call on a field: own rows are other blocks than the code's. -/
theorem own_fld {w w' : World} {B b : Nat} {t ch d m dg : Int} {low : Value} {v : Value} {xs : List Value} {T : TypeId} (h : Own w B T v xs) (hs : FldS w b t ch d m dg low) (ho : Only b w w') (hT : T ≠ 61) : Own w' B T v xs := by
  rcases hs with ⟨ev, lv, p, hs⟩ | ⟨p, E, L, hs⟩
  · exact h.only ho hs hT
  · exact h.only ho hs.code hT
theorem FldP.only {b : Nat} {t ch d m dg : Int} {low : Value} {w w' : World} (h : FldP b t ch d m dg low w w') : Only b w w' := h.1
theorem FldP.fld {b : Nat} {t ch d m dg : Int} {low : Value} {w w' : World} (h : FldP b t ch d m dg low w w') : FldS w' b t ch d m dg low := by
  obtain ⟨_, p, E, L, r, _⟩ := h
  exact .inr ⟨p, E, L, r⟩
/-- The field is known at w', and only the code's block has been written since w. -/
def FldQ (b : Nat) (t ch d m dg : Int) (low : Value) (w w' : World) : Prop := Only b w w' ∧ FldS w' b t ch d m dg low
theorem FldQ.step {b : Nat} {t ch d m dg : Int} {low : Value} {w w1 w2 : World} (h : FldQ b t ch d m dg low w w1) (k : FldP b t ch d m dg low w1 w2) : FldQ b t ch d m dg low w w2 := ⟨h.1.trans k.1, k.fld⟩
theorem FldQ.below {b : Nat} {t ch d m dg : Int} {low : Value} {w w1 w2 : World} (h : FldQ b t ch d m dg low w w1) (k : Below w1.heap.size w1 w2) : FldQ b t ch d m dg low w w2 := ⟨h.1.below k, h.2.below k⟩
theorem Own.neb {w : World} {B b : Nat} {T : TypeId} {v : Value} {xs : List Value} (h : Own w B T v xs) (hb : b < B) : v.ownBlock ≠ some b := fun e => by have := (h.below_B b e).1; omega
theorem FldR.lt {w : World} {b : Nat} {t ch d m p dg : Int} {low : Value} {E L : Nat} (h : FldR w b t ch d m p dg low E L) : b < w.heap.size ∧ E < w.heap.size ∧ L < w.heap.size := ⟨h.code.lt, h.tabs.exp.lt, h.tabs.log.lt⟩
theorem FldR.far {w : World} {b : Nat} {t ch d m p dg : Int} {low : Value} {E L : Nat} (h : FldR w b t ch d m p dg low E L) {a : Addr} (h1 : b ≠ a.block) (h2 : E ≠ a.block) (h3 : L ≠ a.block) (u : Value) : FldR (w.setCell a u) b t ch d m p dg low E L :=
  ⟨h.code.far h1 u, ⟨h.tabs.exp.far h2 u, h.tabs.log.far h3 u⟩⟩
theorem FldR.grown {w w' : World} {b : Nat} {t ch d m p dg : Int} {low : Value} {E L : Nat} {row : Option Nat} (h : FldR w b t ch d m p dg low E L) (hg : w.grownBy w' row) (h1 : some b ≠ row) (h2 : some E ≠ row) (h3 : some L ≠ row) : FldR w' b t ch d m p dg low E L :=
  ⟨(hg.block b h.code.lt h1).trans h.code, ⟨(hg.block E h.tabs.exp.lt h2).trans h.tabs.exp, (hg.block L h.tabs.log.lt h3).trans h.tabs.log⟩⟩
theorem Only.grownBy {b : Nat} {a w w' : World} {row : Option Nat} (h : Only b a w) (hg : w.grownBy w' row) (hr : ∀ k, row = some k → k = b ∨ a.heap.size ≤ k) : Only b a w' :=
  ⟨hg.os.trans h.os, hg.tape.trans h.tape, hg.output.trans h.output, Nat.le_trans h.size hg.size, fun k hk hn => (hg.block k (by have := h.size; omega) (fun e => by rcases hr k e.symm with h1 | h1 <;> omega)).trans (h.block k hk hn)⟩

theorem FldR.drew {w : World} {b : Nat} {t ch d m p dg : Int} {low : Value} {E L : Nat} (h : FldR w b t ch d m p dg low E L) : FldR w.drew b t ch d m p dg low E L := ⟨h.code, ⟨h.tabs.exp, h.tabs.log⟩⟩
theorem Only.cellOf {b : Nat} {w w' : World} (h : Only b w w') {g j : Nat} (hg : g ≠ b) {v : Value} (hc : w.cell? ⟨g, j, none⟩ = some v) : w'.cell? ⟨g, j, none⟩ = some v := by
  have hlt : g < w.heap.size := World.block_lt_of_cell? w ⟨g, j, none⟩ hc
  unfold World.cell? at *
  simp only at *
  rw [h.block g hlt hg]
  exact hc
theorem Only.freeOf {b : Nat} {w w' : World} (h : Only b w w') {g j : Nat} (hg : g ≠ b) (hlt : g < w.heap.size) (hc : w.frozen? ⟨g, j, none⟩ = false) : w'.frozen? ⟨g, j, none⟩ = false := by
  unfold World.frozen? at *
  simp only at *
  rw [h.block g hlt hg]
  exact hc
theorem expN_le (C : List F) (k : Nat) : (expN C k).length ≤ k := by
  induction k with
  | zero => simp [expN]
  | succ k ih =>
    simp only [expN]
    split
    · rw [List.length_cons]; omega
    · omega
theorem i64s_snoc (l : List Nat) (n : Nat) : i64s l ++ [.int .i64 (n : Int)] = i64s (l ++ [n]) := by simp [i64s]
theorem fi_one {x : F} : (fi x == 1) = decide (x = 1#13) := by
  by_cases h : x = 1#13
  · subst h; rfl
  · rw [decide_eq_false h]
    apply beq_eq_false_iff_ne.2
    intro e
    apply h
    apply BitVec.eq_of_toNat_eq
    unfold fi at e
    show x.toNat = 1
    omega
def MinMade (b : Nat) (t ch d m dg : Int) (low : Value) (l : List Nat) (w : World) (e : Ending) (w' : World) : Prop :=
  ∃ v, e = .returned v ∧ Own w' w.heap.size 3 v (i64s l) ∧ FldP b t ch d m dg low w w'

set_option maxRecDepth 100000 in
set_option maxHeartbeats 3200000 in
theorem minimal_any (k : Nat) (hk : ∀ i : Fin 13, ∀ j : Fin 13, j.val < i.val → k * 2 ^ j.val % 8191 ≠ k * 2 ^ i.val % 8191) {b : Nat} {t ch d m dg : Int} {low : Value} (w : World) (h : FldS w b t ch d m dg low) :
    Calls Try.prog 40 #[.pointer (some ⟨b, 5, none⟩), .int .i64 k] w (MinMade b t ch d m dg low (minimalL k) w) := by
  have hnot : ∀ (x : Bool) (w : World), (Op.unary .not (.bool x)).run Try.prog w = .ok (.bool (!x)) w := fun _ _ => rfl
  have hexp := exp_any k w h
  rw [exI_nat] at hexp
  have HE := Lib.hid hexp
  have HK := Lib.hid hk
  clear h hk hexp
  go_enter Try.func40, Try.ntmps40
  go_wp2_with fail
  refine HE.out.mono ?_
  rintro e w1 ⟨rfl, hP⟩
  obtain ⟨ho, p, E, L, hr, hjunk1⟩ := hP
  have HU := Lib.hid hjunk1
  clear hjunk1
  have hr0 := hr.lt
  have HR := Lib.hid hr
  have HO := Lib.hid ho
  have hb1 := hr0.1
  have hE1 := hr0.2.1
  have hL1 := hr0.2.2
  have hw1 : w.heap.size ≤ w1.heap.size := ho.size
  clear hr ho hr0 HE
  generalize hG : w1.heap.size = G at *
  have HG := Lib.hid hG
  clear hG
  go_wp2_with fail
  go_loopg [5, 6] 13 (fun gk v r wr => ∃ (i : Nat) (p : Int), gk + i = 13 ∧ r = .int .i64 (fi (ex (k * 2 ^ i))) ∧ Own wr G 3 v (fis (rootsL k i)) ∧ FldR wr b t ch d m p dg low E L ∧ Only b w wr ∧ G ≤ wr.heap.size)
  case atStart => exact ⟨0, p, rfl, by rw [Nat.pow_zero, Nat.mul_one], Own.nil _ _ _, HR.out, HO.out, by rw [HG.out]; exact Nat.le_refl _⟩
  case round =>
    obtain ⟨i, p, hgi, rfl, hown, hr, ho, hsz⟩ := hrel
    clear HR HO
    have HOw := Lib.hid hown
    have HR := Lib.hid hr
    have HO := Lib.hid ho
    have HC := Lib.hid (contains_any ((rootsL k i).map fi) (fi (ex (k * 2 ^ i))) wr hown)
    clear hown hr ho
    by_cases hlt : i < 13
    · have hno : decide (fi (ex (k * 2 ^ i)) ∈ (rootsL k i).map fi) = false := decide_eq_false fun h => roots_new HK.out i hlt (fi_mem.1 h)
      have HNo := Lib.hid hno
      have HPw := Lib.hid (fun w h => pow2_any (ex (k * 2 ^ i)) (ex_ne_zero _) (b := b) (t := t) (ch := ch) (d := d) (m := m) (dg := dg) (low := low) w h)
      have hpw : fi (mul (ex (k * 2 ^ i)) (ex (k * 2 ^ i))) = fi (ex (k * 2 ^ (i + 1))) := by rw [ex_sq, Nat.mul_assoc]; rfl
      rw [hpw] at HPw
      have HSn := Lib.hid (rootsL_snoc k i)
      clear hno hpw
      generalize hx : ex (k * 2 ^ i) = x at *
      have HX := Lib.hid hx
      clear hx
      go_wp2_with fail
      refine HC.out.mono ?_
      rintro e w' ⟨rfl, rfl⟩
      rw [HNo.out]
      go_wp2_with (at_builtin; refine append1 G rfl (.tmp 27) (.tmp 29) 22 3 (.int .i64 0) 8 rfl Try.underlying22 (by kernel_rfl) rfl (by decide) u5 (fis (rootsL k i)) (.int .i64 (fi x)) rfl rfl rfl HOw.out (Below.refl G _) hsz (by rw [fis_length, rootsL_length]; omega) ?_; intro v3 w3 hown3 hbel3 hg3 hat; clear hat hbel3)
      have hr3 := HR.out.grown hg3 (fun e => HOw.out.neb hb1 e.symm) (fun e => HOw.out.neb hE1 e.symm) (fun e => HOw.out.neb hL1 e.symm)
      have ho3 := HO.out.grownBy hg3 (fun k hk => .inr (by have := (HOw.out.below_B k hk).1; omega))
      have hsz3 : G ≤ w3.heap.size := Nat.le_trans hsz hg3.size
      rw [fis_snoc] at hown3
      have e1 : rootsL k i ++ [x] = rootsL k (i + 1) := HSn.out.symm
      rw [e1] at hown3
      have HP3 := Lib.hid (HPw.out w3 (.inr ⟨p, E, L, hr3⟩))
      have HR3 := Lib.hid hr3
      have HO3 := Lib.hid ho3
      have HOw3 := Lib.hid hown3
      clear hg3 hr3 ho3 hown3 e1 HR HO HOw HC HPw
      go_wp2_with fail
      refine HP3.out.mono ?_
      rintro e w4 ⟨rfl, hP4⟩
      have HP4 := Lib.hid hP4
      clear hP4
      go_wp2_with fail
      go_roundg (gk - 1)
      case measure => omega
      case rel =>
        obtain ⟨p', hr4⟩ := HP4.out.rdy HR3.out
        exact ⟨i + 1, p', by omega, rfl, HOw3.out.other HP4.out.only (HOw3.out.neb hb1), hr4, HO3.out.trans HP4.out.only, Nat.le_trans hsz3 HP4.out.only.size⟩
    · obtain rfl : i = 13 := by omega
      have hyes : decide (fi (ex (k * 2 ^ 13)) ∈ (rootsL k 13).map fi) = true := decide_eq_true (fi_mem.2 (roots_back k))
      have HY := Lib.hid hyes
      clear hyes
      go_wp2_with fail
      refine HC.out.mono ?_
      rintro e w' ⟨rfl, rfl⟩
      rw [HY.out]
      obtain ⟨ar, cr, rfl, hjunk0⟩ := HOw.out.form
      clear hjunk0
      rw [fis_length, rootsL_length] at *
      have HOr := Lib.hid HOw.out
      clear HY HC HOw
      -- the product of x + r over the roots
      have hc0 := Own.lit wr G 3 #[.int .i64 1] hsz (by simp)
      have hr0 := HR.out.below (w' := wr.alloc (.cells #[.int .i64 1] 3)) ((Below.refl _ _).alloc (Nat.le_refl _) _)
      have ho0 := HO.out.alloc (.cells #[.int .i64 1] 3)
      have hrt0 := HOr.out.alloc (.cells #[.int .i64 1] 3)
      have hsz0 : G ≤ (wr.alloc (.cells #[.int .i64 1] 3)).heap.size := by simp; omega
      have hc0' : Own (wr.alloc (.cells #[.int .i64 1] 3)) G 3 (.slice (some ⟨wr.heap.size, 0, none⟩) 1 1) (fis [1#13]) := hc0
      have HC0 := Lib.hid hc0'
      have HR0 := Lib.hid hr0
      have HO0 := Lib.hid ho0
      have HT0 := Lib.hid hrt0
      clear hc0 hr0 ho0 hrt0 hc0' HR HO HOr
      go_wp2_with fail
      generalize wr.alloc _ = wa at *
      generalize wr.heap.size = gc0 at *
      clear hsz
      go_loopw [7, 34] (fun c i wr => ∃ (i' gc cc : Nat) (p : Int), i' ≤ 13 ∧ i = .int .i64 i' ∧ c = .slice (some ⟨gc, 0, none⟩) (i' + 1) cc ∧ Own wr G 3 (.slice (some ⟨gc, 0, none⟩) (i' + 1) cc) (fis (cprod mul ((rootsL k 13).take i'))) ∧ Own wr G 3 (.slice ar 13 cr) (fis (rootsL k 13)) ∧ FldR wr b t ch d m p dg low E L ∧ Only b w wr ∧ G ≤ wr.heap.size) (fun _ i _ => 13 - (intOf i).toNat)
      case atStart => exact ⟨0, gc0, 1, _, by omega, rfl, rfl, HC0.out, HT0.out, HR0.out, HO0.out, hsz0⟩
      case round =>
        obtain ⟨i, gc, cc, p, hi, rfl, rfl, hc, hrt, hr, ho, hsz⟩ := hrel
        clear HC0 HT0 HR0 HO0 hsz0
        by_cases hlt : i < 13
        · obtain ⟨a2, c2, he2, hcells⟩ := hrt.form
          obtain ⟨gr, ha2, hgr, _, hcell, _⟩ := hcells i _ (fis_at (l := rootsL k 13) (j := i) (by rw [rootsL_length]; exact hlt))
          subst ha2
          simp only [Value.slice.injEq] at he2
          obtain ⟨rfl, hjunk, rfl⟩ := he2
          have hdec : decide ((i : Int) < 13) = true := by simp; omega
          have HSn := Lib.hid (cprod_snoc mul (rootsL k 13) i (by rw [rootsL_length]; exact hlt))
          have HCl : Hid ((cprod mul ((rootsL k 13).take i)).length = i + 1) := by show (cprod mul ((rootsL k 13).take i)).length = i + 1; rw [cprod_length, List.length_take, rootsL_length]; omega
          have hmk : ∀ W : World, (Instr.makeSlice 22 (.int .i64 ((i : Int) + 1 + 1)) (.int .i64 ((i : Int) + 1 + 1))).run Try.prog W = .ok (.slice (some ⟨W.heap.size, 0, none⟩) (i + 2) (i + 2)) (W.alloc (.cells (madeCells #[.int .i64 0] (i + 2)) 3)) := fun W => by
            have := mk22 (i + 2) (by omega) W
            rw [show ((i + 2 : Nat) : Int) = (i : Int) + 1 + 1 by omega] at this
            exact this
          have hnx := Own.made wr G 3 (.int .i64 0) (i + 2) hsz (by omega)
          have e0 : List.replicate (i + 2) (Value.int .i64 0) = fis (nextN mul (cprod mul ((rootsL k 13).take i)) (co (rootsL k 13) i) 0) := by
            rw [fis_zeros]; unfold nextN; rw [HCl.out]
          rw [e0] at hnx
          have hcA := hc.alloc (.cells (madeCells #[.int .i64 0] (i + 2)) 3)
          have hrtA := hrt.alloc (.cells (madeCells #[.int .i64 0] (i + 2)) 3)
          have hrA := hr.below (w' := wr.alloc (.cells (madeCells #[.int .i64 0] (i + 2)) 3)) ((Below.refl _ _).alloc (Nat.le_refl _) _)
          have hoA := ho.alloc (.cells (madeCells #[.int .i64 0] (i + 2)) 3)
          have hszA : G ≤ (wr.alloc (.cells (madeCells #[.int .i64 0] (i + 2)) 3)).heap.size := by simp; omega
          have hgcn : gc < wr.heap.size := hc.slice_lt.2.1
          have hgrn : gr < wr.heap.size := hrt.slice_lt.2.1
          have HNx := Lib.hid hnx
          have HC := Lib.hid hcA
          have HT := Lib.hid hrtA
          have HR := Lib.hid hrA
          have HO := Lib.hid hoA
          clear hjunk hcells hnx e0 hcA hrtA hrA hoA hc hrt hr ho hgr
          generalize hC : cprod mul ((rootsL k 13).take i) = C at *
          have HCC := Lib.hid hC
          clear hC
          generalize hx : co (rootsL k 13) i = x at *
          have HX := Lib.hid hx
          clear hx
          go_wp2_with fail
          clear hmk
          generalize wr.alloc _ = wb at *
          generalize hgn : wr.heap.size = gn at *
          have hgn' : G ≤ gn := by omega
          clear hgn hcell hsz
          go_loopw [44] (fun jv wq => ∃ (j : Nat) (p : Int), j ≤ i + 1 ∧ jv = .int .i64 j ∧ Own wq G 3 (.slice (some ⟨gn, 0, none⟩) (i + 2) (i + 2)) (fis (nextN mul C x j)) ∧ Own wq G 3 (.slice (some ⟨gc, 0, none⟩) (i + 1) cc) (fis C) ∧ Own wq G 3 (.slice (some ⟨gr, 0, none⟩) 13 cr) (fis (rootsL k 13)) ∧ FldR wq b t ch d m p dg low E L ∧ Only b w wq ∧ G ≤ wq.heap.size) (fun jv _ => i + 1 - (intOf jv).toNat)
          case atStart => exact ⟨0, _, by omega, rfl, HNx.out, HC.out, HT.out, HR.out, HO.out, hszA⟩
          case round =>
            obtain ⟨j, p, hj, rfl, hn, hc, hrt, hr, ho, hsz⟩ := hrel
            clear HNx HC HT HR HO hszA
            by_cases hlj : j < i + 1
            · have hcl := HCl.out
              have hnl := nextN_length mul C x j
              obtain ⟨hcc, _⟩ := hc.get (fis_at (l := C) (j := j) (by omega))
              obtain ⟨hn1, hz1⟩ := hn.get (fis_at (l := nextN mul C x j) (j := j + 1) (by omega))
              have hjl : ((j : Int)) < (i : Int) + 1 := by omega
              have k1 : ((j : Int) + 1).toNat = j + 1 := by omega
              have hput := hn.put (by rw [fis_length, hnl, hcl]) (j + 1) (.int .i64 (fi (co (nextN mul C x j) (j + 1) ^^^ co C j)))
              rw [fis_set] at hput
              have HXo := Lib.hid (fi_xor (co (nextN mul C x j) (j + 1)) (co C j))
              have HP := Lib.hid hput
              have HC := Lib.hid (hc.far (p := ⟨gn, j + 1, none⟩) (by simp only [Value.ownBlock]; intro h; simp at h; omega) (.int .i64 (fi (co (nextN mul C x j) (j + 1) ^^^ co C j))))
              have HT := Lib.hid (hrt.far (p := ⟨gn, j + 1, none⟩) (by simp only [Value.ownBlock]; intro h; simp at h; omega) (.int .i64 (fi (co (nextN mul C x j) (j + 1) ^^^ co C j))))
              have HR := Lib.hid (hr.far (a := ⟨gn, j + 1, none⟩) (by simp only; omega) (by simp only; omega) (by simp only; omega) (.int .i64 (fi (co (nextN mul C x j) (j + 1) ^^^ co C j))))
              have HO := Lib.hid (ho.put (p := ⟨gn, j + 1, none⟩) (.inr (by simp only; omega)) (.int .i64 (fi (co (nextN mul C x j) (j + 1) ^^^ co C j))))
              have hszP : G ≤ (wr.setCell ⟨gn, j + 1, none⟩ (.int .i64 (fi (co (nextN mul C x j) (j + 1) ^^^ co C j)))).heap.size := by simpa using hsz
              have hN1l : ((nextN mul C x j).set (j + 1) (co (nextN mul C x j) (j + 1) ^^^ co C j)).length = i + 2 := by rw [List.length_set, hnl, hcl]
              have hNs : nextN mul C x (j + 1) = ((nextN mul C x j).set (j + 1) (co (nextN mul C x j) (j + 1) ^^^ co C j)).set j (co ((nextN mul C x j).set (j + 1) (co (nextN mul C x j) (j + 1) ^^^ co C j)) j ^^^ mul (co C j) x) := rfl
              have HNs := Lib.hid hNs
              have HN1l := Lib.hid hN1l
              clear hcl hnl hput hn hc hrt hr ho hsz hNs hN1l
              generalize co C j = y at *
              generalize (nextN mul C x j).set (j + 1) (co (nextN mul C x j) (j + 1) ^^^ y) = N1 at *
              generalize co (nextN mul C x j) (j + 1) = z at *
              go_wp2_with fail
              rw [HXo.out]
              generalize World.setCell wr _ _ = w1 at *
              clear hcc hn1 hz1
              obtain ⟨hn1, hz1⟩ := HP.out.get (fis_at (l := N1) (j := j) (by have := HN1l.out; omega))
              clear hnot hlt hjl k1
              have HM := Lib.hid (fun w h => mul_any y x (b := b) (t := t) (ch := ch) (d := d) (m := m) (dg := dg) (low := low) w h)
              have hgb : gn ≠ b := by omega
              have hglt : gn < w1.drew.heap.size := HP.out.slice_lt.2.1
              have k0 : (0 : Int) ≤ j := by omega
              have k2 : (j : Int) < (i : Int) + 2 := by omega
              go_region_with (go_at_call 30; refine (HM.out _ (.inr ⟨_, E, L, HR.out.drew⟩)).mono ?_; rintro e w2 ⟨rfl, hP2⟩; have hn2 := hP2.only.cellOf hgb hn1; have hz2 := hP2.only.freeOf (j := j) hgb hglt hz1; have HP2 := Lib.hid hP2; clear hP2)
              all_goals
                rw [fi_xor]
                obtain ⟨p', hr5⟩ := HP2.out.rdy HR.out.drew
                have ho5 := (HO.out.drew).trans HP2.out.only
                have hn5 := (HP.out.drew).other HP2.out.only (HP.out.neb hb1)
                have hc5 := (HC.out.drew).other HP2.out.only (HC.out.neb hb1)
                have ht5 := (HT.out.drew).other HP2.out.only (HT.out.neb hb1)
                have hsz5 : G ≤ w2.heap.size := Nat.le_trans hszP HP2.out.only.size
                have hn6 := hn5.put (by rw [fis_length, HN1l.out]) j (.int .i64 (fi (co N1 j ^^^ mul y x)))
                rw [fis_set, ← HNs.out] at hn6
                have HN6 := Lib.hid hn6
                have HC6 := Lib.hid (hc5.far (p := ⟨gn, j, none⟩) (by simp only [Value.ownBlock]; intro h; simp at h; omega) (.int .i64 (fi (co N1 j ^^^ mul y x))))
                have HT6 := Lib.hid (ht5.far (p := ⟨gn, j, none⟩) (by simp only [Value.ownBlock]; intro h; simp at h; omega) (.int .i64 (fi (co N1 j ^^^ mul y x))))
                have HR6 := Lib.hid (hr5.far (a := ⟨gn, j, none⟩) (by simp only; omega) (by simp only; omega) (by simp only; omega) (.int .i64 (fi (co N1 j ^^^ mul y x))))
                have HO6 := Lib.hid (ho5.put (p := ⟨gn, j, none⟩) (.inr (by simp only; omega)) (.int .i64 (fi (co N1 j ^^^ mul y x))))
                have HS6 : Hid (G ≤ (w2.setCell ⟨gn, j, none⟩ (.int .i64 (fi (co N1 j ^^^ mul y x)))).heap.size) := by show G ≤ (w2.setCell ⟨gn, j, none⟩ (.int .i64 (fi (co N1 j ^^^ mul y x)))).heap.size; simpa using hsz5
                clear hr5 ho5 hn5 hc5 ht5 hn6 hn1 hz1 hn2 hz2 HP2 HP HC HT HR HO hszP hsz5 HNs HN1l HM HXo hglt
                generalize World.setCell w2 _ _ = w6 at *
                go_wp2_with fail
                go_roundw
                case rel => exact ⟨j + 1, p', by omega, by go_num, HN6.out, HC6.out, HT6.out, HR6.out, HO6.out, HS6.out⟩
                case measure => simp [intOf]; omega
            · obtain rfl : j = i + 1 := by omega
              rw [← HSn.out] at hn
              have HN := Lib.hid hn
              have HT := Lib.hid hrt
              have HR := Lib.hid hr
              have HO := Lib.hid ho
              have HS := Lib.hid hsz
              clear hn hc hrt hr ho hsz HSn HCC HX HCl
              go_wp2_with fail
              go_roundw
              case rel => exact ⟨i + 1, gn, i + 2, p, by omega, by go_num, rfl, HN.out, HT.out, HR.out, HO.out, HS.out⟩
              case measure => simp [intOf]; omega
        · obtain rfl : i = 13 := by omega
          simp only [Nat.reduceAdd] at hc ⊢
          rw [show ((13 : Nat) : Int) = 13 from rfl]
          have e13 : (rootsL k 13).take 13 = rootsL k 13 := List.take_of_length_le (by rw [rootsL_length]; omega)
          rw [e13] at hc
          have hml : minimalL k = expN (cprod mul (rootsL k 13)) (cprod mul (rootsL k 13)).length := rfl
          have hcl : (cprod mul (rootsL k 13)).length = 14 := by rw [cprod_length, rootsL_length]
          rw [hcl] at hml
          have HML := Lib.hid hml
          have HCL := Lib.hid hcl
          have HC := Lib.hid hc
          have HR := Lib.hid hr
          have HO := Lib.hid ho
          clear hc hr ho hrt e13 hml hcl HK
          generalize cprod mul (rootsL k 13) = C at *
          go_wp2_with fail
          go_loopw [13, 14] (fun v iv wr => ∃ (j : Int) (l : List Nat) (p : Int), -1 ≤ j ∧ j ≤ 13 ∧ iv = .int .i64 j ∧ Own wr G 3 v (i64s l) ∧ v.ownBlock ≠ some gc ∧ l ++ expN C (j + 1).toNat = expN C 14 ∧ Own wr G 3 (.slice (some ⟨gc, 0, none⟩) 14 cc) (fis C) ∧ FldR wr b t ch d m p dg low E L ∧ Only b w wr ∧ G ≤ wr.heap.size) (fun _ iv _ => (intOf iv + 1).toNat)
          case atStart => exact ⟨13, [], p, by omega, by omega, rfl, Own.nil _ _ _, (by simp [Value.ownBlock]), rfl, HC.out, HR.out, HO.out, hsz⟩
          case round =>
            obtain ⟨j, l, p, hj1, hj2, rfl, hl, hne, he, hc, hr, ho, hsz⟩ := hrel
            have HNe := Lib.hid hne
            clear hne
            clear HC HR HO
            have HL := Lib.hid hl
            have HC := Lib.hid hc
            have HR := Lib.hid hr
            have HO := Lib.hid ho
            clear hl hr ho
            by_cases hlj : 0 ≤ j
            · obtain ⟨i, rfl⟩ := Int.eq_ofNat_of_zero_le hlj
              have hi13 : i < 14 := by omega
              obtain ⟨hcc, _⟩ := hc.get (fis_at (l := C) (j := i) (by have := HCL.out; omega))
              have he' : l ++ (if co C i = 1#13 then i :: expN C i else expN C i) = expN C 14 := by
                rw [← he, show ((i : Int) + 1).toNat = i + 1 by omega]; rfl
              have h1 := fi_one (x := co C i)
              have hll : l.length ≤ 14 := by
                have h2 := congrArg List.length he
                have h3 := expN_le C 14
                simp only [List.length_append] at h2
                omega
              have b2 : (i : Int) < 13 + 1 := by omega
              clear hc he
              generalize co C i = x at *
              by_cases hx : x = 1#13
              · rw [if_pos hx] at he'
                rw [decide_eq_true hx] at h1
                have he2 : (l ++ [i]) ++ expN C i = expN C 14 := by rw [← he']; simp
                have HE := Lib.hid he2
                have HX := Lib.hid hx
                clear he' he2 hx
                go_wp2_with (at_builtin; refine append1 G rfl (.tmp 82) (.tmp 84) 72 3 (.int .i64 0) 8 rfl Try.underlying72 (by kernel_rfl) rfl (by decide) u13 (i64s l) _ rfl rfl rfl HL.out (Below.refl G _) hsz (by rw [i64s_length]; omega) ?_; intro v3 w3 hown3 hbel3 hg3 hat; have hne3 : v3.ownBlock ≠ some gc := (fun e => by rcases hat with hh | ⟨q, hq, hle⟩; exact HNe.out (hh ▸ e); rw [hq] at e; injection e with e; have := HC.out.slice_lt.2.1; omega); have HNe3 := Lib.hid hne3; clear hne3 hat hbel3)
                have hr3 := HR.out.grown hg3 (fun e => HL.out.neb hb1 e.symm) (fun e => HL.out.neb hE1 e.symm) (fun e => HL.out.neb hL1 e.symm)
                have ho3 := HO.out.grownBy hg3 (fun k hk => .inr (by have := (HL.out.below_B k hk).1; omega))
                have hsz3 : G ≤ w3.heap.size := Nat.le_trans hsz hg3.size
                have hc3 := HC.out.keep hg3 (.inr (fun e => HNe.out e.symm))
                rw [i64s_snoc] at hown3
                have HR3 := Lib.hid hr3
                have HO3 := Lib.hid ho3
                have HC3 := Lib.hid hc3
                have HL3 := Lib.hid hown3
                clear hr3 ho3 hc3 hown3 hg3 HR HO HC HL
                go_wp2_with fail
                go_roundw
                case rel => exact ⟨(i : Int) - 1, l ++ [i], p, by omega, by omega, rfl, HL3.out, HNe3.out, by rw [show ((i : Int) - 1 + 1).toNat = i by omega]; exact HE.out, HC3.out, HR3.out, HO3.out, hsz3⟩
                case measure => simp only [intOf]; omega
              · rw [if_neg hx] at he'
                rw [decide_eq_false hx] at h1
                have HE := Lib.hid he'
                have HX := Lib.hid hx
                clear he' hx
                go_wp2_with fail
                go_roundw
                case rel => exact ⟨(i : Int) - 1, l, p, by omega, by omega, rfl, HL.out, HNe.out, by rw [show ((i : Int) - 1 + 1).toNat = i by omega]; exact HE.out, HC.out, HR.out, HO.out, hsz⟩
                case measure => simp only [intOf]; omega
            · obtain rfl : j = -1 := by omega
              have hle : l = expN C 14 := by simpa [expN] using he
              have HE := Lib.hid hle
              clear hle he hc
              go_wp2_with fail
              go_ret
              refine ⟨_, rfl, ?_, ?_⟩
              · rw [HML.out, ← HE.out]; exact HL.out.lower hw1
              · exact ⟨HO.out, p, E, L, HR.out, HU.out⟩
end Go.Proofs.Ytfhefcpkknidcaa
/- The product of two polynomials, walked. -/
namespace Go.Proofs.Ytfhefcpkknidcaa
open Go.RowKit

def MulMade (l : List Nat) (w : World) (e : Ending) (w' : World) : Prop := ∃ v, e = .returned (.tuple #[v, .bool true]) ∧ Own w' w.heap.size 3 v (i64s l) ∧ Below w.heap.size w w'
def mulF (y : List Nat) (p : List Nat) : List Nat := p.foldl (fun r e => addR r y e) (List.replicate 258 0)
theorem addR_ok {r o : List Nat} (up : Nat) (hr : W64 r) (ho : W64 o) : W64 (addR r o up) ∧ (addR r o up).length = r.length := addN_ok up hr ho _
theorem mulF_ok {y : List Nat} (hy : W64 y) (p : List Nat) : W64 (mulF y p) ∧ (mulF y p).length = 258 := by
  have : ∀ (p r : List Nat), W64 r → W64 (p.foldl (fun r e => addR r y e) r) ∧ (p.foldl (fun r e => addR r y e) r).length = r.length := by
    intro p
    induction p with
    | nil => intro r h; exact ⟨h, rfl⟩
    | cons e p ih =>
      intro r h
      obtain ⟨a, b⟩ := addR_ok e h hy
      obtain ⟨a', b'⟩ := ih _ a
      exact ⟨a', by rw [List.foldl_cons, b', b]⟩
  obtain ⟨a, b⟩ := this p _ (W64.zeros 258)
  exact ⟨a, by rw [mulF, b, List.length_replicate]⟩
theorem mulF_snoc (y p : List Nat) (k : Nat) (h : k < p.length) : mulF y (p.take (k + 1)) = addR (mulF y (p.take k)) y p[k] := by
  rw [List.take_succ_eq_append_getElem h, mulF, List.foldl_append]; rfl

set_option maxRecDepth 100000 in
set_option maxHeartbeats 1600000 in
theorem mul_polys (a b : List Nat) (ha : ∀ e ∈ a, e ≤ 16384) (hb : ∀ e ∈ b, e ≤ 16384) (m n : Nat) (hm : degR (rowR a) = m) (hn : degR (rowR b) = n) (hmn : m + n ≤ 16384) (hfit : ∀ e ∈ polyR (rowR a), e + n ≤ 16384)
    {B B' : Nat} {va vb : Value} (w : World) (h : Own w B 3 va (i64s a)) (h' : Own w B' 3 vb (i64s b)) :
    Calls Try.prog 44 #[va, vb] w (MulMade (mulR a b) w) := by
  have HA := Lib.hid (rowOf_any a ha w h)
  have hm258 : ∀ W : World, (Instr.makeSlice 102 (.int .i64 258) (.int .i64 258)).run Try.prog W = .ok (.slice (some ⟨W.heap.size, 0, none⟩) 258 258) (W.alloc (.cells (madeCells #[.int .u64 0] 258) 114)) := fun W => mk102 258 (by omega) W
  have H' := Lib.hid h'
  have Hm := Lib.hid hm
  have Hn := Lib.hid hn
  clear h h' ha hm hn
  have q1 : (n : Int).tdiv 64 = ((n / 64 : Nat) : Int) := by rw [Int.tdiv_eq_ediv_of_nonneg (by omega)]; omega
  have q2 : ((n / 64 : Nat) : Int) ≤ 256 := by omega
  obtain ⟨xr1, xr2⟩ := rowR_ok a
  obtain ⟨yr1, yr2⟩ := rowR_ok b
  have hMul : mulR a b = polyR (mulF ((rowR b).take (n / 64 + 1)) (polyR (rowR a))) := by
    unfold mulR mulF; rw [Hn.out]; rfl
  have HMul := Lib.hid hMul
  have HX2 := Lib.hid xr2
  have HY2 := Lib.hid yr2
  clear hMul xr2 yr2
  generalize hG : w.heap.size = G at *
  have HG := Lib.hid hG
  clear hG
  go_enter Try.func44, Try.ntmps44
  go_wp2_with fail
  refine HA.out.mono ?_
  rintro e w1 ⟨g1, rfl, hx, hb1⟩
  rw [HG.out] at hx hb1
  have HBc := Lib.hid (rowOf_any b hb w1 (H'.out.below (by rw [HG.out]; exact hb1)))
  have HX := Lib.hid hx
  have HB1 := Lib.hid hb1
  clear hx hb1 hb HA
  go_wp2_with fail
  refine HBc.out.mono ?_
  rintro e w2 ⟨g2, rfl, hy, hb2⟩
  have hs1 : G ≤ w1.heap.size := by have := HB1.out.size; have := HG.out; omega
  have hx2 := HX.out.below hb2
  have hlx := hx2.slice_lt.2.1
  have hly := hy.slice_lt.2.1
  have hgne : g2 ≠ g1 := by have := HX.out.slice_lt.2.1; have := hy.slice_lt.1; omega
  have hbel2 : Below G w w2 := HB1.out.trans (hb2.mono hs1)
  have HXw := Lib.hid hx2
  have HYw := Lib.hid (hy.lower hs1)
  have HBel := Lib.hid hbel2
  have hs2 : w1.heap.size ≤ w2.heap.size := hb2.size
  have D1 := Lib.hid (degree_any (rowR a) xr1 (by have := HX2.out; omega) w2 (c := 257) (by rw [HX2.out]; exact HXw.out))
  have D2 := Lib.hid (degree_any (rowR b) yr1 (by have := HY2.out; omega) w2 (c := 257) (by rw [HY2.out]; exact HYw.out))
  have P1 := Lib.hid (fun w (h : Own w G 114 (.slice (some ⟨g1, 0, none⟩) 257 257) (u64s (rowR a))) => poly_any (rowR a) xr1 (by have := HX2.out; omega) w (c := 257) (by rw [HX2.out]; exact h))
  rw [HX2.out, Hm.out] at D1
  rw [HY2.out, Hn.out] at D2
  rw [HX2.out] at P1
  clear hx2 hy hbel2 hb2 HX HB1 HBc
  go_wp2_with fail
  refine D1.out.mono ?_
  rintro e w' ⟨rfl, rfl⟩
  go_wp2_with fail
  refine D2.out.mono ?_
  rintro e w'' ⟨rfl, rfl⟩
  clear D1 D2
  have b1 : ¬ ((m : Int) < 0) := by omega
  have b2 : ¬ ((n : Int) < 0) := by omega
  have b3 : ¬ ((16384 : Int) < (m : Int) + n) := by omega
  go_wp2_with fail
  have hout0 := Own.made w2 G 114 (.int .u64 0) 258 (by omega) (by omega)
  have e0 : List.replicate 258 (Value.int .u64 0) = u64s (mulF ((rowR b).take (n / 64 + 1)) ((polyR (rowR a)).take 0)) := by
    unfold u64s mulF; rw [List.take_zero, List.foldl_nil, List.map_replicate]; rfl
  rw [e0] at hout0
  have hb3' : Below G w (w2.alloc (.cells (madeCells #[.int .u64 0] 258) 114)) := HBel.out.alloc (by omega) _
  have hx3 := HXw.out.alloc (.cells (madeCells #[.int .u64 0] 258) 114)
  have hy3 := HYw.out.alloc (.cells (madeCells #[.int .u64 0] 258) 114)
  have hg3 : g2 ≠ w2.heap.size := by omega
  have hG3 : G ≤ w2.heap.size := by omega
  have hsz3 : w2.heap.size < (w2.alloc (.cells (madeCells #[.int .u64 0] 258) 114)).heap.size := by simp
  clear e0 HXw HYw HBel hm258 hlx hly hgne hs1 hs2 b1 b2 b3
  generalize w2.alloc _ = w3 at *
  generalize w2.heap.size = g3 at *
  refine (P1.out w3 hx3).mono ?_
  rintro e w4 ⟨vl, rfl, hL, hb4⟩
  clear P1 hx3
  have hO := Lib.hid (hout0.below hb4)
  have hY := Lib.hid (hy3.below hb4)
  have hB := Lib.hid (hb3'.trans (hb4.mono (by omega)))
  have hLo := hL.lower (B' := G) (by omega)
  have hLblk : ∀ k, vl.ownBlock = some k → w3.heap.size ≤ k := fun k hk => (hL.below_B k hk).1
  have hLne : vl.ownBlock ≠ some g3 := fun e => by have := hLblk g3 e; omega
  have hLl := hL.len
  obtain ⟨a', c', rfl, _⟩ := hL.form
  have hsz4 : w3.heap.size ≤ w4.heap.size := hb4.size
  rw [i64s_length] at *
  have HLne := Lib.hid hLne
  have HLo := Lib.hid hLo
  have hyok : W64 ((rowR b).take (n / 64 + 1)) := fun x hx => yr1 x (List.mem_of_mem_take hx)
  have HYl : Hid (((rowR b).take (n / 64 + 1)).length = n / 64 + 1) := by show ((rowR b).take (n / 64 + 1)).length = n / 64 + 1; have := HY2.out; rw [List.length_take]; omega
  have Hfit := Lib.hid hfit
  clear hL hb4 hLne hLo hLblk hout0 hy3 hb3' xr1 HX2 hfit H' Hm
  generalize hPL : polyR (rowR a) = L at *
  have HPL := Lib.hid hPL
  generalize hyT : (rowR b).take (n / 64 + 1) = yT at *
  have HyT := Lib.hid hyT
  clear hPL hyT
  generalize hLL : L.length = nl at *
  have HLL := Lib.hid hLL
  clear hLL
  have d1 : ((n / 64 : Nat) : Int) + 1 ≤ 257 := by omega
  generalize hdn : n / 64 = dn at *
  have Hdn := Lib.hid hdn
  clear hdn
  go_wp2_with fail
  go_loopw [38] (fun i wr => ∃ k : Nat, k ≤ nl ∧ i = .int .i64 k ∧ Own wr G 114 (.slice (some ⟨g3, 0, none⟩) 258 258) (u64s (mulF yT (L.take k))) ∧ Own wr G 114 (.slice (some ⟨g2, 0, none⟩) 257 257) (u64s (rowR b)) ∧ Own wr G 3 (.slice a' nl c') (i64s L) ∧ Below G w wr) (fun i _ => nl - (intOf i).toNat)
  case atStart => exact ⟨0, Nat.zero_le _, rfl, hO.out, hY.out, HLo.out, hB.out⟩
  case round =>
    obtain ⟨k, hk, rfl, ho, hy, hl, hbw⟩ := hrel
    clear hO hY HLo hB
    by_cases hlt : k < nl
    · have hkx : k < L.length := by have := HLL.out; omega
      obtain ⟨a2, c2, he2, hcells⟩ := hl.form
      obtain ⟨gl, ha2, _, _, hcell, _⟩ := hcells k _ (i64s_at hkx)
      subst ha2
      simp only [Value.slice.injEq] at he2
      obtain ⟨rfl, hjunk, rfl⟩ := he2
      clear hjunk
      have hfe := Hfit.out L[k] (List.getElem_mem _)
      have hsn := mulF_snoc yT L k hkx
      obtain ⟨mok1, mok2⟩ := mulF_ok hyok (L.take k)
      have hyt := hy.take (m := dn + 1) (by rw [u64s_length]; have := HY2.out; omega)
      have e5 : (u64s (rowR b)).take (dn + 1) = u64s yT := by rw [← HyT.out]; unfold u64s; rw [List.map_take]
      rw [e5] at hyt
      have HAdd := Lib.hid (rowadd_any (mulF yT (L.take k)) yT L[k] mok1 hyok (by omega) (by omega) (by intro i hi; have := HYl.out; have := Hdn.out; omega) wr (n := 258) (m := dn + 1) mok2.symm HYl.out.symm hg3 ho hyt)
      rw [← hsn] at HAdd
      have HY := Lib.hid hy
      have HL := Lib.hid hl
      have HBw := Lib.hid hbw
      have hlne : (Value.slice (some ⟨gl, 0, none⟩) nl c').ownBlock ≠ some g3 := HLne.out
      have HLn := Lib.hid hlne
      clear hcells ho hy hl hbw hsn mok1 mok2 hyt e5 hfe hlne
      generalize L[k] = e at *
      go_wp2_with fail
      refine HAdd.out.mono ?_
      rintro e' w5 ⟨rfl, hr', hon⟩
      have HR := Lib.hid hr'
      have HN := Lib.hid hon
      clear hr' hon
      go_wp2_with fail
      go_roundw
      case rel =>
        refine ⟨k + 1, by omega, by go_num, HR.out, HY.out.other HN.out ?_, HL.out.other HN.out HLn.out, Only.below_B HBw.out HN.out hG3 ?_⟩
        · simp only [Value.ownBlock]; intro h; exact hg3 (by simpa using h)
        · have := HBw.out.size; have := HG.out; omega
      case measure => simp [intOf]; omega
    · obtain rfl : k = nl := by omega
      have e1 : L.take k = L := List.take_of_length_le (by have := HLL.out; omega)
      rw [e1] at ho
      obtain ⟨mok1, mok2⟩ := mulF_ok hyok L
      have HP := Lib.hid (poly_any (mulF yT L) mok1 (by omega) wr (c := 258) (by rw [mok2]; exact ho))
      rw [mok2] at HP
      have HBw := Lib.hid hbw
      clear ho hy hl hbw e1 mok1 mok2
      go_wp2_with fail
      refine HP.out.mono ?_
      rintro e w6 ⟨v, rfl, hv, hb6⟩
      have HV := Lib.hid hv
      have HB6 := Lib.hid hb6
      clear hv hb6
      have hsz : G ≤ wr.heap.size := by have := HBw.out.size; have := HG.out; omega
      go_wp2_with fail
      go_ret2
      refine ⟨v, rfl, ?_, ?_⟩
      · rw [HG.out, HMul.out]; exact HV.out.lower hsz
      · rw [HG.out]; exact HBw.out.trans (HB6.out.mono hsz)
end Go.Proofs.Ytfhefcpkknidcaa
/- The generator polynomial, walked. -/
namespace Go.Proofs.Ytfhefcpkknidcaa
open Go.RowKit Gf

theorem Own.neT {w : World} {B B' : Nat} {T T' : TypeId} {v v' : Value} {xs xs' : List Value} (h : Own w B T v xs) (h' : Own w B' T' v' xs') (hT : T ≠ T') : v.ownBlock = none ∨ v.ownBlock ≠ v'.ownBlock := by
  rcases h.2 with ⟨rfl, _⟩ | ⟨g, cap, cur, rfl, _, hh, _⟩
  · exact .inl (by simp [Value.ownBlock])
  · refine .inr fun hk => ?_
    rcases h'.2 with ⟨rfl, _⟩ | ⟨g', cap', cur', rfl, _, hh', _⟩
    · simp [Value.ownBlock] at hk
    · have : g = g' := by simpa [Value.ownBlock] using hk
      subst this
      rw [hh] at hh'
      injection hh' with hb
      injection hb with _ e
      exact hT e
theorem i64s_ints (l : List Nat) : i64s l = (l.map fun n : Nat => (n : Int)).map (.int .i64 ·) := by simp [i64s]
theorem ints_inj {l l' : List Nat} (h : l ≠ l') : (l.map fun n : Nat => (n : Int)) ≠ l'.map fun n : Nat => (n : Int) := by
  intro e
  apply h
  have := congrArg (List.map Int.toNat) e
  simpa [Function.comp_def] using this
def FldK (b : Nat) (t ch d m dg : Int) (low : Value) (w : World) : Prop := ∃ p E L, FldR w b t ch d m p dg low E L
/-- As FldP, where the tables may not have been made yet. -/
structure FldH (b : Nat) (t ch d m dg : Int) (low : Value) (w w' : World) : Prop where
  only : Only b w w'
  fld : FldS w' b t ch d m dg low
  same : ∀ p0 E0 L0, FldR w b t ch d m p0 dg low E0 L0 → ∃ p, FldR w' b t ch d m p dg low E0 L0
theorem FldH.refl {b : Nat} {t ch d m dg : Int} {low : Value} {w : World} (h : FldS w b t ch d m dg low) : FldH b t ch d m dg low w w := ⟨Only.refl _ _, h, fun p0 _ _ h => ⟨p0, h⟩⟩
theorem FldH.of {b : Nat} {t ch d m dg : Int} {low : Value} {w w' : World} (h : FldP b t ch d m dg low w w') : FldH b t ch d m dg low w w' := ⟨h.only, h.fld, fun _ _ _ h0 => h.rdy h0⟩
theorem FldH.trans {b : Nat} {t ch d m dg : Int} {low : Value} {w w1 w2 : World} (h : FldH b t ch d m dg low w w1) (k : FldH b t ch d m dg low w1 w2) : FldH b t ch d m dg low w w2 :=
  ⟨h.only.trans k.only, k.fld, fun p0 E0 L0 h0 => by obtain ⟨p, h1⟩ := h.same p0 E0 L0 h0; exact k.same p E0 L0 h1⟩
theorem FldS.grown {w w' : World} {b : Nat} {t ch d m dg : Int} {low : Value} {row : Option Nat} (h : FldS w b t ch d m dg low) (hg : w.grownBy w' row) (hr : ∀ k, row = some k → w.heap.size ≤ k) : FldS w' b t ch d m dg low := by
  refine h.below ⟨hg.os, hg.tape, hg.output, hg.size, fun k hk => hg.block k hk fun e => ?_⟩
  have := hr k e.symm
  omega
theorem FldR.back {w : World} {b : Nat} {t ch d m p dg : Int} {low : Value} {E L : Nat} (h : FldR w b t ch d m p dg low E L) : FldS w b t ch d m dg low := .inr ⟨p, E, L, h⟩
theorem FldH.done {b : Nat} {t ch d m dg : Int} {low : Value} {w w' : World} (h : FldH b t ch d m dg low w w') (k : FldK b t ch d m dg low w') : FldP b t ch d m dg low w w' := by
  obtain ⟨p, E, L, hr⟩ := k
  exact ⟨h.only, p, E, L, hr, fun p0 E0 L0 h0 => by obtain ⟨p', h1⟩ := h.same p0 E0 L0 h0; exact hr.same h1⟩
theorem FldP.known {b : Nat} {t ch d m dg : Int} {low : Value} {w w' : World} (h : FldP b t ch d m dg low w w') : FldK b t ch d m dg low w' := by
  obtain ⟨_, p, E, L, r, _⟩ := h
  exact ⟨p, E, L, r⟩
theorem FldH.below {b : Nat} {t ch d m dg : Int} {low : Value} {w w1 w2 : World} (h : FldH b t ch d m dg low w w1) (k : Below w1.heap.size w1 w2) : FldH b t ch d m dg low w w2 :=
  h.trans ⟨Only.of_below k, h.fld.below k, fun p0 _ _ h0 => ⟨p0, h0.below k⟩⟩
theorem FldK.below {b : Nat} {t ch d m dg : Int} {low : Value} {w1 w2 : World} (h : FldK b t ch d m dg low w1) (k : Below w1.heap.size w1 w2) : FldK b t ch d m dg low w2 := by
  obtain ⟨p, E, L, r⟩ := h
  exact ⟨p, E, L, r.below k⟩
/-- A row grows that lies apart from the code and from its tables. -/
theorem FldH.grow {b : Nat} {t ch d m dg : Int} {low : Value} {w0 w w' : World} {row : Option Nat} (h0 : FldH b t ch d m dg low w0 w) {p : Int} {E L : Nat} (h : FldR w b t ch d m p dg low E L) (hg : w.grownBy w' row) (h1 : some b ≠ row) (h2 : some E ≠ row) (h3 : some L ≠ row) (hr : ∀ k, row = some k → k = b ∨ w0.heap.size ≤ k) :
    FldH b t ch d m dg low w0 w' ∧ FldR w' b t ch d m p dg low E L := by
  have hR := h.grown hg h1 h2 h3
  refine ⟨⟨h0.only.grownBy hg hr, hR.back, fun p0 E0 L0 h4 => ?_⟩, hR⟩
  obtain ⟨p', h5⟩ := h0.same p0 E0 L0 h4
  obtain ⟨rfl, rfl⟩ := h.same h5
  exact ⟨p, hR⟩

/-- The polynomials seen: for each of them a row of its own. -/
def Seen (w : World) (G : Nat) (vs : List Value) (i : Nat) : Prop := ∀ (j : Nat) (x : Value), vs[j]? = some x → j < i ∧ Own w G 3 x (i64s (minT j))
theorem Seen.other {w w' : World} {G b : Nat} {vs : List Value} {i : Nat} (h : Seen w G vs i) (ho : Only b w w') (hb : b < G) : Seen w' G vs i := fun j x hx => ⟨(h j x hx).1, (h j x hx).2.other ho ((h j x hx).2.neb hb)⟩
theorem Seen.below {w w' : World} {G : Nat} {vs : List Value} {i : Nat} (h : Seen w G vs i) (hb : Below w.heap.size w w') : Seen w' G vs i := fun j x hx => ⟨(h j x hx).1, (h j x hx).2.below hb⟩
theorem Seen.alloc {w : World} {G : Nat} {vs : List Value} {i : Nat} (h : Seen w G vs i) (o : Obj) : Seen (w.alloc o) G vs i := h.below ((Below.refl _ _).alloc (Nat.le_refl _) _)
theorem Seen.grown {w w' : World} {G : Nat} {vs vs' : List Value} {i : Nat} {s : Value} (h : Seen w G vs i) (hs : Own w G 72 s vs') (hg : w.grownBy w' s.ownBlock) : Seen w' G vs i := fun j x hx => ⟨(h j x hx).1, (h j x hx).2.keep hg ((h j x hx).2.neT hs (by decide))⟩
theorem Seen.snoc {w : World} {G : Nat} {vs : List Value} {i : Nat} (h : Seen w G vs i) (hl : vs.length = i) {x : Value} (hx : Own w G 3 x (i64s (minT i))) : Seen w G (vs ++ [x]) (i + 1) := by
  intro j y hy
  by_cases hj : j < vs.length
  · rw [List.getElem?_append_left hj] at hy
    exact ⟨by omega, (h j y hy).2⟩
  · have h1 := (List.getElem?_eq_some_iff.1 hy).1
    simp at h1
    obtain rfl : j = vs.length := by omega
    simp at hy
    subst hy
    rw [hl]
    exact ⟨by omega, hx⟩
def GenMade (b : Nat) (t ch d m dg : Int) (low : Value) (l : List Nat) (w : World) (e : Ending) (w' : World) : Prop :=
  ∃ v, e = .returned (.tuple #[v, .bool true]) ∧ Own w' w.heap.size 3 v (i64s l) ∧ FldP b t ch d m dg low w w'

set_option maxRecDepth 100000 in
set_option maxHeartbeats 3200000 in
theorem generator_any (tt : Nat) (h1 : 1 ≤ tt) (h8 : tt ≤ 8) {b : Nat} {t ch d m dg : Int} {low : Value} (w : World) (h : FldS w b t ch d m dg low) (hb : b < w.heap.size) :
    Calls Try.prog 27 #[.pointer (some ⟨b, 5, none⟩), .int .i64 tt] w (GenMade b t ch d m dg low (genT tt) w) := by
  have hmf : ∀ (fn : Fn) (first cap : Array Value) (w : World), (Instr.makeFunc fn first cap).run Try.prog w = .ok (.func fn first cap) w := fun _ _ _ _ => rfl
  have hT1 : decide ((tt : Int) < 1) = false := decide_eq_false (by omega)
  have hT8 : decide ((tt : Int) > 8) = false := decide_eq_false (by omega)
  have hT2 : IntKind.i64.wrap (2 * (tt : Int)) = 2 * (tt : Int) := i64_in _ (by omega) (by omega)
  have H0 := Lib.hid (FldH.refl h)
  clear h
  generalize hG : w.heap.size = G at *
  have HG := Lib.hid hG
  clear hG
  have hg0 := Own.lit w G 3 #[.int .i64 0] (by rw [HG.out]; exact Nat.le_refl _) (by simp)
  have hg0' : Own (w.alloc (.cells #[.int .i64 0] 3)) G 3 (.slice (some ⟨w.heap.size, 0, none⟩) 1 1) (i64s (genT 0)) := hg0
  have HGen0 := Lib.hid hg0'
  have H1 := Lib.hid (H0.out.below (w2 := w.alloc (.cells #[.int .i64 0] 3)) ((Below.refl _ _).alloc (Nat.le_refl _) _))
  have hsz0 : G ≤ (w.alloc (.cells #[.int .i64 0] 3)).heap.size := by have := HG.out; simp; omega
  clear hg0 hg0' H0
  go_enter Try.func27, Try.ntmps27
  go_wp2_with fail
  generalize World.alloc w _ = wa at *
  go_loopw [6, 7, 8] (fun s g kv wr => ∃ (i k : Nat) (vs : List Value), k = 2 * i + 1 ∧ i ≤ tt ∧ kv = .int .i64 (k : Int) ∧ vs.length = i ∧ Own wr G 72 s vs ∧ Seen wr G vs i ∧ Own wr G 3 g (i64s (genT i)) ∧ FldH b t ch d m dg low w wr ∧ (1 ≤ i → FldK b t ch d m dg low wr) ∧ G ≤ wr.heap.size) (fun _ _ kv _ => 2 * tt + 1 - (intOf kv).toNat)
  case atStart => exact ⟨0, 1, [], rfl, by omega, rfl, rfl, Own.nil _ _ _, fun j x hx => by simp at hx, HGen0.out, H1.out, fun h => absurd h (by omega), hsz0⟩
  case round =>
    obtain ⟨i, k, vs, hk, hi, rfl, hvl, hs, hseen, hgen, hH, hK, hsz⟩ := hrel
    clear HGen0 H1 hsz0
    by_cases hlt : i < tt
    · have hdec : decide ((k : Int) < 2 * (tt : Int)) = true := decide_eq_true (by omega)
      have hklt : k < 2 * tt := by omega
      have HM0 := minimal_any k (by rw [hk]; exact odd_new i (by omega)) wr hH.fld
      rw [hk, min_eq i (by omega), ← hk] at HM0
      have HM := Lib.hid HM0
      have HS := Lib.hid hs
      have HSeen := Lib.hid hseen
      have HGen := Lib.hid hgen
      have HH := Lib.hid hH
      have HK := Lib.hid hk
      have HV := Lib.hid hvl
      clear HM0 hs hseen hgen hH hK hk hvl
      go_wp2_with fail
      refine HM.out.mono ?_
      rintro e w1 ⟨v, rfl, hmin, hP⟩
      have hs1 := HS.out.other hP.only (HS.out.neb hb)
      have hseen1 := HSeen.out.other hP.only hb
      have hgen1 := HGen.out.other hP.only (HGen.out.neb hb)
      have hH1 := HH.out.trans (FldH.of hP)
      obtain ⟨ho, p, E, L, hr, hjunk⟩ := hP
      clear hjunk
      have hmin1 := hmin.lower hsz
      have hsz1 : G ≤ w1.heap.size := Nat.le_trans hsz ho.size
      obtain ⟨ma, mc, rfl, hjunk⟩ := hmin1.form
      clear hjunk HM hmin
      generalize hml : (i64s (minT i)).length = ml at *
      have hbel := (Below.refl w1.heap.size w1).alloc (Nat.le_refl _) (.cells #[.slice ma ml mc] 72)
      have hR2 := hr.below hbel
      have hH2 := hH1.below hbel
      have hS2 := hs1.below hbel
      have hSeen2 := hseen1.below hbel
      have hGen2 := hgen1.below hbel
      have hMin2 := hmin1.below hbel
      have hq2 := (Blk.new w1 #[.slice ma ml mc] 72).cell (i := 0) (v := .slice ma ml mc) rfl
      have hz2 := (Blk.new w1 #[.slice ma ml mc] 72).free 0
      have hsz2 : G ≤ (w1.alloc (.cells #[.slice ma ml mc] 72)).heap.size := by simp; omega
      have hqS : u6.ownBlock ≠ some w1.heap.size := fun e => by have := (hs1.below_B _ e).2; omega
      have hMin2' := hMin2
      rw [i64s_ints] at hMin2'
      have hcf := containsFunc_none vs _ hq2 _ hMin2' hS2 (fun j x hx => ⟨_, by have := (hSeen2 j x hx).2; rw [i64s_ints] at this; exact this, ints_inj (min_differ ⟨i, by omega⟩ ⟨j, by have := (hSeen2 j x hx).1; omega⟩ (hSeen2 j x hx).1)⟩)
      have hnq : w1.heap.size < (w1.alloc (.cells #[.slice ma ml mc] 72)).heap.size := by simp
      have HC := Lib.hid hcf
      have HS2 := Lib.hid hS2
      have HSeen2 := Lib.hid hSeen2
      have HGen2 := Lib.hid hGen2
      have HH2 := Lib.hid hH2
      have HR2 := Lib.hid hR2
      have HMin2 := Lib.hid hMin2
      have HQS := Lib.hid hqS
      clear hs1 hseen1 hgen1 hH1 hr hmin1 ho HS HSeen HGen HH hbel hR2 hH2 hS2 hSeen2 hGen2 hMin2 hMin2' hcf hqS
      go_wp2_with fail
      generalize World.alloc w1 _ = w2 at *
      generalize w1.heap.size = q at *
      clear hsz hsz1
      refine HC.out.mono ?_
      rintro e w3 ⟨rfl, nd, rfl⟩
      have HS3 := Lib.hid (HS2.out.drewN nd)
      have HSeen3 := Lib.hid (HSeen2.out.below (below_drewN' (Below.refl _ _) nd))
      have HGen3 := Lib.hid (HGen2.out.drewN nd)
      have HMin3 := Lib.hid (HMin2.out.drewN nd)
      have HR3 := Lib.hid (HR2.out.below (below_drewN' (Below.refl _ _) nd))
      have HH3 := Lib.hid (HH2.out.below (below_drewN' (Below.refl _ _) nd))
      have hq3 : (w2.drewN nd).cell? ⟨q, 0, none⟩ = some (.slice ma ml mc) := hq2
      have hz3 : (w2.drewN nd).frozen? ⟨q, 0, none⟩ = false := hz2
      have hsz3 : G ≤ (w2.drewN nd).heap.size := hsz2
      have hnq3 : q < (w2.drewN nd).heap.size := hnq
      clear hq2 hz2 hsz2 hnq HS2 HSeen2 HGen2 HMin2 HR2 HH2 HC
      generalize w2.drewN nd = w3 at *
      go_wp2_with (at_builtin; refine append1 G rfl (.tmp 33) (.tmp 35) 85 72 (.slice none 0 0) 24 rfl Try.underlying85 (by kernel_rfl) rfl (by decide) u6 vs _ rfl rfl rfl HS3.out (Below.refl G _) hsz3 (by rw [HV.out]; omega) ?_; intro s4 w4 hown4 hbel4 hg4 hat; have hq4 : w4.cell? ⟨q, 0, none⟩ = some (.slice ma ml mc) := (by have hh := hg4.block q hnq3 (fun e => HQS.out e.symm); unfold World.cell? at *; simp only at *; rw [hh]; exact hq3); have HG4 := Lib.hid hg4; have HO4 := Lib.hid hown4; clear hat hbel4 hg4 hown4)
      have hb0 := HR3.out.lt
      have hH4 := HH3.out.grow HR3.out HG4.out (fun e => HS3.out.neb hb e.symm) (fun e => HS3.out.ne HR3.out.tabs.exp (by decide) e.symm) (fun e => HS3.out.ne HR3.out.tabs.log (by decide) e.symm) (fun k hk => .inr (by rw [HG.out]; exact (HS3.out.below_B k hk).1))
      have hMin4 := HMin3.out.keep HG4.out (HMin3.out.neT HS3.out (by decide))
      have hGen4 := HGen3.out.keep HG4.out (HGen3.out.neT HS3.out (by decide))
      have hSeen4 := (HSeen3.out.grown HS3.out HG4.out).snoc HV.out hMin4
      have hsz4 : G ≤ w4.heap.size := Nat.le_trans hsz3 HG4.out.size
      have hmul := mul_polys (genT i) (minT i) (fun e he => by have := gen_small ⟨i, by omega⟩ e he; omega) (fun e he => by have := min_small ⟨i, by omega⟩ e he; omega) (13 * i) 13 (gen_deg ⟨i, by omega⟩) (min_deg ⟨i, by omega⟩) (by omega) (fun e he => by have := gen_poly ⟨i, by omega⟩; simp only at this; rw [this] at he; have := gen_small ⟨i, by omega⟩ e he; omega) w4 hGen4 hMin4
      rw [gen_eq i (by omega)] at hmul
      have HMul := Lib.hid hmul
      have HSeen4 := Lib.hid hSeen4
      have HH4 := Lib.hid hH4.1
      have HR4 := Lib.hid hH4.2
      clear hH4 hMin4 hGen4 hSeen4 hmul HS3 HSeen3 HGen3 HMin3 HR3 HH3 HG4 hq3 hz3 hsz3 hnq3 HQS hb0
      go_wp2_with fail
      refine HMul.out.mono ?_
      rintro e w5 ⟨g5, rfl, hg5, hb5⟩
      have hS5 := HO4.out.below hb5
      have hSeen5 := HSeen4.out.below hb5
      have hH5 := HH4.out.below hb5
      have hR5 := HR4.out.below hb5
      have hsz5 : G ≤ w5.heap.size := Nat.le_trans hsz4 hb5.size
      have HS5 := Lib.hid hS5
      have HSeen5 := Lib.hid hSeen5
      have HH5 := Lib.hid hH5
      have HR5 := Lib.hid hR5
      have HG5 := Lib.hid (hg5.lower hsz4)
      have hkw : IntKind.i64.wrap ((k : Int) + 2) = (k : Int) + 2 := i64_in _ (by omega) (by have := HK.out; omega)
      clear hS5 hSeen5 hH5 hR5 hg5 hb5 HMul HSeen4 HH4 HR4 HO4
      go_wp2_with fail
      go_roundw
      case rel => exact ⟨i + 1, k + 2, _, by have := HK.out; omega, by omega, by simp, by rw [List.length_append, HV.out]; rfl, HS5.out, HSeen5.out, HG5.out, HH5.out, fun _ => ⟨_, E, L, HR5.out⟩, hsz5⟩
      case measure => simp only [intOf]; omega
    · have hdec : decide ((k : Int) < 2 * (tt : Int)) = false := decide_eq_false (by omega)
      obtain rfl : i = tt := by omega
      have HGen := Lib.hid hgen
      have HH := Lib.hid hH
      have HK := Lib.hid (hK h1)
      clear hs hseen hgen hH hK
      go_wp2_with fail
      go_ret2
      refine ⟨_, rfl, ?_, ?_⟩
      · rw [HG.out]; exact HGen.out
      · exact HH.out.done HK.out
end Go.Proofs.Ytfhefcpkknidcaa
/- Rows of bytes: the generator's low part, the shift, the remainder: plain lists. -/
namespace Go.Proofs.Ytfhefcpkknidcaa
open Go.RowKit Gf

def bys (l : List UInt8) : List Value := l.map fun x => .int .u8 (x.toNat : Int)
theorem bys_length (l : List UInt8) : (bys l).length = l.length := by simp [bys]
theorem bys_at {l : List UInt8} {j : Nat} (h : j < l.length) : (bys l)[j]? = some (.int .u8 ((l.getD j 0).toNat : Int)) := by simp [bys, h]
theorem bys_set (l : List UInt8) (j : Nat) (x : UInt8) : (bys l).set j (.int .u8 (x.toNat : Int)) = bys (l.set j x) := by simp [bys, List.map_set]
theorem bys_zeros (n : Nat) : List.replicate n (Value.int .u8 0) = bys (List.replicate n 0) := by unfold bys; rw [List.map_replicate]; rfl
theorem u8_orB (x y : UInt8) : Go.bits .or .u8 (x.toNat : Int) (y.toNat : Int) = ((x ||| y).toNat : Int) := by
  rw [u8_or_nat _ _ (by have := x.toNat_lt; omega) (by have := y.toNat_lt; omega), UInt8.toNat_or]
theorem u8_xorB (x y : UInt8) : Go.bits .xor .u8 (x.toNat : Int) (y.toNat : Int) = ((x ^^^ y).toNat : Int) := by
  rw [u8_xor_nat _ _ (by have := x.toNat_lt; omega) (by have := y.toNat_lt; omega), UInt8.toNat_xor]
/-- The byte in which bit k of a row stands alone. -/
def bit8 (k : Nat) : UInt8 := UInt8.ofNat (128 / 2 ^ (k % 8))
theorem bit8_nat (k : Nat) : (bit8 k).toNat = 128 / 2 ^ (k % 8) := by
  unfold bit8
  rw [UInt8.toNat_ofNat']
  apply Nat.mod_eq_of_lt
  have := Nat.div_le_self 128 (2 ^ (k % 8))
  omega
def setBit (l : List UInt8) (k : Nat) : List UInt8 := l.set (k / 8) (l.getD (k / 8) 0 ||| bit8 k)
/-- The generator without its highest term, as bytes. -/
def lowL (deg : Nat) (es : List Nat) : List UInt8 := es.foldl (fun l e => setBit l (deg - 1 - e)) (List.replicate ((deg + 7) / 8) 0)
theorem setBit_length (l : List UInt8) (k : Nat) : (setBit l k).length = l.length := by simp [setBit]
theorem lowL_length (deg : Nat) (es : List Nat) : (lowL deg es).length = (deg + 7) / 8 := by
  have : ∀ (es : List Nat) (l : List UInt8), (es.foldl (fun l e => setBit l (deg - 1 - e)) l).length = l.length := by
    intro es
    induction es with
    | nil => intro l; rfl
    | cons e es ih => intro l; rw [List.foldl_cons, ih, setBit_length]
  unfold lowL
  rw [this, List.length_replicate]
theorem lowL_snoc (deg : Nat) (es : List Nat) (k : Nat) (h : k < es.length) : lowL deg (es.take (k + 1)) = setBit (lowL deg (es.take k)) (deg - 1 - es[k]) := by
  rw [List.take_succ_eq_append_getElem h]
  unfold lowL
  rw [List.foldl_append]; rfl
def lowT (t : Nat) : List UInt8 := lowL (13 * t) (genT t).tail
theorem gen_tail : ∀ i : Fin 9, ∀ e ∈ (genT i.val).tail, e < 13 * i.val := by decide +kernel
theorem gen_len : ∀ i : Fin 9, (genT i.val).length ≤ 104 := by decide +kernel
end Go.Proofs.Ytfhefcpkknidcaa
/- The generator's low part is laid down once. -/
namespace Go.Proofs.Ytfhefcpkknidcaa
open Go.RowKit Gf

theorem FldS.drewN {w : World} {b : Nat} {t ch d m dg : Int} {low : Value} (h : FldS w b t ch d m dg low) (n : Nat) : FldS (w.drewN n) b t ch d m dg low := h.below (below_drewN' (Below.refl _ _) n)
theorem FldS.drew {w : World} {b : Nat} {t ch d m dg : Int} {low : Value} (h : FldS w b t ch d m dg low) : FldS w.drew b t ch d m dg low := by
  rcases h with ⟨ev, lv, p, h⟩ | ⟨p, E, L, h⟩
  · exact .inl ⟨ev, lv, p, h.drew⟩
  · exact .inr ⟨p, E, L, h.drew⟩
abbrev slB (g n : Nat) : Value := .slice (some ⟨g, 0, none⟩) n n
/-- What ready's function leaves, the mutex still held. -/
def LowMade (b : Nat) (tt : Nat) (ch d m : Int) (w w' : World) : Prop :=
  ∃ p E L Lw, FldR w' b tt ch d m p (13 * tt : Nat) (slB Lw ((13 * tt + 7) / 8)) E L ∧ Own w' w.heap.size 5 (slB Lw ((13 * tt + 7) / 8)) (bys (lowT tt)) ∧ Only b w w'

theorem mk40 (m : Nat) (hm : m ≤ 35184372088832) : ∀ W : World, (Instr.makeSlice 40 (.int .i64 (m : Int)) (.int .i64 (m : Int))).run Try.prog W = .ok (.slice (some ⟨W.heap.size, 0, none⟩) m m) (W.alloc (.cells (madeCells #[.int .u8 0] m) 5)) := by
  intro W
  exact run_make_row' 40 5 (.int .u8 0) 1 Try.underlying40 (by kernel_rfl) rfl .i64 .i64 m (by omega) (by omega) W
theorem gen_two : ∀ i : Fin 8, 2 ≤ (genT (i.val + 1)).length := by decide +kernel
theorem gen_cons (tt : Nat) (h1 : 1 ≤ tt) (h8 : tt ≤ 8) : ∃ es, genT tt = 13 * tt :: es ∧ lowT tt = lowL (13 * tt) es ∧ (∀ e ∈ es, e < 13 * tt) ∧ es.length ≤ 103 ∧ 1 ≤ es.length := by
  have h := gen_head ⟨tt, by omega⟩
  have h2 := gen_tail ⟨tt, by omega⟩
  have h3 := gen_len ⟨tt, by omega⟩
  have h4 := gen_two ⟨tt - 1, by omega⟩
  simp only [show tt - 1 + 1 = tt by omega] at h4
  simp only at h h2 h3
  unfold lowT
  cases hg : genT tt with
  | nil => rw [hg] at h; simp at h
  | cons x es =>
    rw [hg] at h h2 h3 h4
    simp at h
    subst h
    exact ⟨es, rfl, rfl, h2, by simp at h3; omega, by simp at h4; omega⟩

set_option maxRecDepth 100000 in
set_option maxHeartbeats 3200000 in
theorem ready1_any (tt : Nat) (h1 : 1 ≤ tt) (h8 : tt ≤ 8) {b q : Nat} {ch d m dg : Int} {low : Value} (w : World) (h : FldS w b tt ch d m dg low) (hb : b < w.heap.size) (hqb : q ≠ b) (hq : w.cell? ⟨q, 0, none⟩ = some (.pointer (some ⟨b, 0, none⟩))) :
    Calls Try.prog 26 #[.pointer (some ⟨q, 0, none⟩)] w fun e w' => e = .returned (.tuple #[]) ∧ LowMade b tt ch d m w w' := by
  have ht : w.cell? ⟨b, 0, none⟩ = some (.int .i64 tt) := by
    rcases h with ⟨ev, lv, p, h⟩ | ⟨p, E, L, h⟩
    · exact h.cell rfl
    · exact h.code.cell rfl
  have hqw0 : q < w.heap.size := World.block_lt_of_cell? w ⟨q, 0, none⟩ hq
  have HGn := Lib.hid (fun w h hb => generator_any tt h1 h8 (b := b) (t := tt) (ch := ch) (d := d) (m := m) (dg := dg) (low := low) w h hb)
  obtain ⟨es, hes, hlw, hsm, hel, hel1⟩ := gen_cons tt h1 h8
  rw [hes] at HGn
  unfold LowMade
  rw [hlw]
  have hD1 : 13 ≤ 13 * tt := by omega
  have hD2 : 13 * tt ≤ 104 := by omega
  clear hlw hes
  generalize 13 * tt = D at *
  have HQd : Hid (((D : Int) + 7).tdiv 8 = (((D + 7) / 8 : Nat) : Int)) := by show ((D : Int) + 7).tdiv 8 = (((D + 7) / 8 : Nat) : Int); rw [Int.tdiv_eq_ediv_of_nonneg (by omega)]; omega
  have hNn : (D + 7) / 8 ≤ 13 := by omega
  have HNd : Hid (8 * ((D + 7) / 8) ≤ D + 7 ∧ D ≤ 8 * ((D + 7) / 8)) := by show 8 * ((D + 7) / 8) ≤ D + 7 ∧ D ≤ 8 * ((D + 7) / 8); omega
  have HLl := Lib.hid (lowL_length D)
  have HL0 : Hid (bys (lowL D []) = List.replicate ((D + 7) / 8) (.int .u8 0)) := by show bys (lowL D []) = _; rw [bys_zeros]; rfl
  generalize (D + 7) / 8 = N at *
  have HS := Lib.hid h
  have HSm := Lib.hid hsm
  clear h hsm
  have hqw : IntKind.i64.wrap ((D : Int) + 7) = (D : Int) + 7 := i64_in _ (by omega) (by omega)
  go_enter Try.func26, Try.ntmps26
  go_upto_region 0 with fail
  go_cut [1, 2] (fun s1 s2 wx => s2 = .bool true ∧ ∃ (gv gc p E L : Nat) (p' : Int), s1 = .slice (some ⟨gv, 0, none⟩) (es.length + 1) gc ∧ Own wx w.heap.size 3 (.slice (some ⟨gv, 0, none⟩) (es.length + 1) gc) (i64s (D :: es)) ∧ FldR wx b tt ch d m p' dg low E L ∧ Only b w wx)
  case first =>
    go_region_with (go_at_call 27; refine (HGn.out _ HS.out.drew hb).mono ?_; rintro e w2 ⟨v, rfl, hown, hP⟩; have HOw := Lib.hid hown; have HP := Lib.hid hP; clear hown hP)
    all_goals
      go_wp2_with fail
      obtain ⟨ho, p, E, L, hr, hj⟩ := HP.out
      obtain ⟨gv, gc, rfl, hgc, hgB, hglt, hcells, hfr⟩ := HOw.out.at (by simp [i64s])
      rw [i64s_length, List.length_cons] at *
      go_meet
      exact ⟨rfl, gv, gc, 0, E, L, p, rfl, HOw.out, hr, (Only.refl b w).drew.trans ho⟩
  case rest =>
    obtain ⟨rfl, gv, gc, _, E, L, p, rfl, hg, hr, ho⟩ := hcut
    clear HGn HS
    have hq2 := ho.cellOf hqb hq
    have hd2 := hr.code.cell (i := 11) rfl
    have hz2 := hr.code.free 11
    have hg0 := (hg.get (j := 0) (x := .int .i64 D) rfl).1
    have hgvb : gv ≠ b := by have h1 := hg.ne hr.code (by decide); simpa [Value.ownBlock] using h1
    have HO2 := Lib.hid ho
    have HR2 := Lib.hid hr
    have HG2 := Lib.hid hg
    clear hr ho hg hq ht
    have hEb : E ≠ b := HR2.out.tabs.exp.ne HR2.out.code (by decide)
    have hLb : L ≠ b := HR2.out.tabs.log.ne HR2.out.code (by decide)
    have hR3 : FldR (wc.setCell ⟨b, 11, none⟩ (.int .i64 D)) b tt ch d m p D low E L := ⟨HR2.out.code.put 11 _, ⟨HR2.out.tabs.exp.far hEb _, HR2.out.tabs.log.far hLb _⟩⟩
    have HR3 := Lib.hid hR3
    have HG3 := Lib.hid (HG2.out.far (p := ⟨b, 11, none⟩) (by simpa [Value.ownBlock] using hgvb) (.int .i64 D))
    have HO3 := Lib.hid (HO2.out.put (p := ⟨b, 11, none⟩) (.inl rfl) (.int .i64 D))
    have HQ3 := Lib.hid ((World.cell?_setCell_other wc ⟨b, 11, none⟩ ⟨q, 0, none⟩ (.int .i64 D) (by simp)).trans hq2)
    clear hR3
    go_upto_region 1 with fail
    go_cut [] (fun wx => Own wx w.heap.size 3 (.slice (some ⟨gv, 0, none⟩) (es.length + 1) gc) (i64s (D :: es)) ∧ FldR wx b tt ch d m p D low E L ∧ Only b w wx ∧ wx.cell? ⟨q, 0, none⟩ = some (.pointer (some ⟨b, 0, none⟩)))
    case first =>
      go_region
      all_goals
        go_wp2_with fail
        go_meet
        exact ⟨HG3.out.drew, HR3.out.drew, HO3.out.drew, HQ3.out⟩
    case rest =>
      obtain ⟨hg, hr, ho, hq⟩ := hcut
      clear hq2 hd2 hz2 hg0 hgvb HO2 HR2 HG2 HR3 HG3 HO3 HQ3 hEb hLb
      have hd2 := hr.code.cell (i := 11) (v := .int .i64 D) rfl
      have hc2 := hr.code.cell (i := 12) rfl
      have hz2 := hr.code.free 12
      have hqd := HQd.out
      have hmk := mk40 N (by omega)
      have hnew := Own.made wc w.heap.size 5 (.int .u8 0) N (ho.size) (by omega)
      rw [← HL0.out] at hnew
      have hbel := (Below.refl wc.heap.size wc).alloc (Nat.le_refl _) (.cells (madeCells #[.int .u8 0] N) 5)
      have hrA := hr.below hbel
      have hgA := hg.below hbel
      have hoA := ho.below hbel
      have hqlt : q < wc.heap.size := World.block_lt_of_cell? wc ⟨q, 0, none⟩ hq
      have hblt := hr.lt.1
      have hqA : (wc.alloc (.cells (madeCells #[.int .u8 0] N) 5)).cell? ⟨q, 0, none⟩ = some (.pointer (some ⟨b, 0, none⟩)) := by
        have hh := hbel.block q hqlt
        unfold World.cell? at *; simp only at *; rw [hh]; exact hq
      have hEb : E ≠ b := hrA.tabs.exp.ne hrA.code (by decide)
      have hLb : L ≠ b := hrA.tabs.log.ne hrA.code (by decide)
      have hgvb : gv ≠ b := by have h1 := hg.ne hr.code (by decide); simpa [Value.ownBlock] using h1
      have hR3 : FldR ((wc.alloc (.cells (madeCells #[.int .u8 0] N) 5)).setCell ⟨b, 12, none⟩ (slB wc.heap.size N)) b tt ch d m p D (slB wc.heap.size N) E L := ⟨hrA.code.put 12 _, ⟨hrA.tabs.exp.far hEb _, hrA.tabs.log.far hLb _⟩⟩
      have HR3 := Lib.hid hR3
      have HG3 := Lib.hid (hgA.far (p := ⟨b, 12, none⟩) (by simpa [Value.ownBlock] using hgvb) (slB wc.heap.size N))
      have HN3 := Lib.hid (hnew.far (p := ⟨b, 12, none⟩) (by simp [Value.ownBlock]; omega) (slB wc.heap.size N))
      have HO3 := Lib.hid (hoA.put (p := ⟨b, 12, none⟩) (.inl rfl) (slB wc.heap.size N))
      have HQ3 := Lib.hid ((World.cell?_setCell_other (wc.alloc (.cells (madeCells #[.int .u8 0] N) 5)) ⟨b, 12, none⟩ ⟨q, 0, none⟩ (slB wc.heap.size N) (by simp)).trans hqA)
      have hcA := hrA.code.cell (i := 12) rfl
      have hzA := hrA.code.free 12
      have hwN : IntKind.i64.wrap (N : Int) = N := i64_small N (by omega)
      clear hr hg ho hnew hbel hrA hgA hoA hEb hLb hR3 hqlt hqb HL0
      go_upto_region 2 with fail
      go_cut [] (fun wx => ∃ gl : Nat, Own wx w.heap.size 3 (.slice (some ⟨gv, 0, none⟩) (es.length + 1) gc) (i64s (D :: es)) ∧ FldR wx b tt ch d m p D (slB gl N) E L ∧ Only b w wx ∧ wx.cell? ⟨q, 0, none⟩ = some (.pointer (some ⟨b, 0, none⟩)) ∧ Own wx w.heap.size 5 (slB gl N) (bys (lowL D [])))
      case first =>
        go_region
        all_goals
          go_wp2_with fail
          go_meet
          rw [← World.setCell_alloc_past (w := wc) (.cells (madeCells #[.int .u8 0] N) 5) b 12 (.slice (some ⟨wc.heap.size, 0, none⟩) N N) hblt]
          exact ⟨wc.heap.size, HG3.out.drew, HR3.out.drew, HO3.out.drew, HQ3.out, HN3.out.drew⟩
      case rest =>
        obtain ⟨gl, hg, hr, ho, hq, hl⟩ := hcut
        clear hd2 hc2 hz2 hqd hmk hgvb hqA hcA hzA hwN HR3 HG3 HN3 HO3 HQ3 hblt hqw
        obtain ⟨hgB, hglt, hjunk, hgc⟩ := hg.slice_lt
        have hgc1 : ¬ gc = 1 := by omega
        clear hjunk
        go_wp2_with fail
        have HL := Lib.hid hl
        have HG := Lib.hid hg
        have HR := Lib.hid hr
        have HO := Lib.hid ho
        have hgcp : es.length ≤ gc - 1 := by omega
        generalize hm : es.length = M at *
        have HM := Lib.hid hm
        have hwD : IntKind.i64.wrap ((D : Int) - 1) = (D : Int) - 1 := i64_in _ (by omega) (by omega)
        clear hl hg hr ho hm
        go_loopw [4, 5, 36] (fun _ _ kv wr => ∃ (k : Nat), k ≤ M ∧ kv = .int .i64 k ∧ Own wr w.heap.size 3 (.slice (some ⟨gv, 0, none⟩) (M + 1) gc) (i64s (D :: es)) ∧ FldR wr b tt ch d m p D (slB gl N) E L ∧ Only b w wr ∧ wr.cell? ⟨q, 0, none⟩ = some (.pointer (some ⟨b, 0, none⟩)) ∧ Own wr w.heap.size 5 (slB gl N) (bys (lowL D (es.take k)))) (fun _ _ kv _ => M - (intOf kv).toNat)
        case atStart => exact ⟨0, by omega, rfl, HG.out, HR.out, HO.out, hq, HL.out⟩
        case round =>
          obtain ⟨k, hk, rfl, hg, hr, ho, hq, hl⟩ := hrel
          clear HL HG HR HO
          by_cases hlt : k < M
          · have hkl : k < es.length := by rw [HM.out]; exact hlt
            have hge := (hg.get (j := k + 1) (x := .int .i64 (es[k] : Nat)) (by simp [i64s, hkl])).1
            have hes := HSm.out es[k] (List.getElem_mem hkl)
            have hsn := lowL_snoc D es k hkl
            generalize es[k] = e at *
            generalize hat : D - 1 - e = at' at *
            have hd := hr.code.cell (i := 11) (v := .int .i64 D) rfl
            have hc := hr.code.cell (i := 12) (v := .slice (some ⟨gl, 0, none⟩) N N) rfl
            have hz := hr.code.free 12
            have hat2 : IntKind.i64.wrap ((D : Int) - 1 - (e : Int)) = (at' : Int) := by rw [i64_in _ (by omega) (by omega)]; omega
            have hdiv : (at' : Int).tdiv 8 = ((at' / 8 : Nat) : Int) := by rw [Int.tdiv_eq_ediv_of_nonneg (by omega)]; omega
            have hmod : (at' : Int).tmod 8 = ((at' % 8 : Nat) : Int) := by rw [Int.tmod_eq_emod_of_nonneg (by omega)]; omega
            have hN := HNd.out
            have h8N : at' / 8 < N := by omega
            have hll : (lowL D (es.take k)).length = N := HLl.out _
            obtain ⟨hlc, hlz⟩ := hl.get (bys_at (l := lowL D (es.take k)) (j := at' / 8) (by omega))
            have hput := hl.put (by rw [bys_length, hll]) (at' / 8) (.int .u8 (((lowL D (es.take k)).getD (at' / 8) 0 ||| bit8 at').toNat : Int))
            rw [bys_set] at hput
            have hlow : (lowL D (es.take k)).set (at' / 8) ((lowL D (es.take k)).getD (at' / 8) 0 ||| bit8 at') = lowL D (es.take (k + 1)) := by rw [hsn]; rfl
            rw [hlow] at hput
            have hkM : (k : Int) < M := by omega
            have hat8 : ((at' / 8 : Nat) : Int) < N := by omega
            have hk1 : 1 + k = k + 1 := by omega
            clear hlow hsn hdiv hmod
            have HG := Lib.hid hg
            have HR := Lib.hid hr
            have HO := Lib.hid ho
            have HP := Lib.hid hput
            have HG2 := Lib.hid (hg.far (p := ⟨gl, at' / 8, none⟩) (by rcases hg.neT hl (by decide) with h | h <;> simp [Value.ownBlock] at h ⊢; exact h) (.int .u8 (((lowL D (es.take k)).getD (at' / 8) 0 ||| bit8 at').toNat : Int)))
            have hglb : gl ≠ b := by have h1 := hl.ne hr.code (by decide); simpa [Value.ownBlock] using h1
            have hglE : E ≠ gl := fun e => by have h1 := hl.ne hr.tabs.exp (by decide); simp [Value.ownBlock] at h1; omega
            have hglL : L ≠ gl := fun e => by have h1 := hl.ne hr.tabs.log (by decide); simp [Value.ownBlock] at h1; omega
            have HR2 := Lib.hid (hr.far (a := ⟨gl, at' / 8, none⟩) (Ne.symm hglb) hglE hglL (.int .u8 (((lowL D (es.take k)).getD (at' / 8) 0 ||| bit8 at').toNat : Int)))
            have HO2 := Lib.hid (ho.put (p := ⟨gl, at' / 8, none⟩) (.inr hl.slice_lt.1) (.int .u8 (((lowL D (es.take k)).getD (at' / 8) 0 ||| bit8 at').toNat : Int)))
            have HQ2 := Lib.hid ((World.cell?_setCell_other wr ⟨gl, at' / 8, none⟩ ⟨q, 0, none⟩ (.int .u8 (((lowL D (es.take k)).getD (at' / 8) 0 ||| bit8 at').toNat : Int)) (by simp; intro h; have := hl.slice_lt.1; omega)).trans hq)
            clear hg hr ho hput hl hll hN hkl hglb hglE hglL
            generalize (lowL D (es.take k)).getD (at' / 8) 0 = x at *
            go_wp2_with fail
            have hqd2 : (at' : Int).tdiv 8 = ((at' / 8 : Nat) : Int) := by rw [Int.tdiv_eq_ediv_of_nonneg (by omega)]; omega
            have hqm2 : (at' : Int).tmod 8 = ((at' % 8 : Nat) : Int) := by rw [Int.tmod_eq_emod_of_nonneg (by omega)]; omega
            have hq8 : at' / 8 < N := h8N
            generalize hq8e : at' / 8 = a8 at *
            generalize hm8e : at' % 8 = m8 at *
            have HQ8 := Lib.hid hq8e
            have HM8 := Lib.hid hm8e
            have hwa8 : IntKind.i64.wrap (a8 : Int) = a8 := i64_small a8 (by omega)
            have hwm8 : IntKind.i64.wrap (m8 : Int) = m8 := i64_small m8 (by omega)
            have hm80 : (0 : Int) ≤ m8 := by omega
            have HV : Hid (Go.bits .or .u8 (x.toNat : Int) (128 / 2 ^ min m8 8) = ((x ||| bit8 at').toNat : Int)) := by
              show Go.bits .or .u8 (x.toNat : Int) (128 / 2 ^ min m8 8) = ((x ||| bit8 at').toNat : Int)
              rw [show min m8 8 = m8 by omega, ← u8_orB, bit8_nat, hm8e]
              simp
            clear hq8e hm8e
            go_region
            all_goals
              go_wp2_with fail
              rw [HV.out]
              go_roundw
              case rel => exact ⟨k + 1, by omega, by simp, HG2.out.drew, HR2.out.drew, HO2.out.drew, HQ2.out, HP.out.drew⟩
              case measure => simp only [intOf]; omega
          · obtain rfl : k = M := by omega
            have HL := Lib.hid hl
            have HR := Lib.hid hr
            have HO := Lib.hid ho
            clear hg hr ho hl
            go_wp2_with fail
            go_end0
            refine ⟨rfl, p, E, L, gl, HR.out, ?_, HO.out⟩
            have h2 := HL.out
            rw [List.take_of_length_le (by have := HM.out; omega)] at h2
            exact h2
end Go.Proofs.Ytfhefcpkknidcaa
/- A code that is ready: New, ready, Parity. -/
namespace Go.Proofs.Ytfhefcpkknidcaa
open Go.RowKit Gf

def nLow (tt : Nat) : Nat := (13 * tt + 7) / 8
structure CodeR (w : World) (b tt : Nat) (ch : Int) (Lw : Nat) : Prop where
  fld : FldK b tt ch 1 0 (13 * tt : Nat) (slB Lw (nLow tt)) w
  low : Own w 0 5 (slB Lw (nLow tt)) (bys (lowT tt))
def CodeS (w : World) (b tt : Nat) (ch : Int) : Prop := (∃ dg low, FldS w b tt ch 0 0 dg low) ∨ ∃ Lw, CodeR w b tt ch Lw
theorem CodeR.below {w w' : World} {b tt Lw : Nat} {ch : Int} (h : CodeR w b tt ch Lw) (hb : Below w.heap.size w w') : CodeR w' b tt ch Lw := ⟨h.fld.below hb, h.low.below hb⟩
theorem CodeS.below {w w' : World} {b tt : Nat} {ch : Int} (h : CodeS w b tt ch) (hb : Below w.heap.size w w') : CodeS w' b tt ch := by
  rcases h with ⟨dg, low, h⟩ | ⟨Lw, h⟩
  · exact .inl ⟨dg, low, h.below hb⟩
  · exact .inr ⟨Lw, h.below hb⟩
theorem CodeS.lt {w : World} {b tt : Nat} {ch : Int} (h : CodeS w b tt ch) : b < w.heap.size := by
  rcases h with ⟨dg, low, ⟨ev, lv, p, h⟩ | ⟨p, E, L, h⟩⟩ | ⟨Lw, ⟨⟨p, E, L, h⟩, _⟩⟩
  · exact h.lt
  · exact h.lt.1
  · exact h.lt.1
theorem enter_ready (args : Array Value) (w : World) : (callFunc 26 args).run Try.prog w = .ok (.enter 26 args) w :=
  run_callFunc_body Try.func26 (by kernel_rfl) rfl args w
theorem low_keep (b tt : Nat) (ch : Int) (w : World) : OnceKeeps (LowMade b tt ch 0 1 w) b 2 := by
  rintro w2 ⟨p, E, L, Lw, hc, _⟩
  exact ⟨⟨_, hc.code.cell rfl⟩, hc.code.cell rfl, hc.code.free 2, hc.code.free 3⟩
theorem FldS.lock {w : World} {b : Nat} {t ch d m dg : Int} {low : Value} (h : FldS w b t ch d m dg low) (m' : Int) : FldS (w.setCell ⟨b, 3, none⟩ (.int .i32 m')) b t ch d m' dg low := by
  rcases h with ⟨ev, lv, p, h⟩ | ⟨p, E, L, h⟩
  · exact .inl ⟨ev, lv, p, h.put 3 _⟩
  · exact .inr ⟨p, E, L, h.code.put 3 _, h.tabs.exp.far (h.tabs.exp.ne h.code (by decide)) _, h.tabs.log.far (h.tabs.log.ne h.code (by decide)) _⟩
theorem FldS.once {w : World} {b : Nat} {t ch d m dg : Int} {low : Value} (h : FldS w b t ch d m dg low) : b < w.heap.size ∧ w.cell? ⟨b, 0, none⟩ = some (.int .i64 t) ∧ w.cell? ⟨b, 1, none⟩ = some (.int .i64 ch) ∧ w.cell? ⟨b, 2, none⟩ = some (.int .u32 d) ∧ w.cell? ⟨b, 3, none⟩ = some (.int .i32 m) ∧ w.frozen? ⟨b, 3, none⟩ = false := by
  rcases h with ⟨ev, lv, p, h⟩ | ⟨p, E, L, h⟩
  · exact ⟨h.lt, h.cell rfl, h.cell rfl, h.cell rfl, h.cell rfl, h.free 3⟩
  · exact ⟨h.code.lt, h.code.cell rfl, h.code.cell rfl, h.code.cell rfl, h.code.cell rfl, h.code.free 3⟩

/-- What ready leaves: the code is ready; only its own block has been written. -/
def Ready (b tt : Nat) (ch : Int) (w w' : World) : Prop := (∃ Lw, CodeR w' b tt ch Lw ∧ ∀ Lw0, CodeR w b tt ch Lw0 → Lw0 = Lw) ∧ Only b w w'
theorem CodeR.same {w : World} {b tt : Nat} {ch : Int} {Lw Lw0 : Nat} (h : CodeR w b tt ch Lw) (h0 : CodeR w b tt ch Lw0) : Lw0 = Lw := by
  obtain ⟨⟨p, E, L, h⟩, _⟩ := h
  obtain ⟨⟨p0, E0, L0, h0⟩, _⟩ := h0
  have h1 := h.code.cell (i := 12) rfl
  have h2 := h0.code.cell (i := 12) rfl
  rw [h1] at h2
  simp [codeArr] at h2
  exact h2.symm

theorem ready_any {b tt : Nat} (h1 : 1 ≤ tt) (h8 : tt ≤ 8) {ch : Int} (w : World) (h : CodeS w b tt ch) :
    Calls Try.prog 16 #[.pointer (some ⟨b, 0, none⟩)] w fun e w' => e = .returned (.tuple #[]) ∧ Ready b tt ch w w' := by
  have hmf : ∀ (fn : Fn) (first cap : Array Value) (w : World), (Instr.makeFunc fn first cap).run Try.prog w = .ok (.func fn first cap) w := fun _ _ _ _ => rfl
  rcases h with ⟨dg, low, h⟩ | ⟨Lw, h⟩
  · have hq := Blk.new w #[.pointer (some ⟨b, 0, none⟩)] 25
    have ha := h.below ((Below.refl _ _).alloc (Nat.le_refl _) (.cells #[.pointer (some ⟨b, 0, none⟩)] 25 (0, 0)))
    obtain ⟨hlt, _, _, c2, c3, z3⟩ := ha.once
    have hblt := h.once.1
    have hq' : Blk ((w.alloc (.cells #[.pointer (some ⟨b, 0, none⟩)] 25)).setCell ⟨b, 3, none⟩ (.int .i32 1)) w.heap.size #[.pointer (some ⟨b, 0, none⟩)] 25 := hq.far (Nat.ne_of_gt hblt) _
    have hc' := ha.lock 1
    have HD := Lib.hid (do_first b 2 26 #[.pointer (some ⟨w.heap.size, 0, none⟩)] _ _ enter_ready c2 c3 z3 (ready1_any tt h1 h8 _ hc' (by simpa using hlt) (Nat.ne_of_gt hblt) (hq'.cell rfl)) (low_keep b tt ch _))
    have HN : Hid (∀ Lw0, ¬ CodeR w b tt ch Lw0) := by
      rintro Lw0 ⟨⟨p, E, L, h0⟩, _⟩
      have e1 := h.once.2.2.2.1
      have e2 := h0.code.cell (i := 2) rfl
      rw [e1] at e2
      simp [codeArr] at e2
    clear hq' hc' hq ha h c2 c3 z3 hlt
    go_enter Try.func16, Try.ntmps16
    go_wp2_with (go_at_call 25; refine HD.out.mono ?_; rintro e w' ⟨rfl, hR⟩)
    go_end0
    refine ⟨rfl, ?_⟩
    obtain ⟨w2, ⟨p, E, L, Lw, hc, hl, ho⟩, rfl⟩ := hR
    have o1 : Only b w w2 := (((Only.refl b w).alloc _).put (p := ⟨b, 3, none⟩) (.inl rfl) _).trans ho
    have hlb : Lw ≠ b := by have h1 := hl.ne hc.code (by decide); simpa [Value.ownBlock] using h1
    refine ⟨⟨Lw, ⟨⟨p, E, L, ?_, ?_, ?_⟩, ?_⟩, fun Lw0 h0 => (HN.out Lw0 h0).elim⟩, ((o1.drew).put (.inl rfl) _).put (.inl rfl) _⟩
    · exact (hc.code.drew.put 2 (.int .u32 1)).put 3 (.int .i32 0)
    · exact (hc.tabs.exp.drew.far (hc.tabs.exp.ne hc.code (by decide)) _).far (hc.tabs.exp.ne hc.code (by decide)) _
    · exact (hc.tabs.log.drew.far (hc.tabs.log.ne hc.code (by decide)) _).far (hc.tabs.log.ne hc.code (by decide)) _
    · exact ((hl.drew.far (by simpa [Value.ownBlock] using hlb) _).far (by simpa [Value.ownBlock] using hlb) _).lower (Nat.zero_le _)
  · have hbel := (Below.refl w.heap.size w).alloc (Nat.le_refl _) (.cells #[.pointer (some ⟨b, 0, none⟩)] 25 (0, 0))
    have ha := h.below hbel
    have HA := Lib.hid ha
    have HH := Lib.hid h
    obtain ⟨⟨p, E, L, hr⟩, _⟩ := ha
    have HD := Lib.hid (do_done ⟨b, 2, none⟩ (.func (.func 26) #[] #[.pointer (some ⟨w.heap.size, 0, none⟩)]) _ (hr.code.cell (i := 2) rfl))
    clear h hr hbel
    go_enter Try.func16, Try.ntmps16
    go_wp2_with (go_at_call 25; refine HD.out.mono ?_; rintro e w' ⟨rfl, rfl⟩)
    go_end0
    exact ⟨rfl, ⟨Lw, HA.out, fun Lw0 h0 => HH.out.same h0⟩, (Only.refl b w).alloc _⟩

def ParityEnd (b tt : Nat) (ch : Int) (w : World) (e : Ending) (w' : World) : Prop := e = .returned (.int .i64 (nLow tt : Nat)) ∧ Ready b tt ch w w'
theorem parity_any {b tt : Nat} (h1 : 1 ≤ tt) (h8 : tt ≤ 8) {ch : Int} (w : World) (h : CodeS w b tt ch) :
    Calls Try.prog 14 #[.pointer (some ⟨b, 0, none⟩)] w (ParityEnd b tt ch w) := by
  have HR := Lib.hid (ready_any h1 h8 w h)
  clear h
  go_enter Try.func14, Try.ntmps14
  go_wp2_with fail
  refine HR.out.mono ?_
  rintro e w1 ⟨rfl, hR⟩
  have HRd := Lib.hid hR
  obtain ⟨⟨Lw, ⟨⟨p, E, L, hr⟩, _⟩, _⟩, _⟩ := hR
  have hc := hr.code.cell (i := 12) (v := .slice (some ⟨Lw, 0, none⟩) (nLow tt) (nLow tt)) rfl
  clear hr
  go_wp2_with fail
  go_ret
  exact ⟨rfl, HRd.out⟩
theorem parity_nil (w : World) : Calls Try.prog 14 #[.pointer none] w fun e w' => e = .returned (.int .i64 0) ∧ w = w' := by
  go_enter Try.func14, Try.ntmps14
  go_wp2_with fail
  go_ret
  exact ⟨rfl, rfl⟩
end Go.Proofs.Ytfhefcpkknidcaa
/- The shift of a row of bits by one, walked. -/
namespace Go.Proofs.Ytfhefcpkknidcaa
open Go.RowKit Gf

def leftF : List UInt8 → List UInt8 × UInt8
  | [] => ([], 0)
  | x :: xs => (((x <<< 1) ||| (leftF xs).2) :: (leftF xs).1, x >>> 7)
theorem leftF_length (l : List UInt8) : (leftF l).1.length = l.length := by
  induction l with
  | nil => rfl
  | cons x xs ih => simp [leftF, ih]
theorem leftF_drop {r : List UInt8} {i : Nat} (h : i < r.length) : leftF (r.drop i) = (((r.getD i 0 <<< 1) ||| (leftF (r.drop (i + 1))).2) :: (leftF (r.drop (i + 1))).1, r.getD i 0 >>> 7) := by
  rw [List.drop_eq_getElem_cons h]
  simp [leftF, h]
theorem shl1 (x : UInt8) : ((x.toNat : Int) * (2 : Int)) % (256 : Int) = ((x <<< 1 : UInt8).toNat : Int) := by
  have : ∀ n : Fin 256, ((UInt8.ofNat n.val).toNat * 2) % 256 = (UInt8.ofNat n.val <<< 1 : UInt8).toNat := by decide +kernel
  have h := this ⟨x.toNat, x.toNat_lt⟩
  simp only [UInt8.ofNat_toNat] at h
  omega
theorem shr7 (x : UInt8) : (x.toNat : Int) / (128 : Int) = ((x >>> 7 : UInt8).toNat : Int) := by
  have : ∀ n : Fin 256, (UInt8.ofNat n.val).toNat / 128 = (UInt8.ofNat n.val >>> 7 : UInt8).toNat := by decide +kernel
  have h := this ⟨x.toNat, x.toNat_lt⟩
  simp only [UInt8.ofNat_toNat] at h
  omega
theorem shl1' (x : UInt8) : ((x.toNat : Int) <<< (1 : Nat)) % (256 : Int) = ((x <<< 1 : UInt8).toNat : Int) := by
  rw [Int.shiftLeft_eq]; exact shl1 x
/-- The row when the bytes from i on have been shifted. -/
def leftAt (r : List UInt8) (i : Nat) : List UInt8 := r.take i ++ (leftF (r.drop i)).1
theorem leftAt_length (r : List UInt8) (i : Nat) : (leftAt r i).length = r.length := by simp [leftAt, leftF_length]; omega
theorem leftAt_get {r : List UInt8} {i : Nat} (h : i < r.length) : (leftAt r (i + 1)).getD i 0 = r.getD i 0 := by
  have hm : i < min (i + 1) r.length := by omega
  simp [leftAt, List.getElem?_append, h, hm]
theorem leftAt_set {r : List UInt8} {i : Nat} (h : i < r.length) : (leftAt r (i + 1)).set i ((r.getD i 0 <<< 1) ||| (leftF (r.drop (i + 1))).2) = leftAt r i := by
  unfold leftAt
  rw [leftF_drop h, List.take_succ_eq_append_getElem h, List.append_assoc, List.set_append_right _ _ (by simp; omega)]
  simp [show min i r.length = i by omega]
theorem leftAt_end (r : List UInt8) : leftAt r r.length = r := by simp [leftAt, leftF]

def LeftEnd (r : List UInt8) (g n c B : Nat) (w : World) (e : Ending) (w' : World) : Prop :=
  e = .returned (.int .u8 ((leftF r).2.toNat : Int)) ∧ Own w' B 5 (.slice (some ⟨g, 0, none⟩) n c) (bys (leftF r).1) ∧ Only g w w'

set_option maxRecDepth 100000 in
set_option maxHeartbeats 3200000 in
theorem left_any (r : List UInt8) {g n c B : Nat} (w : World) (h : Own w B 5 (.slice (some ⟨g, 0, none⟩) n c) (bys r)) :
    Calls Try.prog 28 #[.slice (some ⟨g, 0, none⟩) n c] w (LeftEnd r g n c B w) := by
  have hn : n = r.length := by have := h.slice_lt.2.2.1; rw [bys_length] at this; exact this
  have hlen := h.len
  rw [bys_length, ← hn] at hlen
  have HN := Lib.hid hn
  have H := Lib.hid h
  clear h hn
  have hw : IntKind.i64.wrap ((n : Int) - 1) = (n : Int) - 1 := by rw [IntKind.wrap_i64]; omega
  go_enter Try.func28, Try.ntmps28
  go_wp2_with fail
  go_loopw [3, 4] (fun o iv wr => ∃ k : Nat, k ≤ n ∧ o = .int .u8 ((leftF (r.drop k)).2.toNat : Int) ∧ iv = .int .i64 ((k : Int) - 1) ∧ Own wr B 5 (.slice (some ⟨g, 0, none⟩) n c) (bys (leftAt r k)) ∧ Only g w wr) (fun _ iv _ => (intOf iv + 1).toNat)
  case atStart => exact ⟨n, Nat.le_refl _, by rw [HN.out, List.drop_length]; rfl, rfl, by rw [HN.out, leftAt_end, ← HN.out]; exact H.out, Only.refl _ _⟩
  case round =>
    obtain ⟨k, hk, rfl, rfl, hown, ho⟩ := hrel
    clear H
    have HO := Lib.hid ho
    cases k with
    | zero =>
      have HOw := Lib.hid hown
      clear hown ho
      go_wp2_with fail
      go_ret
      exact ⟨rfl, HOw.out, HO.out⟩
    | succ i =>
      have hin : i < r.length := by rw [← HN.out]; omega
      obtain ⟨hc, hz⟩ := hown.get (bys_at (l := leftAt r (i + 1)) (j := i) (by rw [leftAt_length]; exact hin))
      rw [leftAt_get hin] at hc
      have hput := hown.put (by rw [bys_length, leftAt_length, HN.out]) i (.int .u8 (((r.getD i 0 <<< 1) ||| (leftF (r.drop (i + 1))).2).toNat : Int))
      rw [bys_set, leftAt_set hin] at hput
      have HP := Lib.hid hput
      have HF := Lib.hid (leftF_drop hin)
      have HO2 := Lib.hid (ho.put (p := ⟨g, i, none⟩) (.inl rfl) (.int .u8 (((r.getD i 0 <<< 1) ||| (leftF (r.drop (i + 1))).2).toNat : Int)))
      have hor := Lib.hid (u8_orB (r.getD i 0 <<< 1) (leftF (r.drop (i + 1))).2)
      have h1 := Lib.hid (shl1 (r.getD i 0))
      have h7 := shr7 (r.getD i 0)
      have hi0 : ((i + 1 : Nat) : Int) - 1 = i := by omega
      rw [hi0]
      have hii : (i : Int) < n := by omega
      clear hown ho hput hi0 HO hw
      have HHin := Lib.hid hin
      clear hin
      generalize (leftF (r.drop (i + 1))).2 = o at *
      generalize r.getD i 0 = x at *
      have hx7 : (x >>> 7) = (leftF (r.drop i)).2 := by rw [HF.out]
      go_wp2_with fail
      go_region
      all_goals
        go_wp2_with fail
        rw [h1.out, hor.out]
        go_roundw
        case rel => exact ⟨i, by omega, rfl, rfl, HP.out.drew, HO2.out.drew⟩
        case measure => simp only [intOf]; omega
end Go.Proofs.Ytfhefcpkknidcaa
/- The remainder of a chunk by the generator, walked. -/
namespace Go.Proofs.Ytfhefcpkknidcaa
open Go.RowKit Gf

/-- Bit j of a byte. -/
def bitU (x : UInt8) (j : Nat) : UInt8 := UInt8.ofNat (x.toNat / 2 ^ j % 2)
theorem bitU_nat (x : UInt8) (j : Nat) : (bitU x j).toNat = x.toNat / 2 ^ j % 2 := by
  unfold bitU
  rw [UInt8.toNat_ofNat']
  apply Nat.mod_eq_of_lt
  omega
theorem bit_test (o x : UInt8) (j : Nat) : ((o.toNat : Int) != Go.bits .and .u8 ((x.toNat : Int) / 2 ^ j) 1) = decide (o ≠ bitU x j) := by
  have h1 : (x.toNat : Int) / 2 ^ j = ((x.toNat / 2 ^ j : Nat) : Int) := by simp
  have h2 : x.toNat / 2 ^ j < 256 := Nat.lt_of_le_of_lt (Nat.div_le_self _ _) x.toNat_lt
  rw [h1, show (1 : Int) = ((1 : Nat) : Int) from rfl, u8_and_nat _ _ h2 (by omega), Nat.and_one_is_mod, ← bitU_nat]
  by_cases h : o = bitU x j
  · rw [h]; simp
  · rw [decide_eq_true h]
    have : o.toNat ≠ (bitU x j).toNat := fun e => h (UInt8.toNat_inj.1 e)
    simp; omega
/-- The first k bytes of r with those of s mixed in. -/
def xorK (r s : List UInt8) : Nat → List UInt8
  | 0 => r
  | k + 1 => (xorK r s k).set k ((xorK r s k).getD k 0 ^^^ s.getD k 0)
theorem xorK_length (r s : List UInt8) (k : Nat) : (xorK r s k).length = r.length := by
  induction k with
  | zero => rfl
  | succ k ih => simp [xorK, ih]
def xorB (r s : List UInt8) : List UInt8 := xorK r s r.length
def stepB (low r : List UInt8) (o : UInt8) : List UInt8 := if (leftF r).2 = o then (leftF r).1 else xorB (leftF r).1 low
/-- After the n highest bits of a byte. -/
def byteD (low r : List UInt8) (x : UInt8) : Nat → List UInt8
  | 0 => r
  | n + 1 => stepB low (byteD low r x n) (bitU x (7 - n))
def divB (low r data : List UInt8) : List UInt8 := data.foldl (fun r x => byteD low r x 8) r
theorem stepB_length (low r : List UInt8) (o : UInt8) : (stepB low r o).length = r.length := by
  unfold stepB xorB
  split
  · exact leftF_length r
  · rw [xorK_length, leftF_length]
theorem byteD_length (low r : List UInt8) (x : UInt8) (n : Nat) : (byteD low r x n).length = r.length := by
  induction n with
  | zero => rfl
  | succ n ih => rw [byteD, stepB_length, ih]
theorem divB_length (low r data : List UInt8) : (divB low r data).length = r.length := by
  unfold divB
  induction data generalizing r with
  | nil => rfl
  | cons x xs ih => rw [List.foldl_cons, ih, byteD_length]
theorem divB_snoc (low r data : List UInt8) (k : Nat) (h : k < data.length) : divB low r (data.take (k + 1)) = byteD low (divB low r (data.take k)) data[k] 8 := by
  rw [List.take_succ_eq_append_getElem h]
  unfold divB
  rw [List.foldl_append, List.foldl_cons, List.foldl_nil]
/-- A text's bytes. -/
def txt (s : ByteArray) : List UInt8 := s.data.toList
theorem txt_length (s : ByteArray) : (txt s).length = s.size := by unfold txt; rw [Array.length_toList]; rfl
def zeroL (n : Nat) : List UInt8 := List.replicate n 0

theorem _root_.Go.RowKit.Below.trans' {B : Nat} {a c d : World} (h : Below B a c) (k : Only B c d) (hB : B < c.heap.size) : Below B a d := Only.frame h (Nat.le_of_lt hB) (Nat.le_refl _) k
def DivEnd (l : List UInt8) (n : Nat) (w : World) (e : Ending) (w' : World) : Prop :=
  ∃ g, e = .returned (slB g n) ∧ Own w' w.heap.size 5 (slB g n) (bys l) ∧ Below w.heap.size w w'

theorem txt_at (s : ByteArray) (k : Nat) (h : k < s.size) : (txt s)[k]'(by rw [txt_length]; exact h) = s[k] := by simp [txt]; rfl
set_option maxRecDepth 100000 in
set_option maxHeartbeats 3200000 in
theorem divide_any (s : ByteArray) (hs : s.size ≤ 256) (low : List UInt8) (N : Nat) (hN1 : 1 ≤ N) (hN : N ≤ 13) (hll : low.length = N) {b Lw : Nat} (w : World) (hcell : w.cell? ⟨b, 12, none⟩ = some (slB Lw N)) (hlow : Own w 0 5 (slB Lw N) (bys low)) :
    Calls Try.prog 17 #[.pointer (some ⟨b, 0, none⟩), .string s] w (DivEnd (divB low (zeroL N) (txt s)) N w) := by
  have hb : b < w.heap.size := World.block_lt_of_cell? w ⟨b, 12, none⟩ hcell
  have hLw := hlow.slice_lt.2.1
  have hmk := mk40 N (by omega)
  have HLow : Hid (∀ w', Below w.heap.size w w' → Own w' 0 5 (slB Lw N) (bys low) ∧ w'.cell? ⟨b, 12, none⟩ = some (slB Lw N)) := fun w' hB => ⟨hlow.below hB, by
    have hh := hB.block b hb
    unfold World.cell? at *; simp only at *; rw [hh]; exact hcell⟩
  have HN : Hid (low.length = N) := hll
  have hnew := Own.made w w.heap.size 5 (.int .u8 0) N (Nat.le_refl _) (by omega)
  rw [bys_zeros] at hnew
  have HNew := Lib.hid hnew
  have hwN : IntKind.i64.wrap (N : Int) = N := i64_small N (by omega)
  have hwS : IntKind.i64.wrap (s.size : Int) = s.size := i64_small _ (by omega)
  have HBel := Lib.hid ((Below.refl w.heap.size w).alloc (Nat.le_refl _) (.cells (madeCells #[.int .u8 0] N) 5))
  have hsz : w.heap.size ≤ (w.alloc (.cells (madeCells #[.int .u8 0] N) 5)).heap.size := by simp
  have hsz1 : w.heap.size < (w.alloc (.cells (madeCells #[.int .u8 0] N) 5)).heap.size := by simp
  clear hnew hlow hll
  go_enter Try.func17, Try.ntmps17
  go_wp2_with fail
  clear hmk hwN hcell
  generalize w.alloc _ = wa at *
  have HG : Hid (w.heap.size = w.heap.size) := rfl
  go_loopw [6, 7, 8, 17] (fun _ _ _ iv wr => ∃ i : Nat, i ≤ s.size ∧ iv = .int .i64 i ∧ Own wr w.heap.size 5 (slB w.heap.size N) (bys (divB low (zeroL N) ((txt s).take i))) ∧ Below w.heap.size w wr ∧ w.heap.size < wr.heap.size) (fun _ _ _ iv _ => s.size - (intOf iv).toNat)
  case atStart => exact ⟨0, Nat.zero_le _, rfl, HNew.out, HBel.out, hsz1⟩
  case round =>
    obtain ⟨i, hi, rfl, hown, hbel, hgr⟩ := hrel
    clear HNew HBel hsz hsz1
    by_cases hlt : i < s.size
    · have HSn := Lib.hid (divB_snoc low (zeroL N) (txt s) i (by rw [txt_length]; exact hlt))
      rw [txt_at s i hlt] at HSn
      have HO := Lib.hid hown
      have HB := Lib.hid hbel
      have HZ : Hid ((divB low (zeroL N) ((txt s).take i)).length = N) := by show (divB low (zeroL N) ((txt s).take i)).length = N; rw [divB_length]; simp [zeroL]
      have hil : (i : Int) < s.size := by omega
      clear hown hbel
      generalize divB low (zeroL N) ((txt s).take i) = r at *
      generalize hx : s[i] = x at *
      go_wp2_with fail
      go_loopw [7, 8] (fun jv _ wr => ∃ n : Nat, n ≤ 8 ∧ jv = .int .i64 (7 - (n : Int)) ∧ Own wr w.heap.size 5 (slB w.heap.size N) (bys (byteD low r x n)) ∧ Below w.heap.size w wr ∧ w.heap.size < wr.heap.size) (fun jv _ _ => (intOf jv + 1).toNat)
      case atStart => exact ⟨0, by omega, rfl, HO.out, HB.out, hgr⟩
      case round =>
        obtain ⟨n, hn, rfl, hown, hbel, hgr⟩ := hrel
        clear HO HB
        by_cases hn8 : n < 8
        · obtain ⟨j, hj⟩ : ∃ j : Nat, 7 - (n : Int) = j := ⟨7 - n, by omega⟩
          rw [hj]
          have hj7 : j ≤ 7 := by omega
          have hjn : 7 - n = j := by omega
          have hw1 : IntKind.i64.wrap ((j : Int) - 1) = (j : Int) - 1 := by rw [IntKind.wrap_i64]; omega
          have HRl : Hid ((byteD low r x n).length = N) := by show (byteD low r x n).length = N; rw [byteD_length]; exact HZ.out
          have HSt : Hid (byteD low r x (n + 1) = stepB low (byteD low r x n) (bitU x j)) := by show byteD low r x (n + 1) = stepB low (byteD low r x n) (bitU x j); rw [← hjn]; rfl
          have HLf := Lib.hid (left_any (byteD low r x n) wr.drew hown.drew)
          have HB := Lib.hid hbel
          have hj0 : (0 : Int) ≤ j := by omega
          have HJ := Lib.hid hj
          clear hown hbel hj hjn
          generalize byteD low r x n = rr at *
          go_upto_region 8 with fail
          go_cut [32] (fun s32 wx => s32 = .bool (decide ((leftF rr).2 ≠ bitU x j)) ∧ Own wx w.heap.size 5 (slB w.heap.size N) (bys (leftF rr).1) ∧ Below w.heap.size w wx ∧ w.heap.size < wx.heap.size)
          case first =>
            go_region_with (go_at_call 28; refine (HLf.out).mono ?_; rintro e w2 ⟨rfl, hown, hO⟩; have HOw := Lib.hid hown; have HO := Lib.hid hO; clear hown hO)
            all_goals
              go_wp2_with fail
              go_meet
              exact ⟨by rw [bit_test], HOw.out, (HB.out.drew).trans' HO.out hgr, Nat.lt_of_lt_of_le hgr HO.out.size⟩
          case rest =>
            obtain ⟨rfl, hown, hbel, hgr⟩ := hcut
            have HOw := Lib.hid hown
            have HBe := Lib.hid hbel
            have HL1 : Hid ((leftF rr).1.length = N) := by show (leftF rr).1.length = N; rw [leftF_length]; exact HRl.out
            clear HLf HB hown hbel
            by_cases hne : (leftF rr).2 = bitU x j
            · have hdec : decide ((leftF rr).2 ≠ bitU x j) = false := by simp [hne]
              have HE : Hid (stepB low rr (bitU x j) = (leftF rr).1) := by show stepB low rr (bitU x j) = (leftF rr).1; unfold stepB; rw [if_pos hne]
              rw [hdec]
              clear hdec hne
              go_wp2_with fail
              go_roundw
              case rel => exact ⟨n + 1, by omega, by have := HJ.out; congr 1; push_cast; omega, by rw [HSt.out, HE.out]; exact HOw.out, HBe.out, hgr⟩
              case measure => simp only [intOf]; omega
            · have hdec : decide ((leftF rr).2 ≠ bitU x j) = true := by simp [hne]
              have HE : Hid (stepB low rr (bitU x j) = xorK (leftF rr).1 low N) := by show stepB low rr (bitU x j) = xorK (leftF rr).1 low N; unfold stepB xorB; rw [if_neg hne, HL1.out]
              rw [hdec]
              clear hdec hne
              generalize (leftF rr).1 = ll at *
              go_wp2_with fail
              go_loopw [8, 35] (fun _ kv wr => ∃ k : Nat, k ≤ N ∧ kv = .int .i64 k ∧ Own wr w.heap.size 5 (slB w.heap.size N) (bys (xorK ll low k)) ∧ Below w.heap.size w wr ∧ w.heap.size < wr.heap.size) (fun _ kv _ => N - (intOf kv).toNat)
              case atStart => exact ⟨0, by omega, rfl, HOw.out, HBe.out, hgr⟩
              case round =>
                obtain ⟨k, hk, rfl, hown, hbel, hgr⟩ := hrel
                clear HOw HBe
                by_cases hkN : k < N
                · obtain ⟨hlo, hcc⟩ := HLow.out wr hbel
                  have hXl : (xorK ll low k).length = N := by rw [xorK_length]; exact HL1.out
                  obtain ⟨hlc, _⟩ := hlo.get (bys_at (l := low) (j := k) (by rw [HN.out]; exact hkN))
                  obtain ⟨hrc, hrz⟩ := hown.get (bys_at (l := xorK ll low k) (j := k) (by rw [hXl]; exact hkN))
                  have hput := hown.put (by rw [bys_length, hXl]) k (.int .u8 (((xorK ll low k).getD k 0 ^^^ low.getD k 0).toNat : Int))
                  rw [bys_set] at hput
                  have HP : Hid (Own (wr.setCell ⟨w.heap.size, k, none⟩ (.int .u8 (((xorK ll low k).getD k 0 ^^^ low.getD k 0).toNat : Int))) w.heap.size 5 (slB w.heap.size N) (bys (xorK ll low (k + 1)))) := hput
                  have HO := Lib.hid (Only.frame hbel (Nat.le_of_lt hgr) (Nat.le_refl _) ((Only.refl w.heap.size wr).put (p := ⟨w.heap.size, k, none⟩) (.inl rfl) (.int .u8 (((xorK ll low k).getD k 0 ^^^ low.getD k 0).toNat : Int))))
                  have HX := Lib.hid (u8_xorB ((xorK ll low k).getD k 0) (low.getD k 0))
                  have hgr2 : w.heap.size < (wr.setCell ⟨w.heap.size, k, none⟩ (.int .u8 (((xorK ll low k).getD k 0 ^^^ low.getD k 0).toNat : Int))).heap.size := by simpa using hgr
                  have hkN' : (k : Int) < N := by omega
                  clear hlo hXl hown hput hbel
                  generalize (xorK ll low k).getD k 0 = x1 at *
                  generalize low.getD k 0 = x2 at *
                  go_wp2_with fail
                  go_region
                  all_goals
                    go_wp2_with fail
                    rw [HX.out]
                    go_roundw
                    case rel => exact ⟨k + 1, by omega, by simp, HP.out.drew, HO.out.drew, hgr2⟩
                    case measure => simp only [intOf]; omega
                · obtain rfl : k = N := by omega
                  have HOw := Lib.hid hown
                  have HBe := Lib.hid hbel
                  clear hown hbel
                  go_wp2_with fail
                  go_roundw
                  case rel => exact ⟨n + 1, by omega, by have := HJ.out; congr 1; push_cast; omega, by rw [HSt.out, HE.out]; exact HOw.out, HBe.out, hgr⟩
                  case measure => simp only [intOf]; omega
        · obtain rfl : n = 8 := by omega
          have HO := Lib.hid hown
          have HB := Lib.hid hbel
          clear hown hbel
          go_wp2_with fail
          go_roundw
          case rel => exact ⟨i + 1, by omega, by simp, by rw [HSn.out]; exact HO.out, HB.out, hgr⟩
          case measure => simp only [intOf]; omega
    · obtain rfl : i = s.size := by omega
      have HO := Lib.hid hown
      have HB := Lib.hid hbel
      clear hown hbel
      go_wp2_with fail
      go_ret
      refine ⟨w.heap.size, rfl, ?_, HB.out⟩
      have h2 := HO.out
      rw [List.take_of_length_le (by rw [txt_length]; exact Nat.le_refl _)] at h2
      exact h2
end Go.Proofs.Ytfhefcpkknidcaa
/- bch.New. -/
namespace Go.Proofs.Ytfhefcpkknidcaa
open Go.RowKit Gf

theorem new_any (t ch : Int) (ht : 1 ≤ t ∧ t ≤ 8) (hc : 1 ≤ ch ∧ ch ≤ 256) (w : World) :
    Calls Try.prog 9 #[.int .i64 t, .int .i64 ch] w fun e w' => e = .returned (.tuple #[.pointer (some ⟨w.heap.size, 0, none⟩), .int .i64 0]) ∧ w' = w.alloc (.cells (codeArr t ch 0 0 0 0 (.slice none 0 0) (.slice none 0 0) 0 0 (.slice none 0 0)) 61) := by
  have h1 : decide (t < 1) = false := decide_eq_false (by omega)
  have h2 : decide (t > 8) = false := decide_eq_false (by omega)
  have h3 : decide (ch < 1) = false := decide_eq_false (by omega)
  have h4 : decide (ch > 256) = false := decide_eq_false (by omega)
  clear ht hc
  go_enter Try.func9, Try.ntmps9
  go_wp2_with fail
  go_ret2
  exact ⟨rfl, rfl⟩
theorem new_none (t ch : Int) (h : ¬ (1 ≤ t ∧ t ≤ 8 ∧ 1 ≤ ch ∧ ch ≤ 256)) (w : World) :
    Calls Try.prog 9 #[.int .i64 t, .int .i64 ch] w fun e w' => e = .returned (.tuple #[.pointer none, .int .i64 1]) ∧ w' = w := by
  have H := Lib.hid h
  clear h
  go_enter Try.func9, Try.ntmps9
  go_wp2_with fail
  all_goals first
    | (go_ret2; exact ⟨rfl, rfl⟩)
    | (exfalso; have := H.out; omega)
end Go.Proofs.Ytfhefcpkknidcaa
/- bch.Encode. -/
namespace Go.Proofs.Ytfhefcpkknidcaa
open Go.RowKit Gf

def str (l : List UInt8) : Value := .string ⟨l.toArray⟩
theorem conv_back {w : World} {B g n c : Nat} {l : List UInt8} (h : Own w B 5 (.slice (some ⟨g, 0, none⟩) n c) (bys l)) :
    (convert 40 9 (.slice (some ⟨g, 0, none⟩) n c)).run Try.prog w = .ok (str l) w := by
  have hn := h.slice_lt.2.2.1
  rw [bys_length] at hn
  subst hn
  refine run_convert_bytes_back w 40 9 5 ⟨g, 0, none⟩ c l Try.underlying40 Try.underlying5 Try.underlying9 fun j hj => ?_
  have hp : (⟨g, 0, none⟩ : Addr).add j = ⟨g, j, none⟩ := by unfold Addr.add; split <;> simp_all
  rw [hp, (h.get (bys_at hj)).1]
  simp [hj]
theorem Ready.below {b tt : Nat} {ch : Int} {w w1 w2 : World} (h : Ready b tt ch w w1) (k : Below w1.heap.size w1 w2) : Ready b tt ch w w2 := by
  obtain ⟨⟨Lw, h1, h2⟩, h3⟩ := h
  exact ⟨⟨Lw, h1.below k, h2⟩, h3.below k⟩
theorem Ready.code {b tt : Nat} {ch : Int} {w w1 : World} (h : Ready b tt ch w w1) : CodeS w1 b tt ch := by
  obtain ⟨⟨Lw, h1, _⟩, _⟩ := h
  exact .inr ⟨Lw, h1⟩
theorem CodeR.cells {w : World} {b tt Lw : Nat} {ch : Int} (h : CodeR w b tt ch Lw) : w.cell? ⟨b, 0, none⟩ = some (.int .i64 tt) ∧ w.cell? ⟨b, 1, none⟩ = some (.int .i64 ch) ∧ w.cell? ⟨b, 11, none⟩ = some (.int .i64 (13 * tt : Nat)) ∧ w.cell? ⟨b, 12, none⟩ = some (slB Lw (nLow tt)) := by
  obtain ⟨⟨p, E, L, h⟩, _⟩ := h
  exact ⟨h.code.cell rfl, h.code.cell rfl, h.code.cell rfl, h.code.cell rfl⟩
theorem CodeS.chunk {w : World} {b tt : Nat} {ch : Int} (h : CodeS w b tt ch) : w.cell? ⟨b, 1, none⟩ = some (.int .i64 ch) := by
  rcases h with ⟨dg, low, h⟩ | ⟨Lw, h⟩
  · exact h.once.2.2.1
  · exact h.cells.2.1
theorem lowT_length (tt : Nat) : (lowT tt).length = nLow tt := lowL_length _ _
def encB (tt : Nat) (l : List UInt8) : List UInt8 := divB (lowT tt) (zeroL (nLow tt)) l
theorem encB_length (tt : Nat) (l : List UInt8) : (encB tt l).length = nLow tt := by unfold encB; rw [divB_length]; simp [zeroL]
/-- divide, of a code that is ready. -/
theorem divR_any (s : ByteArray) (hs : s.size ≤ 256) {b tt Lw : Nat} (h1 : 1 ≤ tt) (h8 : tt ≤ 8) {ch : Int} (w : World) (h : CodeR w b tt ch Lw) :
    Calls Try.prog 17 #[.pointer (some ⟨b, 0, none⟩), .string s] w (DivEnd (encB tt (txt s)) (nLow tt) w) :=
  divide_any s hs (lowT tt) (nLow tt) (by unfold nLow; omega) (by unfold nLow; omega) (lowT_length tt) w h.cells.2.2.2 h.low

theorem encode_any (s : ByteArray) (hs : s.size ≤ 256) {b tt : Nat} (h1 : 1 ≤ tt) (h8 : tt ≤ 8) (w : World) (h : CodeS w b tt s.size) :
    Calls Try.prog 10 #[.pointer (some ⟨b, 0, none⟩), .string s] w fun e w' => e = .returned (.tuple #[str (encB tt (txt s)), .int .i64 0]) ∧ Ready b tt s.size w w' := by
  have hc := h.chunk
  have hw : IntKind.i64.wrap (s.size : Int) = s.size := i64_small _ (by omega)
  have HR := Lib.hid (ready_any h1 h8 w h)
  clear h
  go_enter Try.func10, Try.ntmps10
  go_wp2_with fail
  refine HR.out.mono ?_
  rintro e w1 ⟨rfl, hR⟩
  have HRd := Lib.hid hR
  obtain ⟨⟨Lw, hcr, _⟩, _⟩ := hR
  have HD := Lib.hid (divR_any s hs h1 h8 w1 hcr)
  clear hcr hc hw HR
  go_wp2_with fail
  refine HD.out.mono ?_
  rintro e w2 ⟨g, rfl, hown, hbel⟩
  have hcv := conv_back hown
  have HB := Lib.hid hbel
  clear hown hbel HD
  go_wp2_with fail
  go_ret2
  exact ⟨rfl, HRd.out.below HB.out⟩
theorem encode_nil (s : ByteArray) (w : World) :
    Calls Try.prog 10 #[.pointer none, .string s] w fun e w' => e = .returned (.tuple #[.string ⟨#[]⟩, .int .i64 1]) ∧ w = w' := by
  go_enter Try.func10, Try.ntmps10
  go_wp2_with fail
  go_ret2
  exact ⟨rfl, rfl⟩
end Go.Proofs.Ytfhefcpkknidcaa
/- Rows of bytes laid by []byte(s); clean. -/
namespace Go.Proofs.Ytfhefcpkknidcaa
open Go.RowKit Gf

/-- A row of bytes of the call's own, its cells free (the mark stands behind them). -/
def Byt (w : World) (B g n : Nat) (l : List UInt8) : Prop :=
  B ≤ g ∧ n = l.length ∧ ∃ (cur : Array Value) (fz : Nat × Nat), w.heap[g]? = some (.cells cur 5 fz) ∧ (fz.2 = 0 ∨ cur.size ≤ fz.1) ∧ n ≤ cur.size ∧ cur.toList.take n = bys l
theorem Byt.lt {w : World} {B g n : Nat} {l : List UInt8} (h : Byt w B g n l) : B ≤ g ∧ g < w.heap.size ∧ n = l.length := by
  obtain ⟨h1, h2, cur, fz, h3, _⟩ := h
  exact ⟨h1, (Array.getElem?_eq_some_iff.1 h3).1, h2⟩
theorem Byt.get {w : World} {B g n : Nat} {l : List UInt8} (h : Byt w B g n l) {j : Nat} (hj : j < l.length) : w.cell? ⟨g, j, none⟩ = some (.int .u8 ((l.getD j 0).toNat : Int)) ∧ w.frozen? ⟨g, j, none⟩ = false := by
  obtain ⟨_, h2, cur, fz, h3, h4, h5, h6⟩ := h
  constructor
  · have h7 : cur.toList[j]? = (bys l)[j]? := by rw [← h6, List.getElem?_take, if_pos (by omega)]
    rw [bys_at hj] at h7
    simp [World.cell?, h3]
    rw [← Array.getElem?_toList, h7]
    simp
  · obtain ⟨lo, hi⟩ := fz
    simp only [World.frozen?, h3]
    rcases h4 with h4 | h4
    · simp only at h4
      subst h4
      simp
    · have : ¬ lo ≤ j := by simp only at h4; omega
      simp [this]
theorem Byt.put {w : World} {B g n : Nat} {l : List UInt8} (h : Byt w B g n l) (j : Nat) (x : UInt8) : Byt (w.setCell ⟨g, j, none⟩ (.int .u8 (x.toNat : Int))) B g n (l.set j x) := by
  obtain ⟨h1, h2, cur, fz, h3, h4, h5, h6⟩ := h
  refine ⟨h1, by simpa using h2, cur.setIfInBounds j (.int .u8 (x.toNat : Int)), fz, ?_, by simpa using h4, by simpa using h5, ?_⟩
  · simp [World.setCell, Array.getElem?_modify, h3]
  · rw [Array.toList_setIfInBounds, List.take_set, h6, bys_set]
theorem Byt.heap {w w' : World} {B g n : Nat} {l : List UInt8} (h : Byt w B g n l) (he : w'.heap[g]? = w.heap[g]?) : Byt w' B g n l := by
  obtain ⟨h1, h2, cur, fz, h3, h4⟩ := h
  exact ⟨h1, h2, cur, fz, he.trans h3, h4⟩
theorem Byt.far {w : World} {B g n : Nat} {l : List UInt8} (h : Byt w B g n l) {p : Addr} (hp : g ≠ p.block) (v : Value) : Byt (w.setCell p v) B g n l := h.heap (Below.heap_setCell w p v g hp)
theorem Byt.drew {w : World} {B g n : Nat} {l : List UInt8} (h : Byt w B g n l) : Byt w.drew B g n l := h
theorem Byt.drewN {w : World} {B g n : Nat} {l : List UInt8} (h : Byt w B g n l) (m : Nat) : Byt (w.drewN m) B g n l := h
theorem Byt.below {w w' : World} {B g n : Nat} {l : List UInt8} (h : Byt w B g n l) (hb : Below w.heap.size w w') : Byt w' B g n l := h.heap (hb.block g h.lt.2.1)
theorem Byt.only {w w' : World} {B g n b : Nat} {l : List UInt8} (h : Byt w B g n l) (ho : Only b w w') (hn : g ≠ b) : Byt w' B g n l := h.heap (ho.block g h.lt.2.1 hn)
theorem Byt.alloc {w : World} {B g n : Nat} {l : List UInt8} (h : Byt w B g n l) (o : Obj) : Byt (w.alloc o) B g n l := h.heap (Below.heap_alloc w o g h.lt.2.1)
theorem Byt.lower {w : World} {B B' g n : Nat} {l : List UInt8} (h : Byt w B g n l) (hB : B' ≤ B) : Byt w B' g n l := ⟨Nat.le_trans hB h.1, h.2⟩
theorem Byt.ne {w : World} {B g n b : Nat} {l : List UInt8} {a : Array Value} {T : TypeId} (h : Byt w B g n l) (hb : Blk w b a T) (hT : T ≠ 5) : g ≠ b := by
  rintro rfl
  obtain ⟨_, _, cur, fz, h3, _⟩ := h
  unfold Blk at hb
  rw [h3] at hb
  injection hb with hb
  injection hb with _ e
  exact hT e.symm
theorem Own.byt {w : World} {B g n c : Nat} {l : List UInt8} (h : Own w B 5 (.slice (some ⟨g, 0, none⟩) n c) (bys l)) : Byt w B g n l := by
  have hn := h.slice_lt.2.2.1
  rw [bys_length] at hn
  rcases h.2 with ⟨h1, _⟩ | ⟨g', cap, cur, he, hb, hh, h1, h2, h3, h4⟩
  · simp at h1
  · simp only [Value.slice.injEq, Option.some.injEq, Addr.mk.injEq, and_true] at he
    obtain ⟨rfl, he2, rfl⟩ := he
    exact ⟨hb, hn, cur, (0, 0), hh, .inl rfl, by omega, by rw [← h4, he2, Nat.mul_one]⟩
theorem byt_back {w : World} {B g n : Nat} {l : List UInt8} (h : Byt w B g n l) (c : Nat) :
    (convert 40 9 (.slice (some ⟨g, 0, none⟩) n c)).run Try.prog w = .ok (str l) w := by
  obtain ⟨_, _, rfl⟩ := h.lt
  refine run_convert_bytes_back w 40 9 5 ⟨g, 0, none⟩ c l Try.underlying40 Try.underlying5 Try.underlying9 fun j hj => ?_
  have hp : (⟨g, 0, none⟩ : Addr).add j = ⟨g, j, none⟩ := by unfold Addr.add; split <;> simp_all
  rw [hp, (h.get hj).1]
  simp [hj]
/-- The world behind []byte(s). -/
def bytW (w : World) (s : ByteArray) : World := w.drew.alloc (.cells (bytesRow s (grownCap w s.size 0 5)) 5 ((bytesRow s (grownCap w s.size 0 5)).size, (bytesRow s (grownCap w s.size 0 5)).size + 1))
theorem byt_conv (w : World) (s : ByteArray) : (convert 9 40 (.string s)).run Try.prog w = .ok (.slice (some ⟨w.heap.size, 0, none⟩) s.size (grownCap w s.size 0 5)) (bytW w s) :=
  run_bytes_of_string w 9 40 5 s Try.underlying9 Try.underlying40 Try.underlying5
theorem bytW_byt (w : World) (s : ByteArray) {B : Nat} (hB : B ≤ w.heap.size) : Byt (bytW w s) B w.heap.size s.size (txt s) := by
  have hge := grownCap_ge w s.size 0 5
  generalize hc : grownCap w s.size 0 5 = c at hge
  refine ⟨hB, (txt_length s).symm, bytesRow s c, ((bytesRow s c).size, (bytesRow s c).size + 1), ?_, .inr (Nat.le_refl _), ?_, ?_⟩
  · unfold bytW; rw [hc]; exact heap_alloc_new w.drew _
  · have e : s.size = s.data.size := rfl
    unfold bytesRow; rw [Array.size_append, Array.size_map]; omega
  · have hl : s.size = (s.data.map fun b => Value.int .u8 (b.toNat : Int)).toList.length := by rw [Array.length_toList, Array.size_map]; rfl
    unfold bytesRow
    rw [Array.toList_append, List.take_append_of_le_length (by rw [← hl]; exact Nat.le_refl _), List.take_of_length_le (by rw [← hl]; exact Nat.le_refl _)]
    simp [bys, txt]
theorem bytW_below (w : World) (s : ByteArray) {B : Nat} (hB : B ≤ w.heap.size) : Below B w (bytW w s) := (below_drewN' (Below.refl B w) 1).alloc hB _
theorem bytW_size (w : World) (s : ByteArray) : (bytW w s).heap.size = w.heap.size + 1 := by unfold bytW; simp [World.alloc]
end Go.Proofs.Ytfhefcpkknidcaa
/- clean, walked. -/
namespace Go.Proofs.Ytfhefcpkknidcaa
open Go.RowKit Gf

def maskU (n : Nat) : UInt8 := UInt8.ofNat (256 - 2 ^ (8 - n))
def cleanL (tt : Nat) (l : List UInt8) : List UInt8 := if 13 * tt % 8 = 0 then l else l.set (l.length - 1) (l.getD (l.length - 1) 0 &&& maskU (13 * tt % 8))
theorem cleanL_length (tt : Nat) (l : List UInt8) : (cleanL tt l).length = l.length := by unfold cleanL; split <;> simp
theorem mask_and (x : UInt8) (n : Nat) (h0 : 0 < n) (h8 : n < 8) : Go.bits .and .u8 (x.toNat : Int) ((255 * 2 ^ (8 - n) % 256 : Nat) : Int) = ((x &&& maskU n).toNat : Int) := by
  have h1 : ∀ n : Fin 8, 0 < n.val → 255 * 2 ^ (8 - n.val) % 256 = (maskU n.val).toNat := by decide +kernel
  rw [h1 ⟨n, h8⟩ h0, u8_and_nat _ _ x.toNat_lt (maskU n).toNat_lt, UInt8.toNat_and]
def CleanEnd (l : List UInt8) (n : Nat) (w : World) (e : Ending) (w' : World) : Prop :=
  ∃ g c, e = .returned (.slice (some ⟨g, 0, none⟩) n c) ∧ Byt w' w.heap.size g n l ∧ Below w.heap.size w w'

set_option maxRecDepth 100000 in
set_option maxHeartbeats 3200000 in
theorem clean_any (p : ByteArray) {b tt Lw : Nat} (h1 : 1 ≤ tt) (h8 : tt ≤ 8) (hp : p.size = nLow tt) {ch : Int} (w : World) (h : CodeR w b tt ch Lw) :
    Calls Try.prog 18 #[.pointer (some ⟨b, 0, none⟩), .string p] w (CleanEnd (cleanL tt (txt p)) p.size w) := by
  have hbel := bytW_below w p (Nat.le_refl _)
  have hdg := (h.below hbel).cells.2.2.1
  have HY := Lib.hid (bytW_byt w p (Nat.le_refl _))
  have HB := Lib.hid hbel
  have hcv := byt_conv w p
  have hsz : p.size ≤ 13 := by rw [hp]; unfold nLow; omega
  have hsz1 : 2 ≤ p.size := by rw [hp]; unfold nLow; omega
  have hgw : w.heap.size < (bytW w p).heap.size := by rw [bytW_size]; omega
  have HCL : Hid (cleanL tt (txt p) = if 13 * tt % 8 = 0 then txt p else (txt p).set (p.size - 1) ((txt p).getD (p.size - 1) 0 &&& maskU (13 * tt % 8))) := by
    show cleanL tt (txt p) = _
    unfold cleanL; rw [txt_length]
  have HTx := Lib.hid (txt_length p)
  clear h hbel
  generalize bytW w p = wa at *
  generalize grownCap w p.size 0 5 = c at *
  generalize hD : 13 * tt = D at *
  have hD13 : 13 ≤ D := by omega
  have hD104 : D ≤ 104 := by omega
  have hm : (D : Int).tmod 8 = ((D % 8 : Nat) : Int) := by rw [Int.tmod_eq_emod_of_nonneg (by omega)]; omega
  have hm8 : D % 8 < 8 := by omega
  generalize hmm : D % 8 = m at *
  clear hD hmm hp
  generalize hn : p.size = n at *
  have HN := Lib.hid hn
  clear hn
  go_enter Try.func18, Try.ntmps18
  by_cases h0 : m = 0
  · have hgt : decide ((m : Int) > 0) = false := by simp; omega
    have HC : Hid (cleanL tt (txt p) = txt p) := by show cleanL tt (txt p) = txt p; rw [HCL.out, if_pos h0]
    subst h0
    clear hgt
    go_wp2_with fail
    go_ret
    exact ⟨_, _, rfl, by rw [HC.out]; exact HY.out, HB.out⟩
  · have hgt : decide ((m : Int) > 0) = true := by simp; omega
    have HC : Hid (cleanL tt (txt p) = (txt p).set (n - 1) ((txt p).getD (n - 1) 0 &&& maskU m)) := by show cleanL tt (txt p) = _; rw [HCL.out, if_neg h0]
    have HM := Lib.hid (mask_and ((txt p).getD (n - 1) 0) m (by omega) hm8)
    have hH0 : 0 < m := by omega
    have hw1 : IntKind.i64.wrap ((n : Int) - 1) = ((n - 1 : Nat) : Int) := by rw [IntKind.wrap_i64]; omega
    have hw2 : IntKind.i64.wrap (8 - (m : Int)) = ((8 - m : Nat) : Int) := by rw [IntKind.wrap_i64]; omega
    obtain ⟨hc, hz⟩ := HY.out.get (j := n - 1) (by rw [HTx.out]; omega)
    have HP := Lib.hid (HY.out.put (n - 1) ((txt p).getD (n - 1) 0 &&& maskU m))
    have HB2 := Lib.hid (Only.frame HB.out (Nat.le_of_lt hgw) (Nat.le_refl _) ((Only.refl w.heap.size wa).put (p := ⟨w.heap.size, n - 1, none⟩) (.inl rfl) (.int .u8 (((txt p).getD (n - 1) 0 &&& maskU m).toNat : Int))))
    have hn1 : ((n - 1 : Nat) : Int) < n := by omega
    clear h0
    generalize hk : n - 1 = k at *
    generalize hk8 : 8 - m = k8 at *
    have HK := Lib.hid hk
    have HK8 := Lib.hid hk8
    clear hk hk8
    go_wp2_with fail
    have HM2 : Hid (Go.bits .and .u8 (((txt p).getD k 0).toNat : Int) (255 * 2 ^ min k8 8 % 256) = (((txt p).getD k 0 &&& maskU m).toNat : Int)) := by
      show Go.bits .and .u8 (((txt p).getD k 0).toNat : Int) (255 * 2 ^ min k8 8 % 256) = _
      have h8 := HK8.out
      rw [show min k8 8 = k8 by omega, ← HM.out]
      simp
    clear HM
    generalize (txt p).getD k 0 = x at *
    go_region
    all_goals
      go_wp2_with fail
      rw [HM2.out]
      go_ret
      exact ⟨_, _, rfl, by rw [HC.out]; exact HP.out.drew, below_drewN' HB2.out 1⟩
end Go.Proofs.Ytfhefcpkknidcaa
/- The syndromes of a remainder: plain. -/
namespace Go.Proofs.Ytfhefcpkknidcaa
open Go.RowKit Gf

/-- Bit i of a row of bytes, the highest first. -/
def bitL (r : List UInt8) (i : Nat) : Bool := decide (bitU (r.getD (i / 8) 0) (7 - i % 8) = 1)
/-- The sum over the first i bits. -/
def synN (r : List UInt8) (D k : Nat) : Nat → F
  | 0 => 0#13
  | i + 1 => if bitL r i then synN r D k i ^^^ ex ((k + 1) * (D - 1 - i)) else synN r D k i
def synL (r : List UInt8) (D n : Nat) : List F := (List.range n).map fun k => synN r D k D
/-- The row while place k is summed up. -/
def rowKI (r : List UInt8) (D n k i : Nat) : List F := (List.range n).map fun j => if j < k then synN r D j D else if j = k then synN r D j i else 0#13
theorem rowKI_length (r : List UInt8) (D n k i : Nat) : (rowKI r D n k i).length = n := by simp [rowKI]
theorem rowKI_zero (r : List UInt8) (D n : Nat) : rowKI r D n 0 0 = List.replicate n 0#13 := by
  apply List.ext_getElem
  · simp [rowKI]
  · intro j h1 h2
    simp [rowKI, synN]
theorem rowKI_next (r : List UInt8) (D n k : Nat) : rowKI r D n k D = rowKI r D n (k + 1) 0 := by
  apply List.ext_getElem
  · simp [rowKI]
  · intro j h1 h2
    simp only [rowKI, List.getElem_map, List.getElem_range]
    by_cases h : j < k
    · rw [if_pos h, if_pos (by omega)]
    · rw [if_neg h]
      by_cases h' : j = k
      · rw [if_pos h', if_pos (by omega)]
      · rw [if_neg h', if_neg (by omega)]
        by_cases h2 : j = k + 1
        · rw [if_pos h2]; rfl
        · rw [if_neg h2]
theorem rowKI_all (r : List UInt8) (D n : Nat) : rowKI r D n n 0 = synL r D n := by
  apply List.ext_getElem
  · simp [rowKI, synL]
  · intro j h1 h2
    simp [rowKI] at h1
    simp [rowKI, synL, h1]
theorem rowKI_at (r : List UInt8) (D n k i : Nat) (h : k < n) : co (rowKI r D n k i) k = synN r D k i := by simp [co, rowKI, h]
theorem rowKI_skip (r : List UInt8) (D n k i : Nat) (h : bitL r i = false) : rowKI r D n k (i + 1) = rowKI r D n k i := by
  unfold rowKI
  apply List.map_congr_left
  intro j _
  simp [synN, h]
theorem rowKI_set (r : List UInt8) (D n k i : Nat) (h : bitL r i = true) : (rowKI r D n k i).set k (synN r D k i ^^^ ex ((k + 1) * (D - 1 - i))) = rowKI r D n k (i + 1) := by
  apply List.ext_getElem
  · simp [rowKI]
  · intro j h1 h2
    rw [List.getElem_set]
    by_cases h' : k = j
    · subst h'
      simp [rowKI, synN, h]
    · rw [if_neg h']
      simp [rowKI, Ne.symm h']
/-- Are the first k of them nought? -/
def zerosK (r : List UInt8) (D : Nat) : Nat → Bool
  | 0 => true
  | k + 1 => zerosK r D k && decide (synN r D k D = 0#13)
theorem zerosK_iff (r : List UInt8) (D n : Nat) : zerosK r D n = true ↔ ∀ k, k < n → synN r D k D = 0#13 := by
  induction n with
  | zero => simp [zerosK]
  | succ n ih =>
    simp only [zerosK, Bool.and_eq_true, ih, decide_eq_true_eq]
    constructor
    · rintro ⟨h1, h2⟩ k hk
      by_cases h : k = n
      · rw [h]; exact h2
      · exact h1 k (by omega)
    · exact fun h => ⟨fun k hk => h k (by omega), h n (by omega)⟩
theorem bit_is1 (x : UInt8) (j : Nat) : (Go.bits .and .u8 ((x.toNat : Int) / 2 ^ j) 1 == 1) = decide (bitU x j = 1) := by
  have h := bit_test 1 x j
  have h1 : (1 : UInt8).toNat = 1 := rfl
  rw [h1] at h
  by_cases hb : bitU x j = 1
  · rw [hb] at h
    rw [hb]
    simp at h ⊢
    omega
  · have h2 : decide (1 ≠ bitU x j) = true := decide_eq_true (fun e => hb e.symm)
    rw [h2] at h
    rw [decide_eq_false hb]
    simp at h ⊢
    omega
end Go.Proofs.Ytfhefcpkknidcaa
/- The syndromes, walked. -/
namespace Go.Proofs.Ytfhefcpkknidcaa
open Go.RowKit Gf

theorem mul_wrap (k a : Nat) (hk : k ≤ 16) (ha : a ≤ 104) : IntKind.i64.wrap (((k : Int) + 1) * (a : Int)) = (((k + 1) * a : Nat) : Int) := by
  have h : (k + 1) * a ≤ 17 * 104 := Nat.mul_le_mul (by omega) ha
  have e : ((k : Int) + 1) * (a : Int) = (((k + 1) * a : Nat) : Int) := by push_cast; rfl
  rw [e]
  exact i64_small _ (Nat.lt_of_le_of_lt h (by decide))
theorem fi_is0 {x : F} : (fi x == 0) = decide (x = 0#13) := by
  by_cases h : x = 0#13
  · subst h; rfl
  · rw [decide_eq_false h]
    apply beq_eq_false_iff_ne.2
    intro e
    apply h
    apply BitVec.eq_of_toNat_eq
    unfold fi at e
    show x.toNat = 0
    omega
def SynEnd (r : List UInt8) (b tt Lw : Nat) (ch : Int) (w : World) (e : Ending) (w' : World) : Prop :=
  ∃ v, e = .returned (.tuple #[v, .bool (zerosK r (13 * tt) (2 * tt))]) ∧ Own w' w.heap.size 3 v (fis (synL r (13 * tt) (2 * tt))) ∧ CodeR w' b tt ch Lw ∧ Only b w w'

set_option maxRecDepth 100000 in
set_option maxHeartbeats 3200000 in
theorem syndromes_any (r : List UInt8) {b tt Lw : Nat} (h1 : 1 ≤ tt) (h8 : tt ≤ 8) (hrl : r.length = nLow tt) {ch : Int} {g : Nat} (w : World) (h : CodeR w b tt ch Lw) (hr : Own w 0 5 (slB g (nLow tt)) (bys r)) :
    Calls Try.prog 19 #[.pointer (some ⟨b, 0, none⟩), slB g (nLow tt)] w (SynEnd r b tt Lw ch w) := by
  unfold SynEnd
  have hD1 : 13 ≤ 13 * tt := by omega
  have hD2 : 13 * tt ≤ 104 := by omega
  have hN8 : 13 * tt ≤ 8 * nLow tt := by unfold nLow; omega
  have hc0 := h.cells.1
  have HLow := Lib.hid h.low
  have HRr := Lib.hid hr
  have HK := Lib.hid h.fld
  have HRl := Lib.hid hrl
  have hbb : b < w.heap.size := by obtain ⟨⟨p, E, L, hh⟩, _⟩ := h; exact hh.lt.1
  have HMk : Hid (∀ (w' : World), FldK b tt ch 1 0 (13 * tt : Nat) (slB Lw (nLow tt)) w' → Only b w w' → CodeR w' b tt ch Lw) := fun w' hk ho => ⟨hk, HLow.out.other ho (by
    obtain ⟨p, E, L, hh⟩ := HK.out
    exact HLow.out.ne hh.code (by decide))⟩
  have hmk := mk22 (2 * tt) (by omega)
  have HRk : Hid (∀ (w' : World), Only b w w' → Own w' 0 5 (slB g (nLow tt)) (bys r)) := fun w' ho => HRr.out.other ho (by
    obtain ⟨p, E, L, hh⟩ := HK.out
    exact HRr.out.ne hh.code (by decide))
  have hw2 : IntKind.i64.wrap (2 * (tt : Int)) = ((2 * tt : Nat) : Int) := by rw [i64_in _ (by omega) (by omega)]; omega
  have hnew := Own.made w w.heap.size 3 (.int .i64 0) (2 * tt) (Nat.le_refl _) (by omega)
  rw [fis_zeros, ← rowKI_zero r (13 * tt)] at hnew
  have hbel := (Below.refl w.heap.size w).alloc (Nat.le_refl _) (.cells (madeCells #[.int .i64 0] (2 * tt)) 3)
  have HNew := Lib.hid hnew
  obtain ⟨p0, E, L, hR⟩ := HK.out
  have hE := hR.lt.2.1
  have hL := hR.lt.2.2
  have HR1 := Lib.hid (hR.below hbel)
  clear hR
  have HO1 := Lib.hid (Only.of_below (b := b) hbel)
  have hsz1 : w.heap.size < (w.alloc (.cells (madeCells #[.int .i64 0] (2 * tt)) 3)).heap.size := by simp
  clear hnew hbel hrl hr h
  have hn16 : 2 * tt ≤ 16 := by omega
  have hN13 : nLow tt ≤ 13 := by unfold nLow; omega
  generalize hn : 2 * tt = n at *
  generalize hD : 13 * tt = D at *
  generalize hNN : nLow tt = N at *
  have HTT : Hid (2 * tt = n ∧ 13 * tt = D ∧ nLow tt = N) := ⟨hn, hD, hNN⟩
  clear hn hD hNN
  go_enter Try.func19, Try.ntmps19
  go_wp2_with fail
  clear hmk hw2 hc0
  generalize w.alloc _ = wa at *
  clear HK
  go_loopw [7, 8, 9, 18] (fun cl _ _ kv wr => ∃ (k : Nat) (p : Int), k ≤ n ∧ kv = .int .i64 k ∧ cl = .bool (zerosK r D k) ∧ Own wr w.heap.size 3 (.slice (some ⟨w.heap.size, 0, none⟩) n n) (fis (rowKI r D n k 0)) ∧ FldR wr b tt ch 1 0 p D (slB Lw N) E L ∧ Only b w wr ∧ w.heap.size < wr.heap.size) (fun _ _ _ kv _ => n - (intOf kv).toNat)
  case atStart => exact ⟨0, p0, by omega, rfl, rfl, HNew.out, HR1.out, HO1.out, hsz1⟩
  case round =>
    obtain ⟨k, p, hk, rfl, rfl, hown, hr, ho, hsz⟩ := hrel
    clear HNew HR1 HO1 hsz1
    by_cases hlt : k < n
    · have hz0 : rowKI r D n k 0 = rowKI r D n k 0 := rfl
      have hkn : (k : Int) < n := by omega
      have hwk : IntKind.i64.wrap ((k : Int) + 1) = (k : Int) + 1 := i64_in _ (by omega) (by omega)
      have hwD : IntKind.i64.wrap ((D : Int) - 1) = (D : Int) - 1 := i64_in _ (by omega) (by omega)
      have hdc := hr.code.cell (i := 11) (v := .int .i64 D) rfl
      have HOw := Lib.hid hown
      have HR := Lib.hid hr
      have HO := Lib.hid ho
      clear hown hr ho hz0
      go_wp2_with fail
      go_loopw [9, 25] (fun _ iv wr => ∃ (i : Nat) (p : Int), i ≤ D ∧ iv = .int .i64 i ∧ Own wr w.heap.size 3 (.slice (some ⟨w.heap.size, 0, none⟩) n n) (fis (rowKI r D n k i)) ∧ FldR wr b tt ch 1 0 p D (slB Lw N) E L ∧ Only b w wr ∧ w.heap.size < wr.heap.size) (fun _ iv _ => D - (intOf iv).toNat)
      case atStart => exact ⟨0, p, by omega, rfl, HOw.out, HR.out, HO.out, hsz⟩
      case round =>
        obtain ⟨i, p, hi, rfl, hown, hr, ho, hsz⟩ := hrel
        clear HOw HR HO hdc
        by_cases hiD : i < D
        · have hwD : IntKind.i64.wrap ((D : Int) - 1) = (D : Int) - 1 := i64_in _ (by omega) (by omega)
          have hdc := hr.code.cell (i := 11) (v := .int .i64 D) rfl
          have hq : (i : Int).tdiv 8 = ((i / 8 : Nat) : Int) := by rw [Int.tdiv_eq_ediv_of_nonneg (by omega)]; omega
          have hm : (i : Int).tmod 8 = ((i % 8 : Nat) : Int) := by rw [Int.tmod_eq_emod_of_nonneg (by omega)]; omega
          have hw7 : IntKind.i64.wrap (7 - ((i % 8 : Nat) : Int)) = ((7 - i % 8 : Nat) : Int) := by rw [IntKind.wrap_i64]; omega
          have hiN : ((i / 8 : Nat) : Int) < N := by omega
          have hiDc : (i : Int) < D := by omega
          have hat : IntKind.i64.wrap ((D : Int) - 1 - (i : Int)) = ((D - 1 - i : Nat) : Int) := by rw [IntKind.wrap_i64]; omega
          have hml := mul_wrap k (D - 1 - i) (by omega) (by omega)
          obtain ⟨hxc, _⟩ := (HRk.out wr ho).get (bys_at (l := r) (j := i / 8) (by rw [HRl.out]; omega))
          have hb1 := bit_is1 (r.getD (i / 8) 0) (7 - i % 8)
          have HBit : Hid (bitL r i = decide (bitU (r.getD (i / 8) 0) (7 - i % 8) = 1)) := rfl
          have HSk := Lib.hid (rowKI_skip r D n k i)
          have HSt := Lib.hid (rowKI_set r D n k i)
          obtain ⟨hn1, hz1⟩ := hown.get (fis_at (l := rowKI r D n k i) (j := k) (by rw [rowKI_length]; exact hlt))
          rw [rowKI_at r D n k i hlt] at hn1
          have hj7 : 7 - i % 8 ≤ 7 := by omega
          have HOw := Lib.hid hown
          have HR := Lib.hid hr
          have HO := Lib.hid ho
          clear hown hr ho
          generalize r.getD (i / 8) 0 = x at *
          generalize 7 - i % 8 = j at *
          generalize i / 8 = i8 at *
          generalize i % 8 = im at *
          generalize (k + 1) * (D - 1 - i) = m at *
          generalize D - 1 - i = at' at *
          generalize synN r D k i = S at *
          generalize decide (bitU x j = 1) = bt at *
          cases bt with
          | false =>
            have HRw : Hid (rowKI r D n k (i + 1) = rowKI r D n k i) := HSk.out HBit.out
            clear HSk HSt hn1 hz1
            go_wp2_with fail
            go_roundw
            case rel => exact ⟨i + 1, p, by omega, by simp, by rw [HRw.out]; exact HOw.out, HR.out, HO.out, hsz⟩
            case measure => simp only [intOf]; omega
          | true =>
            have HRw := Lib.hid (HSt.out HBit.out)
            clear HSk HSt
            have HX : Hid (∀ w, FldS w b tt ch 1 0 D (slB Lw N) → Calls Try.prog 29 #[.pointer (some ⟨b, 5, none⟩), .int .i64 (m : Int)] w (fun e w' => e = .returned (.int .i64 (fi (ex m))) ∧ FldP b tt ch 1 0 D (slB Lw N) w w')) := fun w h => by
              have := exp_any (m : Int) w h
              rw [exI_nat] at this
              exact this
            have hgb : w.heap.size ≠ b := by omega
            have hglt : w.heap.size < wr.drew.heap.size := hsz
            have hrl : (rowKI r D n k i).length = n := rowKI_length r D n k i
            have HRl2 := Lib.hid hrl
            clear hrl
            go_wp2_with fail
            clear hxc hb1 hq hm hw7
            go_region_with (go_at_call 29; refine (HX.out _ HR.out.drew.back).mono ?_; rintro e w2 ⟨rfl, hP2⟩; have hn2 := hP2.only.cellOf hgb hn1; have hz2 := hP2.only.freeOf (j := k) hgb hglt hz1; have HP2 := Lib.hid hP2; clear hP2)
            all_goals
                go_wp2_with fail
                rw [fi_xor]
                obtain ⟨p', hr5⟩ := HP2.out.rdy HR.out.drew
                have ho5 := (HO.out.drew).trans HP2.out.only
                have hn5 := (HOw.out.drew).other HP2.out.only (HOw.out.neb hbb)
                have hn6 := hn5.put (by rw [fis_length, HRl2.out]) k (.int .i64 (fi (S ^^^ ex m)))
                rw [fis_set, HRw.out] at hn6
                have hr6 := hr5.far (a := ⟨w.heap.size, k, none⟩) (by simp only; omega) (by simp only; omega) (by simp only; omega) (.int .i64 (fi (S ^^^ ex m)))
                have ho6 := ho5.put (p := ⟨w.heap.size, k, none⟩) (.inr (by simp only; omega)) (.int .i64 (fi (S ^^^ ex m)))
                have hs6 := HP2.out.only.size
                have hs7 : w.heap.size < (w2.setCell ⟨w.heap.size, k, none⟩ (.int .i64 (fi (S ^^^ ex m)))).heap.size := by simp; omega
                have HOw2 := Lib.hid hn6
                have HR2 := Lib.hid hr6
                have HO2 := Lib.hid ho6
                clear hr5 ho5 hn5 hn6 hr6 ho6 hs6 hn2 hz2 HP2 HOw HR HO hn1 hz1 hdc HX HRk HMk
                generalize World.setCell w2 _ _ = w6 at *
                go_wp2_with fail
                go_roundw
                case rel => exact ⟨i + 1, p', by omega, by simp, HOw2.out, HR2.out, HO2.out, hs7⟩
                case measure => simp only [intOf]; omega
        · obtain rfl : i = D := by omega
          obtain ⟨hn1, _⟩ := hown.get (fis_at (l := rowKI r i n k i) (j := k) (by rw [rowKI_length]; exact hlt))
          rw [rowKI_at r i n k i hlt] at hn1
          rw [rowKI_next] at hown
          have h0 := fi_is0 (x := synN r i k i)
          have HZ : Hid (zerosK r i (k + 1) = (zerosK r i k && decide (synN r i k i = 0#13))) := rfl
          have HOw2 := Lib.hid hown
          have HR2 := Lib.hid hr
          have HO2 := Lib.hid ho
          clear hown hr ho
          generalize synN r i k i = S at *
          generalize decide (S = 0#13) = bt at *
          generalize zerosK r i k = zk at *
          cases zk with
          | false =>
            have HZ2 : Hid (zerosK r i (k + 1) = false) := by show zerosK r i (k + 1) = false; rw [HZ.out]; rfl
            clear hn1 h0 HZ
            go_wp2_with fail
            go_roundw
            case rel => exact ⟨k + 1, p, by omega, by simp, by rw [HZ2.out], HOw2.out, HR2.out, HO2.out, hsz⟩
            case measure => simp only [intOf]; omega
          | true =>
            have HZ2 : Hid (zerosK r i (k + 1) = bt) := by show zerosK r i (k + 1) = bt; rw [HZ.out]; rfl
            clear HZ
            go_wp2_with fail
            go_roundw
            case rel => exact ⟨k + 1, p, by omega, by simp, by rw [HZ2.out], HOw2.out, HR2.out, HO2.out, hsz⟩
            case measure => simp only [intOf]; omega
    · obtain rfl : k = n := by omega
      rw [rowKI_all] at hown
      have HOw := Lib.hid hown
      have HR := Lib.hid hr
      have HO := Lib.hid ho
      clear hown hr ho
      go_wp2_with fail
      go_ret2
      refine ⟨_, rfl, HOw.out, HMk.out wr ⟨_, _, _, HR.out⟩ HO.out, HO.out⟩
end Go.Proofs.Ytfhefcpkknidcaa
/- Decode of a word whose syndromes are nought, walked. -/
namespace Go.Proofs.Ytfhefcpkknidcaa
open Go.RowKit Gf

theorem Ready.after {b tt Lw : Nat} {ch : Int} {w w1 w2 : World} (h : Ready b tt ch w w1) (hc1 : CodeR w1 b tt ch Lw) (hc : CodeR w2 b tt ch Lw) (ho : Only b w1 w2) : Ready b tt ch w w2 := by
  obtain ⟨⟨Lw', h1, h2⟩, h3⟩ := h
  exact ⟨⟨Lw, hc, fun Lw0 h0 => by rw [h2 Lw0 h0]; exact hc1.same h1⟩, h3.trans ho⟩
theorem results_tmp4 {fn : Func} {t u v x : Tmp} (h : fn.results = #[.tmp t, .tmp u, .tmp v, .tmp x]) (tmps : Array Value) (P : Program) (w : World) :
    (results fn tmps).run P w = .ok (.tuple #[tmps.getD t undef, tmps.getD u undef, tmps.getD v undef, tmps.getD x undef]) w := by
  simp [results, h]
/-- What is left of a word: its remainder with its parity mixed in. -/
def restL (tt : Nat) (s p : List UInt8) : List UInt8 := xorB (encB tt s) (cleanL tt p)

set_option maxRecDepth 100000 in
set_option maxHeartbeats 3200000 in
theorem decode_clean (s p : ByteArray) (hs : s.size ≤ 256) {b tt : Nat} (h1 : 1 ≤ tt) (h8 : tt ≤ 8) (hp : p.size = nLow tt) (hz : zerosK (restL tt (txt s) (txt p)) (13 * tt) (2 * tt) = true) (w : World) (h : CodeS w b tt s.size) :
    Calls Try.prog 12 #[.pointer (some ⟨b, 0, none⟩), .string s, .string p] w fun e w' => e = .returned (.tuple #[.string s, str (cleanL tt (txt p)), .int .i64 0, .bool true]) ∧ Ready b tt s.size w w' := by
  have hc := h.chunk
  have HP := Lib.hid (parity_any h1 h8 w h)
  have hws : IntKind.i64.wrap (s.size : Int) = s.size := i64_small _ (by omega)
  have hN13 : nLow tt ≤ 13 := by unfold nLow; omega
  have hN1 : 1 ≤ nLow tt := by unfold nLow; omega
  have hwp : IntKind.i64.wrap (p.size : Int) = (p.size : Int) := i64_small _ (by omega)
  have HZ := Lib.hid hz
  have HPs := Lib.hid hp
  clear h hz hp
  go_enter Try.func12, Try.ntmps12
  go_wp2_with fail
  refine HP.out.mono ?_
  rintro e w1 ⟨rfl, hR⟩
  rw [← HPs.out]
  have HR := Lib.hid hR
  obtain ⟨⟨Lw, hcr, hju⟩, hjo⟩ := hR
  have HC := Lib.hid hcr
  clear hcr hju hjo HP hc
  have hcv := byt_conv w1 s
  have HY := Lib.hid (bytW_byt w1 s (Nat.le_refl _))
  have hbel := bytW_below w1 s (Nat.le_refl _)
  have HB := Lib.hid hbel
  have HCl := Lib.hid (clean_any p h1 h8 HPs.out (bytW w1 s) (HC.out.below hbel))
  have hsz := (bytW_size w1 s)
  have hszG : w1.heap.size ≤ (bytW w1 s).heap.size := by omega
  clear hbel hsz
  generalize bytW w1 s = w2 at *
  go_wp2_with fail
  clear hcv
  refine HCl.out.mono ?_
  rintro e w3 ⟨gp, cp, rfl, hbp, hb3⟩
  have HBp := Lib.hid (hbp.lower hszG)
  have hb13 : Below w1.heap.size w1 w3 := HB.out.trans (hb3.mono hszG)
  have HB3 := Lib.hid hb13
  have hs3 : w1.heap.size ≤ w3.heap.size := hb13.size
  have HDv := Lib.hid (divR_any s hs h1 h8 w3 (HC.out.below hb13))
  clear hbp hb3 hb13 HCl
  go_wp2_with fail
  refine HDv.out.mono ?_
  rintro e w4 ⟨gr, rfl, hr4, hb4⟩
  have HB4 := Lib.hid (HB3.out.trans (hb4.mono hs3))
  have HBp4 := Lib.hid (HBp.out.below hb4)
  have HR4 := Lib.hid (hr4.lower hs3)
  have hgrB := hr4.slice_lt.1
  have hgpB := HBp.out.lt.2.1
  have hne : gr ≠ gp := by omega
  have hs4 : w1.heap.size ≤ w4.heap.size := HB4.out.size
  have HEl : Hid ((encB tt (txt s)).length = nLow tt) := encB_length tt (txt s)
  have HPl : Hid ((cleanL tt (txt p)).length = p.size) := by show (cleanL tt (txt p)).length = p.size; rw [cleanL_length, txt_length]
  have HXr : Hid (restL tt (txt s) (txt p) = xorK (encB tt (txt s)) (cleanL tt (txt p)) (nLow tt)) := by show xorB _ _ = _; unfold xorB; rw [encB_length]
  clear hr4 hb4 HB3 HBp HDv hgrB hgpB HB HY hszG hs3
  generalize encB tt (txt s) = R at *
  generalize hPe : cleanL tt (txt p) = P at *
  have HPe := Lib.hid hPe
  clear hPe
  go_wp2_with fail
  go_loopw [13, 50] (fun _ kv wr => ∃ k : Nat, k ≤ nLow tt ∧ kv = .int .i64 k ∧ Own wr w1.heap.size 5 (slB gr (nLow tt)) (bys (xorK R P k)) ∧ Byt wr w1.heap.size gp p.size P ∧ Below w1.heap.size w1 wr) (fun _ kv _ => nLow tt - (intOf kv).toNat)
  case atStart => exact ⟨0, Nat.zero_le _, rfl, HR4.out, HBp4.out, HB4.out⟩
  case round =>
    obtain ⟨k, hk, rfl, hr, hb, hB⟩ := hrel
    clear HR4 HBp4 HB4
    by_cases hlt : k < nLow tt
    · have hXl : (xorK R P k).length = nLow tt := by rw [xorK_length]; exact HEl.out
      obtain ⟨hrc, hrz⟩ := hr.get (bys_at (l := xorK R P k) (j := k) (by rw [hXl]; exact hlt))
      obtain ⟨hpc, _⟩ := hb.get (j := k) (by rw [HPl.out, HPs.out]; exact hlt)
      have hput := hr.put (by rw [bys_length, hXl]) k (.int .u8 (((xorK R P k).getD k 0 ^^^ P.getD k 0).toNat : Int))
      rw [bys_set] at hput
      have HPt : Hid (Own (wr.setCell ⟨gr, k, none⟩ (.int .u8 (((xorK R P k).getD k 0 ^^^ P.getD k 0).toNat : Int))) w1.heap.size 5 (slB gr (nLow tt)) (bys (xorK R P (k + 1)))) := hput
      have HBt := Lib.hid (hb.far (p := ⟨gr, k, none⟩) (by simp only; exact Ne.symm hne) (.int .u8 (((xorK R P k).getD k 0 ^^^ P.getD k 0).toNat : Int)))
      have HBl := Lib.hid (Only.frame hB hB.size hr.slice_lt.1 ((Only.refl gr wr).put (p := ⟨gr, k, none⟩) (.inl rfl) (.int .u8 (((xorK R P k).getD k 0 ^^^ P.getD k 0).toNat : Int))))
      have HX := Lib.hid (u8_xorB ((xorK R P k).getD k 0) (P.getD k 0))
      have hkN : (k : Int) < (nLow tt : Nat) := by omega
      have hkp : (k : Int) < p.size := by have := HPs.out; omega
      clear hXl hput hr hb hB
      generalize (xorK R P k).getD k 0 = x1 at *
      generalize P.getD k 0 = x2 at *
      go_wp2_with fail
      go_region
      all_goals
        go_wp2_with fail
        rw [HX.out]
        go_roundw
        case rel => exact ⟨k + 1, by omega, by simp, HPt.out.drew, HBt.out.drew, HBl.out.drew⟩
        case measure => simp only [intOf]; omega
    · obtain rfl : k = nLow tt := by omega
      have HBp := Lib.hid hb
      have HCr := Lib.hid (HC.out.below hB)
      rw [← HXr.out] at hr
      have HSy := Lib.hid (syndromes_any _ h1 h8 (by rw [HXr.out, xorK_length]; exact HEl.out) wr HCr.out (hr.lower (Nat.zero_le _)))
      have HB := Lib.hid hB
      clear hr hb hB
      go_wp2_with fail
      refine HSy.out.mono ?_
      rintro e w5 ⟨v, rfl, hv, hc5, ho5⟩
      rw [HZ.out]
      have hpb : gp ≠ b := by
        obtain ⟨⟨p0, E0, L0, hh⟩, _⟩ := HCr.out
        exact HBp.out.ne hh.code (by decide)
      have hcv5 := byt_back (HBp.out.only ho5 hpb).drew cp
      have HRf := Lib.hid (HR.out.after HC.out hc5 ((Only.of_below HB.out).trans ho5))
      clear hv hc5 ho5 HSy HCr HB HBp hpb
      go_wp2_with fail
      go_region
      all_goals
        go_wp2_with fail
        refine bodyPost_ret (results_tmp4 rfl _ _ _) rfl ?_
        exact ⟨by rw [HPe.out]; rfl, HRf.out.below (below_drewN' (Below.refl _ _) 1)⟩
end Go.Proofs.Ytfhefcpkknidcaa
/- The bits of rows of bytes: the shift, the mixing, the remainder's value: plain. -/
namespace Go.Proofs.Ytfhefcpkknidcaa
open Go.RowKit Gf

theorem bitU_is (x : UInt8) (j : Nat) : decide (bitU x j = 1) = x.toNat.testBit j := by
  have h1 := bitU_nat x j
  rw [Nat.testBit_eq_decide_div_mod_eq]
  by_cases h : x.toNat / 2 ^ j % 2 = 1
  · have : bitU x j = 1 := UInt8.toNat_inj.1 (by rw [h1, h]; rfl)
    rw [decide_eq_true this, decide_eq_true h]
  · have : bitU x j ≠ 1 := fun e => h (by rw [← h1, e]; rfl)
    rw [decide_eq_false this, decide_eq_false h]
theorem bitL_is (r : List UInt8) (i : Nat) : bitL r i = (r.getD (i / 8) 0).toNat.testBit (7 - i % 8) := by unfold bitL; rw [bitU_is]
theorem bitL_lo (x : UInt8) (xs : List UInt8) (i : Nat) (h : i < 8) : bitL (x :: xs) i = x.toNat.testBit (7 - i) := by
  rw [bitL_is, show i / 8 = 0 by omega, show i % 8 = i by omega]; rfl
theorem bitL_hi (x : UInt8) (xs : List UInt8) (i : Nat) (h : 8 ≤ i) : bitL (x :: xs) i = bitL xs (i - 8) := by
  rw [bitL_is, bitL_is, show i / 8 = (i - 8) / 8 + 1 by omega, show i % 8 = (i - 8) % 8 by omega]; simp
theorem bitL_out (r : List UInt8) (i : Nat) (h : 8 * r.length ≤ i) : bitL r i = false := by
  rw [bitL_is, List.getD_eq_getElem?_getD, List.getElem?_eq_none (by omega)]
  simp
theorem left_out (l : List UInt8) : (leftF l).2.toNat = (bitL l 0).toNat := by
  cases l with
  | nil => simp [leftF, bitL_out]
  | cons x xs =>
    rw [bitL_lo x xs 0 (by omega)]
    have : ∀ n : Fin 256, (UInt8.ofNat n.val >>> 7).toNat = (n.val.testBit 7).toNat := by decide +kernel
    have h := this ⟨x.toNat, x.toNat_lt⟩
    simpa [leftF] using h
theorem shl_or (x o : UInt8) (b : Bool) (ho : o.toNat = b.toNat) (j : Nat) (hj : j < 8) : ((x <<< 1) ||| o).toNat.testBit j = if j = 0 then b else x.toNat.testBit (j - 1) := by
  have h1 := shl1 x
  have h2 : (x <<< 1 : UInt8).toNat = x.toNat * 2 % 256 := by omega
  rw [UInt8.toNat_or, h2, ho, Nat.testBit_or, show (256 : Nat) = 2 ^ 8 from rfl, Nat.testBit_mod_two_pow, decide_eq_true hj]
  cases j with
  | zero => cases b <;> simp
  | succ j =>
    rw [Nat.testBit_succ, show x.toNat * 2 / 2 = x.toNat by omega]
    cases b <;> simp [Nat.testBit_succ]
theorem left_bit (l : List UInt8) (i : Nat) : bitL (leftF l).1 i = if i < 8 * l.length then bitL l (i + 1) else false := by
  induction l generalizing i with
  | nil => simp [leftF, bitL_out]
  | cons x xs ih =>
    by_cases h : i < 8
    · have hl : i < 8 * (x :: xs).length := by rw [List.length_cons]; omega
      rw [if_pos hl, leftF, bitL_lo _ _ i h, shl_or x _ _ (left_out xs) _ (by omega)]
      by_cases h7 : i = 7
      · subst h7
        rw [if_pos (by omega), bitL_hi _ _ _ (by omega)]
      · rw [if_neg (by omega), bitL_lo _ _ _ (by omega)]
        congr 1
    · rw [leftF, bitL_hi _ _ i (by omega), ih, bitL_hi x xs (i + 1) (by omega)]
      simp only [List.length_cons]
      by_cases h2 : i - 8 < 8 * xs.length
      · rw [if_pos h2, if_pos (by omega)]
        congr 1
        omega
      · rw [if_neg h2, if_neg (by omega)]
theorem xorK_get (r s : List UInt8) (k j : Nat) (hk : k ≤ r.length) : (xorK r s k).getD j 0 = if j < k then r.getD j 0 ^^^ s.getD j 0 else r.getD j 0 := by
  induction k with
  | zero => simp [xorK]
  | succ k ih =>
    have ih := ih (by omega)
    by_cases h : j = k
    · subst h
      rw [if_neg (by omega)] at ih
      rw [xorK, if_pos (by omega), ih]
      have hl : j < (xorK r s j).length := by rw [xorK_length]; omega
      simp [List.getD_eq_getElem?_getD, hl]
    · have e : (xorK r s (k + 1)).getD j 0 = (xorK r s k).getD j 0 := by
        simp [xorK, List.getD_eq_getElem?_getD, Ne.symm h]
      rw [e, ih]
      by_cases h2 : j < k
      · rw [if_pos h2, if_pos (by omega)]
      · rw [if_neg h2, if_neg (by omega)]
theorem xorB_bit (r s : List UInt8) (i : Nat) (h : r.length = s.length) : bitL (xorB r s) i = (bitL r i ^^ bitL s i) := by
  rw [bitL_is, bitL_is, bitL_is]
  unfold xorB
  rw [xorK_get r s r.length _ (Nat.le_refl _)]
  by_cases h2 : i / 8 < r.length
  · rw [if_pos h2, UInt8.toNat_xor, Nat.testBit_xor]
  · rw [if_neg h2]
    have e1 : s.getD (i / 8) 0 = 0 := by rw [List.getD_eq_getElem?_getD, List.getElem?_eq_none (by omega)]; rfl
    rw [e1]
    simp
end Go.Proofs.Ytfhefcpkknidcaa
/- The value of a remainder at a root of the generator: plain. -/
namespace Go.Proofs.Ytfhefcpkknidcaa
open Go.RowKit Gf

/-- The value at y of the first D bits of a row, the highest first. -/
def evB (r : List UInt8) (D : Nat) (y : F) : F := S D fun i => if bitL r i then pw y (D - 1 - i) else 0#13
def Spare (r : List UInt8) (D : Nat) : Prop := ∀ i, D ≤ i → bitL r i = false
theorem xor_self' (a : F) : a ^^^ a = 0#13 := BitVec.xor_self
theorem mul_pw (y : F) (n : Nat) : mul y (pw y n) = pw y (n + 1) := rfl
theorem ev_left (r : List UInt8) (d : Nat) (y : F) (hs : bitL r (d + 1) = false) : mul y (evB r (d + 1) y) = (if bitL r 0 then pw y (d + 1) else 0#13) ^^^ evB (leftF r).1 (d + 1) y := by
  unfold evB
  rw [S_mul, S_first]
  congr 1
  · by_cases h : bitL r 0 = true
    · rw [if_pos h, if_pos h]; exact mul_pw y d
    · rw [if_neg h, if_neg h, mul_zero]
  · show _ = S d _ ^^^ _
    have h0 : (if bitL (leftF r).1 d = true then pw y (d + 1 - 1 - d) else 0#13) = 0#13 := by
      rw [left_bit]
      by_cases h : d < 8 * r.length
      · rw [if_pos h, hs]; rfl
      · rw [if_neg h]; rfl
    simp only
    rw [h0, BitVec.xor_zero]
    apply S_congr
    intro i hi
    rw [left_bit]
    by_cases h : i < 8 * r.length
    · rw [if_pos h]
      by_cases hb : bitL r (i + 1) = true
      · rw [if_pos hb, if_pos hb, mul_pw]; congr 1; omega
      · rw [if_neg hb, if_neg hb, mul_zero]
    · rw [if_neg h, bitL_out r (i + 1) (by omega)]
      simp [mul_zero]
theorem ev_xor (r s : List UInt8) (D : Nat) (y : F) (h : r.length = s.length) : evB (xorB r s) D y = evB r D y ^^^ evB s D y := by
  unfold evB
  rw [← S_xor]
  apply S_congr
  intro i _
  rw [xorB_bit r s i h]
  cases bitL r i <;> cases bitL s i <;> simp
theorem spare_left {r : List UInt8} {D : Nat} (h : Spare r D) : Spare (leftF r).1 D := fun i hi => by
  rw [left_bit]
  split
  · exact h (i + 1) (by omega)
  · rfl
theorem spare_xor {r s : List UInt8} {D : Nat} (hl : r.length = s.length) (h : Spare r D) (h' : Spare s D) : Spare (xorB r s) D := fun i hi => by
  rw [xorB_bit r s i hl, h i hi, h' i hi]; rfl
theorem step_bit (r : List UInt8) (o : UInt8) (b : Bool) (ho : o.toNat = b.toNat) : ((leftF r).2 = o) ↔ bitL r 0 = b := by
  rw [← UInt8.toNat_inj, left_out, ho]
  cases bitL r 0 <;> cases b <;> simp
theorem ev_step (low r : List UInt8) (o : UInt8) (b : Bool) (d : Nat) (y : F) (ho : o.toNat = b.toNat) (hl : r.length = low.length) (hs : Spare r (d + 1)) (hroot : evB low (d + 1) y = pw y (d + 1)) :
    evB (stepB low r o) (d + 1) y = mul y (evB r (d + 1) y) ^^^ (if b then pw y (d + 1) else 0#13) := by
  have e := ev_left r d y (hs _ (Nat.le_refl _))
  rw [e]
  have hll : (leftF r).1.length = low.length := by rw [leftF_length]; exact hl
  unfold stepB
  by_cases h : (leftF r).2 = o
  · rw [if_pos h, (step_bit r o b ho).1 h]
    generalize evB (leftF r).1 (d + 1) y = v
    generalize (if b = true then pw y (d + 1) else 0#13) = z
    rw [BitVec.xor_comm z v, BitVec.xor_assoc, BitVec.xor_self, BitVec.xor_zero]
  · rw [if_neg h, ev_xor _ _ _ _ hll, hroot]
    have hb : ¬ bitL r 0 = b := fun e => h ((step_bit r o b ho).2 e)
    generalize evB (leftF r).1 (d + 1) y = v
    generalize pw y (d + 1) = z
    cases h0 : bitL r 0 <;> cases b <;> simp_all [BitVec.xor_comm]
theorem spare_step {low r : List UInt8} {o : UInt8} {D : Nat} (hl : r.length = low.length) (h : Spare r D) (h' : Spare low D) : Spare (stepB low r o) D := by
  unfold stepB
  split
  · exact spare_left h
  · exact spare_xor (by rw [leftF_length]; exact hl) (spare_left h) h'
/-- The value of bits, one after the other. -/
def horner (y v : F) (f : Nat → Bool) : Nat → F
  | 0 => v
  | n + 1 => mul y (horner y v f n) ^^^ (if f n then 1#13 else 0#13)
theorem ev_byte (low r : List UInt8) (x : UInt8) (d : Nat) (y v : F) (hl : r.length = low.length) (hsl : Spare low (d + 1)) (hroot : evB low (d + 1) y = pw y (d + 1)) (hs : Spare r (d + 1)) (hv : evB r (d + 1) y = mul v (pw y (d + 1))) (n : Nat) (hn : n ≤ 8) :
    Spare (byteD low r x n) (d + 1) ∧ evB (byteD low r x n) (d + 1) y = mul (horner y v (fun i => x.toNat.testBit (7 - i)) n) (pw y (d + 1)) := by
  induction n with
  | zero => exact ⟨hs, hv⟩
  | succ n ih =>
    obtain ⟨h1, h2⟩ := ih (by omega)
    have hlen : (byteD low r x n).length = low.length := by rw [byteD_length]; exact hl
    have hb : (bitU x (7 - n)).toNat = (x.toNat.testBit (7 - n)).toNat := by
      rw [bitU_nat, Nat.testBit_eq_decide_div_mod_eq]
      by_cases h : x.toNat / 2 ^ (7 - n) % 2 = 1
      · rw [decide_eq_true h, h]; rfl
      · rw [decide_eq_false h]; simp; omega
    refine ⟨spare_step hlen h1 hsl, ?_⟩
    rw [byteD, ev_step low _ _ _ d y hb hlen h1 hroot, h2]
    show _ = mul (mul y _ ^^^ _) _
    rw [mul_comm (mul y _ ^^^ _), mul_xor, mul_comm (pw y (d + 1)) (mul y _), mul_assoc]
    congr 1
    by_cases h : x.toNat.testBit (7 - n) = true
    · rw [if_pos h, if_pos h, mul_one]
    · rw [if_neg h, if_neg h, mul_zero]
def evf (f : Nat → Bool) (y : F) (n : Nat) : F := S n fun i => if f i then pw y (n - 1 - i) else 0#13
theorem evf_succ (f : Nat → Bool) (y : F) (n : Nat) : evf f y (n + 1) = mul y (evf f y n) ^^^ (if f n then 1#13 else 0#13) := by
  unfold evf
  rw [S_mul]
  show S n _ ^^^ _ = _
  congr 1
  · apply S_congr
    intro i hi
    by_cases h : f i = true
    · rw [if_pos h, if_pos h, mul_pw]; congr 1; omega
    · rw [if_neg h, if_neg h, mul_zero]
  · by_cases h : f n = true
    · simp only [if_pos h]; rw [show n + 1 - 1 - n = 0 by omega]; rfl
    · simp only [if_neg h]
theorem evf_horner (f : Nat → Bool) (y : F) (n k : Nat) : evf f y (n + k) = horner y (evf f y n) (fun i => f (n + i)) k := by
  induction k with
  | zero => rfl
  | succ k ih => rw [← Nat.add_assoc, evf_succ, ih]; rfl
theorem evf_congr {f g : Nat → Bool} (y : F) (n : Nat) (h : ∀ i, i < n → f i = g i) : evf f y n = evf g y n := by
  unfold evf
  apply S_congr
  intro i hi
  rw [h i hi]
theorem horner_congr {f g : Nat → Bool} (y v : F) (n : Nat) (h : ∀ i, i < n → f i = g i) : horner y v f n = horner y v g n := by
  induction n with
  | zero => rfl
  | succ n ih => rw [horner, horner, ih (fun i hi => h i (by omega)), h n (by omega)]
theorem bitL_app (l l' : List UInt8) (i : Nat) : bitL (l ++ l') i = if i < 8 * l.length then bitL l i else bitL l' (i - 8 * l.length) := by
  rw [bitL_is, bitL_is, bitL_is]
  by_cases h : i < 8 * l.length
  · rw [if_pos h, List.getD_eq_getElem?_getD, List.getElem?_append_left (by omega), List.getD_eq_getElem?_getD]
  · rw [if_neg h, List.getD_eq_getElem?_getD, List.getElem?_append_right (by omega), List.getD_eq_getElem?_getD, show i / 8 - l.length = (i - 8 * l.length) / 8 by omega, show i % 8 = (i - 8 * l.length) % 8 by omega]
theorem evB_evf (r : List UInt8) (D : Nat) (y : F) : evB r D y = evf (bitL r) y D := rfl
theorem evB_snoc (l : List UInt8) (x : UInt8) (y : F) : evB (l ++ [x]) (8 * (l ++ [x]).length) y = horner y (evB l (8 * l.length) y) (fun i => x.toNat.testBit (7 - i)) 8 := by
  rw [evB_evf, evB_evf, show 8 * (l ++ [x]).length = 8 * l.length + 8 by simp; omega, evf_horner]
  rw [evf_congr (g := bitL l) y (8 * l.length) (fun i hi => by rw [bitL_app, if_pos hi])]
  apply horner_congr
  intro i hi
  rw [bitL_app, if_neg (by omega), show 8 * l.length + i - 8 * l.length = i by omega, bitL_lo x [] i hi]
theorem spare_zero (n D : Nat) : Spare (zeroL n) D := fun i _ => by
  rw [bitL_is]
  have : (zeroL n).getD (i / 8) 0 = 0 := by
    unfold zeroL
    rw [List.getD_eq_getElem?_getD, List.getElem?_replicate]
    split <;> rfl
  rw [this]
  simp
theorem evB_zero (n D : Nat) (y : F) : evB (zeroL n) D y = 0#13 := by
  unfold evB
  apply S_zero'
  intro i _
  rw [spare_zero n 0 i (Nat.zero_le _)]
  rfl
/-- The value of the remainder of a text at a root of the generator. -/
theorem ev_div (low : List UInt8) (d : Nat) (y : F) (hsl : Spare low (d + 1)) (hroot : evB low (d + 1) y = pw y (d + 1)) (data : List UInt8) :
    Spare (divB low (zeroL low.length) data) (d + 1) ∧ evB (divB low (zeroL low.length) data) (d + 1) y = mul (evB data (8 * data.length) y) (pw y (d + 1)) := by
  have hz : (zeroL low.length).length = low.length := by simp [zeroL]
  have key : ∀ m, m ≤ data.length → Spare (divB low (zeroL low.length) (data.take m)) (d + 1) ∧ evB (divB low (zeroL low.length) (data.take m)) (d + 1) y = mul (evB (data.take m) (8 * (data.take m).length) y) (pw y (d + 1)) := by
    intro m
    induction m with
    | zero =>
      intro _
      rw [List.take_zero]
      refine ⟨spare_zero _ _, ?_⟩
      show evB (zeroL low.length) (d + 1) y = mul (S 0 _) _
      rw [evB_zero]
      exact (by rw [mul_comm]; exact (mul_zero _).symm)
    | succ m ih =>
      intro hm
      obtain ⟨h1, h2⟩ := ih (by omega)
      rw [divB_snoc low _ data m (by omega), List.take_succ_eq_append_getElem (by omega), evB_snoc]
      exact ev_byte low _ _ d y _ (by rw [divB_length, hz]) hsl hroot h1 h2 8 (Nat.le_refl _)
  have := key data.length (Nat.le_refl _)
  rwa [List.take_length] at this
end Go.Proofs.Ytfhefcpkknidcaa
/- The generator's roots. -/
namespace Go.Proofs.Ytfhefcpkknidcaa
open Go.RowKit Gf

def hornL (mu : F → F → F) (y : F) : List Bool → F → F
  | [], v => v
  | b :: l, v => hornL mu y l (mu y v ^^^ (if b then 1#13 else 0#13))
theorem hornL_append (mu : F → F → F) (y : F) (l l' : List Bool) (v : F) : hornL mu y (l ++ l') v = hornL mu y l' (hornL mu y l v) := by
  induction l generalizing v with
  | nil => rfl
  | cons b l ih => exact ih _
theorem horner_list (y v : F) (f : Nat → Bool) (n : Nat) : horner y v f n = hornL mul y ((List.range n).map f) v := by
  induction n with
  | zero => rfl
  | succ n ih => rw [List.range_succ, List.map_append, hornL_append, ← ih]; rfl
theorem evB_list (r : List UInt8) (D : Nat) (y : F) : evB r D y = hornL (mulS 13) y ((List.range D).map (bitL r)) 0#13 := by
  have h := evf_horner (bitL r) y 0 D
  rw [evB_evf]
  rw [Nat.zero_add] at h
  rw [h]
  have e : (fun i => bitL r (0 + i)) = bitL r := by funext i; rw [Nat.zero_add]
  rw [e, horner_list, ← mul_eq_mulS]
  rfl
/-- The bits of the low part, from the exponents. -/
def lowBits (t : Nat) : List Bool := (List.range (13 * t)).map fun i => (genT t).tail.contains (13 * t - 1 - i)
theorem low_bits : ∀ t : Fin 8, (List.range (13 * (t.val + 1))).map (bitL (lowT (t.val + 1))) = lowBits (t.val + 1) := by decide +kernel
theorem low_spare' : ∀ t : Fin 8, ∀ i : Fin 104, 13 * (t.val + 1) ≤ i.val → bitL (lowT (t.val + 1)) i.val = false := by decide +kernel
theorem low_spare (t : Nat) (h1 : 1 ≤ t) (h8 : t ≤ 8) : Spare (lowT t) (13 * t) := fun i hi => by
  by_cases h : i < 104
  · have := low_spare' ⟨t - 1, by omega⟩ ⟨i, h⟩
    simp only [show t - 1 + 1 = t by omega] at this
    exact this hi
  · exact bitL_out _ _ (by rw [lowT_length]; unfold nLow; omega)
theorem roots1 : ∀ j : Fin 2, hornL (mulS 13) (ex (j.val + 1)) (lowBits 1) 0#13 = ex ((j.val + 1) * 13 % 8191) := by decide +kernel
theorem roots2 : ∀ j : Fin 4, hornL (mulS 13) (ex (j.val + 1)) (lowBits 2) 0#13 = ex ((j.val + 1) * 26 % 8191) := by decide +kernel
theorem roots3 : ∀ j : Fin 6, hornL (mulS 13) (ex (j.val + 1)) (lowBits 3) 0#13 = ex ((j.val + 1) * 39 % 8191) := by decide +kernel
theorem roots4 : ∀ j : Fin 8, hornL (mulS 13) (ex (j.val + 1)) (lowBits 4) 0#13 = ex ((j.val + 1) * 52 % 8191) := by decide +kernel
theorem roots5 : ∀ j : Fin 10, hornL (mulS 13) (ex (j.val + 1)) (lowBits 5) 0#13 = ex ((j.val + 1) * 65 % 8191) := by decide +kernel
theorem roots6 : ∀ j : Fin 12, hornL (mulS 13) (ex (j.val + 1)) (lowBits 6) 0#13 = ex ((j.val + 1) * 78 % 8191) := by decide +kernel
theorem roots7 : ∀ j : Fin 14, hornL (mulS 13) (ex (j.val + 1)) (lowBits 7) 0#13 = ex ((j.val + 1) * 91 % 8191) := by decide +kernel
theorem roots8 : ∀ j : Fin 16, hornL (mulS 13) (ex (j.val + 1)) (lowBits 8) 0#13 = ex ((j.val + 1) * 104 % 8191) := by decide +kernel
theorem low_root (t : Nat) (h1 : 1 ≤ t) (h8 : t ≤ 8) (j : Nat) (hj : j < 2 * t) : evB (lowT t) (13 * t) (ex (j + 1)) = pw (ex (j + 1)) (13 * t) := by
  have hb := low_bits ⟨t - 1, by omega⟩
  simp only [show t - 1 + 1 = t by omega] at hb
  rw [evB_list, hb, pw_ex, ← ex_mod ((j + 1) * (13 * t))]
  have : t = 1 ∨ t = 2 ∨ t = 3 ∨ t = 4 ∨ t = 5 ∨ t = 6 ∨ t = 7 ∨ t = 8 := by omega
  rcases this with rfl | rfl | rfl | rfl | rfl | rfl | rfl | rfl
  · exact roots1 ⟨j, hj⟩
  · exact roots2 ⟨j, hj⟩
  · exact roots3 ⟨j, hj⟩
  · exact roots4 ⟨j, hj⟩
  · exact roots5 ⟨j, hj⟩
  · exact roots6 ⟨j, hj⟩
  · exact roots7 ⟨j, hj⟩
  · exact roots8 ⟨j, hj⟩
end Go.Proofs.Ytfhefcpkknidcaa
/- speaks; a word as it was encoded is clean. -/
namespace Go.Proofs.Ytfhefcpkknidcaa
open Go.RowKit Gf

theorem zeros_self (r : List UInt8) (D : Nat) (h : ∀ i, i < D → bitL r i = false) (n : Nat) : zerosK r D n = true := by
  rw [zerosK_iff]
  intro k _
  have : ∀ i, i ≤ D → synN r D k i = 0#13 := by
    intro i
    induction i with
    | zero => intro _; rfl
    | succ i ih =>
      intro hi
      rw [synN, h i (by omega)]
      simpa using ih (by omega)
  exact this D (Nat.le_refl _)
theorem xorB_self (r : List UInt8) (i : Nat) : bitL (xorB r r) i = false := by rw [xorB_bit r r i rfl]; simp
/-- A new code. -/
def newW (w : World) (t ch : Int) : World := w.alloc (.cells (codeArr t ch 0 0 0 0 (.slice none 0 0) (.slice none 0 0) 0 0 (.slice none 0 0)) 61)
theorem newW_code (w : World) (t : Nat) (ch : Int) : CodeS (newW w t ch) w.heap.size t ch := .inl ⟨0, .slice none 0 0, .inl ⟨.slice none 0 0, .slice none 0 0, 0, Blk.new w _ _⟩⟩
theorem newW_below (w : World) (t ch : Int) : Below w.heap.size w (newW w t ch) := (Below.refl _ _).alloc (Nat.le_refl _) _
theorem newW_size (w : World) (t ch : Int) : (newW w t ch).heap.size = w.heap.size + 1 := by show (w.heap.push _).size = _; simp
theorem Ready.frame {b tt : Nat} {ch : Int} {B : Nat} {a w w1 : World} (h : Ready b tt ch w w1) (hB : Below B a w) (hb : B ≤ b) (hs : B ≤ w.heap.size) : Below B a w1 := Only.frame hB hs hb h.2
theorem spk_enc : encB 1 (txt ⟨#[1]⟩) = [0, 216] := by decide +kernel

set_option maxRecDepth 100000 in
theorem speaks_any (w : World) : Calls Try.prog 7 #[] w fun e w' => e = .returned (.bool true) ∧ Below w.heap.size w w' := by
  have HN := Lib.hid (new_any 1 1 (by omega) (by omega) w)
  have HC := Lib.hid (newW_code w 1 1)
  have HB := Lib.hid (newW_below w 1 1)
  have hsz : w.heap.size ≤ (newW w 1 1).heap.size := by rw [newW_size]; omega
  go_enter Try.func7, Try.ntmps7
  go_wp2_with fail
  refine HN.out.mono ?_
  rintro e w1 ⟨rfl, hw1⟩
  have hw1' : w1 = newW w 1 1 := hw1
  clear hw1
  subst hw1'
  generalize newW w 1 1 = w1 at *
  have HE := Lib.hid (encode_any ⟨#[1]⟩ (by decide) (by omega) (by omega) w1 HC.out)
  clear HN
  go_wp2_with fail
  refine HE.out.mono ?_
  rintro e w2 ⟨rfl, hR⟩
  have e0 : str (encB 1 (txt ⟨#[1]⟩)) = .string ⟨#[0, 216]⟩ := by rw [spk_enc]; rfl
  rw [e0]
  have HP := Lib.hid (parity_any (b := w.heap.size) (tt := 1) (by omega) (by omega) w2 hR.code)
  have HB2 := Lib.hid (hR.frame HB.out (Nat.le_refl _) hsz)
  clear hR HE HC e0
  go_wp2_with fail
  refine HP.out.mono ?_
  rintro e w3 ⟨rfl, hR⟩
  rw [show ((nLow 1 : Nat) : Int) = 2 from rfl]
  have HB3 := Lib.hid (hR.frame HB2.out (Nat.le_refl _) HB2.out.size)
  clear hR HP
  go_wp2_with fail
  go_ret
  exact ⟨rfl, HB3.out⟩
end Go.Proofs.Ytfhefcpkknidcaa
/- The spare bits: plain. -/
namespace Go.Proofs.Ytfhefcpkknidcaa
open Go.RowKit Gf

theorem mask_bits : ∀ m : Fin 8, ∀ j : Fin 8, 0 < m.val → (maskU m.val).toNat.testBit j.val = decide (8 - m.val ≤ j.val) := by decide +kernel
theorem low_bits8 : ∀ m : Fin 8, ∀ j : Fin 8, (UInt8.ofNat (255 / 2 ^ m.val)).toNat.testBit j.val = decide (j.val < 8 - m.val) := by decide +kernel
theorem byte_spare (x s : UInt8) (m : Nat) (h0 : 0 < m) (h8 : m < 8) (hx : ∀ j, j < 8 - m → x.toNat.testBit j = false) : (x ^^^ (s &&& UInt8.ofNat (255 / 2 ^ m))) &&& maskU m = x := by
  apply UInt8.toNat_inj.1
  apply Nat.eq_of_testBit_eq
  intro j
  by_cases hj : j < 8
  · rw [UInt8.toNat_and, UInt8.toNat_xor, UInt8.toNat_and, Nat.testBit_and, Nat.testBit_xor, Nat.testBit_and, mask_bits ⟨m, h8⟩ ⟨j, hj⟩ h0, low_bits8 ⟨m, h8⟩ ⟨j, hj⟩]
    by_cases h : j < 8 - m
    · rw [hx j h]
      have : ¬ 8 - m ≤ j := by omega
      simp [this]
    · have h2 : 8 - m ≤ j := by omega
      simp [h, h2]
  · have e : ∀ z : UInt8, z.toNat.testBit j = false := fun z => Nat.testBit_lt_two_pow (Nat.lt_of_lt_of_le z.toNat_lt (Nat.pow_le_pow_right (n := 2) (by omega) (show 8 ≤ j by omega)))
    rw [e, e]
/-- A parity with some of its spare bits turned. -/
def spareL (tt : Nat) (l : List UInt8) (s : UInt8) : List UInt8 := if 13 * tt % 8 = 0 then l else l.set (l.length - 1) (l.getD (l.length - 1) 0 ^^^ (s &&& UInt8.ofNat (255 / 2 ^ (13 * tt % 8))))
theorem clean_spare (tt : Nat) (h1 : 1 ≤ tt) (l : List UInt8) (hl : l.length = nLow tt) (hs : Spare l (13 * tt)) (s : UInt8) : cleanL tt (spareL tt l s) = l := by
  unfold cleanL spareL
  by_cases h : 13 * tt % 8 = 0
  · rw [if_pos h, if_pos h]
  · rw [if_neg h, if_neg h]
    have hN : nLow tt = 13 * tt / 8 + 1 := by unfold nLow; omega
    have hlt : l.length - 1 < l.length := by omega
    have hb : (l.getD (l.length - 1) 0 ^^^ (s &&& UInt8.ofNat (255 / 2 ^ (13 * tt % 8)))) &&& maskU (13 * tt % 8) = l.getD (l.length - 1) 0 := by
      apply byte_spare _ _ _ (by omega) (by omega)
      intro j hj
      have h2 := hs (8 * (l.length - 1) + (7 - j)) (by omega)
      rw [bitL_is, show (8 * (l.length - 1) + (7 - j)) / 8 = l.length - 1 by omega, show 7 - (8 * (l.length - 1) + (7 - j)) % 8 = j by omega] at h2
      exact h2
    rw [List.length_set, List.set_set]
    have e : (l.set (l.length - 1) (l.getD (l.length - 1) 0 ^^^ (s &&& UInt8.ofNat (255 / 2 ^ (13 * tt % 8))))).getD (l.length - 1) 0 = (l.getD (l.length - 1) 0 ^^^ (s &&& UInt8.ofNat (255 / 2 ^ (13 * tt % 8)))) := by
      simp [List.getD_eq_getElem?_getD, hlt]
    rw [e, hb]
    apply List.ext_getElem
    · simp
    · intro i h3 h4
      rw [List.getElem_set]
      split
      · rename_i h5
        subst h5
        simp [List.getD_eq_getElem?_getD, hlt]
      · rfl
/-- The remainder of a text has no spare bits. -/
theorem enc_spare (tt : Nat) (h1 : 1 ≤ tt) (h8 : tt ≤ 8) (data : List UInt8) : Spare (encB tt data) (13 * tt) := by
  obtain ⟨d, hd⟩ : ∃ d, 13 * tt = d + 1 := ⟨13 * tt - 1, by omega⟩
  have hr := low_root tt h1 h8 0 (by omega)
  have hs := low_spare tt h1 h8
  rw [hd] at hr hs ⊢
  have := (ev_div (lowT tt) d _ hs hr data).1
  rw [lowT_length] at this
  exact this
theorem clean_enc (tt : Nat) (h1 : 1 ≤ tt) (h8 : tt ≤ 8) (data : List UInt8) (s : UInt8) : cleanL tt (spareL tt (encB tt data) s) = encB tt data := clean_spare tt h1 _ (encB_length tt data) (enc_spare tt h1 h8 data) s
theorem rest_spare (tt : Nat) (h1 : 1 ≤ tt) (h8 : tt ≤ 8) (data : List UInt8) (s : UInt8) (n : Nat) : zerosK (restL tt data (spareL tt (encB tt data) s)) (13 * tt) n = true := by
  unfold restL
  rw [clean_enc tt h1 h8]
  exact zeros_self _ _ (fun i _ => xorB_self _ i) n
end Go.Proofs.Ytfhefcpkknidcaa
